/- Part 7 of the walks and plain laws that the last text joins. -/
import Derived.Test.YteadpgiffpfmnaaGreatDoorQ6
set_option maxRecDepth 100000
set_option maxHeartbeats 16000000
set_option linter.unusedVariables false
set_option linter.unusedSimpArgs false
namespace Go.Proofs.YteadpgiffpfmnaaGreatDoor.Slot
open Go.RowKit Hp Life
theorem ref_slot_right_no (w : World) (s : S) (h : s.right = false) : Calls Tryz.prog 40 #[s.val] w fun e w' => e = .returned (.bool false) ∧ Below w.heap.size w w':=by
 have hi : ¬ _:=fun e => Bool.false_ne_true (h.symm.trans ((right_iff s).2 e))
 clear h
 obtain ⟨st, ow, sm, br, ma, us, ge, ep, ve⟩:=s
 simp only at hi
 have hB : Below w.heap.size w (w.alloc (.cells (Aa st ow sm br ma us ge ep ve) 41)):=(Below.refl _ _).alloc (Nat.le_refl _) _
 have h_st:=fun w => from0_any w st 6
 have h_ow:=fun w => from0_any w ow 15
 have h_sm:=fun w => from0_any w sm 255
 have h_us:=fun w => from0_any w us 63
 have h_ge:=fun w => from0_any w ge 4095
 have h_ep:=fun w => from0_any w ep 4095
 have h_ve:=fun w => from0_any w ve 32767
 have HI:=Lib.hid hi
 clear hi
 go_enter Tryz.func40, Tryz.ntmps40
 simp only [S.val, S.cells]
 go_wp2_with fail
 by_cases r_st : 0 ≤ st ∧ st ≤ 6
 rotate_left
 ·rw [show from0 st 6 = false from decide_eq_false r_st] at h_st
  refine (h_st _).mono ?_
  rintro e w' ⟨rfl, rfl⟩
  (go_wp2_with fail; go_ret; exact ⟨rfl, hB⟩)
 rw [show from0 st 6 = true from decide_eq_true r_st] at h_st
 refine (h_st _).mono ?_
 rintro e w' ⟨rfl, rfl⟩
 go_wp2_with fail
 by_cases r_ow : 0 ≤ ow ∧ ow ≤ 15
 rotate_left
 ·rw [show from0 ow 15 = false from decide_eq_false r_ow] at h_ow
  refine (h_ow _).mono ?_
  rintro e w' ⟨rfl, rfl⟩
  (go_wp2_with fail; go_ret; exact ⟨rfl, hB⟩)
 rw [show from0 ow 15 = true from decide_eq_true r_ow] at h_ow
 refine (h_ow _).mono ?_
 rintro e w' ⟨rfl, rfl⟩
 go_wp2_with fail
 by_cases r_sm : 0 ≤ sm ∧ sm ≤ 255
 rotate_left
 ·rw [show from0 sm 255 = false from decide_eq_false r_sm] at h_sm
  refine (h_sm _).mono ?_
  rintro e w' ⟨rfl, rfl⟩
  (go_wp2_with fail; go_ret; exact ⟨rfl, hB⟩)
 rw [show from0 sm 255 = true from decide_eq_true r_sm] at h_sm
 refine (h_sm _).mono ?_
 rintro e w' ⟨rfl, rfl⟩
 go_wp2_with fail
 by_cases r_us : 0 ≤ us ∧ us ≤ 63
 rotate_left
 ·rw [show from0 us 63 = false from decide_eq_false r_us] at h_us
  refine (h_us _).mono ?_
  rintro e w' ⟨rfl, rfl⟩
  (go_wp2_with fail; go_ret; exact ⟨rfl, hB⟩)
 rw [show from0 us 63 = true from decide_eq_true r_us] at h_us
 refine (h_us _).mono ?_
 rintro e w' ⟨rfl, rfl⟩
 go_wp2_with fail
 by_cases r_ge : 0 ≤ ge ∧ ge ≤ 4095
 rotate_left
 ·rw [show from0 ge 4095 = false from decide_eq_false r_ge] at h_ge
  refine (h_ge _).mono ?_
  rintro e w' ⟨rfl, rfl⟩
  (go_wp2_with fail; go_ret; exact ⟨rfl, hB⟩)
 rw [show from0 ge 4095 = true from decide_eq_true r_ge] at h_ge
 refine (h_ge _).mono ?_
 rintro e w' ⟨rfl, rfl⟩
 go_wp2_with fail
 by_cases r_ep : 0 ≤ ep ∧ ep ≤ 4095
 rotate_left
 ·rw [show from0 ep 4095 = false from decide_eq_false r_ep] at h_ep
  refine (h_ep _).mono ?_
  rintro e w' ⟨rfl, rfl⟩
  (go_wp2_with fail; go_ret; exact ⟨rfl, hB⟩)
 rw [show from0 ep 4095 = true from decide_eq_true r_ep] at h_ep
 refine (h_ep _).mono ?_
 rintro e w' ⟨rfl, rfl⟩
 go_wp2_with fail
 by_cases r_ve : 0 ≤ ve ∧ ve ≤ 32767
 rotate_left
 ·rw [show from0 ve 32767 = false from decide_eq_false r_ve] at h_ve
  refine (h_ve _).mono ?_
  rintro e w' ⟨rfl, rfl⟩
  (go_wp2_with fail; go_ret; exact ⟨rfl, hB⟩)
 rw [show from0 ve 32767 = true from decide_eq_true r_ve] at h_ve
 refine (h_ve _).mono ?_
 rintro e w' ⟨rfl, rfl⟩
 clear h_st h_ow h_sm h_us h_ge h_ep h_ve
 obtain ⟨st0, st1⟩:=r_st
 obtain hst : st = 0 ∨ st = 1 ∨ st = 2 ∨ st = 3 ∨ st = 4 ∨ st = 5 ∨ st = 6:=by omega
 rcases hst with rfl | rfl | rfl | rfl | rfl | rfl | rfl
 ·by_cases p_sm : 0 < sm
  ·(go_wp2_with fail; go_ret; exact ⟨rfl, hB⟩)
  obtain rfl : sm = 0:=by omega
  cases br
  rotate_left
  ·(go_wp2_with fail; go_ret; exact ⟨rfl, hB⟩)
  by_cases p_us : 0 < us
  ·(go_wp2_with fail; go_ret; exact ⟨rfl, hB⟩)
  obtain rfl : us = 0:=by omega
  cases ma
  rotate_left
  ·(go_wp2_with fail; go_ret; exact ⟨rfl, hB⟩)
  rcases eq_or_nez ep with rfl | ⟨p_ep, q_ep⟩
  rotate_left
  ·(go_wp2_with fail; go_ret; exact ⟨rfl, hB⟩)
  rcases eq_or_nez ow with rfl | ⟨p_ow, q_ow⟩
  ·exact absurd (by simp; omega) HI.out
  (go_wp2_with fail; go_ret; exact ⟨rfl, hB⟩)
 ·by_cases p_sm : 0 < sm
  ·(go_wp2_with fail; go_ret; exact ⟨rfl, hB⟩)
  obtain rfl : sm = 0:=by omega
  cases br
  rotate_left
  ·(go_wp2_with fail; go_ret; exact ⟨rfl, hB⟩)
  by_cases p_us : 0 < us
  ·(go_wp2_with fail; go_ret; exact ⟨rfl, hB⟩)
  obtain rfl : us = 0:=by omega
  cases ma
  rotate_left
  ·(go_wp2_with fail; go_ret; exact ⟨rfl, hB⟩)
  rcases eq_or_nez ep with rfl | ⟨p_ep, q_ep⟩
  rotate_left
  ·(go_wp2_with fail; go_ret; exact ⟨rfl, hB⟩)
  exact absurd (by simp; omega) HI.out
 ·by_cases p_sm : 0 < sm
  ·(go_wp2_with fail; go_ret; exact ⟨rfl, hB⟩)
  obtain rfl : sm = 0:=by omega
  rcases eq_or_nez ep with rfl | ⟨p_ep, q_ep⟩
  rotate_left
  ·cases br <;> (by_cases p_us : 0 < us) <;> cases ma <;> (go_wp2_with fail; go_ret; exact ⟨rfl, hB⟩)
  exact absurd (by simp; omega) HI.out
 ·cases ma
  rotate_left
  ·(by_cases p_sm : 0 < sm) <;> cases br <;> (by_cases p_us : 0 < us) <;> (go_wp2_with fail; go_ret; exact ⟨rfl, hB⟩)
  rcases eq_or_nez ep with rfl | ⟨p_ep, q_ep⟩
  rotate_left
  ·(by_cases p_sm : 0 < sm) <;> cases br <;> (by_cases p_us : 0 < us) <;> (go_wp2_with fail; go_ret; exact ⟨rfl, hB⟩)
  exact absurd (by simp; omega) HI.out
 ·by_cases p_sm : 0 < sm
  ·(go_wp2_with fail; go_ret; exact ⟨rfl, hB⟩)
  obtain rfl : sm = 0:=by omega
  cases ma
  rotate_left
  ·cases br <;> (by_cases p_us : 0 < us) <;> (go_wp2_with fail; go_ret; exact ⟨rfl, hB⟩)
  rcases eq_or_nez ep with rfl | ⟨p_ep, q_ep⟩
  rotate_left
  ·cases br <;> (by_cases p_us : 0 < us) <;> (go_wp2_with fail; go_ret; exact ⟨rfl, hB⟩)
  exact absurd (by simp; omega) HI.out
 ·by_cases p_sm : 0 < sm
  ·(go_wp2_with fail; go_ret; exact ⟨rfl, hB⟩)
  obtain rfl : sm = 0:=by omega
  cases br
  rotate_left
  ·(go_wp2_with fail; go_ret; exact ⟨rfl, hB⟩)
  by_cases p_us : 0 < us
  ·(go_wp2_with fail; go_ret; exact ⟨rfl, hB⟩)
  obtain rfl : us = 0:=by omega
  cases ma
  rotate_left
  ·(go_wp2_with fail; go_ret; exact ⟨rfl, hB⟩)
  rcases eq_or_nez ep with rfl | ⟨p_ep, q_ep⟩
  rotate_left
  ·(go_wp2_with fail; go_ret; exact ⟨rfl, hB⟩)
  exact absurd (by simp; omega) HI.out
 ·by_cases p_sm : 0 < sm
  ·(go_wp2_with fail; go_ret; exact ⟨rfl, hB⟩)
  obtain rfl : sm = 0:=by omega
  cases br
  rotate_left
  ·(go_wp2_with fail; go_ret; exact ⟨rfl, hB⟩)
  by_cases p_us : 0 < us
  ·(go_wp2_with fail; go_ret; exact ⟨rfl, hB⟩)
  obtain rfl : us = 0:=by omega
  cases ma
  rotate_left
  ·(go_wp2_with fail; go_ret; exact ⟨rfl, hB⟩)
  rcases eq_or_nez ow with rfl | ⟨p_ow, q_ow⟩
  ·exact absurd (by simp; omega) HI.out
  rcases eq_or_nez ep with rfl | ⟨p_ep, q_ep⟩
  ·(go_wp2_with fail; go_ret; exact ⟨rfl, hB⟩)
  (go_wp2_with fail; go_ret; exact ⟨rfl, hB⟩)
theorem ref_slot_right_any (w : World) (s : S) : Calls Tryz.prog 40 #[s.val] w fun e w' => e = .returned (.bool s.right) ∧ Below w.heap.size w w':=by
 cases h : s.right
 ·exact ref_slot_right_no w s h
 ·exact ref_slot_right_yes w s h
end Go.Proofs.YteadpgiffpfmnaaGreatDoor.Slot
