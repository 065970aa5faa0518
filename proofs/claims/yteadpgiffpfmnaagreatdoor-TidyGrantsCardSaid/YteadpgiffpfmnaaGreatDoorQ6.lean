/- Part 6 of the walks and plain laws that the last text joins. -/
import Derived.Test.YteadpgiffpfmnaaGreatDoorQ5
set_option maxRecDepth 100000
set_option maxHeartbeats 16000000
set_option linter.unusedVariables false
set_option linter.unusedSimpArgs false
namespace Go.Proofs.YteadpgiffpfmnaaGreatDoor.Slot
open Go.RowKit Hp Life
theorem eq_or_nez (n : Int) : n = 0 ∨ (n ≠ 0 ∧ (n == 0) = false):=by by_cases h : n = 0 <;> simp [h]
theorem ref_slot_right_yes (w : World) (s : S) (h : s.right = true) : Calls Tryz.prog 40 #[s.val] w fun e w' => e = .returned (.bool true) ∧ Below w.heap.size w w':=by
 have hi:=(right_iff s).1 h
 clear h
 obtain ⟨st, ow, sm, br, ma, us, ge, ep, ve⟩:=s
 simp only at hi
 obtain ⟨⟨r_st, r_ow, r_sm, r_us, r_ge, r_ep, r_ve⟩, a1, a2, a3, a4, a5⟩:=hi
 have hB : Below w.heap.size w (w.alloc (.cells (Aa st ow sm br ma us ge ep ve) 41)):=(Below.refl _ _).alloc (Nat.le_refl _) _
 have h_st:=fun w => from0_any w st 6
 rw [show from0 st 6 = true from decide_eq_true r_st] at h_st
 have h_ow:=fun w => from0_any w ow 15
 rw [show from0 ow 15 = true from decide_eq_true r_ow] at h_ow
 have h_sm:=fun w => from0_any w sm 255
 rw [show from0 sm 255 = true from decide_eq_true r_sm] at h_sm
 have h_us:=fun w => from0_any w us 63
 rw [show from0 us 63 = true from decide_eq_true r_us] at h_us
 have h_ge:=fun w => from0_any w ge 4095
 rw [show from0 ge 4095 = true from decide_eq_true r_ge] at h_ge
 have h_ep:=fun w => from0_any w ep 4095
 rw [show from0 ep 4095 = true from decide_eq_true r_ep] at h_ep
 have h_ve:=fun w => from0_any w ve 32767
 rw [show from0 ve 32767 = true from decide_eq_true r_ve] at h_ve
 have A1:=Lib.hid a1
 have A2:=Lib.hid a2
 have A3:=Lib.hid a3
 have A4:=Lib.hid a4
 have A5:=Lib.hid a5
 clear a1 a2 a3 a4 a5
 go_enter Tryz.func40, Tryz.ntmps40
 simp only [S.val, S.cells]
 go_wp2_with fail
 refine (h_st _).mono ?_
 rintro e w' ⟨rfl, rfl⟩
 go_wp2_with fail
 refine (h_ow _).mono ?_
 rintro e w' ⟨rfl, rfl⟩
 go_wp2_with fail
 refine (h_sm _).mono ?_
 rintro e w' ⟨rfl, rfl⟩
 go_wp2_with fail
 refine (h_us _).mono ?_
 rintro e w' ⟨rfl, rfl⟩
 go_wp2_with fail
 refine (h_ge _).mono ?_
 rintro e w' ⟨rfl, rfl⟩
 go_wp2_with fail
 refine (h_ep _).mono ?_
 rintro e w' ⟨rfl, rfl⟩
 go_wp2_with fail
 refine (h_ve _).mono ?_
 rintro e w' ⟨rfl, rfl⟩
 clear h_st h_ow h_sm h_us h_ge h_ep h_ve
 obtain ⟨st0, st1⟩:=r_st
 obtain hst : st = 0 ∨ st = 1 ∨ st = 2 ∨ st = 3 ∨ st = 4 ∨ st = 5 ∨ st = 6:=by omega
 rcases hst with rfl | rfl | rfl | rfl | rfl | rfl | rfl
 ·obtain rfl : sm = 0:=by have:=A1.out; omega
  obtain ⟨rfl, rfl⟩ : br = false ∧ us = 0:=by have:=A3.out; simpa using this
  obtain rfl : ma = false:=by have:=A2.out; simpa using this
  obtain rfl : ep = 0:=by have:=A4.out; omega
  obtain rfl : ow = 0:=by have:=A5.out; omega
  (go_wp2_with fail; go_ret; exact ⟨Base.ret_bool (by first | rfl | simp), hB⟩)
 ·obtain rfl : sm = 0:=by have:=A1.out; omega
  obtain ⟨rfl, rfl⟩ : br = false ∧ us = 0:=by have:=A3.out; simpa using this
  obtain rfl : ma = false:=by have:=A2.out; simpa using this
  obtain rfl : ep = 0:=by have:=A4.out; omega
  (rcases eq_or_nez ow with rfl | ⟨p_ow, q_ow⟩) <;> (go_wp2_with fail; go_ret; exact ⟨Base.ret_bool (by first | rfl | simp), hB⟩)
 ·obtain rfl : sm = 0:=by have:=A1.out; omega
  obtain rfl : ep = 0:=by have:=A4.out; omega
  cases br <;> (by_cases p_us : 0 < us) <;> cases ma <;> (rcases eq_or_nez ow with rfl | ⟨p_ow, q_ow⟩) <;> (go_wp2_with fail; go_ret; exact ⟨Base.ret_bool (by first | rfl | simp), hB⟩)
 ·obtain rfl : ma = false:=by have:=A2.out; simpa using this
  obtain rfl : ep = 0:=by have:=A4.out; omega
  (by_cases p_sm : 0 < sm) <;> cases br <;> (by_cases p_us : 0 < us) <;> (rcases eq_or_nez ow with rfl | ⟨p_ow, q_ow⟩) <;> (go_wp2_with fail; go_ret; exact ⟨Base.ret_bool (by first | rfl | simp), hB⟩)
 ·obtain rfl : sm = 0:=by have:=A1.out; omega
  obtain rfl : ma = false:=by have:=A2.out; simpa using this
  obtain rfl : ep = 0:=by have:=A4.out; omega
  cases br <;> (by_cases p_us : 0 < us) <;> (rcases eq_or_nez ow with rfl | ⟨p_ow, q_ow⟩) <;> (go_wp2_with fail; go_ret; exact ⟨Base.ret_bool (by first | rfl | simp), hB⟩)
 ·obtain rfl : sm = 0:=by have:=A1.out; omega
  obtain ⟨rfl, rfl⟩ : br = false ∧ us = 0:=by have:=A3.out; simpa using this
  obtain rfl : ma = false:=by have:=A2.out; simpa using this
  obtain rfl : ep = 0:=by have:=A4.out; omega
  (rcases eq_or_nez ow with rfl | ⟨p_ow, q_ow⟩) <;> (go_wp2_with fail; go_ret; exact ⟨Base.ret_bool (by first | rfl | simp), hB⟩)
 ·obtain rfl : sm = 0:=by have:=A1.out; omega
  obtain ⟨rfl, rfl⟩ : br = false ∧ us = 0:=by have:=A3.out; simpa using this
  obtain rfl : ma = false:=by have:=A2.out; simpa using this
  obtain rfl : ow = 0:=by have:=A5.out; omega
  (rcases eq_or_nez ep with rfl | ⟨p_ep, q_ep⟩) <;> (go_wp2_with fail; go_ret; exact ⟨Base.ret_bool (by first | rfl | simp), hB⟩)
end Go.Proofs.YteadpgiffpfmnaaGreatDoor.Slot
