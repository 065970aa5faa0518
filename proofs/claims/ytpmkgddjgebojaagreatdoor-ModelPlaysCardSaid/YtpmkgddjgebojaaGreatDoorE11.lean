/- Part 11 of the walks and plain laws that the last text joins. -/
import Derived.Test.YtpmkgddjgebojaaGreatDoorE6
set_option maxRecDepth 100000
set_option maxHeartbeats 16000000
set_option linter.unusedVariables false
set_option linter.unusedSimpArgs false
namespace Go.Proofs.YtpmkgddjgebojaaGreatDoor.R8
open Go.RowKit Hp Slot RowL Life
theorem row3_any (w : World) (s : S) (own more : Int) (hr : s.right = true) : Calls Tryz.prog 101 #[s.val, .i 3, .i own, .i more] w fun e w' => e = .returned (.tuple #[(row8 3 s own more).1.val, .bool (row8 3 s own more).2]) ∧ Below w.heap.size w w':=by
 have hrb:=right_bounds hr
 obtain ⟨st, ow, sm, br, ma, us, ge, ep, ve⟩:=s
 have hR : row8 3 ⟨st, ow, sm, br, ma, us, ge, ep, ve⟩ own more = (leasedS ⟨st, ow, sm, br, ma, us, ge, ep, ve⟩ own, st == 2 && !br):=rfl
 have HR:=Lib.hid hR
 have HB:=Lib.hid hrb
 clear hR hrb hr
 have hbd : (0 ≤ us ∧ us ≤ 63) ∧ (0 ≤ ge ∧ ge ≤ 4095):=by have:=HB.out; simp only at this; exact ⟨this.2.1, this.2.2.1⟩
 simp only [S.val, S.cells]
 by_cases hp0 : st = 2
 rotate_left
 ·have hq0 : (st == 2) = false:=by simpa using hp0
  clear hp0
  have HR:=Lib.hid (HR.out.trans (congrArg (Prod.mk ((leasedS ⟨st, ow, sm, br, ma, us, ge, ep, ve⟩ own) : S)) (show (st == 2 && !br) = (false) by first | (simp [hq0]; done) | (simp <;> intros <;> omega))))
  obtain ⟨hA, ra, rb, rc⟩:=boxes8 w st ow sm br ma us ge ep ve
  go_enter Tryz.func101, Tryz.ntmps101
  go_upto_region 3 with (fail)
  generalize (((w.alloc (.cells (Ac st ow sm br ma us ge ep ve) 59)).alloc (.cells zero9 59)).alloc (.cells (Ac st ow sm br ma us ge ep ve) 59)) = wa at *
  obtain ⟨a0, a1, a2, a3, a4⟩:=rl5 ra
  go_upto_region 11 with (fail)
  clear a0 a1 a2 a3 a4
  generalize wa = wb at *
  have hK : Kp wb (w.heap.size + 1) wb:=⟨Chg.refl _ _, zero9, rfl, rb⟩
  have hKd:=hK.drew
  have rA : ∀ w', Kp wb (w.heap.size + 1) w' → RowAt w' w.heap.size (Ac st ow sm br ma us ge ep ve) 59:=fun w' h => ra.chg h.1 (by simp)
  have rC : ∀ w', Kp wb (w.heap.size + 1) w' → RowAt w' (w.heap.size + 1 + 1) (Ac st ow sm br ma us ge ep ve) 59:=fun w' h => rc.chg h.1 (by simp)
  clear ra rb rc hK
  obtain ⟨l0, l2, l3, l4⟩:=rl4 rA
  refine wp_region_held_drew (S:=fun w' => Kp wb (w.heap.size + 1) w') (by kernel_rfl) (by exact hKd) (fun hHeld => ?_)
  refine tKw (gd:=none) 0 53 (.load 59 (.tmp 4)) (.agg (Ac st ow sm br ma us ge ep ve)) (run_load_row 59 (.tmp 4) (w.heap.size) 59 (Ac st ow sm br ma us ge ep ve) _ (by kernel_rfl) Tryz.underlying59 rfl (by kernel_rfl) rA) hHeld ?_
  try simp only [Act.put, sA, sZ, sS]
  refine tKg 1 54 hHeld ?_
  try simp only [Act.put, sA, sZ, sS]
  refine tKg 3 56 hHeld ?_
  try simp only [Act.put, sA, sZ, sS]
  refine tKg 4 57 hHeld ?_
  try simp only [Act.put, sA, sZ, sS]
  refine tKg 5 58 hHeld ?_
  try simp only [Act.put, sA, sZ, sS]
  refine rKc (i:=2) 108 #[.tmp 53, .tmp 54] #[59, 3] (some 55) (none) #[.agg (Ac st ow sm br ma us ge ep ve), .i own] (enters_of Tryz.func108 (by kernel_rfl) rfl) ?_
  refine (leased_any _ ⟨st, ow, sm, br, ma, us, ge, ep, ve⟩ own hbd.1 hbd.2).mono ?_
  rintro e w6 ⟨rfl, hb6⟩
  refine ⟨_, rfl, hHeld.later hb6, fun hHeld2 => ?_⟩
  try simp only [Act.put, sA, sZ, sS]
  refine tKg 6 59 hHeld2 ?_
  try simp only [Act.put, sA, sZ, sS]
  refine sKp 7 (some 60) hHeld2 ?_
  try simp only [Act.put, sA, sZ, sS]
  refine sKp 8 (some 61) hHeld2 ?_
  try simp only [Act.put, sA, sZ, sS]
  refine sKp 9 (some 62) hHeld2 ?_
  try simp only [Act.put, sA, sZ, sS]
  refine tKg 10 63 hHeld2 ?_
  try simp only [Act.put, sA, sZ, sS]
  obtain ⟨kp1, Z, kp2, kp3⟩:=hHeld2
  refine ready_store_row (i:=11) (by kernel_rfl) 59 (.tmp 8) (.tmp 55) (by kernel_rfl) (w.heap.size + 1) _ _ (Ac 3 own 0 br false (min (us + 1) 63) ((ge + 1) % 4096) 0 ve) (by kernel_rfl) (by kernel_rfl) kp3 kp2 (by kernel_rfl) (by kernel_rfl) (Kp.set ⟨kp1, Z, kp2, kp3⟩ ⟨3, own, 0, br, false, (min (us + 1) 63), ((ge + 1) % 4096), 0, ve⟩) (fun hHeld3 => ?_)
  try simp only [Act.put, sA, sZ, sS]
  refine tKg 12 9 hHeld3 ?_
  try simp only [Act.put, sA, sZ, sS]
  refine wpAnyH_done (by kernel_rfl) ?_ _
  go_simp
  clear rA rC
  go_wp2_with fail
  refine bR2 (w.heap.size + 1) (Kp.row ⟨kp1, Z, kp2, kp3⟩ ⟨3, own, 0, br, false, (min (us + 1) 63), ((ge + 1) % 4096), 0, ve⟩) Tryz.underlying59 ?_
  exact ⟨by rw [show row8 _ _ _ _ = _ from HR.out]; rfl, Kp.below hHeld3 hA (by omega)⟩
 have hq0 : (st == 2) = true:=by simpa using hp0
 clear hp0
 have HR:=Lib.hid (HR.out.trans (congrArg (Prod.mk ((leasedS ⟨st, ow, sm, br, ma, us, ge, ep, ve⟩ own) : S)) (show (st == 2 && !br) = (!br) by first | (simp [hq0]; done) | (simp <;> intros <;> omega))))
 obtain ⟨hA, ra, rb, rc⟩:=boxes8 w st ow sm br ma us ge ep ve
 go_enter Tryz.func101, Tryz.ntmps101
 go_upto_region 3 with (fail)
 generalize (((w.alloc (.cells (Ac st ow sm br ma us ge ep ve) 59)).alloc (.cells zero9 59)).alloc (.cells (Ac st ow sm br ma us ge ep ve) 59)) = wa at *
 obtain ⟨a0, a1, a2, a3, a4⟩:=rl5 ra
 go_upto_region 11 with (fail)
 clear a0 a1 a2 a3 a4
 generalize wa = wb at *
 have hK : Kp wb (w.heap.size + 1) wb:=⟨Chg.refl _ _, zero9, rfl, rb⟩
 have hKd:=hK.drew
 have rA : ∀ w', Kp wb (w.heap.size + 1) w' → RowAt w' w.heap.size (Ac st ow sm br ma us ge ep ve) 59:=fun w' h => ra.chg h.1 (by simp)
 have rC : ∀ w', Kp wb (w.heap.size + 1) w' → RowAt w' (w.heap.size + 1 + 1) (Ac st ow sm br ma us ge ep ve) 59:=fun w' h => rc.chg h.1 (by simp)
 clear ra rb rc hK
 obtain ⟨l0, l2, l3, l4⟩:=rl4 rA
 refine wp_region_held_drew (S:=fun w' => Kp wb (w.heap.size + 1) w') (by kernel_rfl) (by exact hKd) (fun hHeld => ?_)
 refine tKw (gd:=none) 0 53 (.load 59 (.tmp 4)) (.agg (Ac st ow sm br ma us ge ep ve)) (run_load_row 59 (.tmp 4) (w.heap.size) 59 (Ac st ow sm br ma us ge ep ve) _ (by kernel_rfl) Tryz.underlying59 rfl (by kernel_rfl) rA) hHeld ?_
 try simp only [Act.put, sA, sZ, sS]
 refine tKg 1 54 hHeld ?_
 try simp only [Act.put, sA, sZ, sS]
 refine tKg 3 56 hHeld ?_
 try simp only [Act.put, sA, sZ, sS]
 refine tKg 4 57 hHeld ?_
 try simp only [Act.put, sA, sZ, sS]
 refine tKg 5 58 hHeld ?_
 try simp only [Act.put, sA, sZ, sS]
 refine rKc (i:=2) 108 #[.tmp 53, .tmp 54] #[59, 3] (some 55) (none) #[.agg (Ac st ow sm br ma us ge ep ve), .i own] (enters_of Tryz.func108 (by kernel_rfl) rfl) ?_
 refine (leased_any _ ⟨st, ow, sm, br, ma, us, ge, ep, ve⟩ own hbd.1 hbd.2).mono ?_
 rintro e w6 ⟨rfl, hb6⟩
 refine ⟨_, rfl, hHeld.later hb6, fun hHeld2 => ?_⟩
 try simp only [Act.put, sA, sZ, sS]
 refine tKg 6 59 hHeld2 ?_
 try simp only [Act.put, sA, sZ, sS]
 refine tKg 7 60 hHeld2 ?_
 try simp only [Act.put, sA, sZ, sS]
 refine tKg 8 61 hHeld2 ?_
 try simp only [Act.put, sA, sZ, sS]
 refine tKg 9 62 hHeld2 ?_
 try simp only [Act.put, sA, sZ, sS]
 refine tKg 10 63 hHeld2 ?_
 try simp only [Act.put, sA, sZ, sS]
 obtain ⟨kp1, Z, kp2, kp3⟩:=hHeld2
 refine ready_store_row (i:=11) (by kernel_rfl) 59 (.tmp 8) (.tmp 55) (by kernel_rfl) (w.heap.size + 1) _ _ (Ac 3 own 0 br false (min (us + 1) 63) ((ge + 1) % 4096) 0 ve) (by kernel_rfl) (by kernel_rfl) kp3 kp2 (by kernel_rfl) (by kernel_rfl) (Kp.set ⟨kp1, Z, kp2, kp3⟩ ⟨3, own, 0, br, false, (min (us + 1) 63), ((ge + 1) % 4096), 0, ve⟩) (fun hHeld3 => ?_)
 try simp only [Act.put, sA, sZ, sS]
 refine tKg 12 9 hHeld3 ?_
 try simp only [Act.put, sA, sZ, sS]
 refine wpAnyH_done (by kernel_rfl) ?_ _
 go_simp
 clear rA rC
 go_wp2_with fail
 refine bR2 (w.heap.size + 1) (Kp.row ⟨kp1, Z, kp2, kp3⟩ ⟨3, own, 0, br, false, (min (us + 1) 63), ((ge + 1) % 4096), 0, ve⟩) Tryz.underlying59 ?_
 exact ⟨by rw [show row8 _ _ _ _ = _ from HR.out]; rfl, Kp.below hHeld3 hA (by omega)⟩
end Go.Proofs.YtpmkgddjgebojaaGreatDoor.R8
