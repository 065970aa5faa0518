/- Part 10 of the walks and plain laws that the last text joins. -/
import Derived.Test.YtpmkgddjgebojaaGreatDoorE6
set_option maxRecDepth 100000
set_option maxHeartbeats 16000000
set_option linter.unusedVariables false
set_option linter.unusedSimpArgs false
namespace Go.Proofs.YtpmkgddjgebojaaGreatDoor.R8
open Go.RowKit Hp Slot RowL Life
theorem row1_any (w : World) (s : S) (own more : Int) (hr : s.right = true) : Calls Tryz.prog 101 #[s.val, .i 1, .i own, .i more] w fun e w' => e = .returned (.tuple #[(row8 1 s own more).1.val, .bool (row8 1 s own more).2]) ∧ Below w.heap.size w w':=by
 have hrb:=right_bounds hr
 obtain ⟨st, ow, sm, br, ma, us, ge, ep, ve⟩:=s
 have hR : row8 1 ⟨st, ow, sm, br, ma, us, ge, ep, ve⟩ own more = (leasedS (plainS ⟨st, ow, sm, br, ma, us, ge, ep, ve⟩ 1 own) own, st == 1 && ow == own):=rfl
 have HR:=Lib.hid hR
 have HB:=Lib.hid hrb
 clear hR hrb hr
 have hbd : (0 ≤ us ∧ us ≤ 63) ∧ (0 ≤ ge ∧ ge ≤ 4095):=by have:=HB.out; simp only at this; exact ⟨this.2.1, this.2.2.1⟩
 simp only [S.val, S.cells]
 by_cases hp0 : st = 1
 rotate_left
 ·have hq0 : (st == 1) = false:=by simpa using hp0
  clear hp0
  have HR:=Lib.hid (HR.out.trans (congrArg (Prod.mk ((leasedS (plainS ⟨st, ow, sm, br, ma, us, ge, ep, ve⟩ 1 own) own) : S)) (show (st == 1 && ow == own) = (false) by first | (simp [hq0]; done) | (simp <;> intros <;> omega))))
  obtain ⟨hA, ra, rb, rc⟩:=boxes8 w st ow sm br ma us ge ep ve
  go_enter Tryz.func101, Tryz.ntmps101
  go_upto_region 3 with (fail)
  generalize (((w.alloc (.cells (Ac st ow sm br ma us ge ep ve) 59)).alloc (.cells zero9 59)).alloc (.cells (Ac st ow sm br ma us ge ep ve) 59)) = wa at *
  obtain ⟨a0, a1, a2, a3, a4⟩:=rl5 ra
  go_upto_region 7 with (fail)
  clear a0 a1 a2 a3 a4
  generalize wa = wb at *
  have hK : Kp wb (w.heap.size + 1) wb:=⟨Chg.refl _ _, zero9, rfl, rb⟩
  have hKd:=hK.drew
  have rA : ∀ w', Kp wb (w.heap.size + 1) w' → RowAt w' w.heap.size (Ac st ow sm br ma us ge ep ve) 59:=fun w' h => ra.chg h.1 (by simp)
  have rC : ∀ w', Kp wb (w.heap.size + 1) w' → RowAt w' (w.heap.size + 1 + 1) (Ac st ow sm br ma us ge ep ve) 59:=fun w' h => rc.chg h.1 (by simp)
  clear ra rb rc hK
  obtain ⟨l0, l2, l3, l4⟩:=rl4 rA
  refine wp_region_held_drew (S:=fun w' => Kp wb (w.heap.size + 1) w') (by kernel_rfl) (by exact hKd) (fun hHeld => ?_)
  refine tKw (gd:=none) 0 30 (.load 59 (.tmp 4)) (.agg (Ac st ow sm br ma us ge ep ve)) (run_load_row 59 (.tmp 4) (w.heap.size) 59 (Ac st ow sm br ma us ge ep ve) _ (by kernel_rfl) Tryz.underlying59 rfl (by kernel_rfl) rA) hHeld ?_
  try simp only [Act.put, sA, sZ, sS]
  refine tKg 1 31 hHeld ?_
  try simp only [Act.put, sA, sZ, sS]
  refine tKg 3 33 hHeld ?_
  try simp only [Act.put, sA, sZ, sS]
  refine tKg 5 35 hHeld ?_
  try simp only [Act.put, sA, sZ, sS]
  refine tKg 6 36 hHeld ?_
  try simp only [Act.put, sA, sZ, sS]
  refine tKg 7 37 hHeld ?_
  try simp only [Act.put, sA, sZ, sS]
  refine rKc (i:=2) 107 #[.tmp 30, (.const (.i 1)), .tmp 31] #[59, 3, 3] (some 32) (none) #[.agg (Ac st ow sm br ma us ge ep ve), .i 1, .i own] (enters_of Tryz.func107 (by kernel_rfl) rfl) ?_
  refine (plain_any _ ⟨st, ow, sm, br, ma, us, ge, ep, ve⟩ 1 own).mono ?_
  rintro e w6 ⟨rfl, hb6⟩
  refine ⟨_, rfl, hHeld.later hb6, fun hHeld2 => ?_⟩
  try simp only [Act.put, sA, sZ, sS]
  refine rKc (i:=4) 108 #[.tmp 32, .tmp 33] #[59, 3] (some 34) (none) #[.agg (Ac 1 own 0 false false 0 ge 0 ve), .i own] (enters_of Tryz.func108 (by kernel_rfl) rfl) ?_
  refine (leased_any _ (plainS ⟨st, ow, sm, br, ma, us, ge, ep, ve⟩ 1 own) own (by simp [plainS]) (by simpa [plainS] using hbd.2)).mono ?_
  rintro e w7 ⟨rfl, hb7⟩
  refine ⟨_, rfl, hHeld2.later hb7, fun hHeld3 => ?_⟩
  try simp only [Act.put, sA, sZ, sS]
  refine tKg 8 38 hHeld3 ?_
  try simp only [Act.put, sA, sZ, sS]
  refine sKp 9 (some 39) hHeld3 ?_
  try simp only [Act.put, sA, sZ, sS]
  refine tKg 10 40 hHeld3 ?_
  try simp only [Act.put, sA, sZ, sS]
  obtain ⟨kp1, Z, kp2, kp3⟩:=hHeld3
  refine ready_store_row (i:=11) (by kernel_rfl) 59 (.tmp 8) (.tmp 34) (by kernel_rfl) (w.heap.size + 1) _ _ (Ac 3 own 0 false false (min (0 + 1) 63) ((ge + 1) % 4096) 0 ve) (by kernel_rfl) (by kernel_rfl) kp3 kp2 (by kernel_rfl) (by kernel_rfl) (Kp.set ⟨kp1, Z, kp2, kp3⟩ ⟨3, own, 0, false, false, (min (0 + 1) 63), ((ge + 1) % 4096), 0, ve⟩) (fun hHeld4 => ?_)
  try simp only [Act.put, sA, sZ, sS]
  refine tKg 12 9 hHeld4 ?_
  try simp only [Act.put, sA, sZ, sS]
  refine wpAnyH_done (by kernel_rfl) ?_ _
  go_simp
  clear rA rC
  go_wp2_with fail
  refine bR2 (w.heap.size + 1) (Kp.row ⟨kp1, Z, kp2, kp3⟩ ⟨3, own, 0, false, false, (min (0 + 1) 63), ((ge + 1) % 4096), 0, ve⟩) Tryz.underlying59 ?_
  exact ⟨by rw [show row8 _ _ _ _ = _ from HR.out]; rfl, Kp.below hHeld4 hA (by omega)⟩
 have hq0 : (st == 1) = true:=by simpa using hp0
 clear hp0
 have HR:=Lib.hid (HR.out.trans (congrArg (Prod.mk ((leasedS (plainS ⟨st, ow, sm, br, ma, us, ge, ep, ve⟩ 1 own) own) : S)) (show (st == 1 && ow == own) = (ow == own) by first | (simp [hq0]; done) | (simp <;> intros <;> omega))))
 obtain ⟨hA, ra, rb, rc⟩:=boxes8 w st ow sm br ma us ge ep ve
 go_enter Tryz.func101, Tryz.ntmps101
 go_upto_region 3 with (fail)
 generalize (((w.alloc (.cells (Ac st ow sm br ma us ge ep ve) 59)).alloc (.cells zero9 59)).alloc (.cells (Ac st ow sm br ma us ge ep ve) 59)) = wa at *
 obtain ⟨a0, a1, a2, a3, a4⟩:=rl5 ra
 go_upto_region 7 with (fail)
 clear a0 a1 a2 a3 a4
 generalize wa = wb at *
 have hK : Kp wb (w.heap.size + 1) wb:=⟨Chg.refl _ _, zero9, rfl, rb⟩
 have hKd:=hK.drew
 have rA : ∀ w', Kp wb (w.heap.size + 1) w' → RowAt w' w.heap.size (Ac st ow sm br ma us ge ep ve) 59:=fun w' h => ra.chg h.1 (by simp)
 have rC : ∀ w', Kp wb (w.heap.size + 1) w' → RowAt w' (w.heap.size + 1 + 1) (Ac st ow sm br ma us ge ep ve) 59:=fun w' h => rc.chg h.1 (by simp)
 clear ra rb rc hK
 obtain ⟨l0, l2, l3, l4⟩:=rl4 rA
 refine wp_region_held_drew (S:=fun w' => Kp wb (w.heap.size + 1) w') (by kernel_rfl) (by exact hKd) (fun hHeld => ?_)
 refine tKw (gd:=none) 0 30 (.load 59 (.tmp 4)) (.agg (Ac st ow sm br ma us ge ep ve)) (run_load_row 59 (.tmp 4) (w.heap.size) 59 (Ac st ow sm br ma us ge ep ve) _ (by kernel_rfl) Tryz.underlying59 rfl (by kernel_rfl) rA) hHeld ?_
 try simp only [Act.put, sA, sZ, sS]
 refine tKg 1 31 hHeld ?_
 try simp only [Act.put, sA, sZ, sS]
 refine tKg 3 33 hHeld ?_
 try simp only [Act.put, sA, sZ, sS]
 refine tKg 5 35 hHeld ?_
 try simp only [Act.put, sA, sZ, sS]
 refine tKg 6 36 hHeld ?_
 try simp only [Act.put, sA, sZ, sS]
 refine tKg 7 37 hHeld ?_
 try simp only [Act.put, sA, sZ, sS]
 refine rKc (i:=2) 107 #[.tmp 30, (.const (.i 1)), .tmp 31] #[59, 3, 3] (some 32) (none) #[.agg (Ac st ow sm br ma us ge ep ve), .i 1, .i own] (enters_of Tryz.func107 (by kernel_rfl) rfl) ?_
 refine (plain_any _ ⟨st, ow, sm, br, ma, us, ge, ep, ve⟩ 1 own).mono ?_
 rintro e w6 ⟨rfl, hb6⟩
 refine ⟨_, rfl, hHeld.later hb6, fun hHeld2 => ?_⟩
 try simp only [Act.put, sA, sZ, sS]
 refine rKc (i:=4) 108 #[.tmp 32, .tmp 33] #[59, 3] (some 34) (none) #[.agg (Ac 1 own 0 false false 0 ge 0 ve), .i own] (enters_of Tryz.func108 (by kernel_rfl) rfl) ?_
 refine (leased_any _ (plainS ⟨st, ow, sm, br, ma, us, ge, ep, ve⟩ 1 own) own (by simp [plainS]) (by simpa [plainS] using hbd.2)).mono ?_
 rintro e w7 ⟨rfl, hb7⟩
 refine ⟨_, rfl, hHeld2.later hb7, fun hHeld3 => ?_⟩
 try simp only [Act.put, sA, sZ, sS]
 refine tKg 8 38 hHeld3 ?_
 try simp only [Act.put, sA, sZ, sS]
 refine tKg 9 39 hHeld3 ?_
 try simp only [Act.put, sA, sZ, sS]
 refine tKg 10 40 hHeld3 ?_
 try simp only [Act.put, sA, sZ, sS]
 obtain ⟨kp1, Z, kp2, kp3⟩:=hHeld3
 refine ready_store_row (i:=11) (by kernel_rfl) 59 (.tmp 8) (.tmp 34) (by kernel_rfl) (w.heap.size + 1) _ _ (Ac 3 own 0 false false (min (0 + 1) 63) ((ge + 1) % 4096) 0 ve) (by kernel_rfl) (by kernel_rfl) kp3 kp2 (by kernel_rfl) (by kernel_rfl) (Kp.set ⟨kp1, Z, kp2, kp3⟩ ⟨3, own, 0, false, false, (min (0 + 1) 63), ((ge + 1) % 4096), 0, ve⟩) (fun hHeld4 => ?_)
 try simp only [Act.put, sA, sZ, sS]
 refine tKg 12 9 hHeld4 ?_
 try simp only [Act.put, sA, sZ, sS]
 refine wpAnyH_done (by kernel_rfl) ?_ _
 go_simp
 clear rA rC
 go_wp2_with fail
 refine bR2 (w.heap.size + 1) (Kp.row ⟨kp1, Z, kp2, kp3⟩ ⟨3, own, 0, false, false, (min (0 + 1) 63), ((ge + 1) % 4096), 0, ve⟩) Tryz.underlying59 ?_
 exact ⟨by rw [show row8 _ _ _ _ = _ from HR.out]; rfl, Kp.below hHeld4 hA (by omega)⟩
end Go.Proofs.YtpmkgddjgebojaaGreatDoor.R8
