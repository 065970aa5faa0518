/- Part 13 of the walks and plain laws that the last text joins. -/
import Derived.Test.YtpmkgddjgebojaaGreatDoorE6
set_option maxRecDepth 100000
set_option maxHeartbeats 16000000
set_option linter.unusedVariables false
set_option linter.unusedSimpArgs false
namespace Go.Proofs.YtpmkgddjgebojaaGreatDoor.R8
open Go.RowKit Hp Slot RowL Life
theorem row13_any (w : World) (s : S) (own more : Int) (hr : s.right = true) : Calls Tryz.prog 101 #[s.val, .i 13, .i own, .i more] w fun e w' => e = .returned (.tuple #[(row8 13 s own more).1.val, .bool (row8 13 s own more).2]) ∧ Below w.heap.size w w':=by
 have hrb:=right_bounds hr
 obtain ⟨st, ow, sm, br, ma, us, ge, ep, ve⟩:=s
 have hR : row8 13 ⟨st, ow, sm, br, ma, us, ge, ep, ve⟩ own more = (⟨st, ow, sm, true, ma, us, ge, ep, ve⟩, (decide (2 ≤ st) && decide (st ≤ 4)) && !br):=rfl
 have HR:=Lib.hid hR
 have HB:=Lib.hid hrb
 clear hR hrb hr
 simp only [S.val, S.cells]
 by_cases hp0 : 2 ≤ st
 rotate_left
 ·have hq0 : ¬ 2 ≤ st:=by simpa using hp0
  clear hp0
  have HR:=Lib.hid (HR.out.trans (congrArg (Prod.mk ((⟨st, ow, sm, true, ma, us, ge, ep, ve⟩) : S)) (show ((decide (2 ≤ st) && decide (st ≤ 4)) && !br) = (false) by first | (simp [hq0]; done) | (simp <;> intros <;> omega))))
  obtain ⟨hA, ra, rb, rc⟩:=boxes8 w st ow sm br ma us ge ep ve
  go_enter Tryz.func101, Tryz.ntmps101
  go_upto_region 3 with (fail)
  generalize (((w.alloc (.cells (Ac st ow sm br ma us ge ep ve) 59)).alloc (.cells zero9 59)).alloc (.cells (Ac st ow sm br ma us ge ep ve) 59)) = wa at *
  obtain ⟨a0, a1, a2, a3, a4⟩:=rl5 ra
  have t3 : wa.cell? ⟨w.heap.size + 1 + 1, 3, none⟩ = some (.bool br):=rc.cell 3
  have z3 : wa.frozen? ⟨w.heap.size + 1 + 1, 3, none⟩ = false:=rc.frozen 3
  go_upto_region 42 with (fail)
  have rc' : RowAt (wa.setCell ⟨w.heap.size + 1 + 1, 3, none⟩ (.bool true)) (w.heap.size + 1 + 1) (Ac st ow sm true ma us ge ep ve) 59:=(rc.setc 3 (.bool true))
  have ra':=(setOther ra (p:=⟨w.heap.size + 1 + 1, 3, none⟩) (.bool true) (by simp; omega))
  have rb':=(setOther rb (p:=⟨w.heap.size + 1 + 1, 3, none⟩) (.bool true) (by simp))
  have hA':=(hA.setCell (p:=⟨w.heap.size + 1 + 1, 3, none⟩) (by simp; omega) (.bool true))
  clear hA ra rb rc a0 a1 a2 a3 a4 t3 z3
  generalize hwb : (wa.setCell ⟨w.heap.size + 1 + 1, 3, none⟩ (.bool true)) = wb at *
  clear hwb
  have hA:=hA'
  have ra:=ra'
  have rb:=rb'
  have rc:=rc'
  clear hA' ra' rb' rc'
  have hK : Kp wb (w.heap.size + 1) wb:=⟨Chg.refl _ _, zero9, rfl, rb⟩
  have hKd:=hK.drew
  have rA : ∀ w', Kp wb (w.heap.size + 1) w' → RowAt w' w.heap.size (Ac st ow sm br ma us ge ep ve) 59:=fun w' h => ra.chg h.1 (by simp)
  have rC : ∀ w', Kp wb (w.heap.size + 1) w' → RowAt w' (w.heap.size + 1 + 1) (Ac st ow sm true ma us ge ep ve) 59:=fun w' h => rc.chg h.1 (by simp)
  clear ra rb rc hK
  obtain ⟨l0, l2, l3, l4⟩:=rl4 rA
  refine wp_region_held_drew (S:=fun w' => Kp wb (w.heap.size + 1) w') (by kernel_rfl) (by exact hKd) (fun hHeld => ?_)
  refine tKw (gd:=none) 0 171 (.load 59 (.tmp 10)) (.agg (Ac st ow sm true ma us ge ep ve)) (run_load_row 59 (.tmp 10) (w.heap.size + 1 + 1) 59 (Ac st ow sm true ma us ge ep ve) _ (by kernel_rfl) Tryz.underlying59 rfl (by kernel_rfl) rC) hHeld ?_
  try simp only [Act.put, sA, sZ, sS]
  refine tKg 1 172 hHeld ?_
  try simp only [Act.put, sA, sZ, sS]
  refine tKg 2 173 hHeld ?_
  try simp only [Act.put, sA, sZ, sS]
  refine tKg 3 174 hHeld ?_
  try simp only [Act.put, sA, sZ, sS]
  refine tKg 4 175 hHeld ?_
  try simp only [Act.put, sA, sZ, sS]
  refine sKp 5 (some 176) hHeld ?_
  try simp only [Act.put, sA, sZ, sS]
  refine sKp 6 (some 177) hHeld ?_
  try simp only [Act.put, sA, sZ, sS]
  refine sKp 7 (some 178) hHeld ?_
  try simp only [Act.put, sA, sZ, sS]
  refine tKg 8 179 hHeld ?_
  try simp only [Act.put, sA, sZ, sS]
  refine tKg 9 180 hHeld ?_
  try simp only [Act.put, sA, sZ, sS]
  refine sKp 10 (some 181) hHeld ?_
  try simp only [Act.put, sA, sZ, sS]
  refine sKp 11 (some 182) hHeld ?_
  try simp only [Act.put, sA, sZ, sS]
  refine sKp 12 (some 183) hHeld ?_
  try simp only [Act.put, sA, sZ, sS]
  refine tKg 13 184 hHeld ?_
  try simp only [Act.put, sA, sZ, sS]
  obtain ⟨kp1, Z, kp2, kp3⟩:=hHeld
  refine ready_store_row (i:=14) (by kernel_rfl) 59 (.tmp 8) (.tmp 171) (by kernel_rfl) (w.heap.size + 1) _ _ (Ac st ow sm true ma us ge ep ve) (by kernel_rfl) (by kernel_rfl) kp3 kp2 (by kernel_rfl) (by kernel_rfl) (Kp.set ⟨kp1, Z, kp2, kp3⟩ ⟨st, ow, sm, true, ma, us, ge, ep, ve⟩) (fun hHeld2 => ?_)
  try simp only [Act.put, sA, sZ, sS]
  refine tKg 15 9 hHeld2 ?_
  try simp only [Act.put, sA, sZ, sS]
  refine wpAnyH_done (by kernel_rfl) ?_ _
  go_simp
  clear rA rC
  go_wp2_with fail
  refine bR2 (w.heap.size + 1) (Kp.row ⟨kp1, Z, kp2, kp3⟩ ⟨st, ow, sm, true, ma, us, ge, ep, ve⟩) Tryz.underlying59 ?_
  exact ⟨by rw [show row8 _ _ _ _ = _ from HR.out]; rfl, Kp.below hHeld2 hA (by omega)⟩
 have hq0 : 2 ≤ st:=by simpa using hp0
 clear hp0
 by_cases hp1 : st ≤ 4
 rotate_left
 ·have hq1 : ¬ st ≤ 4:=by simpa using hp1
  clear hp1
  have HR:=Lib.hid (HR.out.trans (congrArg (Prod.mk ((⟨st, ow, sm, true, ma, us, ge, ep, ve⟩) : S)) (show ((decide (2 ≤ st) && decide (st ≤ 4)) && !br) = (false) by first | (simp [hq0, hq1]; done) | (simp <;> intros <;> omega))))
  obtain ⟨hA, ra, rb, rc⟩:=boxes8 w st ow sm br ma us ge ep ve
  go_enter Tryz.func101, Tryz.ntmps101
  go_upto_region 3 with (fail)
  generalize (((w.alloc (.cells (Ac st ow sm br ma us ge ep ve) 59)).alloc (.cells zero9 59)).alloc (.cells (Ac st ow sm br ma us ge ep ve) 59)) = wa at *
  obtain ⟨a0, a1, a2, a3, a4⟩:=rl5 ra
  have t3 : wa.cell? ⟨w.heap.size + 1 + 1, 3, none⟩ = some (.bool br):=rc.cell 3
  have z3 : wa.frozen? ⟨w.heap.size + 1 + 1, 3, none⟩ = false:=rc.frozen 3
  go_upto_region 42 with (fail)
  have rc' : RowAt (wa.setCell ⟨w.heap.size + 1 + 1, 3, none⟩ (.bool true)) (w.heap.size + 1 + 1) (Ac st ow sm true ma us ge ep ve) 59:=(rc.setc 3 (.bool true))
  have ra':=(setOther ra (p:=⟨w.heap.size + 1 + 1, 3, none⟩) (.bool true) (by simp; omega))
  have rb':=(setOther rb (p:=⟨w.heap.size + 1 + 1, 3, none⟩) (.bool true) (by simp))
  have hA':=(hA.setCell (p:=⟨w.heap.size + 1 + 1, 3, none⟩) (by simp; omega) (.bool true))
  clear hA ra rb rc a0 a1 a2 a3 a4 t3 z3
  generalize hwb : (wa.setCell ⟨w.heap.size + 1 + 1, 3, none⟩ (.bool true)) = wb at *
  clear hwb
  have hA:=hA'
  have ra:=ra'
  have rb:=rb'
  have rc:=rc'
  clear hA' ra' rb' rc'
  have hK : Kp wb (w.heap.size + 1) wb:=⟨Chg.refl _ _, zero9, rfl, rb⟩
  have hKd:=hK.drew
  have rA : ∀ w', Kp wb (w.heap.size + 1) w' → RowAt w' w.heap.size (Ac st ow sm br ma us ge ep ve) 59:=fun w' h => ra.chg h.1 (by simp)
  have rC : ∀ w', Kp wb (w.heap.size + 1) w' → RowAt w' (w.heap.size + 1 + 1) (Ac st ow sm true ma us ge ep ve) 59:=fun w' h => rc.chg h.1 (by simp)
  clear ra rb rc hK
  obtain ⟨l0, l2, l3, l4⟩:=rl4 rA
  refine wp_region_held_drew (S:=fun w' => Kp wb (w.heap.size + 1) w') (by kernel_rfl) (by exact hKd) (fun hHeld => ?_)
  refine tKw (gd:=none) 0 171 (.load 59 (.tmp 10)) (.agg (Ac st ow sm true ma us ge ep ve)) (run_load_row 59 (.tmp 10) (w.heap.size + 1 + 1) 59 (Ac st ow sm true ma us ge ep ve) _ (by kernel_rfl) Tryz.underlying59 rfl (by kernel_rfl) rC) hHeld ?_
  try simp only [Act.put, sA, sZ, sS]
  refine tKg 1 172 hHeld ?_
  try simp only [Act.put, sA, sZ, sS]
  refine tKg 2 173 hHeld ?_
  try simp only [Act.put, sA, sZ, sS]
  refine tKg 3 174 hHeld ?_
  try simp only [Act.put, sA, sZ, sS]
  refine tKg 4 175 hHeld ?_
  try simp only [Act.put, sA, sZ, sS]
  refine tKg 5 176 hHeld ?_
  try simp only [Act.put, sA, sZ, sS]
  refine tKg 6 177 hHeld ?_
  try simp only [Act.put, sA, sZ, sS]
  refine tKg 7 178 hHeld ?_
  try simp only [Act.put, sA, sZ, sS]
  refine tKg 8 179 hHeld ?_
  try simp only [Act.put, sA, sZ, sS]
  refine tKg 9 180 hHeld ?_
  try simp only [Act.put, sA, sZ, sS]
  refine sKp 10 (some 181) hHeld ?_
  try simp only [Act.put, sA, sZ, sS]
  refine sKp 11 (some 182) hHeld ?_
  try simp only [Act.put, sA, sZ, sS]
  refine sKp 12 (some 183) hHeld ?_
  try simp only [Act.put, sA, sZ, sS]
  refine tKg 13 184 hHeld ?_
  try simp only [Act.put, sA, sZ, sS]
  obtain ⟨kp1, Z, kp2, kp3⟩:=hHeld
  refine ready_store_row (i:=14) (by kernel_rfl) 59 (.tmp 8) (.tmp 171) (by kernel_rfl) (w.heap.size + 1) _ _ (Ac st ow sm true ma us ge ep ve) (by kernel_rfl) (by kernel_rfl) kp3 kp2 (by kernel_rfl) (by kernel_rfl) (Kp.set ⟨kp1, Z, kp2, kp3⟩ ⟨st, ow, sm, true, ma, us, ge, ep, ve⟩) (fun hHeld2 => ?_)
  try simp only [Act.put, sA, sZ, sS]
  refine tKg 15 9 hHeld2 ?_
  try simp only [Act.put, sA, sZ, sS]
  refine wpAnyH_done (by kernel_rfl) ?_ _
  go_simp
  clear rA rC
  go_wp2_with fail
  refine bR2 (w.heap.size + 1) (Kp.row ⟨kp1, Z, kp2, kp3⟩ ⟨st, ow, sm, true, ma, us, ge, ep, ve⟩) Tryz.underlying59 ?_
  exact ⟨by rw [show row8 _ _ _ _ = _ from HR.out]; rfl, Kp.below hHeld2 hA (by omega)⟩
 have hq1 : st ≤ 4:=by simpa using hp1
 clear hp1
 have HR:=Lib.hid (HR.out.trans (congrArg (Prod.mk ((⟨st, ow, sm, true, ma, us, ge, ep, ve⟩) : S)) (show ((decide (2 ≤ st) && decide (st ≤ 4)) && !br) = (!br) by first | (simp [hq0, hq1]; done) | (simp <;> intros <;> omega))))
 obtain ⟨hA, ra, rb, rc⟩:=boxes8 w st ow sm br ma us ge ep ve
 go_enter Tryz.func101, Tryz.ntmps101
 go_upto_region 3 with (fail)
 generalize (((w.alloc (.cells (Ac st ow sm br ma us ge ep ve) 59)).alloc (.cells zero9 59)).alloc (.cells (Ac st ow sm br ma us ge ep ve) 59)) = wa at *
 obtain ⟨a0, a1, a2, a3, a4⟩:=rl5 ra
 have t3 : wa.cell? ⟨w.heap.size + 1 + 1, 3, none⟩ = some (.bool br):=rc.cell 3
 have z3 : wa.frozen? ⟨w.heap.size + 1 + 1, 3, none⟩ = false:=rc.frozen 3
 go_upto_region 42 with (fail)
 have rc' : RowAt (wa.setCell ⟨w.heap.size + 1 + 1, 3, none⟩ (.bool true)) (w.heap.size + 1 + 1) (Ac st ow sm true ma us ge ep ve) 59:=(rc.setc 3 (.bool true))
 have ra':=(setOther ra (p:=⟨w.heap.size + 1 + 1, 3, none⟩) (.bool true) (by simp; omega))
 have rb':=(setOther rb (p:=⟨w.heap.size + 1 + 1, 3, none⟩) (.bool true) (by simp))
 have hA':=(hA.setCell (p:=⟨w.heap.size + 1 + 1, 3, none⟩) (by simp; omega) (.bool true))
 clear hA ra rb rc a0 a1 a2 a3 a4 t3 z3
 generalize hwb : (wa.setCell ⟨w.heap.size + 1 + 1, 3, none⟩ (.bool true)) = wb at *
 clear hwb
 have hA:=hA'
 have ra:=ra'
 have rb:=rb'
 have rc:=rc'
 clear hA' ra' rb' rc'
 have hK : Kp wb (w.heap.size + 1) wb:=⟨Chg.refl _ _, zero9, rfl, rb⟩
 have hKd:=hK.drew
 have rA : ∀ w', Kp wb (w.heap.size + 1) w' → RowAt w' w.heap.size (Ac st ow sm br ma us ge ep ve) 59:=fun w' h => ra.chg h.1 (by simp)
 have rC : ∀ w', Kp wb (w.heap.size + 1) w' → RowAt w' (w.heap.size + 1 + 1) (Ac st ow sm true ma us ge ep ve) 59:=fun w' h => rc.chg h.1 (by simp)
 clear ra rb rc hK
 obtain ⟨l0, l2, l3, l4⟩:=rl4 rA
 refine wp_region_held_drew (S:=fun w' => Kp wb (w.heap.size + 1) w') (by kernel_rfl) (by exact hKd) (fun hHeld => ?_)
 refine tKw (gd:=none) 0 171 (.load 59 (.tmp 10)) (.agg (Ac st ow sm true ma us ge ep ve)) (run_load_row 59 (.tmp 10) (w.heap.size + 1 + 1) 59 (Ac st ow sm true ma us ge ep ve) _ (by kernel_rfl) Tryz.underlying59 rfl (by kernel_rfl) rC) hHeld ?_
 try simp only [Act.put, sA, sZ, sS]
 refine tKg 1 172 hHeld ?_
 try simp only [Act.put, sA, sZ, sS]
 refine tKg 2 173 hHeld ?_
 try simp only [Act.put, sA, sZ, sS]
 refine tKg 3 174 hHeld ?_
 try simp only [Act.put, sA, sZ, sS]
 refine tKg 4 175 hHeld ?_
 try simp only [Act.put, sA, sZ, sS]
 refine tKg 5 176 hHeld ?_
 try simp only [Act.put, sA, sZ, sS]
 refine tKg 6 177 hHeld ?_
 try simp only [Act.put, sA, sZ, sS]
 refine tKg 7 178 hHeld ?_
 try simp only [Act.put, sA, sZ, sS]
 refine tKg 8 179 hHeld ?_
 try simp only [Act.put, sA, sZ, sS]
 refine tKg 9 180 hHeld ?_
 try simp only [Act.put, sA, sZ, sS]
 refine tKg 10 181 hHeld ?_
 try simp only [Act.put, sA, sZ, sS]
 refine tKg 11 182 hHeld ?_
 try simp only [Act.put, sA, sZ, sS]
 refine tKg 12 183 hHeld ?_
 try simp only [Act.put, sA, sZ, sS]
 refine tKg 13 184 hHeld ?_
 try simp only [Act.put, sA, sZ, sS]
 obtain ⟨kp1, Z, kp2, kp3⟩:=hHeld
 refine ready_store_row (i:=14) (by kernel_rfl) 59 (.tmp 8) (.tmp 171) (by kernel_rfl) (w.heap.size + 1) _ _ (Ac st ow sm true ma us ge ep ve) (by kernel_rfl) (by kernel_rfl) kp3 kp2 (by kernel_rfl) (by kernel_rfl) (Kp.set ⟨kp1, Z, kp2, kp3⟩ ⟨st, ow, sm, true, ma, us, ge, ep, ve⟩) (fun hHeld2 => ?_)
 try simp only [Act.put, sA, sZ, sS]
 refine tKg 15 9 hHeld2 ?_
 try simp only [Act.put, sA, sZ, sS]
 refine wpAnyH_done (by kernel_rfl) ?_ _
 go_simp
 clear rA rC
 go_wp2_with fail
 refine bR2 (w.heap.size + 1) (Kp.row ⟨kp1, Z, kp2, kp3⟩ ⟨st, ow, sm, true, ma, us, ge, ep, ve⟩) Tryz.underlying59 ?_
 exact ⟨by rw [show row8 _ _ _ _ = _ from HR.out]; rfl, Kp.below hHeld2 hA (by omega)⟩
end Go.Proofs.YtpmkgddjgebojaaGreatDoor.R8
