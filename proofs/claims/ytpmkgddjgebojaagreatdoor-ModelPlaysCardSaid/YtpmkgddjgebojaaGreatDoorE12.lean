/- Part 12 of the walks and plain laws that the last text joins. -/
import Derived.Test.YtpmkgddjgebojaaGreatDoorE6
set_option maxRecDepth 100000
set_option maxHeartbeats 16000000
set_option linter.unusedVariables false
set_option linter.unusedSimpArgs false
namespace Go.Proofs.YtpmkgddjgebojaaGreatDoor.R8
open Go.RowKit Hp Slot RowL Life
theorem row4_any (w : World) (s : S) (own more : Int) (hr : s.right = true) : Calls Tryz.prog 101 #[s.val, .i 4, .i own, .i more] w fun e w' => e = .returned (.tuple #[(row8 4 s own more).1.val, .bool (row8 4 s own more).2]) ∧ Below w.heap.size w w':=by
 have hrb:=right_bounds hr
 obtain ⟨st, ow, sm, br, ma, us, ge, ep, ve⟩:=s
 have hR : row8 4 ⟨st, ow, sm, br, ma, us, ge, ep, ve⟩ own more = (⟨2, ow, sm, br, ma, us, ge, ep, ve⟩, (st == 3 && ow == own) && sm == 0):=rfl
 have HR:=Lib.hid hR
 have HB:=Lib.hid hrb
 clear hR hrb hr
 simp only [S.val, S.cells]
 by_cases hp0 : st = 3
 rotate_left
 ·have hq0 : (st == 3) = false:=by simpa using hp0
  clear hp0
  have HR:=Lib.hid (HR.out.trans (congrArg (Prod.mk ((⟨2, ow, sm, br, ma, us, ge, ep, ve⟩) : S)) (show ((st == 3 && ow == own) && sm == 0) = (false) by first | (simp [hq0]; done) | (simp <;> intros <;> omega))))
  obtain ⟨hA, ra, rb, rc⟩:=boxes8 w st ow sm br ma us ge ep ve
  go_enter Tryz.func101, Tryz.ntmps101
  go_upto_region 3 with (fail)
  generalize (((w.alloc (.cells (Ac st ow sm br ma us ge ep ve) 59)).alloc (.cells zero9 59)).alloc (.cells (Ac st ow sm br ma us ge ep ve) 59)) = wa at *
  obtain ⟨a0, a1, a2, a3, a4⟩:=rl5 ra
  have t0 : wa.cell? ⟨w.heap.size + 1 + 1, 0, none⟩ = some (.i st):=rc.cell 0
  have z0 : wa.frozen? ⟨w.heap.size + 1 + 1, 0, none⟩ = false:=rc.frozen 0
  go_upto_region 14 with (fail)
  have rc' : RowAt (wa.setCell ⟨w.heap.size + 1 + 1, 0, none⟩ (.i 2)) (w.heap.size + 1 + 1) (Ac 2 ow sm br ma us ge ep ve) 59:=(rc.setc 0 (.i 2))
  have ra':=(setOther ra (p:=⟨w.heap.size + 1 + 1, 0, none⟩) (.i 2) (by simp; omega))
  have rb':=(setOther rb (p:=⟨w.heap.size + 1 + 1, 0, none⟩) (.i 2) (by simp))
  have hA':=(hA.setCell (p:=⟨w.heap.size + 1 + 1, 0, none⟩) (by simp; omega) (.i 2))
  clear hA ra rb rc a0 a1 a2 a3 a4 t0 z0
  generalize hwb : (wa.setCell ⟨w.heap.size + 1 + 1, 0, none⟩ (.i 2)) = wb at *
  clear hwb
  have hA:=hA'
  have ra:=ra'
  have rb:=rb'
  have rc:=rc'
  clear hA' ra' rb' rc'
  have hK : Kp wb (w.heap.size + 1) wb:=⟨Chg.refl _ _, zero9, rfl, rb⟩
  have hKd:=hK.drew
  have rA : ∀ w', Kp wb (w.heap.size + 1) w' → RowAt w' w.heap.size (Ac st ow sm br ma us ge ep ve) 59:=fun w' h => ra.chg h.1 (by simp)
  have rC : ∀ w', Kp wb (w.heap.size + 1) w' → RowAt w' (w.heap.size + 1 + 1) (Ac 2 ow sm br ma us ge ep ve) 59:=fun w' h => rc.chg h.1 (by simp)
  clear ra rb rc hK
  obtain ⟨l0, l2, l3, l4⟩:=rl4 rA
  refine wp_region_held_drew (S:=fun w' => Kp wb (w.heap.size + 1) w') (by kernel_rfl) (by exact hKd) (fun hHeld => ?_)
  refine tKw (gd:=none) 0 67 (.load 59 (.tmp 10)) (.agg (Ac 2 ow sm br ma us ge ep ve)) (run_load_row 59 (.tmp 10) (w.heap.size + 1 + 1) 59 (Ac 2 ow sm br ma us ge ep ve) _ (by kernel_rfl) Tryz.underlying59 rfl (by kernel_rfl) rC) hHeld ?_
  try simp only [Act.put, sA, sZ, sS]
  refine tKg 1 68 hHeld ?_
  try simp only [Act.put, sA, sZ, sS]
  refine tKg 2 69 hHeld ?_
  try simp only [Act.put, sA, sZ, sS]
  refine tKg 3 70 hHeld ?_
  try simp only [Act.put, sA, sZ, sS]
  refine tKg 4 71 hHeld ?_
  try simp only [Act.put, sA, sZ, sS]
  refine sKp 5 (some 72) hHeld ?_
  try simp only [Act.put, sA, sZ, sS]
  refine tKg 6 73 hHeld ?_
  try simp only [Act.put, sA, sZ, sS]
  refine tKg 7 74 hHeld ?_
  try simp only [Act.put, sA, sZ, sS]
  refine sKp 8 (some 75) hHeld ?_
  try simp only [Act.put, sA, sZ, sS]
  refine sKp 9 (some 76) hHeld ?_
  try simp only [Act.put, sA, sZ, sS]
  refine sKp 10 (some 77) hHeld ?_
  try simp only [Act.put, sA, sZ, sS]
  refine tKg 11 78 hHeld ?_
  try simp only [Act.put, sA, sZ, sS]
  obtain ⟨kp1, Z, kp2, kp3⟩:=hHeld
  refine ready_store_row (i:=12) (by kernel_rfl) 59 (.tmp 8) (.tmp 67) (by kernel_rfl) (w.heap.size + 1) _ _ (Ac 2 ow sm br ma us ge ep ve) (by kernel_rfl) (by kernel_rfl) kp3 kp2 (by kernel_rfl) (by kernel_rfl) (Kp.set ⟨kp1, Z, kp2, kp3⟩ ⟨2, ow, sm, br, ma, us, ge, ep, ve⟩) (fun hHeld2 => ?_)
  try simp only [Act.put, sA, sZ, sS]
  refine tKg 13 9 hHeld2 ?_
  try simp only [Act.put, sA, sZ, sS]
  refine wpAnyH_done (by kernel_rfl) ?_ _
  go_simp
  clear rA rC
  go_wp2_with fail
  refine bR2 (w.heap.size + 1) (Kp.row ⟨kp1, Z, kp2, kp3⟩ ⟨2, ow, sm, br, ma, us, ge, ep, ve⟩) Tryz.underlying59 ?_
  exact ⟨by rw [show row8 _ _ _ _ = _ from HR.out]; rfl, Kp.below hHeld2 hA (by omega)⟩
 have hq0 : (st == 3) = true:=by simpa using hp0
 clear hp0
 by_cases hp1 : ow = own
 rotate_left
 ·have hq1 : (ow == own) = false:=by simpa using hp1
  clear hp1
  have HR:=Lib.hid (HR.out.trans (congrArg (Prod.mk ((⟨2, ow, sm, br, ma, us, ge, ep, ve⟩) : S)) (show ((st == 3 && ow == own) && sm == 0) = (false) by first | (simp [hq0, hq1]; done) | (simp <;> intros <;> omega))))
  obtain ⟨hA, ra, rb, rc⟩:=boxes8 w st ow sm br ma us ge ep ve
  go_enter Tryz.func101, Tryz.ntmps101
  go_upto_region 3 with (fail)
  generalize (((w.alloc (.cells (Ac st ow sm br ma us ge ep ve) 59)).alloc (.cells zero9 59)).alloc (.cells (Ac st ow sm br ma us ge ep ve) 59)) = wa at *
  obtain ⟨a0, a1, a2, a3, a4⟩:=rl5 ra
  have t0 : wa.cell? ⟨w.heap.size + 1 + 1, 0, none⟩ = some (.i st):=rc.cell 0
  have z0 : wa.frozen? ⟨w.heap.size + 1 + 1, 0, none⟩ = false:=rc.frozen 0
  go_upto_region 14 with (fail)
  have rc' : RowAt (wa.setCell ⟨w.heap.size + 1 + 1, 0, none⟩ (.i 2)) (w.heap.size + 1 + 1) (Ac 2 ow sm br ma us ge ep ve) 59:=(rc.setc 0 (.i 2))
  have ra':=(setOther ra (p:=⟨w.heap.size + 1 + 1, 0, none⟩) (.i 2) (by simp; omega))
  have rb':=(setOther rb (p:=⟨w.heap.size + 1 + 1, 0, none⟩) (.i 2) (by simp))
  have hA':=(hA.setCell (p:=⟨w.heap.size + 1 + 1, 0, none⟩) (by simp; omega) (.i 2))
  clear hA ra rb rc a0 a1 a2 a3 a4 t0 z0
  generalize hwb : (wa.setCell ⟨w.heap.size + 1 + 1, 0, none⟩ (.i 2)) = wb at *
  clear hwb
  have hA:=hA'
  have ra:=ra'
  have rb:=rb'
  have rc:=rc'
  clear hA' ra' rb' rc'
  have hK : Kp wb (w.heap.size + 1) wb:=⟨Chg.refl _ _, zero9, rfl, rb⟩
  have hKd:=hK.drew
  have rA : ∀ w', Kp wb (w.heap.size + 1) w' → RowAt w' w.heap.size (Ac st ow sm br ma us ge ep ve) 59:=fun w' h => ra.chg h.1 (by simp)
  have rC : ∀ w', Kp wb (w.heap.size + 1) w' → RowAt w' (w.heap.size + 1 + 1) (Ac 2 ow sm br ma us ge ep ve) 59:=fun w' h => rc.chg h.1 (by simp)
  clear ra rb rc hK
  obtain ⟨l0, l2, l3, l4⟩:=rl4 rA
  refine wp_region_held_drew (S:=fun w' => Kp wb (w.heap.size + 1) w') (by kernel_rfl) (by exact hKd) (fun hHeld => ?_)
  refine tKw (gd:=none) 0 67 (.load 59 (.tmp 10)) (.agg (Ac 2 ow sm br ma us ge ep ve)) (run_load_row 59 (.tmp 10) (w.heap.size + 1 + 1) 59 (Ac 2 ow sm br ma us ge ep ve) _ (by kernel_rfl) Tryz.underlying59 rfl (by kernel_rfl) rC) hHeld ?_
  try simp only [Act.put, sA, sZ, sS]
  refine tKg 1 68 hHeld ?_
  try simp only [Act.put, sA, sZ, sS]
  refine tKg 2 69 hHeld ?_
  try simp only [Act.put, sA, sZ, sS]
  refine tKg 3 70 hHeld ?_
  try simp only [Act.put, sA, sZ, sS]
  refine tKg 4 71 hHeld ?_
  try simp only [Act.put, sA, sZ, sS]
  refine tKg 5 72 hHeld ?_
  try simp only [Act.put, sA, sZ, sS]
  refine tKg 6 73 hHeld ?_
  try simp only [Act.put, sA, sZ, sS]
  refine tKg 7 74 hHeld ?_
  try simp only [Act.put, sA, sZ, sS]
  refine sKp 8 (some 75) hHeld ?_
  try simp only [Act.put, sA, sZ, sS]
  refine sKp 9 (some 76) hHeld ?_
  try simp only [Act.put, sA, sZ, sS]
  refine sKp 10 (some 77) hHeld ?_
  try simp only [Act.put, sA, sZ, sS]
  refine tKg 11 78 hHeld ?_
  try simp only [Act.put, sA, sZ, sS]
  obtain ⟨kp1, Z, kp2, kp3⟩:=hHeld
  refine ready_store_row (i:=12) (by kernel_rfl) 59 (.tmp 8) (.tmp 67) (by kernel_rfl) (w.heap.size + 1) _ _ (Ac 2 ow sm br ma us ge ep ve) (by kernel_rfl) (by kernel_rfl) kp3 kp2 (by kernel_rfl) (by kernel_rfl) (Kp.set ⟨kp1, Z, kp2, kp3⟩ ⟨2, ow, sm, br, ma, us, ge, ep, ve⟩) (fun hHeld2 => ?_)
  try simp only [Act.put, sA, sZ, sS]
  refine tKg 13 9 hHeld2 ?_
  try simp only [Act.put, sA, sZ, sS]
  refine wpAnyH_done (by kernel_rfl) ?_ _
  go_simp
  clear rA rC
  go_wp2_with fail
  refine bR2 (w.heap.size + 1) (Kp.row ⟨kp1, Z, kp2, kp3⟩ ⟨2, ow, sm, br, ma, us, ge, ep, ve⟩) Tryz.underlying59 ?_
  exact ⟨by rw [show row8 _ _ _ _ = _ from HR.out]; rfl, Kp.below hHeld2 hA (by omega)⟩
 have hq1 : (ow == own) = true:=by simpa using hp1
 clear hp1
 have HR:=Lib.hid (HR.out.trans (congrArg (Prod.mk ((⟨2, ow, sm, br, ma, us, ge, ep, ve⟩) : S)) (show ((st == 3 && ow == own) && sm == 0) = (sm == 0) by first | (simp [hq0, hq1]; done) | (simp <;> intros <;> omega))))
 obtain ⟨hA, ra, rb, rc⟩:=boxes8 w st ow sm br ma us ge ep ve
 go_enter Tryz.func101, Tryz.ntmps101
 go_upto_region 3 with (fail)
 generalize (((w.alloc (.cells (Ac st ow sm br ma us ge ep ve) 59)).alloc (.cells zero9 59)).alloc (.cells (Ac st ow sm br ma us ge ep ve) 59)) = wa at *
 obtain ⟨a0, a1, a2, a3, a4⟩:=rl5 ra
 have t0 : wa.cell? ⟨w.heap.size + 1 + 1, 0, none⟩ = some (.i st):=rc.cell 0
 have z0 : wa.frozen? ⟨w.heap.size + 1 + 1, 0, none⟩ = false:=rc.frozen 0
 go_upto_region 14 with (fail)
 have rc' : RowAt (wa.setCell ⟨w.heap.size + 1 + 1, 0, none⟩ (.i 2)) (w.heap.size + 1 + 1) (Ac 2 ow sm br ma us ge ep ve) 59:=(rc.setc 0 (.i 2))
 have ra':=(setOther ra (p:=⟨w.heap.size + 1 + 1, 0, none⟩) (.i 2) (by simp; omega))
 have rb':=(setOther rb (p:=⟨w.heap.size + 1 + 1, 0, none⟩) (.i 2) (by simp))
 have hA':=(hA.setCell (p:=⟨w.heap.size + 1 + 1, 0, none⟩) (by simp; omega) (.i 2))
 clear hA ra rb rc a0 a1 a2 a3 a4 t0 z0
 generalize hwb : (wa.setCell ⟨w.heap.size + 1 + 1, 0, none⟩ (.i 2)) = wb at *
 clear hwb
 have hA:=hA'
 have ra:=ra'
 have rb:=rb'
 have rc:=rc'
 clear hA' ra' rb' rc'
 have hK : Kp wb (w.heap.size + 1) wb:=⟨Chg.refl _ _, zero9, rfl, rb⟩
 have hKd:=hK.drew
 have rA : ∀ w', Kp wb (w.heap.size + 1) w' → RowAt w' w.heap.size (Ac st ow sm br ma us ge ep ve) 59:=fun w' h => ra.chg h.1 (by simp)
 have rC : ∀ w', Kp wb (w.heap.size + 1) w' → RowAt w' (w.heap.size + 1 + 1) (Ac 2 ow sm br ma us ge ep ve) 59:=fun w' h => rc.chg h.1 (by simp)
 clear ra rb rc hK
 obtain ⟨l0, l2, l3, l4⟩:=rl4 rA
 refine wp_region_held_drew (S:=fun w' => Kp wb (w.heap.size + 1) w') (by kernel_rfl) (by exact hKd) (fun hHeld => ?_)
 refine tKw (gd:=none) 0 67 (.load 59 (.tmp 10)) (.agg (Ac 2 ow sm br ma us ge ep ve)) (run_load_row 59 (.tmp 10) (w.heap.size + 1 + 1) 59 (Ac 2 ow sm br ma us ge ep ve) _ (by kernel_rfl) Tryz.underlying59 rfl (by kernel_rfl) rC) hHeld ?_
 try simp only [Act.put, sA, sZ, sS]
 refine tKg 1 68 hHeld ?_
 try simp only [Act.put, sA, sZ, sS]
 refine tKg 2 69 hHeld ?_
 try simp only [Act.put, sA, sZ, sS]
 refine tKg 3 70 hHeld ?_
 try simp only [Act.put, sA, sZ, sS]
 refine tKg 4 71 hHeld ?_
 try simp only [Act.put, sA, sZ, sS]
 refine tKg 5 72 hHeld ?_
 try simp only [Act.put, sA, sZ, sS]
 refine tKg 6 73 hHeld ?_
 try simp only [Act.put, sA, sZ, sS]
 refine tKg 7 74 hHeld ?_
 try simp only [Act.put, sA, sZ, sS]
 refine tKg 8 75 hHeld ?_
 try simp only [Act.put, sA, sZ, sS]
 refine tKg 9 76 hHeld ?_
 try simp only [Act.put, sA, sZ, sS]
 refine tKg 10 77 hHeld ?_
 try simp only [Act.put, sA, sZ, sS]
 refine tKg 11 78 hHeld ?_
 try simp only [Act.put, sA, sZ, sS]
 obtain ⟨kp1, Z, kp2, kp3⟩:=hHeld
 refine ready_store_row (i:=12) (by kernel_rfl) 59 (.tmp 8) (.tmp 67) (by kernel_rfl) (w.heap.size + 1) _ _ (Ac 2 ow sm br ma us ge ep ve) (by kernel_rfl) (by kernel_rfl) kp3 kp2 (by kernel_rfl) (by kernel_rfl) (Kp.set ⟨kp1, Z, kp2, kp3⟩ ⟨2, ow, sm, br, ma, us, ge, ep, ve⟩) (fun hHeld2 => ?_)
 try simp only [Act.put, sA, sZ, sS]
 refine tKg 13 9 hHeld2 ?_
 try simp only [Act.put, sA, sZ, sS]
 refine wpAnyH_done (by kernel_rfl) ?_ _
 go_simp
 clear rA rC
 go_wp2_with fail
 refine bR2 (w.heap.size + 1) (Kp.row ⟨kp1, Z, kp2, kp3⟩ ⟨2, ow, sm, br, ma, us, ge, ep, ve⟩) Tryz.underlying59 ?_
 exact ⟨by rw [show row8 _ _ _ _ = _ from HR.out]; rfl, Kp.below hHeld2 hA (by omega)⟩
end Go.Proofs.YtpmkgddjgebojaaGreatDoor.R8
