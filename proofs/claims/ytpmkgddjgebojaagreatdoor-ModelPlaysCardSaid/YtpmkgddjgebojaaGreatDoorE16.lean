/- Part 16 of the walks and plain laws that the last text joins. -/
import Derived.Test.YtpmkgddjgebojaaGreatDoorE6
set_option maxRecDepth 100000
set_option maxHeartbeats 16000000
set_option linter.unusedVariables false
set_option linter.unusedSimpArgs false
namespace Go.Proofs.YtpmkgddjgebojaaGreatDoor.R8
open Go.RowKit Hp Slot RowL Life
theorem row0_any (w : World) (s : S) (own more : Int) (hr : s.right = true) : Calls Tryz.prog 101 #[s.val, .i 0, .i own, .i more] w fun e w' => e = .returned (.tuple #[(row8 0 s own more).1.val, .bool (row8 0 s own more).2]) ∧ Below w.heap.size w w':=by
 have hrb:=right_bounds hr
 obtain ⟨st, ow, sm, br, ma, us, ge, ep, ve⟩:=s
 have hR : row8 0 ⟨st, ow, sm, br, ma, us, ge, ep, ve⟩ own more = (plainS ⟨st, ow, sm, br, ma, us, ge, ep, ve⟩ 1 own, st == 0):=rfl
 have HR:=Lib.hid hR
 have HB:=Lib.hid hrb
 clear hR hrb hr
 simp only [S.val, S.cells]
 obtain ⟨hA, ra, rb, rc⟩:=boxes8 w st ow sm br ma us ge ep ve
 go_enter Tryz.func101, Tryz.ntmps101
 go_upto_region 3 with (fail)
 generalize (((w.alloc (.cells (Ac st ow sm br ma us ge ep ve) 59)).alloc (.cells zero9 59)).alloc (.cells (Ac st ow sm br ma us ge ep ve) 59)) = wa at *
 obtain ⟨a0, a1, a2, a3, a4⟩:=rl5 ra
 go_upto_region 5 with (fail)
 clear a0 a1 a2 a3 a4
 generalize wa = wb at *
 have hK : Kp wb (w.heap.size + 1) wb:=⟨Chg.refl _ _, zero9, rfl, rb⟩
 have hKd:=hK.drew
 have rA : ∀ w', Kp wb (w.heap.size + 1) w' → RowAt w' w.heap.size (Ac st ow sm br ma us ge ep ve) 59:=fun w' h => ra.chg h.1 (by simp)
 have rC : ∀ w', Kp wb (w.heap.size + 1) w' → RowAt w' (w.heap.size + 1 + 1) (Ac st ow sm br ma us ge ep ve) 59:=fun w' h => rc.chg h.1 (by simp)
 clear ra rb rc hK
 obtain ⟨l0, l2, l3, l4⟩:=rl4 rA
 refine wp_region_held_drew (S:=fun w' => Kp wb (w.heap.size + 1) w') (by kernel_rfl) (by exact hKd) (fun hHeld => ?_)
 refine tKw (gd:=none) 0 22 (.load 59 (.tmp 4)) (.agg (Ac st ow sm br ma us ge ep ve)) (run_load_row 59 (.tmp 4) (w.heap.size) 59 (Ac st ow sm br ma us ge ep ve) _ (by kernel_rfl) Tryz.underlying59 rfl (by kernel_rfl) rA) hHeld ?_
 try simp only [Act.put, sA, sZ, sS]
 refine tKg 1 23 hHeld ?_
 try simp only [Act.put, sA, sZ, sS]
 refine tKg 3 25 hHeld ?_
 try simp only [Act.put, sA, sZ, sS]
 refine tKg 4 26 hHeld ?_
 try simp only [Act.put, sA, sZ, sS]
 refine tKg 5 27 hHeld ?_
 try simp only [Act.put, sA, sZ, sS]
 refine rKc (i:=2) 107 #[.tmp 22, (.const (.i 1)), .tmp 23] #[59, 3, 3] (some 24) (none) #[.agg (Ac st ow sm br ma us ge ep ve), .i 1, .i own] (enters_of Tryz.func107 (by kernel_rfl) rfl) ?_
 refine (plain_any _ ⟨st, ow, sm, br, ma, us, ge, ep, ve⟩ 1 own).mono ?_
 rintro e w6 ⟨rfl, hb6⟩
 refine ⟨_, rfl, hHeld.later hb6, fun hHeld2 => ?_⟩
 try simp only [Act.put, sA, sZ, sS]
 obtain ⟨kp1, Z, kp2, kp3⟩:=hHeld2
 refine ready_store_row (i:=6) (by kernel_rfl) 59 (.tmp 8) (.tmp 24) (by kernel_rfl) (w.heap.size + 1) _ _ (Ac 1 own 0 false false 0 ge 0 ve) (by kernel_rfl) (by kernel_rfl) kp3 kp2 (by kernel_rfl) (by kernel_rfl) (Kp.set ⟨kp1, Z, kp2, kp3⟩ ⟨1, own, 0, false, false, 0, ge, 0, ve⟩) (fun hHeld3 => ?_)
 try simp only [Act.put, sA, sZ, sS]
 refine tKg 7 9 hHeld3 ?_
 try simp only [Act.put, sA, sZ, sS]
 refine wpAnyH_done (by kernel_rfl) ?_ _
 go_simp
 clear rA rC
 go_wp2_with fail
 refine bR2 (w.heap.size + 1) (Kp.row ⟨kp1, Z, kp2, kp3⟩ ⟨1, own, 0, false, false, 0, ge, 0, ve⟩) Tryz.underlying59 ?_
 exact ⟨by rw [show row8 _ _ _ _ = _ from HR.out]; rfl, Kp.below hHeld3 hA (by omega)⟩
theorem row7_any (w : World) (s : S) (own more : Int) (hr : s.right = true) : Calls Tryz.prog 101 #[s.val, .i 7, .i own, .i more] w fun e w' => e = .returned (.tuple #[(row8 7 s own more).1.val, .bool (row8 7 s own more).2]) ∧ Below w.heap.size w w':=by
 have hrb:=right_bounds hr
 obtain ⟨st, ow, sm, br, ma, us, ge, ep, ve⟩:=s
 have hR : row8 7 ⟨st, ow, sm, br, ma, us, ge, ep, ve⟩ own more = (plainS ⟨st, ow, sm, br, ma, us, ge, ep, ve⟩ 5 own, st == 0):=rfl
 have HR:=Lib.hid hR
 have HB:=Lib.hid hrb
 clear hR hrb hr
 simp only [S.val, S.cells]
 obtain ⟨hA, ra, rb, rc⟩:=boxes8 w st ow sm br ma us ge ep ve
 go_enter Tryz.func101, Tryz.ntmps101
 go_upto_region 3 with (fail)
 generalize (((w.alloc (.cells (Ac st ow sm br ma us ge ep ve) 59)).alloc (.cells zero9 59)).alloc (.cells (Ac st ow sm br ma us ge ep ve) 59)) = wa at *
 obtain ⟨a0, a1, a2, a3, a4⟩:=rl5 ra
 go_upto_region 25 with (fail)
 clear a0 a1 a2 a3 a4
 generalize wa = wb at *
 have hK : Kp wb (w.heap.size + 1) wb:=⟨Chg.refl _ _, zero9, rfl, rb⟩
 have hKd:=hK.drew
 have rA : ∀ w', Kp wb (w.heap.size + 1) w' → RowAt w' w.heap.size (Ac st ow sm br ma us ge ep ve) 59:=fun w' h => ra.chg h.1 (by simp)
 have rC : ∀ w', Kp wb (w.heap.size + 1) w' → RowAt w' (w.heap.size + 1 + 1) (Ac st ow sm br ma us ge ep ve) 59:=fun w' h => rc.chg h.1 (by simp)
 clear ra rb rc hK
 obtain ⟨l0, l2, l3, l4⟩:=rl4 rA
 refine wp_region_held_drew (S:=fun w' => Kp wb (w.heap.size + 1) w') (by kernel_rfl) (by exact hKd) (fun hHeld => ?_)
 refine tKw (gd:=none) 0 105 (.load 59 (.tmp 4)) (.agg (Ac st ow sm br ma us ge ep ve)) (run_load_row 59 (.tmp 4) (w.heap.size) 59 (Ac st ow sm br ma us ge ep ve) _ (by kernel_rfl) Tryz.underlying59 rfl (by kernel_rfl) rA) hHeld ?_
 try simp only [Act.put, sA, sZ, sS]
 refine tKg 1 106 hHeld ?_
 try simp only [Act.put, sA, sZ, sS]
 refine tKg 3 108 hHeld ?_
 try simp only [Act.put, sA, sZ, sS]
 refine tKg 4 109 hHeld ?_
 try simp only [Act.put, sA, sZ, sS]
 refine tKg 5 110 hHeld ?_
 try simp only [Act.put, sA, sZ, sS]
 refine rKc (i:=2) 107 #[.tmp 105, (.const (.i 5)), .tmp 106] #[59, 3, 3] (some 107) (none) #[.agg (Ac st ow sm br ma us ge ep ve), .i 5, .i own] (enters_of Tryz.func107 (by kernel_rfl) rfl) ?_
 refine (plain_any _ ⟨st, ow, sm, br, ma, us, ge, ep, ve⟩ 5 own).mono ?_
 rintro e w6 ⟨rfl, hb6⟩
 refine ⟨_, rfl, hHeld.later hb6, fun hHeld2 => ?_⟩
 try simp only [Act.put, sA, sZ, sS]
 obtain ⟨kp1, Z, kp2, kp3⟩:=hHeld2
 refine ready_store_row (i:=6) (by kernel_rfl) 59 (.tmp 8) (.tmp 107) (by kernel_rfl) (w.heap.size + 1) _ _ (Ac 5 own 0 false false 0 ge 0 ve) (by kernel_rfl) (by kernel_rfl) kp3 kp2 (by kernel_rfl) (by kernel_rfl) (Kp.set ⟨kp1, Z, kp2, kp3⟩ ⟨5, own, 0, false, false, 0, ge, 0, ve⟩) (fun hHeld3 => ?_)
 try simp only [Act.put, sA, sZ, sS]
 refine tKg 7 9 hHeld3 ?_
 try simp only [Act.put, sA, sZ, sS]
 refine wpAnyH_done (by kernel_rfl) ?_ _
 go_simp
 clear rA rC
 go_wp2_with fail
 refine bR2 (w.heap.size + 1) (Kp.row ⟨kp1, Z, kp2, kp3⟩ ⟨5, own, 0, false, false, 0, ge, 0, ve⟩) Tryz.underlying59 ?_
 exact ⟨by rw [show row8 _ _ _ _ = _ from HR.out]; rfl, Kp.below hHeld3 hA (by omega)⟩
theorem row9_any (w : World) (s : S) (own more : Int) (hr : s.right = true) : Calls Tryz.prog 101 #[s.val, .i 9, .i own, .i more] w fun e w' => e = .returned (.tuple #[(row8 9 s own more).1.val, .bool (row8 9 s own more).2]) ∧ Below w.heap.size w w':=by
 have hrb:=right_bounds hr
 obtain ⟨st, ow, sm, br, ma, us, ge, ep, ve⟩:=s
 have hR : row8 9 ⟨st, ow, sm, br, ma, us, ge, ep, ve⟩ own more = (⟨st, own, sm, br, ma, us, ge, ep, ve⟩, st == 2):=rfl
 have HR:=Lib.hid hR
 have HB:=Lib.hid hrb
 clear hR hrb hr
 simp only [S.val, S.cells]
 obtain ⟨hA, ra, rb, rc⟩:=boxes8 w st ow sm br ma us ge ep ve
 go_enter Tryz.func101, Tryz.ntmps101
 go_upto_region 3 with (fail)
 generalize (((w.alloc (.cells (Ac st ow sm br ma us ge ep ve) 59)).alloc (.cells zero9 59)).alloc (.cells (Ac st ow sm br ma us ge ep ve) 59)) = wa at *
 obtain ⟨a0, a1, a2, a3, a4⟩:=rl5 ra
 have t1 : wa.cell? ⟨w.heap.size + 1 + 1, 1, none⟩ = some (.i ow):=rc.cell 1
 have z1 : wa.frozen? ⟨w.heap.size + 1 + 1, 1, none⟩ = false:=rc.frozen 1
 go_upto_region 30 with (fail)
 have rc' : RowAt (wa.setCell ⟨w.heap.size + 1 + 1, 1, none⟩ (.i own)) (w.heap.size + 1 + 1) (Ac st own sm br ma us ge ep ve) 59:=(rc.setc 1 (.i own))
 have ra':=(setOther ra (p:=⟨w.heap.size + 1 + 1, 1, none⟩) (.i own) (by simp; omega))
 have rb':=(setOther rb (p:=⟨w.heap.size + 1 + 1, 1, none⟩) (.i own) (by simp))
 have hA':=(hA.setCell (p:=⟨w.heap.size + 1 + 1, 1, none⟩) (by simp; omega) (.i own))
 clear hA ra rb rc a0 a1 a2 a3 a4 t1 z1
 generalize hwb : (wa.setCell ⟨w.heap.size + 1 + 1, 1, none⟩ (.i own)) = wb at *
 clear hwb
 have hA:=hA'
 have ra:=ra'
 have rb:=rb'
 have rc:=rc'
 clear hA' ra' rb' rc'
 have hK : Kp wb (w.heap.size + 1) wb:=⟨Chg.refl _ _, zero9, rfl, rb⟩
 have hKd:=hK.drew
 have rA : ∀ w', Kp wb (w.heap.size + 1) w' → RowAt w' w.heap.size (Ac st ow sm br ma us ge ep ve) 59:=fun w' h => ra.chg h.1 (by simp)
 have rC : ∀ w', Kp wb (w.heap.size + 1) w' → RowAt w' (w.heap.size + 1 + 1) (Ac st own sm br ma us ge ep ve) 59:=fun w' h => rc.chg h.1 (by simp)
 clear ra rb rc hK
 obtain ⟨l0, l2, l3, l4⟩:=rl4 rA
 refine wp_region_held_drew (S:=fun w' => Kp wb (w.heap.size + 1) w') (by kernel_rfl) (by exact hKd) (fun hHeld => ?_)
 refine tKw (gd:=none) 0 122 (.load 59 (.tmp 10)) (.agg (Ac st own sm br ma us ge ep ve)) (run_load_row 59 (.tmp 10) (w.heap.size + 1 + 1) 59 (Ac st own sm br ma us ge ep ve) _ (by kernel_rfl) Tryz.underlying59 rfl (by kernel_rfl) rC) hHeld ?_
 try simp only [Act.put, sA, sZ, sS]
 refine tKg 1 123 hHeld ?_
 try simp only [Act.put, sA, sZ, sS]
 refine tKg 2 124 hHeld ?_
 try simp only [Act.put, sA, sZ, sS]
 refine tKg 3 125 hHeld ?_
 try simp only [Act.put, sA, sZ, sS]
 obtain ⟨kp1, Z, kp2, kp3⟩:=hHeld
 refine ready_store_row (i:=4) (by kernel_rfl) 59 (.tmp 8) (.tmp 122) (by kernel_rfl) (w.heap.size + 1) _ _ (Ac st own sm br ma us ge ep ve) (by kernel_rfl) (by kernel_rfl) kp3 kp2 (by kernel_rfl) (by kernel_rfl) (Kp.set ⟨kp1, Z, kp2, kp3⟩ ⟨st, own, sm, br, ma, us, ge, ep, ve⟩) (fun hHeld2 => ?_)
 try simp only [Act.put, sA, sZ, sS]
 refine tKg 5 9 hHeld2 ?_
 try simp only [Act.put, sA, sZ, sS]
 refine wpAnyH_done (by kernel_rfl) ?_ _
 go_simp
 clear rA rC
 go_wp2_with fail
 refine bR2 (w.heap.size + 1) (Kp.row ⟨kp1, Z, kp2, kp3⟩ ⟨st, own, sm, br, ma, us, ge, ep, ve⟩) Tryz.underlying59 ?_
 exact ⟨by rw [show row8 _ _ _ _ = _ from HR.out]; rfl, Kp.below hHeld2 hA (by omega)⟩
theorem row10_any (w : World) (s : S) (own more : Int) (hr : s.right = true) : Calls Tryz.prog 101 #[s.val, .i 10, .i own, .i more] w fun e w' => e = .returned (.tuple #[(row8 10 s own more).1.val, .bool (row8 10 s own more).2]) ∧ Below w.heap.size w w':=by
 have hrb:=right_bounds hr
 obtain ⟨st, ow, sm, br, ma, us, ge, ep, ve⟩:=s
 have hR : row8 10 ⟨st, ow, sm, br, ma, us, ge, ep, ve⟩ own more = (⟨st, ow, sm, br, true, us, ge, ep, ve⟩, st == 2 && !ma):=rfl
 have HR:=Lib.hid hR
 have HB:=Lib.hid hrb
 clear hR hrb hr
 simp only [S.val, S.cells]
 by_cases hp0 : st = 2
 rotate_left
 ·have hq0 : (st == 2) = false:=by simpa using hp0
  clear hp0
  have HR:=Lib.hid (HR.out.trans (congrArg (Prod.mk ((⟨st, ow, sm, br, true, us, ge, ep, ve⟩) : S)) (show (st == 2 && !ma) = (false) by first | (simp [hq0]; done) | (simp <;> intros <;> omega))))
  obtain ⟨hA, ra, rb, rc⟩:=boxes8 w st ow sm br ma us ge ep ve
  go_enter Tryz.func101, Tryz.ntmps101
  go_upto_region 3 with (fail)
  generalize (((w.alloc (.cells (Ac st ow sm br ma us ge ep ve) 59)).alloc (.cells zero9 59)).alloc (.cells (Ac st ow sm br ma us ge ep ve) 59)) = wa at *
  obtain ⟨a0, a1, a2, a3, a4⟩:=rl5 ra
  have t4 : wa.cell? ⟨w.heap.size + 1 + 1, 4, none⟩ = some (.bool ma):=rc.cell 4
  have z4 : wa.frozen? ⟨w.heap.size + 1 + 1, 4, none⟩ = false:=rc.frozen 4
  go_upto_region 33 with (fail)
  have rc' : RowAt (wa.setCell ⟨w.heap.size + 1 + 1, 4, none⟩ (.bool true)) (w.heap.size + 1 + 1) (Ac st ow sm br true us ge ep ve) 59:=(rc.setc 4 (.bool true))
  have ra':=(setOther ra (p:=⟨w.heap.size + 1 + 1, 4, none⟩) (.bool true) (by simp; omega))
  have rb':=(setOther rb (p:=⟨w.heap.size + 1 + 1, 4, none⟩) (.bool true) (by simp))
  have hA':=(hA.setCell (p:=⟨w.heap.size + 1 + 1, 4, none⟩) (by simp; omega) (.bool true))
  clear hA ra rb rc a0 a1 a2 a3 a4 t4 z4
  generalize hwb : (wa.setCell ⟨w.heap.size + 1 + 1, 4, none⟩ (.bool true)) = wb at *
  clear hwb
  have hA:=hA'
  have ra:=ra'
  have rb:=rb'
  have rc:=rc'
  clear hA' ra' rb' rc'
  have hK : Kp wb (w.heap.size + 1) wb:=⟨Chg.refl _ _, zero9, rfl, rb⟩
  have hKd:=hK.drew
  have rA : ∀ w', Kp wb (w.heap.size + 1) w' → RowAt w' w.heap.size (Ac st ow sm br ma us ge ep ve) 59:=fun w' h => ra.chg h.1 (by simp)
  have rC : ∀ w', Kp wb (w.heap.size + 1) w' → RowAt w' (w.heap.size + 1 + 1) (Ac st ow sm br true us ge ep ve) 59:=fun w' h => rc.chg h.1 (by simp)
  clear ra rb rc hK
  obtain ⟨l0, l2, l3, l4⟩:=rl4 rA
  refine wp_region_held_drew (S:=fun w' => Kp wb (w.heap.size + 1) w') (by kernel_rfl) (by exact hKd) (fun hHeld => ?_)
  refine tKw (gd:=none) 0 129 (.load 59 (.tmp 10)) (.agg (Ac st ow sm br true us ge ep ve)) (run_load_row 59 (.tmp 10) (w.heap.size + 1 + 1) 59 (Ac st ow sm br true us ge ep ve) _ (by kernel_rfl) Tryz.underlying59 rfl (by kernel_rfl) rC) hHeld ?_
  try simp only [Act.put, sA, sZ, sS]
  refine tKg 1 130 hHeld ?_
  try simp only [Act.put, sA, sZ, sS]
  refine tKg 2 131 hHeld ?_
  try simp only [Act.put, sA, sZ, sS]
  refine tKg 3 132 hHeld ?_
  try simp only [Act.put, sA, sZ, sS]
  refine tKg 4 133 hHeld ?_
  try simp only [Act.put, sA, sZ, sS]
  refine sKp 5 (some 134) hHeld ?_
  try simp only [Act.put, sA, sZ, sS]
  refine sKp 6 (some 135) hHeld ?_
  try simp only [Act.put, sA, sZ, sS]
  refine sKp 7 (some 136) hHeld ?_
  try simp only [Act.put, sA, sZ, sS]
  refine tKg 8 137 hHeld ?_
  try simp only [Act.put, sA, sZ, sS]
  obtain ⟨kp1, Z, kp2, kp3⟩:=hHeld
  refine ready_store_row (i:=9) (by kernel_rfl) 59 (.tmp 8) (.tmp 129) (by kernel_rfl) (w.heap.size + 1) _ _ (Ac st ow sm br true us ge ep ve) (by kernel_rfl) (by kernel_rfl) kp3 kp2 (by kernel_rfl) (by kernel_rfl) (Kp.set ⟨kp1, Z, kp2, kp3⟩ ⟨st, ow, sm, br, true, us, ge, ep, ve⟩) (fun hHeld2 => ?_)
  try simp only [Act.put, sA, sZ, sS]
  refine tKg 10 9 hHeld2 ?_
  try simp only [Act.put, sA, sZ, sS]
  refine wpAnyH_done (by kernel_rfl) ?_ _
  go_simp
  clear rA rC
  go_wp2_with fail
  refine bR2 (w.heap.size + 1) (Kp.row ⟨kp1, Z, kp2, kp3⟩ ⟨st, ow, sm, br, true, us, ge, ep, ve⟩) Tryz.underlying59 ?_
  exact ⟨by rw [show row8 _ _ _ _ = _ from HR.out]; rfl, Kp.below hHeld2 hA (by omega)⟩
 have hq0 : (st == 2) = true:=by simpa using hp0
 clear hp0
 have HR:=Lib.hid (HR.out.trans (congrArg (Prod.mk ((⟨st, ow, sm, br, true, us, ge, ep, ve⟩) : S)) (show (st == 2 && !ma) = (!ma) by first | (simp [hq0]; done) | (simp <;> intros <;> omega))))
 obtain ⟨hA, ra, rb, rc⟩:=boxes8 w st ow sm br ma us ge ep ve
 go_enter Tryz.func101, Tryz.ntmps101
 go_upto_region 3 with (fail)
 generalize (((w.alloc (.cells (Ac st ow sm br ma us ge ep ve) 59)).alloc (.cells zero9 59)).alloc (.cells (Ac st ow sm br ma us ge ep ve) 59)) = wa at *
 obtain ⟨a0, a1, a2, a3, a4⟩:=rl5 ra
 have t4 : wa.cell? ⟨w.heap.size + 1 + 1, 4, none⟩ = some (.bool ma):=rc.cell 4
 have z4 : wa.frozen? ⟨w.heap.size + 1 + 1, 4, none⟩ = false:=rc.frozen 4
 go_upto_region 33 with (fail)
 have rc' : RowAt (wa.setCell ⟨w.heap.size + 1 + 1, 4, none⟩ (.bool true)) (w.heap.size + 1 + 1) (Ac st ow sm br true us ge ep ve) 59:=(rc.setc 4 (.bool true))
 have ra':=(setOther ra (p:=⟨w.heap.size + 1 + 1, 4, none⟩) (.bool true) (by simp; omega))
 have rb':=(setOther rb (p:=⟨w.heap.size + 1 + 1, 4, none⟩) (.bool true) (by simp))
 have hA':=(hA.setCell (p:=⟨w.heap.size + 1 + 1, 4, none⟩) (by simp; omega) (.bool true))
 clear hA ra rb rc a0 a1 a2 a3 a4 t4 z4
 generalize hwb : (wa.setCell ⟨w.heap.size + 1 + 1, 4, none⟩ (.bool true)) = wb at *
 clear hwb
 have hA:=hA'
 have ra:=ra'
 have rb:=rb'
 have rc:=rc'
 clear hA' ra' rb' rc'
 have hK : Kp wb (w.heap.size + 1) wb:=⟨Chg.refl _ _, zero9, rfl, rb⟩
 have hKd:=hK.drew
 have rA : ∀ w', Kp wb (w.heap.size + 1) w' → RowAt w' w.heap.size (Ac st ow sm br ma us ge ep ve) 59:=fun w' h => ra.chg h.1 (by simp)
 have rC : ∀ w', Kp wb (w.heap.size + 1) w' → RowAt w' (w.heap.size + 1 + 1) (Ac st ow sm br true us ge ep ve) 59:=fun w' h => rc.chg h.1 (by simp)
 clear ra rb rc hK
 obtain ⟨l0, l2, l3, l4⟩:=rl4 rA
 refine wp_region_held_drew (S:=fun w' => Kp wb (w.heap.size + 1) w') (by kernel_rfl) (by exact hKd) (fun hHeld => ?_)
 refine tKw (gd:=none) 0 129 (.load 59 (.tmp 10)) (.agg (Ac st ow sm br true us ge ep ve)) (run_load_row 59 (.tmp 10) (w.heap.size + 1 + 1) 59 (Ac st ow sm br true us ge ep ve) _ (by kernel_rfl) Tryz.underlying59 rfl (by kernel_rfl) rC) hHeld ?_
 try simp only [Act.put, sA, sZ, sS]
 refine tKg 1 130 hHeld ?_
 try simp only [Act.put, sA, sZ, sS]
 refine tKg 2 131 hHeld ?_
 try simp only [Act.put, sA, sZ, sS]
 refine tKg 3 132 hHeld ?_
 try simp only [Act.put, sA, sZ, sS]
 refine tKg 4 133 hHeld ?_
 try simp only [Act.put, sA, sZ, sS]
 refine tKg 5 134 hHeld ?_
 try simp only [Act.put, sA, sZ, sS]
 refine tKg 6 135 hHeld ?_
 try simp only [Act.put, sA, sZ, sS]
 refine tKg 7 136 hHeld ?_
 try simp only [Act.put, sA, sZ, sS]
 refine tKg 8 137 hHeld ?_
 try simp only [Act.put, sA, sZ, sS]
 obtain ⟨kp1, Z, kp2, kp3⟩:=hHeld
 refine ready_store_row (i:=9) (by kernel_rfl) 59 (.tmp 8) (.tmp 129) (by kernel_rfl) (w.heap.size + 1) _ _ (Ac st ow sm br true us ge ep ve) (by kernel_rfl) (by kernel_rfl) kp3 kp2 (by kernel_rfl) (by kernel_rfl) (Kp.set ⟨kp1, Z, kp2, kp3⟩ ⟨st, ow, sm, br, true, us, ge, ep, ve⟩) (fun hHeld2 => ?_)
 try simp only [Act.put, sA, sZ, sS]
 refine tKg 10 9 hHeld2 ?_
 try simp only [Act.put, sA, sZ, sS]
 refine wpAnyH_done (by kernel_rfl) ?_ _
 go_simp
 clear rA rC
 go_wp2_with fail
 refine bR2 (w.heap.size + 1) (Kp.row ⟨kp1, Z, kp2, kp3⟩ ⟨st, ow, sm, br, true, us, ge, ep, ve⟩) Tryz.underlying59 ?_
 exact ⟨by rw [show row8 _ _ _ _ = _ from HR.out]; rfl, Kp.below hHeld2 hA (by omega)⟩
end Go.Proofs.YtpmkgddjgebojaaGreatDoor.R8
namespace Go.Proofs.YtpmkgddjgebojaaGreatDoor.Mod
open Go.RowKit Hp Slot RowL Life
theorem drewN_two (w : World) (a b : Nat) : (w.drewN a).drewN b = w.drewN (a + b):=by simp [World.drewN, Nat.add_assoc]
theorem same_any (w : World) (s1 s2 n1 n2 c1 c2 : Nat) (l1 l2 : List S) (h1 : SlotsAt w s1 l1) (h2 : SlotsAt w s2 l2) (e1 : l1.length = n1) (e2 : l2.length = n2) (m1 : n1 ≤ 1000) (m2 : n2 ≤ 1000) :
  Calls Tryz.prog 29 #[.slice (some ⟨s1, 0, none⟩) n1 c1, .slice (some ⟨s2, 0, none⟩) n2 c2] w fun e w' => e = .returned (.bool (decide (l1 = l2))) ∧ ∃ n, w' = w.drewN n:=by
 by_cases hl : n1 = n2
 ·subst hl
  have hl' : ((n1 : Int) != (n1 : Int)) = false:=by simp
  have E1:=Lib.hid e1
  have E2:=Lib.hid e2
  clear e1 e2
  go_enter Tryz.func29, Tryz.ntmps29
  go_wp2
  go_loopw [5] (fun i wr => ∃ k : Nat, k ≤ n1 ∧ i = .i k ∧ RowKit.Hid (l1.take k = l2.take k) ∧ ∃ n, wr = w.drewN n) (fun i _ => n1 - (intOf i).toNat)
  case atStart => exact ⟨0, by omega, rfl, by show l1.take 0 = l2.take 0; simp, 0, rfl⟩
  case round =>
   obtain ⟨k, hk, rfl, ht, n, rfl⟩:=hrel
   by_cases hlt : k < n1
   ·obtain ⟨x, hx⟩ : ∃ x, l1[k]? = some x:=⟨_, List.getElem?_eq_getElem (by have:=E1.out; omega)⟩
    obtain ⟨y, hy⟩ : ∃ y, l2[k]? = some y:=⟨_, List.getElem?_eq_getElem (by have:=E2.out; omega)⟩
    obtain ⟨a0, a1, a2, a3, a4, a5, a6, a7, a8⟩:=h1.get hx
    obtain ⟨b0, b1, b2, b3, b4, b5, b6, b7, b8⟩:=h2.get hy
    have k0 : (0 : Int) ≤ (k : Int):=by omega
    have k1 : (k : Int) < (n1 : Int):=by omega
    have k2 : (k : Int) ≤ (n1 : Int) - 1:=by omega
    have Hx:=Lib.hid hx
    have Hy:=Lib.hid hy
    clear hx hy
    have hq:=fun W => eq_slot W x.state x.own x.streams x.broken x.marked x.uses x.gen x.epoch x.version y.state y.own y.streams y.broken y.marked y.uses y.gen y.epoch y.version
    by_cases hxy : x = y
    ·have hd : decide ((⟨x.state, x.own, x.streams, x.broken, x.marked, x.uses, x.gen, x.epoch, x.version⟩ : S) = ⟨y.state, y.own, y.streams, y.broken, y.marked, y.uses, y.gen, y.epoch, y.version⟩) = true:=decide_eq_true hxy
     rw [hd] at hq
     have HT:=Lib.hid (show l1.take (k + 1) = l2.take (k + 1) by rw [List.take_add_one, List.take_add_one, ht.out, Hx.out, Hy.out, hxy])
     clear hxy hd ht
     go_wp2
     go_quiet (fail)
     go_wp2
     go_roundw
     case rel => exact ⟨k + 1, by omega, by go_num, HT, _, rfl⟩
     case measure => simp [intOf]; omega
    ·have hd : decide ((⟨x.state, x.own, x.streams, x.broken, x.marked, x.uses, x.gen, x.epoch, x.version⟩ : S) = ⟨y.state, y.own, y.streams, y.broken, y.marked, y.uses, y.gen, y.epoch, y.version⟩) = false:=decide_eq_false hxy
     rw [hd] at hq
     have hne : decide (l1 = l2) = false:=decide_eq_false (fun e => by have a:=Hx.out; rw [e, Hy.out] at a; exact hxy (by simpa using a.symm))
     have HNE:=Lib.hid hne
     clear hxy hd ht hne
     go_wp2
     go_quiet (fail)
     go_wp2
     go_ret
     exact ⟨Base.ret_bool HNE.out.symm, _, drewN_two _ _ _⟩
   ·have hall : decide (l1 = l2) = true:=decide_eq_true (by have a:=ht.out; rwa [List.take_of_length_le (by have:=E1.out; omega), List.take_of_length_le (by have:=E2.out; omega)] at a)
    have HA:=Lib.hid hall
    clear hall ht
    go_wp2
    go_ret
    exact ⟨Base.ret_bool HA.out.symm, n, rfl⟩
 ·have hl' : ((n1 : Int) != (n2 : Int)) = true:=by simp; omega
  have hne:=Lib.hid (show decide (l1 = l2) = false from decide_eq_false (fun e => hl (by rw [← e1, ← e2, e])))
  clear e1 e2 h1 h2
  go_enter Tryz.func29, Tryz.ntmps29
  go_wp2
  go_ret
  exact ⟨Base.ret_bool hne.out.symm, 0, rfl⟩
end Go.Proofs.YtpmkgddjgebojaaGreatDoor.Mod
