/- Part 15 of the walks and plain laws that the last text joins. -/
import Derived.Test.YtpmkgddjgebojaaGreatDoorE6
import Derived.IntWalk
set_option maxRecDepth 100000
set_option maxHeartbeats 16000000
set_option linter.unusedVariables false
set_option linter.unusedSimpArgs false
namespace Go.Proofs.YtpmkgddjgebojaaGreatDoor.R8
open Go.RowKit Hp Slot RowL Life
theorem row2_any (w : World) (s : S) (own more : Int) (hr : s.right = true) : Calls Tryz.prog 101 #[s.val, .i 2, .i own, .i more] w fun e w' => e = .returned (.tuple #[(row8 2 s own more).1.val, .bool (row8 2 s own more).2]) ∧ Below w.heap.size w w':=by
 have hrb:=right_bounds hr
 obtain ⟨st, ow, sm, br, ma, us, ge, ep, ve⟩:=s
 have hR : row8 2 ⟨st, ow, sm, br, ma, us, ge, ep, ve⟩ own more = (plainS ⟨st, ow, sm, br, ma, us, ge, ep, ve⟩ 0 0, st == 1 && ow == own):=rfl
 have HR:=Lib.hid hR
 have HB:=Lib.hid hrb
 clear hR hrb hr
 simp only [S.val, S.cells]
 by_cases hp0 : st = 1
 rotate_left
 ·have hq0 : (st == 1) = false:=by simpa using hp0
  clear hp0
  have HR:=Lib.hid (HR.out.trans (congrArg (Prod.mk ((plainS ⟨st, ow, sm, br, ma, us, ge, ep, ve⟩ 0 0) : S)) (show (st == 1 && ow == own) = (false) by first | (simp [hq0]; done) | (simp <;> intros <;> omega))))
  obtain ⟨hA, ra, rb, rc⟩:=boxes8 w st ow sm br ma us ge ep ve
  go_enter Tryz.func101, Tryz.ntmps101
  go_upto_region 3 with (fail)
  generalize (((w.alloc (.cells (Ac st ow sm br ma us ge ep ve) 59)).alloc (.cells zero9 59)).alloc (.cells (Ac st ow sm br ma us ge ep ve) 59)) = wa at *
  obtain ⟨a0, a1, a2, a3, a4⟩:=rl5 ra
  go_upto_region 9 with (fail)
  clear a0 a1 a2 a3 a4
  generalize wa = wb at *
  have hK : Kp wb (w.heap.size + 1) wb:=⟨Chg.refl _ _, zero9, rfl, rb⟩
  have hKd:=hK.drew
  have rA : ∀ w', Kp wb (w.heap.size + 1) w' → RowAt w' w.heap.size (Ac st ow sm br ma us ge ep ve) 59:=fun w' h => ra.chg h.1 (by simp)
  have rC : ∀ w', Kp wb (w.heap.size + 1) w' → RowAt w' (w.heap.size + 1 + 1) (Ac st ow sm br ma us ge ep ve) 59:=fun w' h => rc.chg h.1 (by simp)
  clear ra rb rc hK
  obtain ⟨l0, l2, l3, l4⟩:=rl4 rA
  refine wp_region_held_drew (S:=fun w' => Kp wb (w.heap.size + 1) w') (by kernel_rfl) (by exact hKd) (fun hHeld => ?_)
  refine tKw (gd:=none) 0 43 (.load 59 (.tmp 4)) (.agg (Ac st ow sm br ma us ge ep ve)) (run_load_row 59 (.tmp 4) (w.heap.size) 59 (Ac st ow sm br ma us ge ep ve) _ (by kernel_rfl) Tryz.underlying59 rfl (by kernel_rfl) rA) hHeld ?_
  try simp only [Act.put, sA, sZ, sS]
  refine tKg 2 45 hHeld ?_
  try simp only [Act.put, sA, sZ, sS]
  refine tKg 3 46 hHeld ?_
  try simp only [Act.put, sA, sZ, sS]
  refine tKg 4 47 hHeld ?_
  try simp only [Act.put, sA, sZ, sS]
  refine rKc (i:=1) 107 #[.tmp 43, (.const (.i 0)), (.const (.i 0))] #[59, 3, 3] (some 44) (none) #[.agg (Ac st ow sm br ma us ge ep ve), .i 0, .i 0] (enters_of Tryz.func107 (by kernel_rfl) rfl) ?_
  refine (plain_any _ ⟨st, ow, sm, br, ma, us, ge, ep, ve⟩ 0 0).mono ?_
  rintro e w6 ⟨rfl, hb6⟩
  refine ⟨_, rfl, hHeld.later hb6, fun hHeld2 => ?_⟩
  try simp only [Act.put, sA, sZ, sS]
  refine tKg 5 48 hHeld2 ?_
  try simp only [Act.put, sA, sZ, sS]
  refine sKp 6 (some 49) hHeld2 ?_
  try simp only [Act.put, sA, sZ, sS]
  refine tKg 7 50 hHeld2 ?_
  try simp only [Act.put, sA, sZ, sS]
  obtain ⟨kp1, Z, kp2, kp3⟩:=hHeld2
  refine ready_store_row (i:=8) (by kernel_rfl) 59 (.tmp 8) (.tmp 44) (by kernel_rfl) (w.heap.size + 1) _ _ (Ac 0 0 0 false false 0 ge 0 ve) (by kernel_rfl) (by kernel_rfl) kp3 kp2 (by kernel_rfl) (by kernel_rfl) (Kp.set ⟨kp1, Z, kp2, kp3⟩ ⟨0, 0, 0, false, false, 0, ge, 0, ve⟩) (fun hHeld3 => ?_)
  try simp only [Act.put, sA, sZ, sS]
  refine tKg 9 9 hHeld3 ?_
  try simp only [Act.put, sA, sZ, sS]
  refine wpAnyH_done (by kernel_rfl) ?_ _
  go_simp
  clear rA rC
  go_wp2_with fail
  refine bR2 (w.heap.size + 1) (Kp.row ⟨kp1, Z, kp2, kp3⟩ ⟨0, 0, 0, false, false, 0, ge, 0, ve⟩) Tryz.underlying59 ?_
  exact ⟨by rw [show row8 _ _ _ _ = _ from HR.out]; rfl, Kp.below hHeld3 hA (by omega)⟩
 have hq0 : (st == 1) = true:=by simpa using hp0
 clear hp0
 have HR:=Lib.hid (HR.out.trans (congrArg (Prod.mk ((plainS ⟨st, ow, sm, br, ma, us, ge, ep, ve⟩ 0 0) : S)) (show (st == 1 && ow == own) = (ow == own) by first | (simp [hq0]; done) | (simp <;> intros <;> omega))))
 obtain ⟨hA, ra, rb, rc⟩:=boxes8 w st ow sm br ma us ge ep ve
 go_enter Tryz.func101, Tryz.ntmps101
 go_upto_region 3 with (fail)
 generalize (((w.alloc (.cells (Ac st ow sm br ma us ge ep ve) 59)).alloc (.cells zero9 59)).alloc (.cells (Ac st ow sm br ma us ge ep ve) 59)) = wa at *
 obtain ⟨a0, a1, a2, a3, a4⟩:=rl5 ra
 go_upto_region 9 with (fail)
 clear a0 a1 a2 a3 a4
 generalize wa = wb at *
 have hK : Kp wb (w.heap.size + 1) wb:=⟨Chg.refl _ _, zero9, rfl, rb⟩
 have hKd:=hK.drew
 have rA : ∀ w', Kp wb (w.heap.size + 1) w' → RowAt w' w.heap.size (Ac st ow sm br ma us ge ep ve) 59:=fun w' h => ra.chg h.1 (by simp)
 have rC : ∀ w', Kp wb (w.heap.size + 1) w' → RowAt w' (w.heap.size + 1 + 1) (Ac st ow sm br ma us ge ep ve) 59:=fun w' h => rc.chg h.1 (by simp)
 clear ra rb rc hK
 obtain ⟨l0, l2, l3, l4⟩:=rl4 rA
 refine wp_region_held_drew (S:=fun w' => Kp wb (w.heap.size + 1) w') (by kernel_rfl) (by exact hKd) (fun hHeld => ?_)
 refine tKw (gd:=none) 0 43 (.load 59 (.tmp 4)) (.agg (Ac st ow sm br ma us ge ep ve)) (run_load_row 59 (.tmp 4) (w.heap.size) 59 (Ac st ow sm br ma us ge ep ve) _ (by kernel_rfl) Tryz.underlying59 rfl (by kernel_rfl) rA) hHeld ?_
 try simp only [Act.put, sA, sZ, sS]
 refine tKg 2 45 hHeld ?_
 try simp only [Act.put, sA, sZ, sS]
 refine tKg 3 46 hHeld ?_
 try simp only [Act.put, sA, sZ, sS]
 refine tKg 4 47 hHeld ?_
 try simp only [Act.put, sA, sZ, sS]
 refine rKc (i:=1) 107 #[.tmp 43, (.const (.i 0)), (.const (.i 0))] #[59, 3, 3] (some 44) (none) #[.agg (Ac st ow sm br ma us ge ep ve), .i 0, .i 0] (enters_of Tryz.func107 (by kernel_rfl) rfl) ?_
 refine (plain_any _ ⟨st, ow, sm, br, ma, us, ge, ep, ve⟩ 0 0).mono ?_
 rintro e w6 ⟨rfl, hb6⟩
 refine ⟨_, rfl, hHeld.later hb6, fun hHeld2 => ?_⟩
 try simp only [Act.put, sA, sZ, sS]
 refine tKg 5 48 hHeld2 ?_
 try simp only [Act.put, sA, sZ, sS]
 refine tKg 6 49 hHeld2 ?_
 try simp only [Act.put, sA, sZ, sS]
 refine tKg 7 50 hHeld2 ?_
 try simp only [Act.put, sA, sZ, sS]
 obtain ⟨kp1, Z, kp2, kp3⟩:=hHeld2
 refine ready_store_row (i:=8) (by kernel_rfl) 59 (.tmp 8) (.tmp 44) (by kernel_rfl) (w.heap.size + 1) _ _ (Ac 0 0 0 false false 0 ge 0 ve) (by kernel_rfl) (by kernel_rfl) kp3 kp2 (by kernel_rfl) (by kernel_rfl) (Kp.set ⟨kp1, Z, kp2, kp3⟩ ⟨0, 0, 0, false, false, 0, ge, 0, ve⟩) (fun hHeld3 => ?_)
 try simp only [Act.put, sA, sZ, sS]
 refine tKg 9 9 hHeld3 ?_
 try simp only [Act.put, sA, sZ, sS]
 refine wpAnyH_done (by kernel_rfl) ?_ _
 go_simp
 clear rA rC
 go_wp2_with fail
 refine bR2 (w.heap.size + 1) (Kp.row ⟨kp1, Z, kp2, kp3⟩ ⟨0, 0, 0, false, false, 0, ge, 0, ve⟩) Tryz.underlying59 ?_
 exact ⟨by rw [show row8 _ _ _ _ = _ from HR.out]; rfl, Kp.below hHeld3 hA (by omega)⟩
theorem row5_any (w : World) (s : S) (own more : Int) (hr : s.right = true) : Calls Tryz.prog 101 #[s.val, .i 5, .i own, .i more] w fun e w' => e = .returned (.tuple #[(row8 5 s own more).1.val, .bool (row8 5 s own more).2]) ∧ Below w.heap.size w w':=by
 have hrb:=right_bounds hr
 obtain ⟨st, ow, sm, br, ma, us, ge, ep, ve⟩:=s
 have hR : row8 5 ⟨st, ow, sm, br, ma, us, ge, ep, ve⟩ own more = (⟨4, own, sm, br, false, us, ge, ep, ve⟩, st == 2 && !br):=rfl
 have HR:=Lib.hid hR
 have HB:=Lib.hid hrb
 clear hR hrb hr
 simp only [S.val, S.cells]
 by_cases hp0 : st = 2
 rotate_left
 ·have hq0 : (st == 2) = false:=by simpa using hp0
  clear hp0
  have HR:=Lib.hid (HR.out.trans (congrArg (Prod.mk ((⟨4, own, sm, br, false, us, ge, ep, ve⟩) : S)) (show (st == 2 && !br) = (false) by first | (simp [hq0]; done) | (simp <;> intros <;> omega))))
  obtain ⟨hA, ra, rb, rc⟩:=boxes8 w st ow sm br ma us ge ep ve
  go_enter Tryz.func101, Tryz.ntmps101
  go_upto_region 3 with (fail)
  generalize (((w.alloc (.cells (Ac st ow sm br ma us ge ep ve) 59)).alloc (.cells zero9 59)).alloc (.cells (Ac st ow sm br ma us ge ep ve) 59)) = wa at *
  obtain ⟨a0, a1, a2, a3, a4⟩:=rl5 ra
  have t0 : wa.cell? ⟨w.heap.size + 1 + 1, 0, none⟩ = some (.i st):=rc.cell 0
  have z0 : wa.frozen? ⟨w.heap.size + 1 + 1, 0, none⟩ = false:=rc.frozen 0
  have t1 : wa.cell? ⟨w.heap.size + 1 + 1, 1, none⟩ = some (.i ow):=rc.cell 1
  have z1 : wa.frozen? ⟨w.heap.size + 1 + 1, 1, none⟩ = false:=rc.frozen 1
  have t4 : wa.cell? ⟨w.heap.size + 1 + 1, 4, none⟩ = some (.bool ma):=rc.cell 4
  have z4 : wa.frozen? ⟨w.heap.size + 1 + 1, 4, none⟩ = false:=rc.frozen 4
  go_upto_region 19 with (fail)
  have rc' : RowAt (((wa.setCell ⟨w.heap.size + 1 + 1, 0, none⟩ (.i 4)).setCell ⟨w.heap.size + 1 + 1, 1, none⟩ (.i own)).setCell ⟨w.heap.size + 1 + 1, 4, none⟩ (.bool false)) (w.heap.size + 1 + 1) (Ac 4 own sm br false us ge ep ve) 59:=(((rc.setc 0 (.i 4)).setc 1 (.i own)).setc 4 (.bool false))
  have ra':=(setOther (setOther (setOther ra (p:=⟨w.heap.size + 1 + 1, 0, none⟩) (.i 4) (by simp; omega)) (p:=⟨w.heap.size + 1 + 1, 1, none⟩) (.i own) (by simp; omega)) (p:=⟨w.heap.size + 1 + 1, 4, none⟩) (.bool false) (by simp; omega))
  have rb':=(setOther (setOther (setOther rb (p:=⟨w.heap.size + 1 + 1, 0, none⟩) (.i 4) (by simp)) (p:=⟨w.heap.size + 1 + 1, 1, none⟩) (.i own) (by simp)) (p:=⟨w.heap.size + 1 + 1, 4, none⟩) (.bool false) (by simp))
  have hA':=(((hA.setCell (p:=⟨w.heap.size + 1 + 1, 0, none⟩) (by simp; omega) (.i 4)).setCell (p:=⟨w.heap.size + 1 + 1, 1, none⟩) (by simp; omega) (.i own)).setCell (p:=⟨w.heap.size + 1 + 1, 4, none⟩) (by simp; omega) (.bool false))
  clear hA ra rb rc a0 a1 a2 a3 a4 t0 z0 t1 z1 t4 z4
  generalize hwb : (((wa.setCell ⟨w.heap.size + 1 + 1, 0, none⟩ (.i 4)).setCell ⟨w.heap.size + 1 + 1, 1, none⟩ (.i own)).setCell ⟨w.heap.size + 1 + 1, 4, none⟩ (.bool false)) = wb at *
  clear hwb
  have hA:=hA'
  have ra:=ra'
  have rb:=rb'
  have rc:=rc'
  clear hA' ra' rb' rc'
  have hK : Kp wb (w.heap.size + 1) wb:=⟨Chg.refl _ _, zero9, rfl, rb⟩
  have hKd:=hK.drew
  have rA : ∀ w', Kp wb (w.heap.size + 1) w' → RowAt w' w.heap.size (Ac st ow sm br ma us ge ep ve) 59:=fun w' h => ra.chg h.1 (by simp)
  have rC : ∀ w', Kp wb (w.heap.size + 1) w' → RowAt w' (w.heap.size + 1 + 1) (Ac 4 own sm br false us ge ep ve) 59:=fun w' h => rc.chg h.1 (by simp)
  clear ra rb rc hK
  obtain ⟨l0, l2, l3, l4⟩:=rl4 rA
  refine wp_region_held_drew (S:=fun w' => Kp wb (w.heap.size + 1) w') (by kernel_rfl) (by exact hKd) (fun hHeld => ?_)
  refine tKw (gd:=none) 0 85 (.load 59 (.tmp 10)) (.agg (Ac 4 own sm br false us ge ep ve)) (run_load_row 59 (.tmp 10) (w.heap.size + 1 + 1) 59 (Ac 4 own sm br false us ge ep ve) _ (by kernel_rfl) Tryz.underlying59 rfl (by kernel_rfl) rC) hHeld ?_
  try simp only [Act.put, sA, sZ, sS]
  refine tKg 1 86 hHeld ?_
  try simp only [Act.put, sA, sZ, sS]
  refine tKg 2 87 hHeld ?_
  try simp only [Act.put, sA, sZ, sS]
  refine tKg 3 88 hHeld ?_
  try simp only [Act.put, sA, sZ, sS]
  refine tKg 4 89 hHeld ?_
  try simp only [Act.put, sA, sZ, sS]
  refine sKp 5 (some 90) hHeld ?_
  try simp only [Act.put, sA, sZ, sS]
  refine sKp 6 (some 91) hHeld ?_
  try simp only [Act.put, sA, sZ, sS]
  refine sKp 7 (some 92) hHeld ?_
  try simp only [Act.put, sA, sZ, sS]
  refine tKg 8 93 hHeld ?_
  try simp only [Act.put, sA, sZ, sS]
  obtain ⟨kp1, Z, kp2, kp3⟩:=hHeld
  refine ready_store_row (i:=9) (by kernel_rfl) 59 (.tmp 8) (.tmp 85) (by kernel_rfl) (w.heap.size + 1) _ _ (Ac 4 own sm br false us ge ep ve) (by kernel_rfl) (by kernel_rfl) kp3 kp2 (by kernel_rfl) (by kernel_rfl) (Kp.set ⟨kp1, Z, kp2, kp3⟩ ⟨4, own, sm, br, false, us, ge, ep, ve⟩) (fun hHeld2 => ?_)
  try simp only [Act.put, sA, sZ, sS]
  refine tKg 10 9 hHeld2 ?_
  try simp only [Act.put, sA, sZ, sS]
  refine wpAnyH_done (by kernel_rfl) ?_ _
  go_simp
  clear rA rC
  go_wp2_with fail
  refine bR2 (w.heap.size + 1) (Kp.row ⟨kp1, Z, kp2, kp3⟩ ⟨4, own, sm, br, false, us, ge, ep, ve⟩) Tryz.underlying59 ?_
  exact ⟨by rw [show row8 _ _ _ _ = _ from HR.out]; rfl, Kp.below hHeld2 hA (by omega)⟩
 have hq0 : (st == 2) = true:=by simpa using hp0
 clear hp0
 have HR:=Lib.hid (HR.out.trans (congrArg (Prod.mk ((⟨4, own, sm, br, false, us, ge, ep, ve⟩) : S)) (show (st == 2 && !br) = (!br) by first | (simp [hq0]; done) | (simp <;> intros <;> omega))))
 obtain ⟨hA, ra, rb, rc⟩:=boxes8 w st ow sm br ma us ge ep ve
 go_enter Tryz.func101, Tryz.ntmps101
 go_upto_region 3 with (fail)
 generalize (((w.alloc (.cells (Ac st ow sm br ma us ge ep ve) 59)).alloc (.cells zero9 59)).alloc (.cells (Ac st ow sm br ma us ge ep ve) 59)) = wa at *
 obtain ⟨a0, a1, a2, a3, a4⟩:=rl5 ra
 have t0 : wa.cell? ⟨w.heap.size + 1 + 1, 0, none⟩ = some (.i st):=rc.cell 0
 have z0 : wa.frozen? ⟨w.heap.size + 1 + 1, 0, none⟩ = false:=rc.frozen 0
 have t1 : wa.cell? ⟨w.heap.size + 1 + 1, 1, none⟩ = some (.i ow):=rc.cell 1
 have z1 : wa.frozen? ⟨w.heap.size + 1 + 1, 1, none⟩ = false:=rc.frozen 1
 have t4 : wa.cell? ⟨w.heap.size + 1 + 1, 4, none⟩ = some (.bool ma):=rc.cell 4
 have z4 : wa.frozen? ⟨w.heap.size + 1 + 1, 4, none⟩ = false:=rc.frozen 4
 go_upto_region 19 with (fail)
 have rc' : RowAt (((wa.setCell ⟨w.heap.size + 1 + 1, 0, none⟩ (.i 4)).setCell ⟨w.heap.size + 1 + 1, 1, none⟩ (.i own)).setCell ⟨w.heap.size + 1 + 1, 4, none⟩ (.bool false)) (w.heap.size + 1 + 1) (Ac 4 own sm br false us ge ep ve) 59:=(((rc.setc 0 (.i 4)).setc 1 (.i own)).setc 4 (.bool false))
 have ra':=(setOther (setOther (setOther ra (p:=⟨w.heap.size + 1 + 1, 0, none⟩) (.i 4) (by simp; omega)) (p:=⟨w.heap.size + 1 + 1, 1, none⟩) (.i own) (by simp; omega)) (p:=⟨w.heap.size + 1 + 1, 4, none⟩) (.bool false) (by simp; omega))
 have rb':=(setOther (setOther (setOther rb (p:=⟨w.heap.size + 1 + 1, 0, none⟩) (.i 4) (by simp)) (p:=⟨w.heap.size + 1 + 1, 1, none⟩) (.i own) (by simp)) (p:=⟨w.heap.size + 1 + 1, 4, none⟩) (.bool false) (by simp))
 have hA':=(((hA.setCell (p:=⟨w.heap.size + 1 + 1, 0, none⟩) (by simp; omega) (.i 4)).setCell (p:=⟨w.heap.size + 1 + 1, 1, none⟩) (by simp; omega) (.i own)).setCell (p:=⟨w.heap.size + 1 + 1, 4, none⟩) (by simp; omega) (.bool false))
 clear hA ra rb rc a0 a1 a2 a3 a4 t0 z0 t1 z1 t4 z4
 generalize hwb : (((wa.setCell ⟨w.heap.size + 1 + 1, 0, none⟩ (.i 4)).setCell ⟨w.heap.size + 1 + 1, 1, none⟩ (.i own)).setCell ⟨w.heap.size + 1 + 1, 4, none⟩ (.bool false)) = wb at *
 clear hwb
 have hA:=hA'
 have ra:=ra'
 have rb:=rb'
 have rc:=rc'
 clear hA' ra' rb' rc'
 have hK : Kp wb (w.heap.size + 1) wb:=⟨Chg.refl _ _, zero9, rfl, rb⟩
 have hKd:=hK.drew
 have rA : ∀ w', Kp wb (w.heap.size + 1) w' → RowAt w' w.heap.size (Ac st ow sm br ma us ge ep ve) 59:=fun w' h => ra.chg h.1 (by simp)
 have rC : ∀ w', Kp wb (w.heap.size + 1) w' → RowAt w' (w.heap.size + 1 + 1) (Ac 4 own sm br false us ge ep ve) 59:=fun w' h => rc.chg h.1 (by simp)
 clear ra rb rc hK
 obtain ⟨l0, l2, l3, l4⟩:=rl4 rA
 refine wp_region_held_drew (S:=fun w' => Kp wb (w.heap.size + 1) w') (by kernel_rfl) (by exact hKd) (fun hHeld => ?_)
 refine tKw (gd:=none) 0 85 (.load 59 (.tmp 10)) (.agg (Ac 4 own sm br false us ge ep ve)) (run_load_row 59 (.tmp 10) (w.heap.size + 1 + 1) 59 (Ac 4 own sm br false us ge ep ve) _ (by kernel_rfl) Tryz.underlying59 rfl (by kernel_rfl) rC) hHeld ?_
 try simp only [Act.put, sA, sZ, sS]
 refine tKg 1 86 hHeld ?_
 try simp only [Act.put, sA, sZ, sS]
 refine tKg 2 87 hHeld ?_
 try simp only [Act.put, sA, sZ, sS]
 refine tKg 3 88 hHeld ?_
 try simp only [Act.put, sA, sZ, sS]
 refine tKg 4 89 hHeld ?_
 try simp only [Act.put, sA, sZ, sS]
 refine tKg 5 90 hHeld ?_
 try simp only [Act.put, sA, sZ, sS]
 refine tKg 6 91 hHeld ?_
 try simp only [Act.put, sA, sZ, sS]
 refine tKg 7 92 hHeld ?_
 try simp only [Act.put, sA, sZ, sS]
 refine tKg 8 93 hHeld ?_
 try simp only [Act.put, sA, sZ, sS]
 obtain ⟨kp1, Z, kp2, kp3⟩:=hHeld
 refine ready_store_row (i:=9) (by kernel_rfl) 59 (.tmp 8) (.tmp 85) (by kernel_rfl) (w.heap.size + 1) _ _ (Ac 4 own sm br false us ge ep ve) (by kernel_rfl) (by kernel_rfl) kp3 kp2 (by kernel_rfl) (by kernel_rfl) (Kp.set ⟨kp1, Z, kp2, kp3⟩ ⟨4, own, sm, br, false, us, ge, ep, ve⟩) (fun hHeld2 => ?_)
 try simp only [Act.put, sA, sZ, sS]
 refine tKg 10 9 hHeld2 ?_
 try simp only [Act.put, sA, sZ, sS]
 refine wpAnyH_done (by kernel_rfl) ?_ _
 go_simp
 clear rA rC
 go_wp2_with fail
 refine bR2 (w.heap.size + 1) (Kp.row ⟨kp1, Z, kp2, kp3⟩ ⟨4, own, sm, br, false, us, ge, ep, ve⟩) Tryz.underlying59 ?_
 exact ⟨by rw [show row8 _ _ _ _ = _ from HR.out]; rfl, Kp.below hHeld2 hA (by omega)⟩
def Ks (w : World) (s : S) (w' : World) : Prop:=Below w.heap.size w w' ∧ RowAt w' w.heap.size s.cells 59 ∧ RowAt w' (w.heap.size + 1) zero9 59 ∧ ∃ x : Int, RowAt w' (w.heap.size + 1 + 1) ({ s with streams:=x } : S).cells 59
theorem st_int {w : World} {g off : Nat} {Z : Array Value} {t : TypeId} {b : Int} (h : RowAt w g Z t) (ho : off < Z.size) : (Instr.storeAt 3 (.pointer (some ⟨g, off, none⟩)) (.i b)).run Tryz.prog w = .ok () (w.setCell ⟨g, off, none⟩ (.i b)):=by
 have hc : w.cell? ⟨g, off, none⟩ = some Z[off]:=by rw [h.cell, Array.getElem?_eq_getElem ho]
 have hf:=h.frozen off
 simp [go_sem, hc, hf]
theorem Ks.drew {w w' : World} {s : S} (h : Ks w s w') : Ks w s w'.drew:=by
 obtain ⟨h1, h2, h3, x, h4⟩:=h
 exact ⟨h1.drew, h2, h3, x, h4⟩
theorem Ks.set {w w' : World} {s : S} (h : Ks w s w') (x : Int) : Ks w s (w'.setCell ⟨w.heap.size + 1 + 1, 2, none⟩ (.i x)):=by
 obtain ⟨h1, h2, h3, y, h4⟩:=h
 exact ⟨h1.setCell (by simp; omega) _, setOther h2 _ (by simp; omega), setOther h3 _ (by simp), x, h4.setc 2 _⟩
theorem Ks.setR {w w' : World} {s : S} (h : Ks w s w') (x : Int) : RowAt (w'.setCell ⟨w.heap.size + 1 + 1, 2, none⟩ (.i x)) (w.heap.size + 1 + 1) ({ s with streams:=x } : S).cells 59:=by
 obtain ⟨h1, h2, h3, y, h4⟩:=h
 exact h4.setc 2 _
theorem row14_any (w : World) (s : S) (own more : Int) (hr : s.right = true) : Calls Tryz.prog 101 #[s.val, .i 14, .i own, .i more] w fun e w' => e = .returned (.tuple #[(row8 14 s own more).1.val, .bool (row8 14 s own more).2]) ∧ Below w.heap.size w w':=by
 have hrb:=(right_bounds hr).2.2.2.2.2
 obtain ⟨st, ow, sm, br, ma, us, ge, ep, ve⟩:=s
 simp only at hrb
 obtain ⟨n, rfl⟩ : ∃ n : Nat, sm = (n : Int):=⟨sm.toNat, by omega⟩
 have hn8 : n < 512:=by omega
 have hR : row8 14 ⟨st, ow, (n : Int), br, ma, us, ge, ep, ve⟩ own more = ({ (⟨st, ow, (n : Int), br, ma, us, ge, ep, ve⟩ : S) with streams:=(n : Int) + pw (lowN 9 n) }, (((st == 3 && ow == own) && !br) && decide ((lowN 9 n : Int) < more)) && decide ((lowN 9 n : Int) < 8)):=rfl
 have hi9:=lowN_le 9 n
 have hlow:=fun W => low_any W n hn8
 generalize lowN 9 n = i at *
 have hpw:=fun W => power_any W i hi9
 have hpb : (pw i : Int) ≤ 512:=by
  have h1 : 2 ^ i ≤ 2 ^ 9:=Nat.pow_le_pow_right (by omega) hi9
  have h2 : pw i = 2 ^ i:=rfl
  omega
 have hp0 : (0 : Int) ≤ (pw i : Int):=by omega
 have hn0 : (0 : Int) ≤ (n : Int):=by omega
 have hn1 : (n : Int) ≤ 255:=by omega
 have hi0 : (0 : Int) ≤ (i : Int):=by omega
 have hi1 : (i : Int) ≤ 9:=by omega
 have HR:=Lib.hid hR
 clear hR hrb hr hn8 hi9
 generalize pw i = p at *
 simp only [S.val, S.cells]
 have hA : Below w.heap.size w (((w.alloc (.cells (Ac st ow (n : Int) br ma us ge ep ve) 59)).alloc (.cells zero9 59)).alloc (.cells (Ac st ow (n : Int) br ma us ge ep ve) 59)):=(((Below.refl _ _).alloc (Nat.le_refl _) _).alloc (by simp) _).alloc (by simp; omega) _
 have ra : RowAt (((w.alloc (.cells (Ac st ow (n : Int) br ma us ge ep ve) 59)).alloc (.cells zero9 59)).alloc (.cells (Ac st ow (n : Int) br ma us ge ep ve) 59)) w.heap.size (Ac st ow (n : Int) br ma us ge ep ve) 59:=by rw [RowAt, Below.heap_alloc _ _ _ (by simp; omega)]; exact heap_alloc2_old w _ _
 have rb : RowAt (((w.alloc (.cells (Ac st ow (n : Int) br ma us ge ep ve) 59)).alloc (.cells zero9 59)).alloc (.cells (Ac st ow (n : Int) br ma us ge ep ve) 59)) (w.heap.size + 1) zero9 59:=heap_alloc3_mid w _ _ _
 have rc : RowAt (((w.alloc (.cells (Ac st ow (n : Int) br ma us ge ep ve) 59)).alloc (.cells zero9 59)).alloc (.cells (Ac st ow (n : Int) br ma us ge ep ve) 59)) (w.heap.size + 1 + 1) (Ac st ow (n : Int) br ma us ge ep ve) 59:=by have:=heap_alloc_new ((w.alloc (.cells (Ac st ow (n : Int) br ma us ge ep ve) 59)).alloc (.cells zero9 59)) (.cells (Ac st ow (n : Int) br ma us ge ep ve) 59); simpa [RowAt] using this
 go_enter Tryz.func101, Tryz.ntmps101
 go_upto_region 3 with (fail)
 generalize (((w.alloc (.cells (Ac st ow (n : Int) br ma us ge ep ve) 59)).alloc (.cells zero9 59)).alloc (.cells (Ac st ow (n : Int) br ma us ge ep ve) 59)) = wa at *
 obtain ⟨a0, a1, a2, a3, a4⟩:=rl5 ra
 clear a0 a1 a2 a3 a4
 generalize wa = wb at *
 have hKs : Ks w ⟨st, ow, (n : Int), br, ma, us, ge, ep, ve⟩ wb:=⟨hA, ra, rb, _, rc⟩
 have hKd:=hKs.drew
 have lA : ∀ w', Ks w ⟨st, ow, (n : Int), br, ma, us, ge, ep, ve⟩ w' → w'.cell? ⟨w.heap.size, 2, none⟩ = some (.i (n : Int)):=fun w' h => h.2.1.cell 2
 have c2 : wb.cell? ⟨w.heap.size, 2, none⟩ = some (.i (n : Int)):=ra.cell 2
 clear hA ra rb rc hKs
 go_wp2_with fail
 refine (hlow _).mono ?_
 rintro e w6 ⟨rfl, rfl⟩
 clear hlow
 go_upto_region 45 with (fail)
 clear c2
 have hwr : IntKind.i64.wrap ((n : Int) + (p : Int)) = (n : Int) + (p : Int):=IntWalk.i64_in _ (by omega)
 refine wp_region_held_drew (S:=fun w' => Ks w ⟨st, ow, (n : Int), br, ma, us, ge, ep, ve⟩ w') (by kernel_rfl) (by exact hKd) (fun hHeld => ?_)
 refine tKg 0 190 hHeld ?_
 try simp only [Act.put, sA, sZ, sS]
 refine tKg 1 191 hHeld ?_
 try simp only [Act.put, sA, sZ, sS]
 refine tKg 2 192 hHeld ?_
 try simp only [Act.put, sA, sZ, sS]
 refine rKc (i:=3) 110 #[.tmp 192] #[3] (some 193) (none) #[.i (i : Nat)] (enters_of Tryz.func110 (by kernel_rfl) rfl) ?_
 refine (hpw _).mono ?_
 rintro e w6 ⟨rfl, rfl⟩
 refine ⟨_, rfl, hHeld, fun hHeld2 => ?_⟩
 try simp only [Act.put, sA, sZ, sS]
 refine tKg 4 194 hHeld2 ?_
 try simp only [Act.put, sA, sZ, sS]
 refine tKg 5 195 hHeld2 ?_
 try simp only [Act.put, sA, sZ, sS]
 refine ready1 (i:=6) (by kernel_rfl) (step_store_cell 3 (.tmp 195) (.tmp 194) (by kernel_rfl) (w.heap.size + 1 + 1) 2 (.i ((n : Int) + (p : Int))) (by kernel_rfl) (by kernel_rfl) (fun _ => by obtain ⟨-, -, -, x, hx⟩:=hHeld2; exact st_int hx (by simp [S.cells])) (hHeld2.set _) (fun hHeld3 => ?_))
 have hT:=hHeld2.setR ((n : Int) + (p : Int))
 try simp only [Act.put, sA, sZ, sS]
 refine wpAnyH_done (by kernel_rfl) ?_ _
 clear hwr
 obtain ⟨hA, ra, rb, -⟩:=hHeld3
 generalize hwc : World.setCell _ _ _ = wc at *
 clear hwc
 have hr0 : ∃ r : S, r = { (⟨st, ow, (n : Int), br, ma, us, ge, ep, ve⟩ : S) with streams:=(n : Int) + (p : Int) }:=⟨_, rfl⟩
 obtain ⟨r, hre⟩:=hr0
 rw [← hre] at hT
 have HR:=Lib.hid (show row8 14 ⟨st, ow, (n : Int), br, ma, us, ge, ep, ve⟩ own more = (r, (((st == 3 && ow == own) && !br) && decide ((i : Int) < more)) && decide ((i : Int) < 8)) by rw [HR.out, hre])
 clear hre
 go_upto_region 46 with (fail)
 have a0 : wc.cell? ⟨w.heap.size, 0, none⟩ = some (.i st):=ra.cell 0
 have a3 : wc.cell? ⟨w.heap.size, 3, none⟩ = some (.bool br):=ra.cell 3
 have hK : Kp wc (w.heap.size + 1) wc:=⟨Chg.refl _ _, zero9, rfl, rb⟩
 have hst:=hK.store r
 have hsz : r.cells.size = 9:=rfl
 have hF:=below_setRow hA (g:=w.heap.size + 1) (by omega) r.cells
 refine wp_region_lit ?_
 refine RowL.grow hT 59 (.tmp 10) Tryz.underlying59 ?_
 clear hpw hT ra rb hA lA hp0 hpb hn0 hn1
 by_cases hp0 : st = 3
 rotate_left
 ·have hq0 : (st == 3) = false:=by simpa using hp0
  clear hp0
  have HR:=Lib.hid (HR.out.trans (congrArg (Prod.mk r) (show ((((st == 3 && ow == own) && !br) && decide ((i : Int) < more)) && decide ((i : Int) < 8)) = false by simp [hq0])))
  go_wp2_with fail
  refine bR2 (w.heap.size + 1) (hK.row r) Tryz.underlying59 ?_
  exact ⟨by rw [show row8 _ _ _ _ = _ from HR.out]; rfl, hF⟩
 have hq0 : (st == 3) = true:=by simpa using hp0
 clear hp0
 by_cases hp1 : ow = own
 rotate_left
 ·have hq1 : (ow == own) = false:=by simpa using hp1
  clear hp1
  have HR:=Lib.hid (HR.out.trans (congrArg (Prod.mk r) (show ((((st == 3 && ow == own) && !br) && decide ((i : Int) < more)) && decide ((i : Int) < 8)) = false by simp [hq0, hq1])))
  go_wp2_with fail
  refine bR2 (w.heap.size + 1) (hK.row r) Tryz.underlying59 ?_
  exact ⟨by rw [show row8 _ _ _ _ = _ from HR.out]; rfl, hF⟩
 have hq1 : (ow == own) = true:=by simpa using hp1
 clear hp1
 by_cases hp2 : br = false
 rotate_left
 ·have hq2 : (!br) = false:=by simpa using hp2
  clear hp2
  have HR:=Lib.hid (HR.out.trans (congrArg (Prod.mk r) (show ((((st == 3 && ow == own) && !br) && decide ((i : Int) < more)) && decide ((i : Int) < 8)) = false by simp [hq0, hq1, hq2])))
  go_wp2_with fail
  refine bR2 (w.heap.size + 1) (hK.row r) Tryz.underlying59 ?_
  exact ⟨by rw [show row8 _ _ _ _ = _ from HR.out]; rfl, hF⟩
 have hq2 : (!br) = true:=by simpa using hp2
 clear hp2
 by_cases hp3 : (i : Int) < more
 rotate_left
 ·have hq3 : ¬ (i : Int) < more:=by simpa using hp3
  clear hp3
  have HR:=Lib.hid (HR.out.trans (congrArg (Prod.mk r) (show ((((st == 3 && ow == own) && !br) && decide ((i : Int) < more)) && decide ((i : Int) < 8)) = false by simp [hq0, hq1, hq2, hq3])))
  go_wp2_with fail
  refine bR2 (w.heap.size + 1) (hK.row r) Tryz.underlying59 ?_
  exact ⟨by rw [show row8 _ _ _ _ = _ from HR.out]; rfl, hF⟩
 have hq3 : (i : Int) < more:=by simpa using hp3
 clear hp3
 by_cases hp4 : (i : Int) < 8
 rotate_left
 ·have hq4 : ¬ (i : Int) < 8:=by simpa using hp4
  clear hp4
  have HR:=Lib.hid (HR.out.trans (congrArg (Prod.mk r) (show ((((st == 3 && ow == own) && !br) && decide ((i : Int) < more)) && decide ((i : Int) < 8)) = false by simp [hq0, hq1, hq2, hq3, hq4])))
  go_wp2_with fail
  refine bR2 (w.heap.size + 1) (hK.row r) Tryz.underlying59 ?_
  exact ⟨by rw [show row8 _ _ _ _ = _ from HR.out]; rfl, hF⟩
 have hq4 : (i : Int) < 8:=by simpa using hp4
 clear hp4
 have HR:=Lib.hid (HR.out.trans (congrArg (Prod.mk r) (show ((((st == 3 && ow == own) && !br) && decide ((i : Int) < more)) && decide ((i : Int) < 8)) = true by simp [hq0, hq1, hq2, hq3, hq4])))
 go_wp2_with fail
 refine bR2 (w.heap.size + 1) (hK.row r) Tryz.underlying59 ?_
 exact ⟨by rw [show row8 _ _ _ _ = _ from HR.out]; rfl, hF⟩
theorem row16_any (w : World) (s : S) (own more : Int) (hr : s.right = true) : Calls Tryz.prog 101 #[s.val, .i 16, .i own, .i more] w fun e w' => e = .returned (.tuple #[(row8 16 s own more).1.val, .bool (row8 16 s own more).2]) ∧ Below w.heap.size w w':=by
 have hrb:=right_bounds hr
 obtain ⟨st, ow, sm, br, ma, us, ge, ep, ve⟩:=s
 have hR : row8 16 ⟨st, ow, sm, br, ma, us, ge, ep, ve⟩ own more = (if st = 4 then (leasedS ⟨st, ow, sm, br, ma, us, ge, ep, ve⟩ own, ow == own) else (plainS ⟨st, ow, sm, br, ma, us, ge, ep, ve⟩ 1 own, st == 5 && ow == own)):=rfl
 have HR:=Lib.hid hR
 have HB:=Lib.hid hrb
 clear hR hrb hr
 simp only [S.val, S.cells]
 have hbd : (0 ≤ us ∧ us ≤ 63) ∧ (0 ≤ ge ∧ ge ≤ 4095):=by have:=HB.out; simp only at this; exact ⟨this.2.1, this.2.2.1⟩
 by_cases hp : st = 4
 ·have hq : (st == 4) = true:=by simpa using hp
  have HR:=Lib.hid (HR.out.trans (if_pos hp))
  clear hp
  obtain ⟨hA, ra, rb, rc⟩:=boxes8 w st ow sm br ma us ge ep ve
  go_enter Tryz.func101, Tryz.ntmps101
  go_upto_region 3 with (fail)
  generalize (((w.alloc (.cells (Ac st ow sm br ma us ge ep ve) 59)).alloc (.cells zero9 59)).alloc (.cells (Ac st ow sm br ma us ge ep ve) 59)) = wa at *
  obtain ⟨a0, a1, a2, a3, a4⟩:=rl5 ra
  go_upto_region 55 with (fail)
  clear a0 a1 a2 a3 a4
  generalize wa = wb at *
  have hl : ∀ W, Calls Tryz.prog 108 #[.agg (Ac st ow sm br ma us ge ep ve), .i own] W fun e w' => e = .returned (leasedS ⟨st, ow, sm, br, ma, us, ge, ep, ve⟩ own).val ∧ Below W.heap.size W w':=fun W => leased_any W ⟨st, ow, sm, br, ma, us, ge, ep, ve⟩ own hbd.1 hbd.2
  generalize leasedS ⟨st, ow, sm, br, ma, us, ge, ep, ve⟩ own = r at *
  refine wp_region_lit ?_
  refine RowL.grow ra 59 (.tmp 4) Tryz.underlying59 ?_
  go_wp2_with fail
  refine (hl _).mono ?_
  rintro e w6 ⟨rfl, hb6⟩
  have rb6:=rb.below hb6
  have hA6:=hA.trans (hb6.mono hA.size)
  have hK : Kp w6 (w.heap.size + 1) w6:=⟨Chg.refl _ _, zero9, rfl, rb6⟩
  have hst:=hK.store r
  have hsz : r.cells.size = 9:=rfl
  have hF:=below_setRow hA6 (g:=w.heap.size + 1) (by omega) r.cells
  clear hl ra rb rc hb6 rb6 hA6 hA
  go_wp2_with fail
  refine bR2 (w.heap.size + 1) (hK.row r) Tryz.underlying59 ?_
  exact ⟨by rw [show row8 _ _ _ _ = _ from HR.out]; rfl, hF⟩
 ·have hq : (st == 4) = false:=by simpa using hp
  have HR:=Lib.hid (HR.out.trans (if_neg hp))
  clear hp
  by_cases hp : st = 5
  ·have hr5 : (st == 5) = true:=by simpa using hp
   clear hp
   have HR:=Lib.hid (HR.out.trans (congrArg (Prod.mk ((plainS ⟨st, ow, sm, br, ma, us, ge, ep, ve⟩ 1 own) : S)) (show (st == 5 && ow == own) = (ow == own) by simp [hr5])))
   obtain ⟨hA, ra, rb, rc⟩:=boxes8 w st ow sm br ma us ge ep ve
   go_enter Tryz.func101, Tryz.ntmps101
   go_upto_region 3 with (fail)
   generalize (((w.alloc (.cells (Ac st ow sm br ma us ge ep ve) 59)).alloc (.cells zero9 59)).alloc (.cells (Ac st ow sm br ma us ge ep ve) 59)) = wa at *
   obtain ⟨a0, a1, a2, a3, a4⟩:=rl5 ra
   go_upto_region 56 with (fail)
   clear a0 a1 a2 a3 a4
   generalize wa = wb at *
   have hK : Kp wb (w.heap.size + 1) wb:=⟨Chg.refl _ _, zero9, rfl, rb⟩
   have hKd:=hK.drew
   have rA : ∀ w', Kp wb (w.heap.size + 1) w' → RowAt w' w.heap.size (Ac st ow sm br ma us ge ep ve) 59:=fun w' h => ra.chg h.1 (by simp)
   have rC : ∀ w', Kp wb (w.heap.size + 1) w' → RowAt w' (w.heap.size + 1 + 1) (Ac st ow sm br ma us ge ep ve) 59:=fun w' h => rc.chg h.1 (by simp)
   clear ra rb rc hK
   obtain ⟨l0, l2, l3, l4⟩:=rl4 rA
   refine wp_region_held_drew (S:=fun w' => Kp wb (w.heap.size + 1) w') (by kernel_rfl) (by exact hKd) (fun hHeld => ?_)
   refine tKw (gd:=none) 0 259 (.load 59 (.tmp 4)) (.agg (Ac st ow sm br ma us ge ep ve)) (run_load_row 59 (.tmp 4) (w.heap.size) 59 (Ac st ow sm br ma us ge ep ve) _ (by kernel_rfl) Tryz.underlying59 rfl (by kernel_rfl) rA) hHeld ?_
   try simp only [Act.put, sA, sZ, sS]
   refine tKg 1 260 hHeld ?_
   try simp only [Act.put, sA, sZ, sS]
   refine tKg 3 262 hHeld ?_
   try simp only [Act.put, sA, sZ, sS]
   refine tKg 4 263 hHeld ?_
   try simp only [Act.put, sA, sZ, sS]
   refine tKg 5 264 hHeld ?_
   try simp only [Act.put, sA, sZ, sS]
   refine rKc (i:=2) 107 #[.tmp 259, (.const (.i 1)), .tmp 260] #[59, 3, 3] (some 261) (none) #[.agg (Ac st ow sm br ma us ge ep ve), .i 1, .i own] (enters_of Tryz.func107 (by kernel_rfl) rfl) ?_
   refine (plain_any _ ⟨st, ow, sm, br, ma, us, ge, ep, ve⟩ 1 own).mono ?_
   rintro e w6 ⟨rfl, hb6⟩
   refine ⟨_, rfl, hHeld.later hb6, fun hHeld2 => ?_⟩
   try simp only [Act.put, sA, sZ, sS]
   refine tKg 6 265 hHeld2 ?_
   try simp only [Act.put, sA, sZ, sS]
   refine tKg 7 266 hHeld2 ?_
   try simp only [Act.put, sA, sZ, sS]
   refine tKg 8 267 hHeld2 ?_
   try simp only [Act.put, sA, sZ, sS]
   obtain ⟨kp1, Z, kp2, kp3⟩:=hHeld2
   refine ready_store_row (i:=9) (by kernel_rfl) 59 (.tmp 8) (.tmp 261) (by kernel_rfl) (w.heap.size + 1) _ _ (Ac 1 own 0 false false 0 ge 0 ve) (by kernel_rfl) (by kernel_rfl) kp3 kp2 (by kernel_rfl) (by kernel_rfl) (Kp.set ⟨kp1, Z, kp2, kp3⟩ ⟨1, own, 0, false, false, 0, ge, 0, ve⟩) (fun hHeld3 => ?_)
   try simp only [Act.put, sA, sZ, sS]
   refine tKg 10 9 hHeld3 ?_
   try simp only [Act.put, sA, sZ, sS]
   refine wpAnyH_done (by kernel_rfl) ?_ _
   go_simp
   clear rA rC
   go_wp2_with fail
   refine bR2 (w.heap.size + 1) (Kp.row ⟨kp1, Z, kp2, kp3⟩ ⟨1, own, 0, false, false, 0, ge, 0, ve⟩) Tryz.underlying59 ?_
   exact ⟨by rw [show row8 _ _ _ _ = _ from HR.out]; rfl, Kp.below hHeld3 hA (by omega)⟩
  ·have hr5 : (st == 5) = false:=by simpa using hp
   clear hp
   have HR:=Lib.hid (HR.out.trans (congrArg (Prod.mk ((plainS ⟨st, ow, sm, br, ma, us, ge, ep, ve⟩ 1 own) : S)) (show (st == 5 && ow == own) = (false) by simp [hr5])))
   obtain ⟨hA, ra, rb, rc⟩:=boxes8 w st ow sm br ma us ge ep ve
   go_enter Tryz.func101, Tryz.ntmps101
   go_upto_region 3 with (fail)
   generalize (((w.alloc (.cells (Ac st ow sm br ma us ge ep ve) 59)).alloc (.cells zero9 59)).alloc (.cells (Ac st ow sm br ma us ge ep ve) 59)) = wa at *
   obtain ⟨a0, a1, a2, a3, a4⟩:=rl5 ra
   go_upto_region 56 with (fail)
   clear a0 a1 a2 a3 a4
   generalize wa = wb at *
   have hK : Kp wb (w.heap.size + 1) wb:=⟨Chg.refl _ _, zero9, rfl, rb⟩
   have hKd:=hK.drew
   have rA : ∀ w', Kp wb (w.heap.size + 1) w' → RowAt w' w.heap.size (Ac st ow sm br ma us ge ep ve) 59:=fun w' h => ra.chg h.1 (by simp)
   have rC : ∀ w', Kp wb (w.heap.size + 1) w' → RowAt w' (w.heap.size + 1 + 1) (Ac st ow sm br ma us ge ep ve) 59:=fun w' h => rc.chg h.1 (by simp)
   clear ra rb rc hK
   obtain ⟨l0, l2, l3, l4⟩:=rl4 rA
   refine wp_region_held_drew (S:=fun w' => Kp wb (w.heap.size + 1) w') (by kernel_rfl) (by exact hKd) (fun hHeld => ?_)
   refine tKw (gd:=none) 0 259 (.load 59 (.tmp 4)) (.agg (Ac st ow sm br ma us ge ep ve)) (run_load_row 59 (.tmp 4) (w.heap.size) 59 (Ac st ow sm br ma us ge ep ve) _ (by kernel_rfl) Tryz.underlying59 rfl (by kernel_rfl) rA) hHeld ?_
   try simp only [Act.put, sA, sZ, sS]
   refine tKg 1 260 hHeld ?_
   try simp only [Act.put, sA, sZ, sS]
   refine tKg 3 262 hHeld ?_
   try simp only [Act.put, sA, sZ, sS]
   refine tKg 4 263 hHeld ?_
   try simp only [Act.put, sA, sZ, sS]
   refine tKg 5 264 hHeld ?_
   try simp only [Act.put, sA, sZ, sS]
   refine rKc (i:=2) 107 #[.tmp 259, (.const (.i 1)), .tmp 260] #[59, 3, 3] (some 261) (none) #[.agg (Ac st ow sm br ma us ge ep ve), .i 1, .i own] (enters_of Tryz.func107 (by kernel_rfl) rfl) ?_
   refine (plain_any _ ⟨st, ow, sm, br, ma, us, ge, ep, ve⟩ 1 own).mono ?_
   rintro e w6 ⟨rfl, hb6⟩
   refine ⟨_, rfl, hHeld.later hb6, fun hHeld2 => ?_⟩
   try simp only [Act.put, sA, sZ, sS]
   refine tKg 6 265 hHeld2 ?_
   try simp only [Act.put, sA, sZ, sS]
   refine sKp 7 (some 266) hHeld2 ?_
   try simp only [Act.put, sA, sZ, sS]
   refine tKg 8 267 hHeld2 ?_
   try simp only [Act.put, sA, sZ, sS]
   obtain ⟨kp1, Z, kp2, kp3⟩:=hHeld2
   refine ready_store_row (i:=9) (by kernel_rfl) 59 (.tmp 8) (.tmp 261) (by kernel_rfl) (w.heap.size + 1) _ _ (Ac 1 own 0 false false 0 ge 0 ve) (by kernel_rfl) (by kernel_rfl) kp3 kp2 (by kernel_rfl) (by kernel_rfl) (Kp.set ⟨kp1, Z, kp2, kp3⟩ ⟨1, own, 0, false, false, 0, ge, 0, ve⟩) (fun hHeld3 => ?_)
   try simp only [Act.put, sA, sZ, sS]
   refine tKg 10 9 hHeld3 ?_
   try simp only [Act.put, sA, sZ, sS]
   refine wpAnyH_done (by kernel_rfl) ?_ _
   go_simp
   clear rA rC
   go_wp2_with fail
   refine bR2 (w.heap.size + 1) (Kp.row ⟨kp1, Z, kp2, kp3⟩ ⟨1, own, 0, false, false, 0, ge, 0, ve⟩) Tryz.underlying59 ?_
   exact ⟨by rw [show row8 _ _ _ _ = _ from HR.out]; rfl, Kp.below hHeld3 hA (by omega)⟩
end Go.Proofs.YtpmkgddjgebojaaGreatDoor.R8
