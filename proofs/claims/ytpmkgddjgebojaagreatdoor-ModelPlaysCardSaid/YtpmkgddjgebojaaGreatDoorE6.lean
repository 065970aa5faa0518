/- Part 6 of the walks and plain laws that the last text joins. -/
import Derived.Test.YtpmkgddjgebojaaGreatDoorE2
import Derived.Deep.CutRange
set_option maxRecDepth 100000
set_option maxHeartbeats 16000000
set_option linter.unusedVariables false
set_option linter.unusedSimpArgs false
namespace Go.Proofs.YtpmkgddjgebojaaGreatDoor.Life
open Go.RowKit Hp Slot RowL
theorem broken_any (w : World) (s : S) (own more : Int) : Calls Tryz.prog 124 #[cval s own more] w fun e w' => e = .returned (.tuple #[({ s with broken:=true } : S).val, .bool (!s.broken && (s.state == 2 || (s.state == 3 || s.state == 4)))]) ∧ Below w.heap.size w w':=by
 have h2:=fun W => is_any W s own more 2
 have h3:=fun W => is_any W s own more 3
 have h4:=fun W => is_any W s own more 4
 generalize hb2 : (s.state == 2) = b2 at *
 generalize hb3 : (s.state == 3) = b3 at *
 generalize hb4 : (s.state == 4) = b4 at *
 clear hb2 hb3 hb4
 obtain ⟨st, ow, sm, br, ma, us, ge, ep, ve⟩:=s
 simp only [cval] at h2 h3 h4
 have hA : Below w.heap.size w (((w.alloc (.cells (Ae st ow sm br ma us ge ep ve own more) 141)).alloc (.cells zero9 59)).alloc (.cells (Ac st ow sm true ma us ge ep ve) 59)):=(((Below.refl _ _).alloc (Nat.le_refl _) _).alloc (by simp) _).alloc (by simp; omega) _
 have hK : Kp (((w.alloc (.cells (Ae st ow sm br ma us ge ep ve own more) 141)).alloc (.cells zero9 59)).alloc (.cells (Ac st ow sm true ma us ge ep ve) 59)) (w.heap.size + 1) (((w.alloc (.cells (Ae st ow sm br ma us ge ep ve own more) 141)).alloc (.cells zero9 59)).alloc (.cells (Ac st ow sm true ma us ge ep ve) 59)):=⟨Chg.refl _ _, zero9, rfl, heap_alloc3_mid w _ _ _⟩
 have R1 : RowAt (((w.alloc (.cells (Ae st ow sm br ma us ge ep ve own more) 141)).alloc (.cells zero9 59)).alloc (.cells (Ac st ow sm true ma us ge ep ve) 59)) w.heap.size (Ae st ow sm br ma us ge ep ve own more) 141:=by rw [RowAt, Below.heap_alloc _ _ _ (by simp; omega)]; exact heap_alloc2_old w _ _
 have R3 : RowAt (((w.alloc (.cells (Ae st ow sm br ma us ge ep ve own more) 141)).alloc (.cells zero9 59)).alloc (.cells (Ac st ow sm true ma us ge ep ve) 59)) (w.heap.size + 1 + 1) (Ac st ow sm true ma us ge ep ve) 59:=by have:=heap_alloc_new ((w.alloc (.cells (Ae st ow sm br ma us ge ep ve own more) 141)).alloc (.cells zero9 59)) (.cells (Ac st ow sm true ma us ge ep ve) 59); simpa [RowAt] using this
 have rC : ∀ w', Kp (((w.alloc (.cells (Ae st ow sm br ma us ge ep ve own more) 141)).alloc (.cells zero9 59)).alloc (.cells (Ac st ow sm true ma us ge ep ve) 59)) (w.heap.size + 1) w' → RowAt w' w.heap.size (Ae st ow sm br ma us ge ep ve own more) 141:=fun w' h => R1.chg h.1 (by simp)
 have rS : ∀ w', Kp (((w.alloc (.cells (Ae st ow sm br ma us ge ep ve own more) 141)).alloc (.cells zero9 59)).alloc (.cells (Ac st ow sm true ma us ge ep ve) 59)) (w.heap.size + 1) w' → RowAt w' (w.heap.size + 1 + 1) (Ac st ow sm true ma us ge ep ve) 59:=fun w' h => R3.chg h.1 (by simp)
 have l3 : ∀ w', Kp (((w.alloc (.cells (Ae st ow sm br ma us ge ep ve own more) 141)).alloc (.cells zero9 59)).alloc (.cells (Ac st ow sm true ma us ge ep ve) 59)) (w.heap.size + 1) w' → w'.cell? ⟨w.heap.size, 3, none⟩ = some (.bool br):=fun w' h => h.cell (by simp) (R1.cell 3)
 clear R1 R3
 go_enter Tryz.func124, Tryz.ntmps124
 go_wp2_with fail
 generalize (((w.alloc (.cells (Ae st ow sm br ma us ge ep ve own more) 141)).alloc (.cells zero9 59)).alloc (.cells (Ac st ow sm true ma us ge ep ve) 59)) = wa at *
 have hKd:=hK.drew
 cases br
 ·cases b2
  ·cases b3
   ·have : True:=trivial
    refine wp_region_held_drew (S:=fun w' => Kp wa (w.heap.size + 1) w') (by kernel_rfl) (by exact hKd) (fun hHeld => ?_)
    refine tKw (gd:=none) 0 8 (.load 59 (.tmp 4)) (.agg (Ac st ow sm true ma us ge ep ve)) (run_load_row 59 (.tmp 4) (w.heap.size + 1 + 1) 59 (Ac st ow sm true ma us ge ep ve) _ (by kernel_rfl) Tryz.underlying59 rfl (by kernel_rfl) rS) hHeld ?_
    try simp only [Act.put, sA, sZ, sS]
    refine tKg 1 9 hHeld ?_
    try simp only [Act.put, sA, sZ, sS]
    refine tKg 2 10 hHeld ?_
    try simp only [Act.put, sA, sZ, sS]
    refine tKg 3 11 hHeld ?_
    try simp only [Act.put, sA, sZ, sS]
    refine tKg 4 12 hHeld ?_
    try simp only [Act.put, sA, sZ, sS]
    refine tKg 5 13 hHeld ?_
    try simp only [Act.put, sA, sZ, sS]
    refine take_of (i:=6) (d:=some 14) (op:=.load 141 (.tmp 1)) (gd:=some (5, true)) (v:=.agg (Ae st ow sm false ma us ge ep ve own more)) (by kernel_rfl) (by kernel_rfl) (by kernel_rfl) (by kernel_rfl) (fun _ _ _ h => h) (by kernel_rfl) (run_load_row 141 (.tmp 1) (w.heap.size) 141 (Ae st ow sm false ma us ge ep ve own more) _ (by kernel_rfl) Tryz.underlying141 rfl (by kernel_rfl) rC) hHeld ?_
    try simp only [Act.put, sA, sZ, sS]
    refine rKc (i:=7) 138 #[.tmp 14, .const (.i 2)] #[141, 3] (some 15) (some (5, true)) #[.agg (Ae st ow sm false ma us ge ep ve own more), .i 2] (enters_of Tryz.func138 (by kernel_rfl) rfl) ?_
    refine (h2 _).mono ?_
    rintro e w6 ⟨rfl, hb6⟩
    refine ⟨_, rfl, hHeld.later hb6, fun hH2 => ?_⟩
    try simp only [Act.put, sA, sZ, sS]
    refine take_of (i:=8) (d:=some 16) (op:=.move (.tmp 15)) (gd:=some (5, true)) (v:=(.bool false)) (by kernel_rfl) (by kernel_rfl) (by kernel_rfl) (by kernel_rfl) (fun _ _ _ h => h) (by kernel_rfl) (run_move_of (.tmp 15) (.bool false) (by kernel_rfl)) hH2 ?_
    try simp only [Act.put, sA, sZ, sS]
    refine take_of (i:=9) (d:=some 17) (op:=.load 141 (.tmp 1)) (gd:=some (8, false)) (v:=.agg (Ae st ow sm false ma us ge ep ve own more)) (by kernel_rfl) (by kernel_rfl) (by kernel_rfl) (by kernel_rfl) (fun _ _ _ h => h) (by kernel_rfl) (run_load_row 141 (.tmp 1) (w.heap.size) 141 (Ae st ow sm false ma us ge ep ve own more) _ (by kernel_rfl) Tryz.underlying141 rfl (by kernel_rfl) rC) hH2 ?_
    try simp only [Act.put, sA, sZ, sS]
    refine rKc (i:=10) 138 #[.tmp 17, .const (.i 3)] #[141, 3] (some 18) (some (8, false)) #[.agg (Ae st ow sm false ma us ge ep ve own more), .i 3] (enters_of Tryz.func138 (by kernel_rfl) rfl) ?_
    refine (h3 _).mono ?_
    rintro e w6 ⟨rfl, hb6⟩
    refine ⟨_, rfl, hH2.later hb6, fun hH3 => ?_⟩
    try simp only [Act.put, sA, sZ, sS]
    refine take_of (i:=11) (d:=some 19) (op:=.pick (.tmp 16) (.const (.bool true)) (.tmp 18)) (gd:=some (5, true)) (v:=(.bool false)) (by kernel_rfl) (by kernel_rfl) (by kernel_rfl) (by kernel_rfl) (fun _ _ _ h => h) (by kernel_rfl) (run_pick_of (.tmp 16) (.const (.bool true)) (.tmp 18) false (.bool false) (by kernel_rfl) (by kernel_rfl)) hH3 ?_
    try simp only [Act.put, sA, sZ, sS]
    refine take_of (i:=12) (d:=some 20) (op:=.move (.tmp 19)) (gd:=some (5, true)) (v:=(.bool false)) (by kernel_rfl) (by kernel_rfl) (by kernel_rfl) (by kernel_rfl) (fun _ _ _ h => h) (by kernel_rfl) (run_move_of (.tmp 19) (.bool false) (by kernel_rfl)) hH3 ?_
    try simp only [Act.put, sA, sZ, sS]
    refine take_of (i:=13) (d:=some 21) (op:=.load 141 (.tmp 1)) (gd:=some (12, false)) (v:=.agg (Ae st ow sm false ma us ge ep ve own more)) (by kernel_rfl) (by kernel_rfl) (by kernel_rfl) (by kernel_rfl) (fun _ _ _ h => h) (by kernel_rfl) (run_load_row 141 (.tmp 1) (w.heap.size) 141 (Ae st ow sm false ma us ge ep ve own more) _ (by kernel_rfl) Tryz.underlying141 rfl (by kernel_rfl) rC) hH3 ?_
    try simp only [Act.put, sA, sZ, sS]
    refine rKc (i:=14) 138 #[.tmp 21, .const (.i 4)] #[141, 3] (some 22) (some (12, false)) #[.agg (Ae st ow sm false ma us ge ep ve own more), .i 4] (enters_of Tryz.func138 (by kernel_rfl) rfl) ?_
    refine (h4 _).mono ?_
    rintro e w6 ⟨rfl, hb6⟩
    refine ⟨_, rfl, hH3.later hb6, fun hH4 => ?_⟩
    try simp only [Act.put, sA, sZ, sS]
    refine take_of (i:=15) (d:=some 23) (op:=.pick (.tmp 20) (.const (.bool true)) (.tmp 22)) (gd:=some (5, true)) (v:=(.bool b4)) (by kernel_rfl) (by kernel_rfl) (by kernel_rfl) (by kernel_rfl) (fun _ _ _ h => h) (by kernel_rfl) (run_pick_of (.tmp 20) (.const (.bool true)) (.tmp 22) false (.bool b4) (by kernel_rfl) (by kernel_rfl)) hH4 ?_
    try simp only [Act.put, sA, sZ, sS]
    refine tKw (gd:=none) 16 24 (.pick (.tmp 13) (.tmp 23) (.const (.bool false))) ((.bool b4)) (run_pick_of (.tmp 13) (.tmp 23) (.const (.bool false)) true (.bool b4) (by kernel_rfl) (by kernel_rfl)) hH4 ?_
    try simp only [Act.put, sA, sZ, sS]
    obtain ⟨kp1, Z, kp2, kp3⟩:=hH4
    refine ready_store_row (i:=17) (by kernel_rfl) 59 (.tmp 2) (.tmp 8) (by kernel_rfl) (w.heap.size + 1) _ _ (Ac st ow sm true ma us ge ep ve) (by kernel_rfl) (by kernel_rfl) kp3 kp2 (by kernel_rfl) (by kernel_rfl) (Kp.set ⟨kp1, Z, kp2, kp3⟩ ⟨st, ow, sm, true, ma, us, ge, ep, ve⟩) (fun hHeld9 => ?_)
    try simp only [Act.put, sA, sZ, sS]
    refine tKw (gd:=none) 18 3 (.assign (.tmp 24)) ((.bool b4)) (run_assign_of (.tmp 24) (.bool b4) (by kernel_rfl)) hHeld9 ?_
    try simp only [Act.put, sA, sZ, sS]
    refine wpAnyH_done (by kernel_rfl) ?_ _
    go_simp
    clear rC rS
    go_wp2_with fail
    refine bR2 (w.heap.size + 1) (Kp.row ⟨kp1, Z, kp2, kp3⟩ ⟨st, ow, sm, true, ma, us, ge, ep, ve⟩) Tryz.underlying59 ?_
    exact ⟨rfl, Kp.below hHeld9 hA (by omega)⟩
   ·have : True:=trivial
    refine wp_region_held_drew (S:=fun w' => Kp wa (w.heap.size + 1) w') (by kernel_rfl) (by exact hKd) (fun hHeld => ?_)
    refine tKw (gd:=none) 0 8 (.load 59 (.tmp 4)) (.agg (Ac st ow sm true ma us ge ep ve)) (run_load_row 59 (.tmp 4) (w.heap.size + 1 + 1) 59 (Ac st ow sm true ma us ge ep ve) _ (by kernel_rfl) Tryz.underlying59 rfl (by kernel_rfl) rS) hHeld ?_
    try simp only [Act.put, sA, sZ, sS]
    refine tKg 1 9 hHeld ?_
    try simp only [Act.put, sA, sZ, sS]
    refine tKg 2 10 hHeld ?_
    try simp only [Act.put, sA, sZ, sS]
    refine tKg 3 11 hHeld ?_
    try simp only [Act.put, sA, sZ, sS]
    refine tKg 4 12 hHeld ?_
    try simp only [Act.put, sA, sZ, sS]
    refine tKg 5 13 hHeld ?_
    try simp only [Act.put, sA, sZ, sS]
    refine take_of (i:=6) (d:=some 14) (op:=.load 141 (.tmp 1)) (gd:=some (5, true)) (v:=.agg (Ae st ow sm false ma us ge ep ve own more)) (by kernel_rfl) (by kernel_rfl) (by kernel_rfl) (by kernel_rfl) (fun _ _ _ h => h) (by kernel_rfl) (run_load_row 141 (.tmp 1) (w.heap.size) 141 (Ae st ow sm false ma us ge ep ve own more) _ (by kernel_rfl) Tryz.underlying141 rfl (by kernel_rfl) rC) hHeld ?_
    try simp only [Act.put, sA, sZ, sS]
    refine rKc (i:=7) 138 #[.tmp 14, .const (.i 2)] #[141, 3] (some 15) (some (5, true)) #[.agg (Ae st ow sm false ma us ge ep ve own more), .i 2] (enters_of Tryz.func138 (by kernel_rfl) rfl) ?_
    refine (h2 _).mono ?_
    rintro e w6 ⟨rfl, hb6⟩
    refine ⟨_, rfl, hHeld.later hb6, fun hH2 => ?_⟩
    try simp only [Act.put, sA, sZ, sS]
    refine take_of (i:=8) (d:=some 16) (op:=.move (.tmp 15)) (gd:=some (5, true)) (v:=(.bool false)) (by kernel_rfl) (by kernel_rfl) (by kernel_rfl) (by kernel_rfl) (fun _ _ _ h => h) (by kernel_rfl) (run_move_of (.tmp 15) (.bool false) (by kernel_rfl)) hH2 ?_
    try simp only [Act.put, sA, sZ, sS]
    refine take_of (i:=9) (d:=some 17) (op:=.load 141 (.tmp 1)) (gd:=some (8, false)) (v:=.agg (Ae st ow sm false ma us ge ep ve own more)) (by kernel_rfl) (by kernel_rfl) (by kernel_rfl) (by kernel_rfl) (fun _ _ _ h => h) (by kernel_rfl) (run_load_row 141 (.tmp 1) (w.heap.size) 141 (Ae st ow sm false ma us ge ep ve own more) _ (by kernel_rfl) Tryz.underlying141 rfl (by kernel_rfl) rC) hH2 ?_
    try simp only [Act.put, sA, sZ, sS]
    refine rKc (i:=10) 138 #[.tmp 17, .const (.i 3)] #[141, 3] (some 18) (some (8, false)) #[.agg (Ae st ow sm false ma us ge ep ve own more), .i 3] (enters_of Tryz.func138 (by kernel_rfl) rfl) ?_
    refine (h3 _).mono ?_
    rintro e w6 ⟨rfl, hb6⟩
    refine ⟨_, rfl, hH2.later hb6, fun hH3 => ?_⟩
    try simp only [Act.put, sA, sZ, sS]
    refine take_of (i:=11) (d:=some 19) (op:=.pick (.tmp 16) (.const (.bool true)) (.tmp 18)) (gd:=some (5, true)) (v:=(.bool true)) (by kernel_rfl) (by kernel_rfl) (by kernel_rfl) (by kernel_rfl) (fun _ _ _ h => h) (by kernel_rfl) (run_pick_of (.tmp 16) (.const (.bool true)) (.tmp 18) false (.bool true) (by kernel_rfl) (by kernel_rfl)) hH3 ?_
    try simp only [Act.put, sA, sZ, sS]
    refine take_of (i:=12) (d:=some 20) (op:=.move (.tmp 19)) (gd:=some (5, true)) (v:=(.bool true)) (by kernel_rfl) (by kernel_rfl) (by kernel_rfl) (by kernel_rfl) (fun _ _ _ h => h) (by kernel_rfl) (run_move_of (.tmp 19) (.bool true) (by kernel_rfl)) hH3 ?_
    try simp only [Act.put, sA, sZ, sS]
    refine sKp 13 (some 21) hH3 ?_
    try simp only [Act.put, sA, sZ, sS]
    refine sKp 14 (some 22) hH3 ?_
    try simp only [Act.put, sA, sZ, sS]
    refine take_of (i:=15) (d:=some 23) (op:=.pick (.tmp 20) (.const (.bool true)) (.tmp 22)) (gd:=some (5, true)) (v:=(.bool true)) (by kernel_rfl) (by kernel_rfl) (by kernel_rfl) (by kernel_rfl) (fun _ _ _ h => h) (by kernel_rfl) (run_pick_of (.tmp 20) (.const (.bool true)) (.tmp 22) true (.bool true) (by kernel_rfl) (by kernel_rfl)) hH3 ?_
    try simp only [Act.put, sA, sZ, sS]
    refine tKw (gd:=none) 16 24 (.pick (.tmp 13) (.tmp 23) (.const (.bool false))) ((.bool true)) (run_pick_of (.tmp 13) (.tmp 23) (.const (.bool false)) true (.bool true) (by kernel_rfl) (by kernel_rfl)) hH3 ?_
    try simp only [Act.put, sA, sZ, sS]
    obtain ⟨kp1, Z, kp2, kp3⟩:=hH3
    refine ready_store_row (i:=17) (by kernel_rfl) 59 (.tmp 2) (.tmp 8) (by kernel_rfl) (w.heap.size + 1) _ _ (Ac st ow sm true ma us ge ep ve) (by kernel_rfl) (by kernel_rfl) kp3 kp2 (by kernel_rfl) (by kernel_rfl) (Kp.set ⟨kp1, Z, kp2, kp3⟩ ⟨st, ow, sm, true, ma, us, ge, ep, ve⟩) (fun hHeld9 => ?_)
    try simp only [Act.put, sA, sZ, sS]
    refine tKw (gd:=none) 18 3 (.assign (.tmp 24)) ((.bool true)) (run_assign_of (.tmp 24) (.bool true) (by kernel_rfl)) hHeld9 ?_
    try simp only [Act.put, sA, sZ, sS]
    refine wpAnyH_done (by kernel_rfl) ?_ _
    go_simp
    clear rC rS
    go_wp2_with fail
    refine bR2 (w.heap.size + 1) (Kp.row ⟨kp1, Z, kp2, kp3⟩ ⟨st, ow, sm, true, ma, us, ge, ep, ve⟩) Tryz.underlying59 ?_
    exact ⟨rfl, Kp.below hHeld9 hA (by omega)⟩
  ·have : True:=trivial
   refine wp_region_held_drew (S:=fun w' => Kp wa (w.heap.size + 1) w') (by kernel_rfl) (by exact hKd) (fun hHeld => ?_)
   refine tKw (gd:=none) 0 8 (.load 59 (.tmp 4)) (.agg (Ac st ow sm true ma us ge ep ve)) (run_load_row 59 (.tmp 4) (w.heap.size + 1 + 1) 59 (Ac st ow sm true ma us ge ep ve) _ (by kernel_rfl) Tryz.underlying59 rfl (by kernel_rfl) rS) hHeld ?_
   try simp only [Act.put, sA, sZ, sS]
   refine tKg 1 9 hHeld ?_
   try simp only [Act.put, sA, sZ, sS]
   refine tKg 2 10 hHeld ?_
   try simp only [Act.put, sA, sZ, sS]
   refine tKg 3 11 hHeld ?_
   try simp only [Act.put, sA, sZ, sS]
   refine tKg 4 12 hHeld ?_
   try simp only [Act.put, sA, sZ, sS]
   refine tKg 5 13 hHeld ?_
   try simp only [Act.put, sA, sZ, sS]
   refine take_of (i:=6) (d:=some 14) (op:=.load 141 (.tmp 1)) (gd:=some (5, true)) (v:=.agg (Ae st ow sm false ma us ge ep ve own more)) (by kernel_rfl) (by kernel_rfl) (by kernel_rfl) (by kernel_rfl) (fun _ _ _ h => h) (by kernel_rfl) (run_load_row 141 (.tmp 1) (w.heap.size) 141 (Ae st ow sm false ma us ge ep ve own more) _ (by kernel_rfl) Tryz.underlying141 rfl (by kernel_rfl) rC) hHeld ?_
   try simp only [Act.put, sA, sZ, sS]
   refine rKc (i:=7) 138 #[.tmp 14, .const (.i 2)] #[141, 3] (some 15) (some (5, true)) #[.agg (Ae st ow sm false ma us ge ep ve own more), .i 2] (enters_of Tryz.func138 (by kernel_rfl) rfl) ?_
   refine (h2 _).mono ?_
   rintro e w6 ⟨rfl, hb6⟩
   refine ⟨_, rfl, hHeld.later hb6, fun hH2 => ?_⟩
   try simp only [Act.put, sA, sZ, sS]
   refine take_of (i:=8) (d:=some 16) (op:=.move (.tmp 15)) (gd:=some (5, true)) (v:=(.bool true)) (by kernel_rfl) (by kernel_rfl) (by kernel_rfl) (by kernel_rfl) (fun _ _ _ h => h) (by kernel_rfl) (run_move_of (.tmp 15) (.bool true) (by kernel_rfl)) hH2 ?_
   try simp only [Act.put, sA, sZ, sS]
   refine sKp 9 (some 17) hH2 ?_
   try simp only [Act.put, sA, sZ, sS]
   refine sKp 10 (some 18) hH2 ?_
   try simp only [Act.put, sA, sZ, sS]
   refine take_of (i:=11) (d:=some 19) (op:=.pick (.tmp 16) (.const (.bool true)) (.tmp 18)) (gd:=some (5, true)) (v:=(.bool true)) (by kernel_rfl) (by kernel_rfl) (by kernel_rfl) (by kernel_rfl) (fun _ _ _ h => h) (by kernel_rfl) (run_pick_of (.tmp 16) (.const (.bool true)) (.tmp 18) true (.bool true) (by kernel_rfl) (by kernel_rfl)) hH2 ?_
   try simp only [Act.put, sA, sZ, sS]
   refine take_of (i:=12) (d:=some 20) (op:=.move (.tmp 19)) (gd:=some (5, true)) (v:=(.bool true)) (by kernel_rfl) (by kernel_rfl) (by kernel_rfl) (by kernel_rfl) (fun _ _ _ h => h) (by kernel_rfl) (run_move_of (.tmp 19) (.bool true) (by kernel_rfl)) hH2 ?_
   try simp only [Act.put, sA, sZ, sS]
   refine sKp 13 (some 21) hH2 ?_
   try simp only [Act.put, sA, sZ, sS]
   refine sKp 14 (some 22) hH2 ?_
   try simp only [Act.put, sA, sZ, sS]
   refine take_of (i:=15) (d:=some 23) (op:=.pick (.tmp 20) (.const (.bool true)) (.tmp 22)) (gd:=some (5, true)) (v:=(.bool true)) (by kernel_rfl) (by kernel_rfl) (by kernel_rfl) (by kernel_rfl) (fun _ _ _ h => h) (by kernel_rfl) (run_pick_of (.tmp 20) (.const (.bool true)) (.tmp 22) true (.bool true) (by kernel_rfl) (by kernel_rfl)) hH2 ?_
   try simp only [Act.put, sA, sZ, sS]
   refine tKw (gd:=none) 16 24 (.pick (.tmp 13) (.tmp 23) (.const (.bool false))) ((.bool true)) (run_pick_of (.tmp 13) (.tmp 23) (.const (.bool false)) true (.bool true) (by kernel_rfl) (by kernel_rfl)) hH2 ?_
   try simp only [Act.put, sA, sZ, sS]
   obtain ⟨kp1, Z, kp2, kp3⟩:=hH2
   refine ready_store_row (i:=17) (by kernel_rfl) 59 (.tmp 2) (.tmp 8) (by kernel_rfl) (w.heap.size + 1) _ _ (Ac st ow sm true ma us ge ep ve) (by kernel_rfl) (by kernel_rfl) kp3 kp2 (by kernel_rfl) (by kernel_rfl) (Kp.set ⟨kp1, Z, kp2, kp3⟩ ⟨st, ow, sm, true, ma, us, ge, ep, ve⟩) (fun hHeld9 => ?_)
   try simp only [Act.put, sA, sZ, sS]
   refine tKw (gd:=none) 18 3 (.assign (.tmp 24)) ((.bool true)) (run_assign_of (.tmp 24) (.bool true) (by kernel_rfl)) hHeld9 ?_
   try simp only [Act.put, sA, sZ, sS]
   refine wpAnyH_done (by kernel_rfl) ?_ _
   go_simp
   clear rC rS
   go_wp2_with fail
   refine bR2 (w.heap.size + 1) (Kp.row ⟨kp1, Z, kp2, kp3⟩ ⟨st, ow, sm, true, ma, us, ge, ep, ve⟩) Tryz.underlying59 ?_
   exact ⟨rfl, Kp.below hHeld9 hA (by omega)⟩
 ·have : True:=trivial
  refine wp_region_held_drew (S:=fun w' => Kp wa (w.heap.size + 1) w') (by kernel_rfl) (by exact hKd) (fun hHeld => ?_)
  refine tKw (gd:=none) 0 8 (.load 59 (.tmp 4)) (.agg (Ac st ow sm true ma us ge ep ve)) (run_load_row 59 (.tmp 4) (w.heap.size + 1 + 1) 59 (Ac st ow sm true ma us ge ep ve) _ (by kernel_rfl) Tryz.underlying59 rfl (by kernel_rfl) rS) hHeld ?_
  try simp only [Act.put, sA, sZ, sS]
  refine tKg 1 9 hHeld ?_
  try simp only [Act.put, sA, sZ, sS]
  refine tKg 2 10 hHeld ?_
  try simp only [Act.put, sA, sZ, sS]
  refine tKg 3 11 hHeld ?_
  try simp only [Act.put, sA, sZ, sS]
  refine tKg 4 12 hHeld ?_
  try simp only [Act.put, sA, sZ, sS]
  refine tKg 5 13 hHeld ?_
  try simp only [Act.put, sA, sZ, sS]
  refine sKp 6 (some 14) hHeld ?_
  try simp only [Act.put, sA, sZ, sS]
  refine sKp 7 (some 15) hHeld ?_
  try simp only [Act.put, sA, sZ, sS]
  refine sKp 8 (some 16) hHeld ?_
  try simp only [Act.put, sA, sZ, sS]
  refine sKp 9 (some 17) hHeld ?_
  try simp only [Act.put, sA, sZ, sS]
  refine sKp 10 (some 18) hHeld ?_
  try simp only [Act.put, sA, sZ, sS]
  refine sKp 11 (some 19) hHeld ?_
  try simp only [Act.put, sA, sZ, sS]
  refine sKp 12 (some 20) hHeld ?_
  try simp only [Act.put, sA, sZ, sS]
  refine sKp 13 (some 21) hHeld ?_
  try simp only [Act.put, sA, sZ, sS]
  refine sKp 14 (some 22) hHeld ?_
  try simp only [Act.put, sA, sZ, sS]
  refine sKp 15 (some 23) hHeld ?_
  try simp only [Act.put, sA, sZ, sS]
  refine tKw (gd:=none) 16 24 (.pick (.tmp 13) (.tmp 23) (.const (.bool false))) ((.bool false)) (run_pick_of (.tmp 13) (.tmp 23) (.const (.bool false)) false (.bool false) (by kernel_rfl) (by kernel_rfl)) hHeld ?_
  try simp only [Act.put, sA, sZ, sS]
  obtain ⟨kp1, Z, kp2, kp3⟩:=hHeld
  refine ready_store_row (i:=17) (by kernel_rfl) 59 (.tmp 2) (.tmp 8) (by kernel_rfl) (w.heap.size + 1) _ _ (Ac st ow sm true ma us ge ep ve) (by kernel_rfl) (by kernel_rfl) kp3 kp2 (by kernel_rfl) (by kernel_rfl) (Kp.set ⟨kp1, Z, kp2, kp3⟩ ⟨st, ow, sm, true, ma, us, ge, ep, ve⟩) (fun hHeld9 => ?_)
  try simp only [Act.put, sA, sZ, sS]
  refine tKw (gd:=none) 18 3 (.assign (.tmp 24)) ((.bool false)) (run_assign_of (.tmp 24) (.bool false) (by kernel_rfl)) hHeld9 ?_
  try simp only [Act.put, sA, sZ, sS]
  refine wpAnyH_done (by kernel_rfl) ?_ _
  go_simp
  clear rC rS
  go_wp2_with fail
  refine bR2 (w.heap.size + 1) (Kp.row ⟨kp1, Z, kp2, kp3⟩ ⟨st, ow, sm, true, ma, us, ge, ep, ve⟩) Tryz.underlying59 ?_
  exact ⟨rfl, Kp.below hHeld9 hA (by omega)⟩
end Go.Proofs.YtpmkgddjgebojaaGreatDoor.Life
namespace Go.Proofs.YtpmkgddjgebojaaGreatDoor.Slot
open Go.RowKit Hp Life
theorem right_iff (s : S) : s.right = true ↔ ((0 ≤ s.state ∧ s.state ≤ 6) ∧ (0 ≤ s.own ∧ s.own ≤ 15) ∧ (0 ≤ s.streams ∧ s.streams ≤ 255) ∧ (0 ≤ s.uses ∧ s.uses ≤ 63) ∧ (0 ≤ s.gen ∧ s.gen ≤ 4095) ∧ (0 ≤ s.epoch ∧ s.epoch ≤ 4095) ∧ (0 ≤ s.version ∧ s.version ≤ 32767)) ∧
  (s.state = 3 ∨ s.streams = 0) ∧ (s.state = 2 ∨ s.marked = false) ∧ ((s.state = 2 ∨ s.state = 3 ∨ s.state = 4) ∨ (s.broken = false ∧ s.uses = 0)) ∧ (s.state = 6 ∨ s.epoch = 0) ∧ ((s.state ≠ 0 ∧ s.state ≠ 6) ∨ s.own = 0):=by
 have m3 : (Field.mx 3 : Int) = 7:=rfl
 have m4 : (Field.mx 4 : Int) = 15:=rfl
 have m8 : (Field.mx 8 : Int) = 255:=rfl
 have m1 : (Field.mx 1 : Int) = 1:=rfl
 have m6 : (Field.mx 6 : Int) = 63:=rfl
 have m12 : (Field.mx 12 : Int) = 4095:=rfl
 have m15 : (Field.mx 15 : Int) = 32767:=rfl
 have hb : ∀ b, 0 ≤ bit b ∧ bit b ≤ 1:=fun b => by cases b <;> decide
 obtain ⟨st, ow, sm, br, ma, us, ge, ep, ve⟩:=s
 have hb1:=hb br
 have hb2:=hb ma
 simp only [S.right, S.bare, Field.packOk, fields9, S.nums, Bool.and_eq_true, decide_eq_true_eq, m3, m4, m8, m6, m12, m15, m1, S.mk.injEq, true_and, and_true]
 constructor
 ·rintro ⟨h6, ⟨e1, e2, e3, e4, e5, e6⟩, h⟩
  refine ⟨by omega, ?_, ?_, ?_, ?_, ?_⟩
  ·by_cases h3 : st = 3
   ·exact .inl h3
   ·rw [if_neg h3] at e2; exact .inr e2
  ·by_cases h3 : st = 2
   ·exact .inl h3
   ·rw [if_neg h3] at e4; exact .inr e4
  ·by_cases h3 : st = 2 ∨ st = 3 ∨ st = 4
   ·exact .inl h3
   ·rw [if_neg h3] at e3 e5; exact .inr ⟨e3, e5⟩
  ·by_cases h3 : st = 6
   ·exact .inl h3
   ·rw [if_neg h3] at e6; exact .inr e6
  ·by_cases h3 : st = 0 ∨ st = 6
   ·rw [if_pos h3] at e1; exact .inr e1
   ·exact .inl (by omega)
 ·rintro ⟨h, a1, a2, a3, a4, a5⟩
  refine ⟨by omega, ⟨?_, ?_, ?_, ?_, ?_, ?_⟩, by omega⟩
  ·by_cases h3 : st = 0 ∨ st = 6
   ·rw [if_pos h3]; omega
   ·rw [if_neg h3]
  ·by_cases h3 : st = 3
   ·rw [if_pos h3]
   ·rw [if_neg h3]; omega
  ·by_cases h3 : st = 2 ∨ st = 3 ∨ st = 4
   ·rw [if_pos h3]
   ·rw [if_neg h3]; rcases a3 with a3 | a3; exact absurd a3 h3; exact a3.1
  ·by_cases h3 : st = 2
   ·rw [if_pos h3]
   ·rw [if_neg h3]; rcases a2 with a2 | a2; exact absurd a2 h3; exact a2
  ·by_cases h3 : st = 2 ∨ st = 3 ∨ st = 4
   ·rw [if_pos h3]
   ·rw [if_neg h3]; rcases a3 with a3 | a3; exact absurd a3 h3; exact a3.2
  ·by_cases h3 : st = 6
   ·rw [if_pos h3]
   ·rw [if_neg h3]; omega
def from0 (n m : Int) : Bool:=decide (0 ≤ n ∧ n ≤ m)
theorem from0_any (w : World) (n m : Int) : Calls Tryz.prog 106 #[.i n, .i m] w fun e w' => e = .returned (.bool (from0 n m)) ∧ w = w':=by
 go_enter Tryz.func106, Tryz.ntmps106
 by_cases h : 0 ≤ n
 ·go_wp2
  go_ret
  exact ⟨Base.ret_bool (by simp [from0, h]), rfl⟩
 ·go_wp2
  go_ret
  exact ⟨Base.ret_bool (by simp [from0]; omega), rfl⟩
end Go.Proofs.YtpmkgddjgebojaaGreatDoor.Slot
namespace Go.Proofs.YtpmkgddjgebojaaGreatDoor.R8
open Go.RowKit Hp Slot RowL Life
theorem leased_any (w : World) (s : S) (own : Int) (hu : 0 ≤ s.uses ∧ s.uses ≤ 63) (hg : 0 ≤ s.gen ∧ s.gen ≤ 4095) : Calls Tryz.prog 108 #[s.val, .i own] w fun e w' => e = .returned (leasedS s own).val ∧ Below w.heap.size w w':=by
 have hp:=fun W => plain_any W s 3 own
 obtain ⟨st, ow, sm, br, ma, us, ge, ep, ve⟩:=s
 simp only [S.val, S.cells, plainS] at hp hu hg
 obtain ⟨hu0, hu1⟩:=hu
 obtain ⟨hg0, hg1⟩:=hg
 have hl : (leasedS ⟨st, ow, sm, br, ma, us, ge, ep, ve⟩ own).val = .agg (Ac 3 own 0 br false (min (us + 1) 63) ((ge + 1) % 4096) 0 ve):=rfl
 have HL:=Lib.hid hl
 clear hl
 simp only [S.val, S.cells]
 have hA : Below w.heap.size w ((w.alloc (.cells (Ac st ow sm br ma us ge ep ve) 59)).alloc (.cells zero9 59)):=((Below.refl _ _).alloc (Nat.le_refl _) _).alloc (by simp) _
 have r1 : RowAt ((w.alloc (.cells (Ac st ow sm br ma us ge ep ve) 59)).alloc (.cells zero9 59)) w.heap.size (Ac st ow sm br ma us ge ep ve) 59:=heap_alloc2_old w _ _
 have r2 : RowAt ((w.alloc (.cells (Ac st ow sm br ma us ge ep ve) 59)).alloc (.cells zero9 59)) (w.heap.size + 1) zero9 59:=heap_alloc2_new w _ _
 go_enter Tryz.func108, Tryz.ntmps108
 go_wp2_with fail
 refine (hp _).mono ?_
 rintro e w5 ⟨rfl, hb⟩
 have hb5:=hA.trans (hb.mono (by simp; omega))
 have q1:=r1.below hb
 have q2:=r2.below hb
 clear hp hA hb r1 r2
 have hsz : w.heap.size + 1 < w5.heap.size:=q2.lt
 have rT:=RowAt.new w5 (Ac 3 own 0 false false 0 ge 0 ve) 59
 go_upto_region 2 with (fail)
 have q1':=q1.alloc (.cells (Ac 3 own 0 false false 0 ge 0 ve) 59)
 have q2':=q2.alloc (.cells (Ac 3 own 0 false false 0 ge 0 ve) 59)
 have hb6:=hb5.alloc hb5.size (.cells (Ac 3 own 0 false false 0 ge 0 ve) 59)
 clear q1 q2 hb5
 generalize w5.alloc (.cells (Ac 3 own 0 false false 0 ge 0 ve) 59) = w6 at *
 generalize w5.heap.size = tb at *
 have n1 : ¬ w.heap.size = tb:=by omega
 have n2 : ¬ w.heap.size + 1 = tb:=by omega
 have c3 : w6.cell? ⟨w.heap.size, 3, none⟩ = some (.bool br):=q1'.cell 3
 have c5 : w6.cell? ⟨w.heap.size, 5, none⟩ = some (.i us):=q1'.cell 5
 have c6 : w6.cell? ⟨w.heap.size, 6, none⟩ = some (.i ge):=q1'.cell 6
 have t3 : w6.cell? ⟨tb, 3, none⟩ = some (.bool false):=rT.cell 3
 have t5 : w6.cell? ⟨tb, 5, none⟩ = some (.i 0):=rT.cell 5
 have t6 : w6.cell? ⟨tb, 6, none⟩ = some (.i ge):=rT.cell 6
 have z3 : w6.frozen? ⟨tb, 3, none⟩ = false:=rT.frozen 3
 have z5 : w6.frozen? ⟨tb, 5, none⟩ = false:=rT.frozen 5
 have z6 : w6.frozen? ⟨tb, 6, none⟩ = false:=rT.frozen 6
 have hwn : w.heap.size ≤ tb:=by omega
 have RT:=Lib.hid rT
 have Q2:=Lib.hid q2'
 have HB:=Lib.hid hb6
 clear hsz rT q1' q2' hb6
 have hm : (if 63 < us + 1 then (63 : Int) else us + 1) = min (us + 1) 63:=by split <;> omega
 have HM:=Lib.hid hm
 clear hm
 by_cases hg5 : ge = 4095
 ·subst hg5
  go_upto_region 7 with (fail)
  rw [HM.out]
  have r3 : RowAt ((((w6.setCell ⟨tb, 3, none⟩ (.bool br)).setCell ⟨tb, 5, none⟩ (.i (min (us + 1) 63))).setCell ⟨tb, 6, none⟩ (.i 4096)).setCell ⟨tb, 6, none⟩ (.i 0)) tb (Ac 3 own 0 br false (min (us + 1) 63) 0 0 ve) 59:=(((RT.out.setc 3 _).setc 5 _).setc 6 _).setc 6 _
  have q3:=setOther (setOther (setOther (setOther Q2.out (p:=⟨tb, 3, none⟩) (.bool br) n2) (p:=⟨tb, 5, none⟩) (.i (min (us + 1) 63)) n2) (p:=⟨tb, 6, none⟩) (.i 4096) n2) (p:=⟨tb, 6, none⟩) (.i 0) n2
  have hb7:=(((HB.out.setCell (p:=⟨tb, 3, none⟩) hwn (.bool br)).setCell (p:=⟨tb, 5, none⟩) hwn (.i (min (us + 1) 63))).setCell (p:=⟨tb, 6, none⟩) hwn (.i 4096)).setCell (p:=⟨tb, 6, none⟩) hwn (.i 0)
  generalize (((w6.setCell ⟨tb, 3, none⟩ (.bool br)).setCell ⟨tb, 5, none⟩ (.i (min (us + 1) 63))).setCell ⟨tb, 6, none⟩ (.i 4096)).setCell ⟨tb, 6, none⟩ (.i 0) = w7 at *
  have e1 : (leasedS ⟨st, ow, sm, br, ma, us, 4095, ep, ve⟩ own).val = .agg (Ac 3 own 0 br false (min (us + 1) 63) 0 0 ve):=rfl
  have HE:=Lib.hid e1
  generalize min (us + 1) 63 = mu at *
  clear e1 HL
  refine wp_region_lit ?_
  refine RowL.grow r3 59 (.tmp 5) Tryz.underlying59 ?_
  refine RowL.gSt q3 (Ac 3 own 0 br false mu 0 0 ve) 59 (.tmp 4) (.tmp 25) ?_
  have q4:=q3.set (Ac 3 own 0 br false mu 0 0 ve)
  have hb8 : Below w.heap.size w (w7.setRow (w.heap.size + 1) (Ac 3 own 0 br false mu 0 0 ve)):=below_setRow hb7 (by omega) _
  go_wp2_with fail
  refine bR1 (w.heap.size + 1) q4 Tryz.underlying59 ?_
  exact ⟨congrArg Ending.returned HE.out.symm, hb8⟩
 ·have hg6 : (ge + 1 == 4096) = false:=by simp; omega
  go_upto_region 7 with (fail)
  rw [HM.out]
  have r3 : RowAt (((w6.setCell ⟨tb, 3, none⟩ (.bool br)).setCell ⟨tb, 5, none⟩ (.i (min (us + 1) 63))).setCell ⟨tb, 6, none⟩ (.i (ge + 1))) tb (Ac 3 own 0 br false (min (us + 1) 63) (ge + 1) 0 ve) 59:=((RT.out.setc 3 _).setc 5 _).setc 6 _
  have q3:=setOther (setOther (setOther Q2.out (p:=⟨tb, 3, none⟩) (.bool br) n2) (p:=⟨tb, 5, none⟩) (.i (min (us + 1) 63)) n2) (p:=⟨tb, 6, none⟩) (.i (ge + 1)) n2
  have hb7:=((HB.out.setCell (p:=⟨tb, 3, none⟩) hwn (.bool br)).setCell (p:=⟨tb, 5, none⟩) hwn (.i (min (us + 1) 63))).setCell (p:=⟨tb, 6, none⟩) hwn (.i (ge + 1))
  generalize ((w6.setCell ⟨tb, 3, none⟩ (.bool br)).setCell ⟨tb, 5, none⟩ (.i (min (us + 1) 63))).setCell ⟨tb, 6, none⟩ (.i (ge + 1)) = w7 at *
  have e1 : (leasedS ⟨st, ow, sm, br, ma, us, ge, ep, ve⟩ own).val = .agg (Ac 3 own 0 br false (min (us + 1) 63) (ge + 1) 0 ve):=by
   rw [HL.out, show (ge + 1) % 4096 = ge + 1 by omega]
  have HE:=Lib.hid e1
  generalize min (us + 1) 63 = mu at *
  clear e1 HL
  refine wp_region_lit ?_
  refine RowL.grow r3 59 (.tmp 5) Tryz.underlying59 ?_
  refine RowL.gSt q3 (Ac 3 own 0 br false mu (ge + 1) 0 ve) 59 (.tmp 4) (.tmp 25) ?_
  have q4:=q3.set (Ac 3 own 0 br false mu (ge + 1) 0 ve)
  have hb8 : Below w.heap.size w (w7.setRow (w.heap.size + 1) (Ac 3 own 0 br false mu (ge + 1) 0 ve)):=below_setRow hb7 (by omega) _
  go_wp2_with fail
  refine bR1 (w.heap.size + 1) q4 Tryz.underlying59 ?_
  exact ⟨congrArg Ending.returned HE.out.symm, hb8⟩
def row8 (d : Nat) (s : S) (own more : Int) : S × Bool :=
 match d with
 | 0 => (plainS s 1 own, s.state == 0)
 | 1 => (leasedS (plainS s 1 own) own, s.state == 1 && s.own == own)
 | 2 => (plainS s 0 0, s.state == 1 && s.own == own)
 | 3 => (leasedS s own, s.state == 2 && !s.broken)
 | 4 => ({ s with state:=2 }, (s.state == 3 && s.own == own) && s.streams == 0)
 | 5 => ({ s with state:=4, own:=own, marked:=false }, s.state == 2 && !s.broken)
 | 7 => (plainS s 5 own, s.state == 0)
 | 9 => ({ s with own:=own }, s.state == 2)
 | 10 => ({ s with marked:=true }, s.state == 2 && !s.marked)
 | 13 => ({ s with broken:=true }, (decide (2 ≤ s.state) && decide (s.state ≤ 4)) && !s.broken)
 | 14 => ({ s with streams:=s.streams + pw (lowN 9 s.streams.toNat) }, (((s.state == 3 && s.own == own) && !s.broken) && decide ((lowN 9 s.streams.toNat : Int) < more)) && decide ((lowN 9 s.streams.toNat : Int) < 8))
 | 15 => if s.state ≠ 3 ∨ s.own ≠ own ∨ more < 0 ∨ 7 < more then (s, false) else ({ s with streams:=s.streams - pw more.toNat }, s.streams / pw more.toNat % 2 == 1)
 | 16 => if s.state = 4 then (leasedS s own, s.own == own) else (plainS s 1 own, s.state == 5 && s.own == own)
 | _ => (s, false)
theorem boxes8 (w : World) (st ow sm : Int) (br ma : Bool) (us ge ep ve : Int) : (Below w.heap.size w (((w.alloc (.cells (Ac st ow sm br ma us ge ep ve) 59)).alloc (.cells zero9 59)).alloc (.cells (Ac st ow sm br ma us ge ep ve) 59))) ∧ (RowAt (((w.alloc (.cells (Ac st ow sm br ma us ge ep ve) 59)).alloc (.cells zero9 59)).alloc (.cells (Ac st ow sm br ma us ge ep ve) 59)) w.heap.size (Ac st ow sm br ma us ge ep ve) 59) ∧ (RowAt (((w.alloc (.cells (Ac st ow sm br ma us ge ep ve) 59)).alloc (.cells zero9 59)).alloc (.cells (Ac st ow sm br ma us ge ep ve) 59)) (w.heap.size + 1) zero9 59) ∧ (RowAt (((w.alloc (.cells (Ac st ow sm br ma us ge ep ve) 59)).alloc (.cells zero9 59)).alloc (.cells (Ac st ow sm br ma us ge ep ve) 59)) (w.heap.size + 1 + 1) (Ac st ow sm br ma us ge ep ve) 59) :=
 ⟨(((Below.refl _ _).alloc (Nat.le_refl _) _).alloc (by simp) _).alloc (by simp; omega) _, by rw [RowAt, Below.heap_alloc _ _ _ (by simp; omega)]; exact heap_alloc2_old w _ _, heap_alloc3_mid w _ _ _, by have:=heap_alloc_new ((w.alloc (.cells (Ac st ow sm br ma us ge ep ve) 59)).alloc (.cells zero9 59)) (.cells (Ac st ow sm br ma us ge ep ve) 59); simpa [RowAt] using this⟩
theorem rl4 {P : World → Prop} {g : Nat} {st ow sm : Int} {br ma : Bool} {us ge ep ve : Int} (h : ∀ w', P w' → RowAt w' g (Ac st ow sm br ma us ge ep ve) 59) : (∀ w', P w' → w'.cell? ⟨g, 0, none⟩ = some (.i st)) ∧ (∀ w', P w' → w'.cell? ⟨g, 2, none⟩ = some (.i sm)) ∧ (∀ w', P w' → w'.cell? ⟨g, 3, none⟩ = some (.bool br)) ∧ (∀ w', P w' → w'.cell? ⟨g, 4, none⟩ = some (.bool ma)) :=
 ⟨fun w' k => (h w' k).cell 0, fun w' k => (h w' k).cell 2, fun w' k => (h w' k).cell 3, fun w' k => (h w' k).cell 4⟩
theorem rl5 {w : World} {g : Nat} {st ow sm : Int} {br ma : Bool} {us ge ep ve : Int} (h : RowAt w g (Ac st ow sm br ma us ge ep ve) 59) : w.cell? ⟨g, 0, none⟩ = some (.i st) ∧ w.cell? ⟨g, 1, none⟩ = some (.i ow) ∧ w.cell? ⟨g, 2, none⟩ = some (.i sm) ∧ w.cell? ⟨g, 3, none⟩ = some (.bool br) ∧ w.cell? ⟨g, 4, none⟩ = some (.bool ma) :=
 ⟨h.cell 0, h.cell 1, h.cell 2, h.cell 3, h.cell 4⟩
end Go.Proofs.YtpmkgddjgebojaaGreatDoor.R8
