/- Part 8 of the walks and plain laws that the last text joins. -/
import Derived.Test.YteadpgiffpfmnaaGreatDoorQ3
set_option maxRecDepth 100000
set_option maxHeartbeats 16000000
set_option linter.unusedVariables false
set_option linter.unusedSimpArgs false
namespace Go.Proofs.YteadpgiffpfmnaaGreatDoor.Life
open Go.RowKit Hp Slot RowL
theorem retire_any (w : World) (s : S) (own more : Int) : Calls Tryz.prog 159 #[cval s own more] w fun e w' => e = .returned (.tuple #[S.val { «to» s own 6 with epoch:=more }, .bool (decide (0 ≤ more ∧ more ≤ 4095) && (s.state == 2 || s.state == 3))]) ∧ Below w.heap.size w w':=by
 have ht:=fun W => limbo_any W s own more
 have hi0:=fun W => is_any W s own more 2
 have hi1:=fun W => is_any W s own more 3
 generalize ({ «to» s own 6 with epoch:=more } : S) = r at *
 generalize decide (0 ≤ more ∧ more ≤ 4095) = b at *
 generalize (s.state == 2) = b0 at *
 generalize (s.state == 3) = b1 at *
 obtain ⟨st, ow, sm, br, ma, us, ge, ep, ve⟩:=s
 simp only [cval] at ht hi0 hi1
 have hA : Below w.heap.size w ((w.alloc (.cells (Ab st ow sm br ma us ge ep ve own more) 150)).alloc (.cells zero9 41)):=((Below.refl _ _).alloc (Nat.le_refl _) _).alloc (by simp) _
 go_enter Tryz.func159, Tryz.ntmps159
 simp only [cval]
 go_wp2_with fail
 refine (ht _).mono ?_
 rintro e w5 ⟨rfl, hb5⟩
 have hB : Below w.heap.size w w5:=hA.trans (hb5.mono (by simp; omega))
 have hr : RowAt w5 (w.heap.size + 1) zero9 41:=RowAt.below (heap_alloc2_new w _ _) hb5
 have R1 : RowAt w5 w.heap.size (Ab st ow sm br ma us ge ep ve own more) 150:=RowAt.below (heap_alloc2_old w _ _) hb5
 have hne : w.heap.size + 1 < w5.heap.size:=RowAt.lt hr
 clear ht hb5 hA
 dsimp only
 go_step
 refine gl (.tuple #[r.val, .bool b]) ?_
 refine gl r.val ?_
 refine gl (.bool b) ?_
 refine gbox (ob:=.cells zero9 41) (Z:=zero9) (cs:=r.cells) (t:=41) 41 (.tmp 4) (.tmp 9) rfl ?_
 refine gl (.bool b) ?_
 try simp only [Act.put, sA, sZ, sS]
 rw [setRow_new]
 have hA2 : Below w.heap.size w (w5.alloc (.cells r.cells 41)):=hB.alloc hB.size _
 have hK : Kp (w5.alloc (.cells r.cells 41)) (w.heap.size + 1) (w5.alloc (.cells r.cells 41)):=⟨Chg.refl _ _, zero9, rfl, RowAt.below hr ((Below.refl _ _).alloc (Nat.le_refl _) _)⟩
 have R3 : RowAt (w5.alloc (.cells r.cells 41)) w5.heap.size r.cells 41:=heap_alloc_new w5 _
 have R1' : RowAt (w5.alloc (.cells r.cells 41)) w.heap.size (Ab st ow sm br ma us ge ep ve own more) 150:=RowAt.below R1 ((Below.refl _ _).alloc (Nat.le_refl _) _)
 clear hr hB R1
 generalize (w5.alloc (.cells r.cells 41)) = wa at *
 generalize w5.heap.size = tb at *
 obtain ⟨st', ow', sm', br', ma', us', ge', ep', ve'⟩:=r
 simp only [S.val, S.cells]
 have rC : ∀ w', Kp wa (w.heap.size + 1) w' → RowAt w' w.heap.size (Ab st ow sm br ma us ge ep ve own more) 150:=fun w' h => R1'.chg h.1 (by simp)
 have rS : ∀ w', Kp wa (w.heap.size + 1) w' → RowAt w' tb (Aa st' ow' sm' br' ma' us' ge' ep' ve') 41:=fun w' h => R3.chg h.1 (by omega)
 have hKd:=hK.drew
 clear R1' R3
 cases b
 ·have : True:=trivial
  go_wp2_with fail
  refine wp_region_held_drew (S:=fun w' => Kp wa (w.heap.size + 1) w') (by kernel_rfl) (by exact hKd) (fun hHeld => ?_)
  refine tKw (gd:=none) 0 11 (.load 41 (.tmp 4)) (.agg (Aa st' ow' sm' br' ma' us' ge' ep' ve')) (run_load_row 41 (.tmp 4) (tb) 41 (Aa st' ow' sm' br' ma' us' ge' ep' ve') _ (by kernel_rfl) Tryz.underlying41 rfl (by kernel_rfl) rS) hHeld ?_
  try simp only [Act.put, sA, sZ, sS]
  refine tKg 1 12 hHeld ?_
  try simp only [Act.put, sA, sZ, sS]
  refine tKg 2 13 hHeld ?_
  try simp only [Act.put, sA, sZ, sS]
  refine sKp 3 (some 14) hHeld ?_
  try simp only [Act.put, sA, sZ, sS]
  refine sKp 4 (some 15) hHeld ?_
  try simp only [Act.put, sA, sZ, sS]
  refine sKp 5 (some 16) hHeld ?_
  try simp only [Act.put, sA, sZ, sS]
  refine sKp 6 (some 17) hHeld ?_
  try simp only [Act.put, sA, sZ, sS]
  refine sKp 7 (some 18) hHeld ?_
  try simp only [Act.put, sA, sZ, sS]
  refine sKp 8 (some 19) hHeld ?_
  try simp only [Act.put, sA, sZ, sS]
  refine tKg 9 20 hHeld ?_
  try simp only [Act.put, sA, sZ, sS]
  obtain ⟨kp1, Z, kp2, kp3⟩:=hHeld
  refine rSt 10 kp3 (Aa st' ow' sm' br' ma' us' ge' ep' ve') 41 (.tmp 2) (.tmp 11) (Kp.set ⟨kp1, Z, kp2, kp3⟩ ⟨st', ow', sm', br', ma', us', ge', ep', ve'⟩) ?_ (hsz:=kp2)
  try simp only [Act.put, sA, sZ, sS]
  have hHz : Kp wa (w.heap.size + 1) _:=Kp.set ⟨kp1, Z, kp2, kp3⟩ ⟨st', ow', sm', br', ma', us', ge', ep', ve'⟩
  refine tKg 11 3 hHz ?_
  try simp only [Act.put, sA, sZ, sS]
  refine wpAnyH_done (by kernel_rfl) ?_ _
  go_simp
  go_wp2_with fail
  refine bR2 (w.heap.size + 1) (Kp.row ⟨kp1, Z, kp2, kp3⟩ ⟨st', ow', sm', br', ma', us', ge', ep', ve'⟩) Tryz.underlying41 ?_
  exact ⟨rfl, hHz.below hA2 (by omega)⟩
 cases b0
 ·have : True:=trivial
  go_wp2_with fail
  refine wp_region_held_drew (S:=fun w' => Kp wa (w.heap.size + 1) w') (by kernel_rfl) (by exact hKd) (fun hHeld => ?_)
  refine tKw (gd:=none) 0 11 (.load 41 (.tmp 4)) (.agg (Aa st' ow' sm' br' ma' us' ge' ep' ve')) (run_load_row 41 (.tmp 4) (tb) 41 (Aa st' ow' sm' br' ma' us' ge' ep' ve') _ (by kernel_rfl) Tryz.underlying41 rfl (by kernel_rfl) rS) hHeld ?_
  try simp only [Act.put, sA, sZ, sS]
  refine tKg 1 12 hHeld ?_
  try simp only [Act.put, sA, sZ, sS]
  refine tKg 2 13 hHeld ?_
  try simp only [Act.put, sA, sZ, sS]
  refine tKw (gd:=(some (2, true))) 3 14 (.load 150 (.tmp 1)) (.agg (Ab st ow sm br ma us ge ep ve own more)) (run_load_row 150 (.tmp 1) (w.heap.size) 150 (Ab st ow sm br ma us ge ep ve own more) _ (by kernel_rfl) Tryz.underlying150 rfl (by kernel_rfl) rC) hHeld ?_
  try simp only [Act.put, sA, sZ, sS]
  refine rKc (i:=4) 177 #[.tmp 14, .const (.i 2)] #[150, 3] (some 15) (some (2, true)) #[.agg (Ab st ow sm br ma us ge ep ve own more), .i 2] (enters_of Tryz.func177 (by kernel_rfl) rfl) ?_
  refine (hi0 _).mono ?_
  rintro e w6 ⟨rfl, hb6⟩
  refine ⟨_, rfl, hHeld.later hb6, fun hHeld1 => ?_⟩
  try simp only [Act.put, sA, sZ, sS]
  refine tKg 5 16 hHeld1 ?_
  try simp only [Act.put, sA, sZ, sS]
  refine tKw (gd:=(some (5, false))) 6 17 (.load 150 (.tmp 1)) (.agg (Ab st ow sm br ma us ge ep ve own more)) (run_load_row 150 (.tmp 1) (w.heap.size) 150 (Ab st ow sm br ma us ge ep ve own more) _ (by kernel_rfl) Tryz.underlying150 rfl (by kernel_rfl) rC) hHeld1 ?_
  try simp only [Act.put, sA, sZ, sS]
  refine rKc (i:=7) 177 #[.tmp 17, .const (.i 3)] #[150, 3] (some 18) (some (5, false)) #[.agg (Ab st ow sm br ma us ge ep ve own more), .i 3] (enters_of Tryz.func177 (by kernel_rfl) rfl) ?_
  refine (hi1 _).mono ?_
  rintro e w7 ⟨rfl, hb7⟩
  refine ⟨_, rfl, hHeld1.later hb7, fun hHeld2 => ?_⟩
  try simp only [Act.put, sA, sZ, sS]
  refine tKg 8 19 hHeld2 ?_
  try simp only [Act.put, sA, sZ, sS]
  refine tKg 9 20 hHeld2 ?_
  try simp only [Act.put, sA, sZ, sS]
  obtain ⟨kp1, Z, kp2, kp3⟩:=hHeld2
  refine rSt 10 kp3 (Aa st' ow' sm' br' ma' us' ge' ep' ve') 41 (.tmp 2) (.tmp 11) (Kp.set ⟨kp1, Z, kp2, kp3⟩ ⟨st', ow', sm', br', ma', us', ge', ep', ve'⟩) ?_ (hsz:=kp2)
  try simp only [Act.put, sA, sZ, sS]
  have hHz : Kp wa (w.heap.size + 1) _:=Kp.set ⟨kp1, Z, kp2, kp3⟩ ⟨st', ow', sm', br', ma', us', ge', ep', ve'⟩
  refine tKg 11 3 hHz ?_
  try simp only [Act.put, sA, sZ, sS]
  refine wpAnyH_done (by kernel_rfl) ?_ _
  go_simp
  go_wp2_with fail
  refine bR2 (w.heap.size + 1) (Kp.row ⟨kp1, Z, kp2, kp3⟩ ⟨st', ow', sm', br', ma', us', ge', ep', ve'⟩) Tryz.underlying41 ?_
  exact ⟨rfl, hHz.below hA2 (by omega)⟩
 ·have : True:=trivial
  go_wp2_with fail
  refine wp_region_held_drew (S:=fun w' => Kp wa (w.heap.size + 1) w') (by kernel_rfl) (by exact hKd) (fun hHeld => ?_)
  refine tKw (gd:=none) 0 11 (.load 41 (.tmp 4)) (.agg (Aa st' ow' sm' br' ma' us' ge' ep' ve')) (run_load_row 41 (.tmp 4) (tb) 41 (Aa st' ow' sm' br' ma' us' ge' ep' ve') _ (by kernel_rfl) Tryz.underlying41 rfl (by kernel_rfl) rS) hHeld ?_
  try simp only [Act.put, sA, sZ, sS]
  refine tKg 1 12 hHeld ?_
  try simp only [Act.put, sA, sZ, sS]
  refine tKg 2 13 hHeld ?_
  try simp only [Act.put, sA, sZ, sS]
  refine tKw (gd:=(some (2, true))) 3 14 (.load 150 (.tmp 1)) (.agg (Ab st ow sm br ma us ge ep ve own more)) (run_load_row 150 (.tmp 1) (w.heap.size) 150 (Ab st ow sm br ma us ge ep ve own more) _ (by kernel_rfl) Tryz.underlying150 rfl (by kernel_rfl) rC) hHeld ?_
  try simp only [Act.put, sA, sZ, sS]
  refine rKc (i:=4) 177 #[.tmp 14, .const (.i 2)] #[150, 3] (some 15) (some (2, true)) #[.agg (Ab st ow sm br ma us ge ep ve own more), .i 2] (enters_of Tryz.func177 (by kernel_rfl) rfl) ?_
  refine (hi0 _).mono ?_
  rintro e w6 ⟨rfl, hb6⟩
  refine ⟨_, rfl, hHeld.later hb6, fun hHeld1 => ?_⟩
  try simp only [Act.put, sA, sZ, sS]
  refine tKg 5 16 hHeld1 ?_
  try simp only [Act.put, sA, sZ, sS]
  refine sKp 6 (some 17) hHeld1 ?_
  try simp only [Act.put, sA, sZ, sS]
  refine sKp 7 (some 18) hHeld1 ?_
  try simp only [Act.put, sA, sZ, sS]
  refine tKg 8 19 hHeld1 ?_
  try simp only [Act.put, sA, sZ, sS]
  refine tKg 9 20 hHeld1 ?_
  try simp only [Act.put, sA, sZ, sS]
  obtain ⟨kp1, Z, kp2, kp3⟩:=hHeld1
  refine rSt 10 kp3 (Aa st' ow' sm' br' ma' us' ge' ep' ve') 41 (.tmp 2) (.tmp 11) (Kp.set ⟨kp1, Z, kp2, kp3⟩ ⟨st', ow', sm', br', ma', us', ge', ep', ve'⟩) ?_ (hsz:=kp2)
  try simp only [Act.put, sA, sZ, sS]
  have hHz : Kp wa (w.heap.size + 1) _:=Kp.set ⟨kp1, Z, kp2, kp3⟩ ⟨st', ow', sm', br', ma', us', ge', ep', ve'⟩
  refine tKg 11 3 hHz ?_
  try simp only [Act.put, sA, sZ, sS]
  refine wpAnyH_done (by kernel_rfl) ?_ _
  go_simp
  go_wp2_with fail
  refine bR2 (w.heap.size + 1) (Kp.row ⟨kp1, Z, kp2, kp3⟩ ⟨st', ow', sm', br', ma', us', ge', ep', ve'⟩) Tryz.underlying41 ?_
  exact ⟨rfl, hHz.below hA2 (by omega)⟩
theorem age_any (w : World) (s : S) (own more : Int) : Calls Tryz.prog 165 #[cval s own more] w fun e w' => e = .returned (.tuple #[S.val { «to» s own 6 with epoch:=more }, .bool (decide (0 ≤ more ∧ more ≤ 4095) && s.state == 6)]) ∧ Below w.heap.size w w':=by
 have ht:=fun W => limbo_any W s own more
 have hi0:=fun W => is_any W s own more 6
 generalize ({ «to» s own 6 with epoch:=more } : S) = r at *
 generalize decide (0 ≤ more ∧ more ≤ 4095) = b at *
 generalize (s.state == 6) = b0 at *
 obtain ⟨st, ow, sm, br, ma, us, ge, ep, ve⟩:=s
 simp only [cval] at ht hi0
 have hA : Below w.heap.size w ((w.alloc (.cells (Ab st ow sm br ma us ge ep ve own more) 150)).alloc (.cells zero9 41)):=((Below.refl _ _).alloc (Nat.le_refl _) _).alloc (by simp) _
 go_enter Tryz.func165, Tryz.ntmps165
 simp only [cval]
 go_wp2_with fail
 refine (ht _).mono ?_
 rintro e w5 ⟨rfl, hb5⟩
 have hB : Below w.heap.size w w5:=hA.trans (hb5.mono (by simp; omega))
 have hr : RowAt w5 (w.heap.size + 1) zero9 41:=RowAt.below (heap_alloc2_new w _ _) hb5
 have R1 : RowAt w5 w.heap.size (Ab st ow sm br ma us ge ep ve own more) 150:=RowAt.below (heap_alloc2_old w _ _) hb5
 have hne : w.heap.size + 1 < w5.heap.size:=RowAt.lt hr
 clear ht hb5 hA
 dsimp only
 go_step
 refine gl (.tuple #[r.val, .bool b]) ?_
 refine gl r.val ?_
 refine gl (.bool b) ?_
 refine gbox (ob:=.cells zero9 41) (Z:=zero9) (cs:=r.cells) (t:=41) 41 (.tmp 4) (.tmp 9) rfl ?_
 refine gl (.bool b) ?_
 try simp only [Act.put, sA, sZ, sS]
 rw [setRow_new]
 have hA2 : Below w.heap.size w (w5.alloc (.cells r.cells 41)):=hB.alloc hB.size _
 have hK : Kp (w5.alloc (.cells r.cells 41)) (w.heap.size + 1) (w5.alloc (.cells r.cells 41)):=⟨Chg.refl _ _, zero9, rfl, RowAt.below hr ((Below.refl _ _).alloc (Nat.le_refl _) _)⟩
 have R3 : RowAt (w5.alloc (.cells r.cells 41)) w5.heap.size r.cells 41:=heap_alloc_new w5 _
 have R1' : RowAt (w5.alloc (.cells r.cells 41)) w.heap.size (Ab st ow sm br ma us ge ep ve own more) 150:=RowAt.below R1 ((Below.refl _ _).alloc (Nat.le_refl _) _)
 clear hr hB R1
 generalize (w5.alloc (.cells r.cells 41)) = wa at *
 generalize w5.heap.size = tb at *
 obtain ⟨st', ow', sm', br', ma', us', ge', ep', ve'⟩:=r
 simp only [S.val, S.cells]
 have rC : ∀ w', Kp wa (w.heap.size + 1) w' → RowAt w' w.heap.size (Ab st ow sm br ma us ge ep ve own more) 150:=fun w' h => R1'.chg h.1 (by simp)
 have rS : ∀ w', Kp wa (w.heap.size + 1) w' → RowAt w' tb (Aa st' ow' sm' br' ma' us' ge' ep' ve') 41:=fun w' h => R3.chg h.1 (by omega)
 have hKd:=hK.drew
 clear R1' R3
 cases b
 ·have : True:=trivial
  go_wp2_with fail
  refine wp_region_held_drew (S:=fun w' => Kp wa (w.heap.size + 1) w') (by kernel_rfl) (by exact hKd) (fun hHeld => ?_)
  refine tKw (gd:=none) 0 11 (.load 41 (.tmp 4)) (.agg (Aa st' ow' sm' br' ma' us' ge' ep' ve')) (run_load_row 41 (.tmp 4) (tb) 41 (Aa st' ow' sm' br' ma' us' ge' ep' ve') _ (by kernel_rfl) Tryz.underlying41 rfl (by kernel_rfl) rS) hHeld ?_
  try simp only [Act.put, sA, sZ, sS]
  refine tKg 1 12 hHeld ?_
  try simp only [Act.put, sA, sZ, sS]
  refine tKg 2 13 hHeld ?_
  try simp only [Act.put, sA, sZ, sS]
  refine sKp 3 (some 14) hHeld ?_
  try simp only [Act.put, sA, sZ, sS]
  refine sKp 4 (some 15) hHeld ?_
  try simp only [Act.put, sA, sZ, sS]
  refine tKg 5 16 hHeld ?_
  try simp only [Act.put, sA, sZ, sS]
  obtain ⟨kp1, Z, kp2, kp3⟩:=hHeld
  refine rSt 6 kp3 (Aa st' ow' sm' br' ma' us' ge' ep' ve') 41 (.tmp 2) (.tmp 11) (Kp.set ⟨kp1, Z, kp2, kp3⟩ ⟨st', ow', sm', br', ma', us', ge', ep', ve'⟩) ?_ (hsz:=kp2)
  try simp only [Act.put, sA, sZ, sS]
  have hHz : Kp wa (w.heap.size + 1) _:=Kp.set ⟨kp1, Z, kp2, kp3⟩ ⟨st', ow', sm', br', ma', us', ge', ep', ve'⟩
  refine tKg 7 3 hHz ?_
  try simp only [Act.put, sA, sZ, sS]
  refine wpAnyH_done (by kernel_rfl) ?_ _
  go_simp
  go_wp2_with fail
  refine bR2 (w.heap.size + 1) (Kp.row ⟨kp1, Z, kp2, kp3⟩ ⟨st', ow', sm', br', ma', us', ge', ep', ve'⟩) Tryz.underlying41 ?_
  exact ⟨rfl, hHz.below hA2 (by omega)⟩
 ·have : True:=trivial
  go_wp2_with fail
  refine wp_region_held_drew (S:=fun w' => Kp wa (w.heap.size + 1) w') (by kernel_rfl) (by exact hKd) (fun hHeld => ?_)
  refine tKw (gd:=none) 0 11 (.load 41 (.tmp 4)) (.agg (Aa st' ow' sm' br' ma' us' ge' ep' ve')) (run_load_row 41 (.tmp 4) (tb) 41 (Aa st' ow' sm' br' ma' us' ge' ep' ve') _ (by kernel_rfl) Tryz.underlying41 rfl (by kernel_rfl) rS) hHeld ?_
  try simp only [Act.put, sA, sZ, sS]
  refine tKg 1 12 hHeld ?_
  try simp only [Act.put, sA, sZ, sS]
  refine tKg 2 13 hHeld ?_
  try simp only [Act.put, sA, sZ, sS]
  refine tKw (gd:=(some (2, true))) 3 14 (.load 150 (.tmp 1)) (.agg (Ab st ow sm br ma us ge ep ve own more)) (run_load_row 150 (.tmp 1) (w.heap.size) 150 (Ab st ow sm br ma us ge ep ve own more) _ (by kernel_rfl) Tryz.underlying150 rfl (by kernel_rfl) rC) hHeld ?_
  try simp only [Act.put, sA, sZ, sS]
  refine rKc (i:=4) 177 #[.tmp 14, .const (.i 6)] #[150, 3] (some 15) (some (2, true)) #[.agg (Ab st ow sm br ma us ge ep ve own more), .i 6] (enters_of Tryz.func177 (by kernel_rfl) rfl) ?_
  refine (hi0 _).mono ?_
  rintro e w6 ⟨rfl, hb6⟩
  refine ⟨_, rfl, hHeld.later hb6, fun hHeld1 => ?_⟩
  try simp only [Act.put, sA, sZ, sS]
  refine tKg 5 16 hHeld1 ?_
  try simp only [Act.put, sA, sZ, sS]
  obtain ⟨kp1, Z, kp2, kp3⟩:=hHeld1
  refine rSt 6 kp3 (Aa st' ow' sm' br' ma' us' ge' ep' ve') 41 (.tmp 2) (.tmp 11) (Kp.set ⟨kp1, Z, kp2, kp3⟩ ⟨st', ow', sm', br', ma', us', ge', ep', ve'⟩) ?_ (hsz:=kp2)
  try simp only [Act.put, sA, sZ, sS]
  have hHz : Kp wa (w.heap.size + 1) _:=Kp.set ⟨kp1, Z, kp2, kp3⟩ ⟨st', ow', sm', br', ma', us', ge', ep', ve'⟩
  refine tKg 7 3 hHz ?_
  try simp only [Act.put, sA, sZ, sS]
  refine wpAnyH_done (by kernel_rfl) ?_ _
  go_simp
  go_wp2_with fail
  refine bR2 (w.heap.size + 1) (Kp.row ⟨kp1, Z, kp2, kp3⟩ ⟨st', ow', sm', br', ma', us', ge', ep', ve'⟩) Tryz.underlying41 ?_
  exact ⟨rfl, hHz.below hA2 (by omega)⟩
end Go.Proofs.YteadpgiffpfmnaaGreatDoor.Life
