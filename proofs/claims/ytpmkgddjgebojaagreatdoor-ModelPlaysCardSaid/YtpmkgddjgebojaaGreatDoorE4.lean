/- Part 4 of the walks and plain laws that the last text joins. -/
import Derived.Test.YtpmkgddjgebojaaGreatDoorE3
set_option maxRecDepth 100000
set_option maxHeartbeats 16000000
set_option linter.unusedVariables false
set_option linter.unusedSimpArgs false
namespace Go.Proofs.YtpmkgddjgebojaaGreatDoor.Life
set_option linter.ambiguousOpen false
open Go.RowKit Hp Slot RowL Mod
theorem shut_any (w : World) (s : S) (own more : Int) (hs : 0 ≤ s.streams ∧ s.streams ≤ 255) : Calls Tryz.prog 126 #[cval s own more] w fun e w' => e = .returned (.tuple #[(act 15 s own more).1.val, .bool (act 15 s own more).2]) ∧ Below w.heap.size w w':=by
 have hi:=fun W => mine_any W s own more 3
 have ha : act 15 s own more = if (s.state == 3 && s.own == own) && decide (0 ≤ more ∧ more < 8) && hasBit s.streams more.toNat then ({ s with streams:=dropBit s.streams more.toNat }, true) else (s, false):=rfl
 generalize act 15 s own more = res at *
 generalize hb : (s.state == 3 && s.own == own) = b at *
 clear hb
 have HA:=Lib.hid ha
 clear ha
 obtain ⟨st, ow, sm, br, ma, us, ge, ep, ve⟩:=s
 simp only [cval] at hi hs
 obtain ⟨hs0, hs1⟩:=hs
 have hA : Below w.heap.size w (((w.alloc (.cells (Ae st ow sm br ma us ge ep ve own more) 141)).alloc (.cells zero9 59)).alloc (.cells (Ac st ow sm br ma us ge ep ve) 59)):=(((Below.refl _ _).alloc (Nat.le_refl _) _).alloc (by simp) _).alloc (by simp; omega) _
 have r1 : RowAt (((w.alloc (.cells (Ae st ow sm br ma us ge ep ve own more) 141)).alloc (.cells zero9 59)).alloc (.cells (Ac st ow sm br ma us ge ep ve) 59)) w.heap.size (Ae st ow sm br ma us ge ep ve own more) 141:=by rw [RowAt, Below.heap_alloc _ _ _ (by simp; omega)]; exact heap_alloc2_old w _ _
 have r2 : RowAt (((w.alloc (.cells (Ae st ow sm br ma us ge ep ve own more) 141)).alloc (.cells zero9 59)).alloc (.cells (Ac st ow sm br ma us ge ep ve) 59)) (w.heap.size + 1) zero9 59:=heap_alloc3_mid w _ _ _
 have r3 : RowAt (((w.alloc (.cells (Ae st ow sm br ma us ge ep ve own more) 141)).alloc (.cells zero9 59)).alloc (.cells (Ac st ow sm br ma us ge ep ve) 59)) (w.heap.size + 1 + 1) (Ac st ow sm br ma us ge ep ve) 59:=by have:=heap_alloc_new ((w.alloc (.cells (Ae st ow sm br ma us ge ep ve own more) 141)).alloc (.cells zero9 59)) (.cells (Ac st ow sm br ma us ge ep ve) 59); simpa [RowAt] using this
 go_enter Tryz.func126, Tryz.ntmps126
 go_wp2_with fail
 generalize (((w.alloc (.cells (Ae st ow sm br ma us ge ep ve own more) 141)).alloc (.cells zero9 59)).alloc (.cells (Ac st ow sm br ma us ge ep ve) 59)) = wa at *
 have hKd : Below wa.heap.size wa wa.drew:=(Below.refl _ _).drew
 have rC : ∀ w', Below wa.heap.size wa w' → RowAt w' w.heap.size (Ae st ow sm br ma us ge ep ve own more) 141:=fun w' h => r1.below h
 have l10 : ∀ w', Below wa.heap.size wa w' → w'.cell? ⟨w.heap.size, 10, none⟩ = some (.i more):=fun w' h => (r1.below h).cell 10
 have l2 : ∀ w', Below wa.heap.size wa w' → w'.cell? ⟨w.heap.size + 1 + 1, 2, none⟩ = some (.i sm):=fun w' h => (r3.below h).cell 2
 cases b
 ·have HRES : RowKit.Hid (res = (⟨st, ow, sm, br, ma, us, ge, ep, ve⟩, false)):=Lib.hid (by rw [HA.out]; simp)
  clear HA
  refine wp_region_held_drew (S:=fun w' => Below wa.heap.size wa w') (by kernel_rfl) (by exact hKd) (fun hHeld => ?_)
  refine tKw (gd:=none) 0 7 (.load 141 (.tmp 1)) (.agg (Ae st ow sm br ma us ge ep ve own more)) (run_load_row 141 (.tmp 1) (w.heap.size) 141 (Ae st ow sm br ma us ge ep ve own more) _ (by kernel_rfl) Tryz.underlying141 rfl (by kernel_rfl) rC) hHeld ?_
  try simp only [Act.put, sA, sZ, sS]
  refine rKc (i:=1) 140 #[.tmp 7, .const (.i 3)] #[141, 3] (some 8) (none) #[.agg (Ae st ow sm br ma us ge ep ve own more), .i 3] (enters_of Tryz.func140 (by kernel_rfl) rfl) ?_
  refine (hi _).mono ?_
  rintro e w6 ⟨rfl, hb6⟩
  refine ⟨_, rfl, hHeld.trans (hb6.mono hHeld.size), fun hH2 => ?_⟩
  try simp only [Act.put, sA, sZ, sS]
  refine tKw (gd:=none) 2 9 (.unOp .not 4 (.tmp 8)) ((.bool (!false))) (run_not_of 4 (.tmp 8) false (by kernel_rfl)) hH2 ?_
  try simp only [Act.put, sA, sZ, sS]
  refine tKw (gd:=none) 3 10 (.move (.tmp 9)) ((.bool true)) (run_move_of (.tmp 9) (.bool true) (by kernel_rfl)) hH2 ?_
  try simp only [Act.put, sA, sZ, sS]
  refine sKp 4 (some 11) hH2 ?_
  try simp only [Act.put, sA, sZ, sS]
  refine sKp 5 (some 12) hH2 ?_
  try simp only [Act.put, sA, sZ, sS]
  refine sKp 6 (some 13) hH2 ?_
  try simp only [Act.put, sA, sZ, sS]
  refine tKw (gd:=none) 7 14 (.pick (.tmp 10) (.const (.bool true)) (.tmp 13)) ((.bool true)) (run_pick_of (.tmp 10) (.const (.bool true)) (.tmp 13) true (.bool true) (by kernel_rfl) (by kernel_rfl)) hH2 ?_
  try simp only [Act.put, sA, sZ, sS]
  refine tKw (gd:=none) 8 15 (.move (.tmp 14)) ((.bool true)) (run_move_of (.tmp 14) (.bool true) (by kernel_rfl)) hH2 ?_
  try simp only [Act.put, sA, sZ, sS]
  refine sKp 9 (some 16) hH2 ?_
  try simp only [Act.put, sA, sZ, sS]
  refine sKp 10 (some 17) hH2 ?_
  try simp only [Act.put, sA, sZ, sS]
  refine sKp 11 (some 18) hH2 ?_
  try simp only [Act.put, sA, sZ, sS]
  refine tKw (gd:=none) 12 19 (.pick (.tmp 15) (.const (.bool true)) (.tmp 18)) ((.bool true)) (run_pick_of (.tmp 15) (.const (.bool true)) (.tmp 18) true (.bool true) (by kernel_rfl) (by kernel_rfl)) hH2 ?_
  try simp only [Act.put, sA, sZ, sS]
  refine tKw (gd:=none) 13 20 (.move (.tmp 19)) ((.bool true)) (run_move_of (.tmp 19) (.bool true) (by kernel_rfl)) hH2 ?_
  try simp only [Act.put, sA, sZ, sS]
  refine sKp 14 (some 21) hH2 ?_
  try simp only [Act.put, sA, sZ, sS]
  refine sKp 15 (some 22) hH2 ?_
  try simp only [Act.put, sA, sZ, sS]
  refine sKp 16 (some 23) hH2 ?_
  try simp only [Act.put, sA, sZ, sS]
  refine sKp 17 (some 24) hH2 ?_
  try simp only [Act.put, sA, sZ, sS]
  refine sKp 18 (some 25) hH2 ?_
  try simp only [Act.put, sA, sZ, sS]
  refine sKp 19 (some 26) hH2 ?_
  try simp only [Act.put, sA, sZ, sS]
  refine sKp 20 (some 27) hH2 ?_
  try simp only [Act.put, sA, sZ, sS]
  refine tKw (gd:=none) 21 28 (.pick (.tmp 20) (.const (.bool true)) (.tmp 27)) ((.bool true)) (run_pick_of (.tmp 20) (.const (.bool true)) (.tmp 27) true (.bool true) (by kernel_rfl) (by kernel_rfl)) hH2 ?_
  try simp only [Act.put, sA, sZ, sS]
  refine wpAnyH_done (by kernel_rfl) ?_ _
  clear l2 l10 rC
  have HB:=Lib.hid (hA.trans (hH2.mono hA.size))
  have r2:=r2.below hH2
  have r3:=r3.below hH2
  have c10 : w6.cell? ⟨w.heap.size, 10, none⟩ = some (.i more):=(r1.below hH2).cell 10
  have q0 : w6.cell? ⟨w.heap.size + 1, 0, none⟩ = some (.i 0):=r2.cell 0
  have f0 : w6.frozen? ⟨w.heap.size + 1, 0, none⟩ = false:=r2.frozen 0
  have s0 : w6.cell? ⟨w.heap.size + 1 + 1, 0, none⟩ = some (.i st):=r3.cell 0
  have q1 : w6.cell? ⟨w.heap.size + 1, 1, none⟩ = some (.i 0):=r2.cell 1
  have f1 : w6.frozen? ⟨w.heap.size + 1, 1, none⟩ = false:=r2.frozen 1
  have s1 : w6.cell? ⟨w.heap.size + 1 + 1, 1, none⟩ = some (.i ow):=r3.cell 1
  have q2 : w6.cell? ⟨w.heap.size + 1, 2, none⟩ = some (.i 0):=r2.cell 2
  have f2 : w6.frozen? ⟨w.heap.size + 1, 2, none⟩ = false:=r2.frozen 2
  have s2 : w6.cell? ⟨w.heap.size + 1 + 1, 2, none⟩ = some (.i sm):=r3.cell 2
  have q3 : w6.cell? ⟨w.heap.size + 1, 3, none⟩ = some (.bool false):=r2.cell 3
  have f3 : w6.frozen? ⟨w.heap.size + 1, 3, none⟩ = false:=r2.frozen 3
  have s3 : w6.cell? ⟨w.heap.size + 1 + 1, 3, none⟩ = some (.bool br):=r3.cell 3
  have q4 : w6.cell? ⟨w.heap.size + 1, 4, none⟩ = some (.bool false):=r2.cell 4
  have f4 : w6.frozen? ⟨w.heap.size + 1, 4, none⟩ = false:=r2.frozen 4
  have s4 : w6.cell? ⟨w.heap.size + 1 + 1, 4, none⟩ = some (.bool ma):=r3.cell 4
  have q5 : w6.cell? ⟨w.heap.size + 1, 5, none⟩ = some (.i 0):=r2.cell 5
  have f5 : w6.frozen? ⟨w.heap.size + 1, 5, none⟩ = false:=r2.frozen 5
  have s5 : w6.cell? ⟨w.heap.size + 1 + 1, 5, none⟩ = some (.i us):=r3.cell 5
  have q6 : w6.cell? ⟨w.heap.size + 1, 6, none⟩ = some (.i 0):=r2.cell 6
  have f6 : w6.frozen? ⟨w.heap.size + 1, 6, none⟩ = false:=r2.frozen 6
  have s6 : w6.cell? ⟨w.heap.size + 1 + 1, 6, none⟩ = some (.i ge):=r3.cell 6
  have q7 : w6.cell? ⟨w.heap.size + 1, 7, none⟩ = some (.i 0):=r2.cell 7
  have f7 : w6.frozen? ⟨w.heap.size + 1, 7, none⟩ = false:=r2.frozen 7
  have s7 : w6.cell? ⟨w.heap.size + 1 + 1, 7, none⟩ = some (.i ep):=r3.cell 7
  have q8 : w6.cell? ⟨w.heap.size + 1, 8, none⟩ = some (.i 0):=r2.cell 8
  have f8 : w6.frozen? ⟨w.heap.size + 1, 8, none⟩ = false:=r2.frozen 8
  have s8 : w6.cell? ⟨w.heap.size + 1 + 1, 8, none⟩ = some (.i ve):=r3.cell 8
  have g2 : w6.frozen? ⟨w.heap.size + 1 + 1, 2, none⟩ = false:=r3.frozen 2
  have R2:=Lib.hid r2
  clear r2 r3 r1 hHeld hH2 hA hKd hb6 hi
  go_wp2_with fail
  refine bR2 (w.heap.size + 1) ((((((((((R2.out).setc 0 _).setc 1 _).setc 2 _).setc 3 _).setc 4 _).setc 5 _).setc 6 _).setc 7 _).setc 8 _) Tryz.underlying59 ?_
  refine ⟨by rw [HRES.out]; simp [S.val, S.cells], ?_⟩
  iterate 9 refine Below.setCell ?_ (by simp) _
  exact HB.out
 by_cases h1 : more < 0
 ·have HRES : RowKit.Hid (res = (⟨st, ow, sm, br, ma, us, ge, ep, ve⟩, false)):=Lib.hid (by rw [HA.out, if_neg]; simp; omega)
  have d1 : decide (more < 0) = true:=by simpa using h1
  clear HA
  refine wp_region_held_drew (S:=fun w' => Below wa.heap.size wa w') (by kernel_rfl) (by exact hKd) (fun hHeld => ?_)
  refine tKw (gd:=none) 0 7 (.load 141 (.tmp 1)) (.agg (Ae st ow sm br ma us ge ep ve own more)) (run_load_row 141 (.tmp 1) (w.heap.size) 141 (Ae st ow sm br ma us ge ep ve own more) _ (by kernel_rfl) Tryz.underlying141 rfl (by kernel_rfl) rC) hHeld ?_
  try simp only [Act.put, sA, sZ, sS]
  refine rKc (i:=1) 140 #[.tmp 7, .const (.i 3)] #[141, 3] (some 8) (none) #[.agg (Ae st ow sm br ma us ge ep ve own more), .i 3] (enters_of Tryz.func140 (by kernel_rfl) rfl) ?_
  refine (hi _).mono ?_
  rintro e w6 ⟨rfl, hb6⟩
  refine ⟨_, rfl, hHeld.trans (hb6.mono hHeld.size), fun hH2 => ?_⟩
  try simp only [Act.put, sA, sZ, sS]
  refine tKw (gd:=none) 2 9 (.unOp .not 4 (.tmp 8)) ((.bool (!true))) (run_not_of 4 (.tmp 8) true (by kernel_rfl)) hH2 ?_
  try simp only [Act.put, sA, sZ, sS]
  refine tKw (gd:=none) 3 10 (.move (.tmp 9)) ((.bool false)) (run_move_of (.tmp 9) (.bool false) (by kernel_rfl)) hH2 ?_
  try simp only [Act.put, sA, sZ, sS]
  refine tKg 4 11 hH2 ?_
  try simp only [Act.put, sA, sZ, sS]
  refine tKg 5 12 hH2 ?_
  try simp only [Act.put, sA, sZ, sS]
  refine tKg 6 13 hH2 ?_
  try simp only [Act.put, sA, sZ, sS]
  refine tKw (gd:=none) 7 14 (.pick (.tmp 10) (.const (.bool true)) (.tmp 13)) ((.bool true)) (run_pick_of (.tmp 10) (.const (.bool true)) (.tmp 13) false (.bool true) (by kernel_rfl) (by kernel_rfl)) hH2 ?_
  try simp only [Act.put, sA, sZ, sS]
  refine tKw (gd:=none) 8 15 (.move (.tmp 14)) ((.bool true)) (run_move_of (.tmp 14) (.bool true) (by kernel_rfl)) hH2 ?_
  try simp only [Act.put, sA, sZ, sS]
  refine sKp 9 (some 16) hH2 ?_
  try simp only [Act.put, sA, sZ, sS]
  refine sKp 10 (some 17) hH2 ?_
  try simp only [Act.put, sA, sZ, sS]
  refine sKp 11 (some 18) hH2 ?_
  try simp only [Act.put, sA, sZ, sS]
  refine tKw (gd:=none) 12 19 (.pick (.tmp 15) (.const (.bool true)) (.tmp 18)) ((.bool true)) (run_pick_of (.tmp 15) (.const (.bool true)) (.tmp 18) true (.bool true) (by kernel_rfl) (by kernel_rfl)) hH2 ?_
  try simp only [Act.put, sA, sZ, sS]
  refine tKw (gd:=none) 13 20 (.move (.tmp 19)) ((.bool true)) (run_move_of (.tmp 19) (.bool true) (by kernel_rfl)) hH2 ?_
  try simp only [Act.put, sA, sZ, sS]
  refine sKp 14 (some 21) hH2 ?_
  try simp only [Act.put, sA, sZ, sS]
  refine sKp 15 (some 22) hH2 ?_
  try simp only [Act.put, sA, sZ, sS]
  refine sKp 16 (some 23) hH2 ?_
  try simp only [Act.put, sA, sZ, sS]
  refine sKp 17 (some 24) hH2 ?_
  try simp only [Act.put, sA, sZ, sS]
  refine sKp 18 (some 25) hH2 ?_
  try simp only [Act.put, sA, sZ, sS]
  refine sKp 19 (some 26) hH2 ?_
  try simp only [Act.put, sA, sZ, sS]
  refine sKp 20 (some 27) hH2 ?_
  try simp only [Act.put, sA, sZ, sS]
  refine tKw (gd:=none) 21 28 (.pick (.tmp 20) (.const (.bool true)) (.tmp 27)) ((.bool true)) (run_pick_of (.tmp 20) (.const (.bool true)) (.tmp 27) true (.bool true) (by kernel_rfl) (by kernel_rfl)) hH2 ?_
  try simp only [Act.put, sA, sZ, sS]
  refine wpAnyH_done (by kernel_rfl) ?_ _
  clear l2 l10 rC
  have HB:=Lib.hid (hA.trans (hH2.mono hA.size))
  have r2:=r2.below hH2
  have r3:=r3.below hH2
  have c10 : w6.cell? ⟨w.heap.size, 10, none⟩ = some (.i more):=(r1.below hH2).cell 10
  have q0 : w6.cell? ⟨w.heap.size + 1, 0, none⟩ = some (.i 0):=r2.cell 0
  have f0 : w6.frozen? ⟨w.heap.size + 1, 0, none⟩ = false:=r2.frozen 0
  have s0 : w6.cell? ⟨w.heap.size + 1 + 1, 0, none⟩ = some (.i st):=r3.cell 0
  have q1 : w6.cell? ⟨w.heap.size + 1, 1, none⟩ = some (.i 0):=r2.cell 1
  have f1 : w6.frozen? ⟨w.heap.size + 1, 1, none⟩ = false:=r2.frozen 1
  have s1 : w6.cell? ⟨w.heap.size + 1 + 1, 1, none⟩ = some (.i ow):=r3.cell 1
  have q2 : w6.cell? ⟨w.heap.size + 1, 2, none⟩ = some (.i 0):=r2.cell 2
  have f2 : w6.frozen? ⟨w.heap.size + 1, 2, none⟩ = false:=r2.frozen 2
  have s2 : w6.cell? ⟨w.heap.size + 1 + 1, 2, none⟩ = some (.i sm):=r3.cell 2
  have q3 : w6.cell? ⟨w.heap.size + 1, 3, none⟩ = some (.bool false):=r2.cell 3
  have f3 : w6.frozen? ⟨w.heap.size + 1, 3, none⟩ = false:=r2.frozen 3
  have s3 : w6.cell? ⟨w.heap.size + 1 + 1, 3, none⟩ = some (.bool br):=r3.cell 3
  have q4 : w6.cell? ⟨w.heap.size + 1, 4, none⟩ = some (.bool false):=r2.cell 4
  have f4 : w6.frozen? ⟨w.heap.size + 1, 4, none⟩ = false:=r2.frozen 4
  have s4 : w6.cell? ⟨w.heap.size + 1 + 1, 4, none⟩ = some (.bool ma):=r3.cell 4
  have q5 : w6.cell? ⟨w.heap.size + 1, 5, none⟩ = some (.i 0):=r2.cell 5
  have f5 : w6.frozen? ⟨w.heap.size + 1, 5, none⟩ = false:=r2.frozen 5
  have s5 : w6.cell? ⟨w.heap.size + 1 + 1, 5, none⟩ = some (.i us):=r3.cell 5
  have q6 : w6.cell? ⟨w.heap.size + 1, 6, none⟩ = some (.i 0):=r2.cell 6
  have f6 : w6.frozen? ⟨w.heap.size + 1, 6, none⟩ = false:=r2.frozen 6
  have s6 : w6.cell? ⟨w.heap.size + 1 + 1, 6, none⟩ = some (.i ge):=r3.cell 6
  have q7 : w6.cell? ⟨w.heap.size + 1, 7, none⟩ = some (.i 0):=r2.cell 7
  have f7 : w6.frozen? ⟨w.heap.size + 1, 7, none⟩ = false:=r2.frozen 7
  have s7 : w6.cell? ⟨w.heap.size + 1 + 1, 7, none⟩ = some (.i ep):=r3.cell 7
  have q8 : w6.cell? ⟨w.heap.size + 1, 8, none⟩ = some (.i 0):=r2.cell 8
  have f8 : w6.frozen? ⟨w.heap.size + 1, 8, none⟩ = false:=r2.frozen 8
  have s8 : w6.cell? ⟨w.heap.size + 1 + 1, 8, none⟩ = some (.i ve):=r3.cell 8
  have g2 : w6.frozen? ⟨w.heap.size + 1 + 1, 2, none⟩ = false:=r3.frozen 2
  have R2:=Lib.hid r2
  clear r2 r3 r1 hHeld hH2 hA hKd hb6 hi
  go_wp2_with fail
  refine bR2 (w.heap.size + 1) ((((((((((R2.out).setc 0 _).setc 1 _).setc 2 _).setc 3 _).setc 4 _).setc 5 _).setc 6 _).setc 7 _).setc 8 _) Tryz.underlying59 ?_
  refine ⟨by rw [HRES.out]; simp [S.val, S.cells], ?_⟩
  iterate 9 refine Below.setCell ?_ (by simp) _
  exact HB.out
 have d1 : decide (more < 0) = false:=by simpa using h1
 by_cases h2 : 8 ≤ more
 ·have HRES : RowKit.Hid (res = (⟨st, ow, sm, br, ma, us, ge, ep, ve⟩, false)):=Lib.hid (by rw [HA.out, if_neg]; simp; omega)
  have d2 : decide (8 ≤ more) = true:=by simpa using h2
  clear HA
  refine wp_region_held_drew (S:=fun w' => Below wa.heap.size wa w') (by kernel_rfl) (by exact hKd) (fun hHeld => ?_)
  refine tKw (gd:=none) 0 7 (.load 141 (.tmp 1)) (.agg (Ae st ow sm br ma us ge ep ve own more)) (run_load_row 141 (.tmp 1) (w.heap.size) 141 (Ae st ow sm br ma us ge ep ve own more) _ (by kernel_rfl) Tryz.underlying141 rfl (by kernel_rfl) rC) hHeld ?_
  try simp only [Act.put, sA, sZ, sS]
  refine rKc (i:=1) 140 #[.tmp 7, .const (.i 3)] #[141, 3] (some 8) (none) #[.agg (Ae st ow sm br ma us ge ep ve own more), .i 3] (enters_of Tryz.func140 (by kernel_rfl) rfl) ?_
  refine (hi _).mono ?_
  rintro e w6 ⟨rfl, hb6⟩
  refine ⟨_, rfl, hHeld.trans (hb6.mono hHeld.size), fun hH2 => ?_⟩
  try simp only [Act.put, sA, sZ, sS]
  refine tKw (gd:=none) 2 9 (.unOp .not 4 (.tmp 8)) ((.bool (!true))) (run_not_of 4 (.tmp 8) true (by kernel_rfl)) hH2 ?_
  try simp only [Act.put, sA, sZ, sS]
  refine tKw (gd:=none) 3 10 (.move (.tmp 9)) ((.bool false)) (run_move_of (.tmp 9) (.bool false) (by kernel_rfl)) hH2 ?_
  try simp only [Act.put, sA, sZ, sS]
  refine tKg 4 11 hH2 ?_
  try simp only [Act.put, sA, sZ, sS]
  refine tKg 5 12 hH2 ?_
  try simp only [Act.put, sA, sZ, sS]
  refine tKg 6 13 hH2 ?_
  try simp only [Act.put, sA, sZ, sS]
  refine tKw (gd:=none) 7 14 (.pick (.tmp 10) (.const (.bool true)) (.tmp 13)) ((.bool false)) (run_pick_of (.tmp 10) (.const (.bool true)) (.tmp 13) false (.bool false) (by kernel_rfl) (by kernel_rfl)) hH2 ?_
  try simp only [Act.put, sA, sZ, sS]
  refine tKw (gd:=none) 8 15 (.move (.tmp 14)) ((.bool false)) (run_move_of (.tmp 14) (.bool false) (by kernel_rfl)) hH2 ?_
  try simp only [Act.put, sA, sZ, sS]
  refine tKg 9 16 hH2 ?_
  try simp only [Act.put, sA, sZ, sS]
  refine tKg 10 17 hH2 ?_
  try simp only [Act.put, sA, sZ, sS]
  refine tKg 11 18 hH2 ?_
  try simp only [Act.put, sA, sZ, sS]
  refine tKw (gd:=none) 12 19 (.pick (.tmp 15) (.const (.bool true)) (.tmp 18)) ((.bool true)) (run_pick_of (.tmp 15) (.const (.bool true)) (.tmp 18) false (.bool true) (by kernel_rfl) (by kernel_rfl)) hH2 ?_
  try simp only [Act.put, sA, sZ, sS]
  refine tKw (gd:=none) 13 20 (.move (.tmp 19)) ((.bool true)) (run_move_of (.tmp 19) (.bool true) (by kernel_rfl)) hH2 ?_
  try simp only [Act.put, sA, sZ, sS]
  refine sKp 14 (some 21) hH2 ?_
  try simp only [Act.put, sA, sZ, sS]
  refine sKp 15 (some 22) hH2 ?_
  try simp only [Act.put, sA, sZ, sS]
  refine sKp 16 (some 23) hH2 ?_
  try simp only [Act.put, sA, sZ, sS]
  refine sKp 17 (some 24) hH2 ?_
  try simp only [Act.put, sA, sZ, sS]
  refine sKp 18 (some 25) hH2 ?_
  try simp only [Act.put, sA, sZ, sS]
  refine sKp 19 (some 26) hH2 ?_
  try simp only [Act.put, sA, sZ, sS]
  refine sKp 20 (some 27) hH2 ?_
  try simp only [Act.put, sA, sZ, sS]
  refine tKw (gd:=none) 21 28 (.pick (.tmp 20) (.const (.bool true)) (.tmp 27)) ((.bool true)) (run_pick_of (.tmp 20) (.const (.bool true)) (.tmp 27) true (.bool true) (by kernel_rfl) (by kernel_rfl)) hH2 ?_
  try simp only [Act.put, sA, sZ, sS]
  refine wpAnyH_done (by kernel_rfl) ?_ _
  clear l2 l10 rC
  have HB:=Lib.hid (hA.trans (hH2.mono hA.size))
  have r2:=r2.below hH2
  have r3:=r3.below hH2
  have c10 : w6.cell? ⟨w.heap.size, 10, none⟩ = some (.i more):=(r1.below hH2).cell 10
  have q0 : w6.cell? ⟨w.heap.size + 1, 0, none⟩ = some (.i 0):=r2.cell 0
  have f0 : w6.frozen? ⟨w.heap.size + 1, 0, none⟩ = false:=r2.frozen 0
  have s0 : w6.cell? ⟨w.heap.size + 1 + 1, 0, none⟩ = some (.i st):=r3.cell 0
  have q1 : w6.cell? ⟨w.heap.size + 1, 1, none⟩ = some (.i 0):=r2.cell 1
  have f1 : w6.frozen? ⟨w.heap.size + 1, 1, none⟩ = false:=r2.frozen 1
  have s1 : w6.cell? ⟨w.heap.size + 1 + 1, 1, none⟩ = some (.i ow):=r3.cell 1
  have q2 : w6.cell? ⟨w.heap.size + 1, 2, none⟩ = some (.i 0):=r2.cell 2
  have f2 : w6.frozen? ⟨w.heap.size + 1, 2, none⟩ = false:=r2.frozen 2
  have s2 : w6.cell? ⟨w.heap.size + 1 + 1, 2, none⟩ = some (.i sm):=r3.cell 2
  have q3 : w6.cell? ⟨w.heap.size + 1, 3, none⟩ = some (.bool false):=r2.cell 3
  have f3 : w6.frozen? ⟨w.heap.size + 1, 3, none⟩ = false:=r2.frozen 3
  have s3 : w6.cell? ⟨w.heap.size + 1 + 1, 3, none⟩ = some (.bool br):=r3.cell 3
  have q4 : w6.cell? ⟨w.heap.size + 1, 4, none⟩ = some (.bool false):=r2.cell 4
  have f4 : w6.frozen? ⟨w.heap.size + 1, 4, none⟩ = false:=r2.frozen 4
  have s4 : w6.cell? ⟨w.heap.size + 1 + 1, 4, none⟩ = some (.bool ma):=r3.cell 4
  have q5 : w6.cell? ⟨w.heap.size + 1, 5, none⟩ = some (.i 0):=r2.cell 5
  have f5 : w6.frozen? ⟨w.heap.size + 1, 5, none⟩ = false:=r2.frozen 5
  have s5 : w6.cell? ⟨w.heap.size + 1 + 1, 5, none⟩ = some (.i us):=r3.cell 5
  have q6 : w6.cell? ⟨w.heap.size + 1, 6, none⟩ = some (.i 0):=r2.cell 6
  have f6 : w6.frozen? ⟨w.heap.size + 1, 6, none⟩ = false:=r2.frozen 6
  have s6 : w6.cell? ⟨w.heap.size + 1 + 1, 6, none⟩ = some (.i ge):=r3.cell 6
  have q7 : w6.cell? ⟨w.heap.size + 1, 7, none⟩ = some (.i 0):=r2.cell 7
  have f7 : w6.frozen? ⟨w.heap.size + 1, 7, none⟩ = false:=r2.frozen 7
  have s7 : w6.cell? ⟨w.heap.size + 1 + 1, 7, none⟩ = some (.i ep):=r3.cell 7
  have q8 : w6.cell? ⟨w.heap.size + 1, 8, none⟩ = some (.i 0):=r2.cell 8
  have f8 : w6.frozen? ⟨w.heap.size + 1, 8, none⟩ = false:=r2.frozen 8
  have s8 : w6.cell? ⟨w.heap.size + 1 + 1, 8, none⟩ = some (.i ve):=r3.cell 8
  have g2 : w6.frozen? ⟨w.heap.size + 1 + 1, 2, none⟩ = false:=r3.frozen 2
  have R2:=Lib.hid r2
  clear r2 r3 r1 hHeld hH2 hA hKd hb6 hi
  go_wp2_with fail
  refine bR2 (w.heap.size + 1) ((((((((((R2.out).setc 0 _).setc 1 _).setc 2 _).setc 3 _).setc 4 _).setc 5 _).setc 6 _).setc 7 _).setc 8 _) Tryz.underlying59 ?_
  refine ⟨by rw [HRES.out]; simp [S.val, S.cells], ?_⟩
  iterate 9 refine Below.setCell ?_ (by simp) _
  exact HB.out
 have d2 : decide (8 ≤ more) = false:=by simpa using h2
 obtain ⟨k, rfl⟩:=Int.eq_ofNat_of_zero_le (show 0 ≤ more by omega)
 have l0 : (0 : Int) ≤ (k : Int):=by omega
 have hk : k < 8:=by omega
 have hp1:=(pow_val k hk).1
 have hp2:=(pow_val k hk).2
 have hne : ((2 : Int) ^ k == 0) = false:=by simp; omega
 have hwr : IntKind.i64.wrap ((2 : Int) ^ k) = 2 ^ k:=by
  generalize (2 : Int) ^ k = p at *
  rw [IntKind.wrap_i64]; omega
 have hnd:=bit_and sm k ⟨hs0, hs1⟩ hk
 have hor:=bit_drop sm k ⟨hs0, hs1⟩ hk
 clear h1 h2
 cases hb : hasBit sm k
 ·rw [hb] at hnd
  simp only [Bool.false_eq_true, if_false] at hnd
  have HRES : RowKit.Hid (res = (⟨st, ow, sm, br, ma, us, ge, ep, ve⟩, false)):=Lib.hid (by rw [HA.out, if_neg]; simp [hb])
  clear HA hb hor
  refine wp_region_held_drew (S:=fun w' => Below wa.heap.size wa w') (by kernel_rfl) (by exact hKd) (fun hHeld => ?_)
  refine tKw (gd:=none) 0 7 (.load 141 (.tmp 1)) (.agg (Ae st ow sm br ma us ge ep ve own k)) (run_load_row 141 (.tmp 1) (w.heap.size) 141 (Ae st ow sm br ma us ge ep ve own k) _ (by kernel_rfl) Tryz.underlying141 rfl (by kernel_rfl) rC) hHeld ?_
  try simp only [Act.put, sA, sZ, sS]
  refine rKc (i:=1) 140 #[.tmp 7, .const (.i 3)] #[141, 3] (some 8) (none) #[.agg (Ae st ow sm br ma us ge ep ve own k), .i 3] (enters_of Tryz.func140 (by kernel_rfl) rfl) ?_
  refine (hi _).mono ?_
  rintro e w6 ⟨rfl, hb6⟩
  refine ⟨_, rfl, hHeld.trans (hb6.mono hHeld.size), fun hH2 => ?_⟩
  try simp only [Act.put, sA, sZ, sS]
  refine tKw (gd:=none) 2 9 (.unOp .not 4 (.tmp 8)) ((.bool (!true))) (run_not_of 4 (.tmp 8) true (by kernel_rfl)) hH2 ?_
  try simp only [Act.put, sA, sZ, sS]
  refine tKw (gd:=none) 3 10 (.move (.tmp 9)) ((.bool false)) (run_move_of (.tmp 9) (.bool false) (by kernel_rfl)) hH2 ?_
  try simp only [Act.put, sA, sZ, sS]
  refine tKg 4 11 hH2 ?_
  try simp only [Act.put, sA, sZ, sS]
  refine tKg 5 12 hH2 ?_
  try simp only [Act.put, sA, sZ, sS]
  refine tKg 6 13 hH2 ?_
  try simp only [Act.put, sA, sZ, sS]
  refine tKw (gd:=none) 7 14 (.pick (.tmp 10) (.const (.bool true)) (.tmp 13)) ((.bool false)) (run_pick_of (.tmp 10) (.const (.bool true)) (.tmp 13) false (.bool false) (by kernel_rfl) (by kernel_rfl)) hH2 ?_
  try simp only [Act.put, sA, sZ, sS]
  refine tKw (gd:=none) 8 15 (.move (.tmp 14)) ((.bool false)) (run_move_of (.tmp 14) (.bool false) (by kernel_rfl)) hH2 ?_
  try simp only [Act.put, sA, sZ, sS]
  refine tKg 9 16 hH2 ?_
  try simp only [Act.put, sA, sZ, sS]
  refine tKg 10 17 hH2 ?_
  try simp only [Act.put, sA, sZ, sS]
  refine tKg 11 18 hH2 ?_
  try simp only [Act.put, sA, sZ, sS]
  refine tKw (gd:=none) 12 19 (.pick (.tmp 15) (.const (.bool true)) (.tmp 18)) ((.bool false)) (run_pick_of (.tmp 15) (.const (.bool true)) (.tmp 18) false (.bool false) (by kernel_rfl) (by kernel_rfl)) hH2 ?_
  try simp only [Act.put, sA, sZ, sS]
  refine tKw (gd:=none) 13 20 (.move (.tmp 19)) ((.bool false)) (run_move_of (.tmp 19) (.bool false) (by kernel_rfl)) hH2 ?_
  try simp only [Act.put, sA, sZ, sS]
  refine tKg 14 21 hH2 ?_
  try simp only [Act.put, sA, sZ, sS]
  refine tKg 15 22 hH2 ?_
  try simp only [Act.put, sA, sZ, sS]
  refine tKg 16 23 hH2 ?_
  try simp only [Act.put, sA, sZ, sS]
  refine tKg 17 24 hH2 ?_
  try simp only [Act.put, sA, sZ, sS]
  refine tKg 18 25 hH2 ?_
  try simp only [Act.put, sA, sZ, sS]
  refine tKg 19 26 hH2 ?_
  try simp only [Act.put, sA, sZ, sS]
  refine tKg 20 27 hH2 ?_
  try simp only [Act.put, sA, sZ, sS]
  refine tKw (gd:=none) 21 28 (.pick (.tmp 20) (.const (.bool true)) (.tmp 27)) ((.bool true)) (run_pick_of (.tmp 20) (.const (.bool true)) (.tmp 27) false (.bool true) (by kernel_rfl) (by kernel_rfl)) hH2 ?_
  try simp only [Act.put, sA, sZ, sS]
  refine wpAnyH_done (by kernel_rfl) ?_ _
  clear l2 l10 rC
  have HB:=Lib.hid (hA.trans (hH2.mono hA.size))
  have r2:=r2.below hH2
  have r3:=r3.below hH2
  have c10 : w6.cell? ⟨w.heap.size, 10, none⟩ = some (.i k):=(r1.below hH2).cell 10
  have q0 : w6.cell? ⟨w.heap.size + 1, 0, none⟩ = some (.i 0):=r2.cell 0
  have f0 : w6.frozen? ⟨w.heap.size + 1, 0, none⟩ = false:=r2.frozen 0
  have s0 : w6.cell? ⟨w.heap.size + 1 + 1, 0, none⟩ = some (.i st):=r3.cell 0
  have q1 : w6.cell? ⟨w.heap.size + 1, 1, none⟩ = some (.i 0):=r2.cell 1
  have f1 : w6.frozen? ⟨w.heap.size + 1, 1, none⟩ = false:=r2.frozen 1
  have s1 : w6.cell? ⟨w.heap.size + 1 + 1, 1, none⟩ = some (.i ow):=r3.cell 1
  have q2 : w6.cell? ⟨w.heap.size + 1, 2, none⟩ = some (.i 0):=r2.cell 2
  have f2 : w6.frozen? ⟨w.heap.size + 1, 2, none⟩ = false:=r2.frozen 2
  have s2 : w6.cell? ⟨w.heap.size + 1 + 1, 2, none⟩ = some (.i sm):=r3.cell 2
  have q3 : w6.cell? ⟨w.heap.size + 1, 3, none⟩ = some (.bool false):=r2.cell 3
  have f3 : w6.frozen? ⟨w.heap.size + 1, 3, none⟩ = false:=r2.frozen 3
  have s3 : w6.cell? ⟨w.heap.size + 1 + 1, 3, none⟩ = some (.bool br):=r3.cell 3
  have q4 : w6.cell? ⟨w.heap.size + 1, 4, none⟩ = some (.bool false):=r2.cell 4
  have f4 : w6.frozen? ⟨w.heap.size + 1, 4, none⟩ = false:=r2.frozen 4
  have s4 : w6.cell? ⟨w.heap.size + 1 + 1, 4, none⟩ = some (.bool ma):=r3.cell 4
  have q5 : w6.cell? ⟨w.heap.size + 1, 5, none⟩ = some (.i 0):=r2.cell 5
  have f5 : w6.frozen? ⟨w.heap.size + 1, 5, none⟩ = false:=r2.frozen 5
  have s5 : w6.cell? ⟨w.heap.size + 1 + 1, 5, none⟩ = some (.i us):=r3.cell 5
  have q6 : w6.cell? ⟨w.heap.size + 1, 6, none⟩ = some (.i 0):=r2.cell 6
  have f6 : w6.frozen? ⟨w.heap.size + 1, 6, none⟩ = false:=r2.frozen 6
  have s6 : w6.cell? ⟨w.heap.size + 1 + 1, 6, none⟩ = some (.i ge):=r3.cell 6
  have q7 : w6.cell? ⟨w.heap.size + 1, 7, none⟩ = some (.i 0):=r2.cell 7
  have f7 : w6.frozen? ⟨w.heap.size + 1, 7, none⟩ = false:=r2.frozen 7
  have s7 : w6.cell? ⟨w.heap.size + 1 + 1, 7, none⟩ = some (.i ep):=r3.cell 7
  have q8 : w6.cell? ⟨w.heap.size + 1, 8, none⟩ = some (.i 0):=r2.cell 8
  have f8 : w6.frozen? ⟨w.heap.size + 1, 8, none⟩ = false:=r2.frozen 8
  have s8 : w6.cell? ⟨w.heap.size + 1 + 1, 8, none⟩ = some (.i ve):=r3.cell 8
  have g2 : w6.frozen? ⟨w.heap.size + 1 + 1, 2, none⟩ = false:=r3.frozen 2
  have R2:=Lib.hid r2
  clear r2 r3 r1 hHeld hH2 hA hKd hb6 hi
  go_wp2_with fail
  refine bR2 (w.heap.size + 1) ((((((((((R2.out).setc 0 _).setc 1 _).setc 2 _).setc 3 _).setc 4 _).setc 5 _).setc 6 _).setc 7 _).setc 8 _) Tryz.underlying59 ?_
  refine ⟨by rw [HRES.out]; simp [S.val, S.cells], ?_⟩
  iterate 9 refine Below.setCell ?_ (by simp) _
  exact HB.out
 ·rw [hb] at hnd
  simp only [if_true] at hnd
  have hor:=hor hb
  have HRES : RowKit.Hid (res = (⟨st, ow, dropBit sm k, br, ma, us, ge, ep, ve⟩, true)):=Lib.hid (by rw [HA.out, if_pos]; rfl; simp [hb]; omega)
  clear HA hb
  refine wp_region_held_drew (S:=fun w' => Below wa.heap.size wa w') (by kernel_rfl) (by exact hKd) (fun hHeld => ?_)
  refine tKw (gd:=none) 0 7 (.load 141 (.tmp 1)) (.agg (Ae st ow sm br ma us ge ep ve own k)) (run_load_row 141 (.tmp 1) (w.heap.size) 141 (Ae st ow sm br ma us ge ep ve own k) _ (by kernel_rfl) Tryz.underlying141 rfl (by kernel_rfl) rC) hHeld ?_
  try simp only [Act.put, sA, sZ, sS]
  refine rKc (i:=1) 140 #[.tmp 7, .const (.i 3)] #[141, 3] (some 8) (none) #[.agg (Ae st ow sm br ma us ge ep ve own k), .i 3] (enters_of Tryz.func140 (by kernel_rfl) rfl) ?_
  refine (hi _).mono ?_
  rintro e w6 ⟨rfl, hb6⟩
  refine ⟨_, rfl, hHeld.trans (hb6.mono hHeld.size), fun hH2 => ?_⟩
  try simp only [Act.put, sA, sZ, sS]
  refine tKw (gd:=none) 2 9 (.unOp .not 4 (.tmp 8)) ((.bool (!true))) (run_not_of 4 (.tmp 8) true (by kernel_rfl)) hH2 ?_
  try simp only [Act.put, sA, sZ, sS]
  refine tKw (gd:=none) 3 10 (.move (.tmp 9)) ((.bool false)) (run_move_of (.tmp 9) (.bool false) (by kernel_rfl)) hH2 ?_
  try simp only [Act.put, sA, sZ, sS]
  refine tKg 4 11 hH2 ?_
  try simp only [Act.put, sA, sZ, sS]
  refine tKg 5 12 hH2 ?_
  try simp only [Act.put, sA, sZ, sS]
  refine tKg 6 13 hH2 ?_
  try simp only [Act.put, sA, sZ, sS]
  refine tKw (gd:=none) 7 14 (.pick (.tmp 10) (.const (.bool true)) (.tmp 13)) ((.bool false)) (run_pick_of (.tmp 10) (.const (.bool true)) (.tmp 13) false (.bool false) (by kernel_rfl) (by kernel_rfl)) hH2 ?_
  try simp only [Act.put, sA, sZ, sS]
  refine tKw (gd:=none) 8 15 (.move (.tmp 14)) ((.bool false)) (run_move_of (.tmp 14) (.bool false) (by kernel_rfl)) hH2 ?_
  try simp only [Act.put, sA, sZ, sS]
  refine tKg 9 16 hH2 ?_
  try simp only [Act.put, sA, sZ, sS]
  refine tKg 10 17 hH2 ?_
  try simp only [Act.put, sA, sZ, sS]
  refine tKg 11 18 hH2 ?_
  try simp only [Act.put, sA, sZ, sS]
  refine tKw (gd:=none) 12 19 (.pick (.tmp 15) (.const (.bool true)) (.tmp 18)) ((.bool false)) (run_pick_of (.tmp 15) (.const (.bool true)) (.tmp 18) false (.bool false) (by kernel_rfl) (by kernel_rfl)) hH2 ?_
  try simp only [Act.put, sA, sZ, sS]
  refine tKw (gd:=none) 13 20 (.move (.tmp 19)) ((.bool false)) (run_move_of (.tmp 19) (.bool false) (by kernel_rfl)) hH2 ?_
  try simp only [Act.put, sA, sZ, sS]
  refine tKg 14 21 hH2 ?_
  try simp only [Act.put, sA, sZ, sS]
  refine tKg 15 22 hH2 ?_
  try simp only [Act.put, sA, sZ, sS]
  refine tKg 16 23 hH2 ?_
  try simp only [Act.put, sA, sZ, sS]
  refine tKg 17 24 hH2 ?_
  try simp only [Act.put, sA, sZ, sS]
  refine tKg 18 25 hH2 ?_
  try simp only [Act.put, sA, sZ, sS]
  refine tKg 19 26 hH2 ?_
  try simp only [Act.put, sA, sZ, sS]
  refine tKg 20 27 hH2 ?_
  try simp only [Act.put, sA, sZ, sS]
  refine tKw (gd:=none) 21 28 (.pick (.tmp 20) (.const (.bool true)) (.tmp 27)) ((.bool false)) (run_pick_of (.tmp 20) (.const (.bool true)) (.tmp 27) false (.bool false) (by kernel_rfl) (by kernel_rfl)) hH2 ?_
  try simp only [Act.put, sA, sZ, sS]
  refine wpAnyH_done (by kernel_rfl) ?_ _
  clear l2 l10 rC
  have HB:=Lib.hid (hA.trans (hH2.mono hA.size))
  have r2:=r2.below hH2
  have r3:=r3.below hH2
  have c10 : w6.cell? ⟨w.heap.size, 10, none⟩ = some (.i k):=(r1.below hH2).cell 10
  have q0 : w6.cell? ⟨w.heap.size + 1, 0, none⟩ = some (.i 0):=r2.cell 0
  have f0 : w6.frozen? ⟨w.heap.size + 1, 0, none⟩ = false:=r2.frozen 0
  have s0 : w6.cell? ⟨w.heap.size + 1 + 1, 0, none⟩ = some (.i st):=r3.cell 0
  have q1 : w6.cell? ⟨w.heap.size + 1, 1, none⟩ = some (.i 0):=r2.cell 1
  have f1 : w6.frozen? ⟨w.heap.size + 1, 1, none⟩ = false:=r2.frozen 1
  have s1 : w6.cell? ⟨w.heap.size + 1 + 1, 1, none⟩ = some (.i ow):=r3.cell 1
  have q2 : w6.cell? ⟨w.heap.size + 1, 2, none⟩ = some (.i 0):=r2.cell 2
  have f2 : w6.frozen? ⟨w.heap.size + 1, 2, none⟩ = false:=r2.frozen 2
  have s2 : w6.cell? ⟨w.heap.size + 1 + 1, 2, none⟩ = some (.i sm):=r3.cell 2
  have q3 : w6.cell? ⟨w.heap.size + 1, 3, none⟩ = some (.bool false):=r2.cell 3
  have f3 : w6.frozen? ⟨w.heap.size + 1, 3, none⟩ = false:=r2.frozen 3
  have s3 : w6.cell? ⟨w.heap.size + 1 + 1, 3, none⟩ = some (.bool br):=r3.cell 3
  have q4 : w6.cell? ⟨w.heap.size + 1, 4, none⟩ = some (.bool false):=r2.cell 4
  have f4 : w6.frozen? ⟨w.heap.size + 1, 4, none⟩ = false:=r2.frozen 4
  have s4 : w6.cell? ⟨w.heap.size + 1 + 1, 4, none⟩ = some (.bool ma):=r3.cell 4
  have q5 : w6.cell? ⟨w.heap.size + 1, 5, none⟩ = some (.i 0):=r2.cell 5
  have f5 : w6.frozen? ⟨w.heap.size + 1, 5, none⟩ = false:=r2.frozen 5
  have s5 : w6.cell? ⟨w.heap.size + 1 + 1, 5, none⟩ = some (.i us):=r3.cell 5
  have q6 : w6.cell? ⟨w.heap.size + 1, 6, none⟩ = some (.i 0):=r2.cell 6
  have f6 : w6.frozen? ⟨w.heap.size + 1, 6, none⟩ = false:=r2.frozen 6
  have s6 : w6.cell? ⟨w.heap.size + 1 + 1, 6, none⟩ = some (.i ge):=r3.cell 6
  have q7 : w6.cell? ⟨w.heap.size + 1, 7, none⟩ = some (.i 0):=r2.cell 7
  have f7 : w6.frozen? ⟨w.heap.size + 1, 7, none⟩ = false:=r2.frozen 7
  have s7 : w6.cell? ⟨w.heap.size + 1 + 1, 7, none⟩ = some (.i ep):=r3.cell 7
  have q8 : w6.cell? ⟨w.heap.size + 1, 8, none⟩ = some (.i 0):=r2.cell 8
  have f8 : w6.frozen? ⟨w.heap.size + 1, 8, none⟩ = false:=r2.frozen 8
  have s8 : w6.cell? ⟨w.heap.size + 1 + 1, 8, none⟩ = some (.i ve):=r3.cell 8
  have g2 : w6.frozen? ⟨w.heap.size + 1 + 1, 2, none⟩ = false:=r3.frozen 2
  have R2:=Lib.hid r2
  clear r2 r3 r1 hHeld hH2 hA hKd hb6 hi
  go_wp2_with fail
  go_region
  go_wp2_with fail
  refine bodyPost_ret (results_row2 rfl _ _ (w.heap.size + 1) _ _ _ rfl ((((((((((setOther R2.out _ (by simp)).setc 0 _).setc 1 _).setc 2 _).setc 3 _).setc 4 _).setc 5 _).setc 6 _).setc 7 _).setc 8 _).drew Tryz.underlying59 rfl (by kernel_rfl)) rfl ?_
  refine ⟨by rw [HRES.out]; simp [S.val, S.cells], ?_⟩
  refine Below.drew ?_
  iterate 9 refine Below.setCell ?_ (by simp) _
  exact HB.out.setCell (by simp; omega) _
end Go.Proofs.YtpmkgddjgebojaaGreatDoor.Life
