/- The statement ModelReaps holds, for every input: the call answers true and leaves what it was handed as it was, where the package's table slot.fields is laid as the program's text lays it (the tied card). -/
import Derived.Test.YtpmkgddjgebojaaGreatDoorA6
import Derived.Test.YtpmkgddjgebojaaGreatDoorRows
import Derived.Test.YtpmkgddjgebojaaGreatDoorTie
import Derived.Test.YtpmkgddjgebojaaGreatDoorCards
import Derived.WalkKit
import Derived.ProofKit
import Derived.OpenShut
import Derived.ShutString
import Derived.ChangeOld
import Derived.Below
import Derived.LaidMore
import Derived.SevenTiedAt

namespace Go.Proofs.YtpmkgddjgebojaaGreatDoor.Mod
set_option linter.unusedVariables false
set_option linter.unusedSimpArgs false
open Go.RowKit Hp Slot RowL Life

set_option maxRecDepth 100000 in
set_option maxHeartbeats 16000000 in
theorem modelReaps_walk (W : World) (hL : Laid W) (ga gb gc gd ge : Int) (xa : 0 ≤ ga ∧ ga < 256) (xb : 0 ≤ gb ∧ gb < 256) (xc : 0 ≤ gc ∧ gc < 256) (xd : 0 ≤ gd ∧ gd < 256) (xe : 0 ≤ ge ∧ ge < 256) (lv : Value) (l : List Tn) (hl : TurnsAt W lv l) (n0 : Int) (xn : 0 ≤ n0 ∧ n0 < 256) :
    Calls Tryz.prog 8 #[.agg #[.int .u8 ga, .int .u8 gb, .int .u8 gc, .int .u8 gd, .int .u8 ge], lv, .int .u8 n0] W fun e W' => e = .returned (.bool true) ∧ Below W.heap.size W W' := by
  have hbA : Below W.heap.size W (W.alloc (.cells #[.int .u8 ga, .int .u8 gb, .int .u8 gc, .int .u8 gd, .int .u8 ge] 49)) := (Below.refl _ _).alloc (Nat.le_refl _) _
  have haw := awake_any (W.alloc (.cells #[.int .u8 ga, .int .u8 gb, .int .u8 gc, .int .u8 gd, .int .u8 ge] 49)) (hL.stable (hbA.block 0 (hL.lt (by decide))))
  have rA : RowAt (W.alloc (.cells #[.int .u8 ga, .int .u8 gb, .int .u8 gc, .int .u8 gd, .int .u8 ge] 49)) W.heap.size #[.int .u8 ga, .int .u8 gb, .int .u8 gc, .int .u8 gd, .int .u8 ge] 49 := RowAt.new _ _ _
  have hpos : 0 < W.heap.size := hL.lt (by decide)
  have HLd := Lib.hid hL
  have HL := Lib.hid hl
  obtain ⟨a, cp, rfl, htok, hcells⟩ := hl
  clear hcells hL htok
  go_enter Tryz.func8, Tryz.ntmps8
  go_wp2_with fail
  refine haw.mono ?_
  rintro e w1 ⟨rfl, hb1⟩
  have r1 := rA.below hb1
  clear haw rA
  by_cases hn : l.length ≤ 60
  rotate_left
  · have hn' : (60 : Int) < l.length := by omega
    go_wp2
    go_ret
    exact ⟨rfl, hbA.trans (hb1.mono hbA.size)⟩
  have hn' : ¬ (60 : Int) < l.length := by omega
  have d0 : w1.cell? ⟨W.heap.size, 0, none⟩ = some (.int .u8 ga) := r1.cell 0
  have d1 : w1.cell? ⟨W.heap.size, 1, none⟩ = some (.int .u8 gb) := r1.cell 1
  have d2 : w1.cell? ⟨W.heap.size, 2, none⟩ = some (.int .u8 gc) := r1.cell 2
  have d3 : w1.cell? ⟨W.heap.size, 3, none⟩ = some (.int .u8 gd) := r1.cell 3
  have d4 : w1.cell? ⟨W.heap.size, 4, none⟩ = some (.int .u8 ge) := r1.cell 4
  have hcf := conf_any w1 ga gb gc gd ge xa xb xc xd xe
  have hcr := confOf_right ga gb gc gd ge
  generalize confOf ga gb gc gd ge = c at *
  have hlb := HL.out.below (hbA.trans (hb1.mono hbA.size))
  go_wp2_with fail
  refine hcf.mono ?_
  rintro e w2 ⟨rfl, hb2⟩
  clear hcf d0 d1 d2 d3 d4 r1
  have rz := RowAt.new w2 #[.int .i64 0, .int .i64 0, .int .i64 0, .int .i64 0, .int .i64 0] 23
  have hst := conf_store rz rfl c
  have row3 := rz.set c.cells
  have hb3 : Below w2.heap.size w2 ((w2.alloc (.cells #[.int .i64 0, .int .i64 0, .int .i64 0, .int .i64 0, .int .i64 0] 23)).setRow w2.heap.size c.cells) := below_setRow ((Below.refl _ _).alloc (Nat.le_refl _) _) (Nat.le_refl _) _
  have hb13 : Below w1.heap.size w1 ((w2.alloc (.cells #[.int .i64 0, .int .i64 0, .int .i64 0, .int .i64 0, .int .i64 0] 23)).setRow w2.heap.size c.cells) := hb2.trans (hb3.mono hb2.size)
  have hbW : Below W.heap.size W ((w2.alloc (.cells #[.int .i64 0, .int .i64 0, .int .i64 0, .int .i64 0, .int .i64 0] 23)).setRow w2.heap.size c.cells) := (hbA.trans (hb1.mono hbA.size)).trans (hb13.mono (Nat.le_trans hbA.size hb1.size))
  have hcb : W.heap.size ≤ w2.heap.size := Nat.le_trans hbA.size (Nat.le_trans hb1.size hb2.size)
  have hsc : c.cells.size = 5 := rfl
  go_upto_region 5 with (fail)
  generalize (w2.alloc (.cells #[.int .i64 0, .int .i64 0, .int .i64 0, .int .i64 0, .int .i64 0] 23)).setRow w2.heap.size c.cells = w3 at *
  generalize w2.heap.size = cb at *
  clear hst rz hb13 hb3 hb2 hb1 hbA hsc hlb
  have hL3 : Laid w3 := HLd.out.stable (hbW.block 0 (HLd.out.lt (by decide)))
  have hl3 := HL.out.below hbW
  refine wp_region_lit ?_
  refine RowL.wpList_load_row rfl 23 (.tmp 8) rfl cb _ c.cells _ rfl row3 Tryz.underlying23 rfl (by kernel_rfl) ?_
  have hpl := played_any w3 c hcr hL3 _ l hl3 hn
  go_wp2_with fail
  refine hpl.mono ?_
  rintro e w4 ⟨p, m, evs0, rfl, hA, hran, hnew, hb4⟩
  have hInv := hran.inv hcr
  have hcfm := hran.cf
  have row4 := row3.below hb4
  have hcb3 : cb < w3.heap.size := row3.lt
  have hB4 : PlayB W (fun j => j = cb) p.mb (.slice none 0 0) w4 p m [] := ⟨hpos, rfl, hA, ownS_nil _ _, fun j hj => by have := hnew j hj; have := hbW.size; omega, fun j hj => (fp_nil j hj).elim, fun j hj => (fp_nil j hj).elim, fun j hj => ⟨by have := hb4.size; omega, fun hm => by have := hnew j hm; omega, fun hm => fp_nil j hm⟩, hbW.trans (hb4.mono hbW.size)⟩
  generalize p.mb = mb at *
  clear hpl hA hran hnew hb4 hL3 hl3 row3 hbW
  obtain ⟨nk, hnk⟩ : ∃ nk : Nat, c.workers = (nk : Int) := ⟨c.workers.toNat, by have := hcr; simp [Conf.Cf.right, Conf.btw] at this; omega⟩
  have hnk8 : 1 ≤ nk ∧ nk ≤ 8 := by have := hcr; simp [Conf.Cf.right, Conf.btw] at this; omega
  have ym : 0 ≤ n0 % (nk : Int) ∧ n0 % (nk : Int) < nk := ⟨Int.emod_nonneg _ (by omega), Int.emod_lt_of_pos _ (by omega)⟩
  obtain ⟨n, hn0⟩ : ∃ n : Nat, n0 % (nk : Int) = (n : Int) := ⟨(n0 % (nk : Int)).toNat, by omega⟩
  have yt : n0.tmod (nk : Int) = (n : Int) := (Int.tmod_eq_emod_of_nonneg xn.1).trans hn0
  have hnl : n < nk := by omega
  have nk0 : ((nk : Int) == 0) = false := by simp; omega
  have hks : m.ks.length = nk := by have := hB4.at'.ok.nks; rw [hcfm, hnk] at this; omega
  have e0 : w4.cell? ⟨cb, 0, none⟩ = some (.int .i64 nk) := by rw [← hnk]; exact row4.cell 0
  have hnB : n < m.ks.length := by omega
  clear hn0 ym hnk
  have hR := reap_twice hInv (n := n) (⟨7, 0, false, false, 0, 0, 0⟩ : Ask) (⟨5, 0, false, false, 0, 0, 0⟩ : Ask) rfl rfl (by decide) (by decide)
  have hm := m_ask hB4.at' n (⟨7, 0, false, false, 0, 0, 0⟩ : Ask)
  rw [hB4.mb] at hm
  have hI1 := hInv.ask n (⟨7, 0, false, false, 0, 0, 0⟩ : Ask) (by decide)
  generalize m.ask n (⟨7, 0, false, false, 0, 0, 0⟩ : Ask) = r at *
  obtain ⟨⟨y0, yb, yc⟩, m1⟩ := r
  simp only at hm hR hI1
  have HRR := Lib.hid hR
  clear hR
  go_wp2_with fail
  refine hm.mono ?_
  intro e v0 hpost
  obtain ⟨rfl, p0, hC0, hS0⟩ := hB4.post hpost
  clear hpost hm e0
  clear row4
  have rz := RowAt.new v0 #[.bool false, .int .i64 0, .int .i64 0, .int .i64 0, .int .i64 0, .bool false, .bool false, .int .i64 0, .int .i64 0, .int .i64 0, .int .i64 0, .int .i64 0, .int .i64 0, .int .i64 0, .int .i64 0, .int .i64 0, .int .i64 0, .int .i64 0] 36
  have hst := ev_store rz rfl y0
  have hsz := ev_size y0
  have row0 := rz.set (y0).cells
  have hb : Below v0.heap.size v0 ((v0.alloc (.cells #[.bool false, .int .i64 0, .int .i64 0, .int .i64 0, .int .i64 0, .bool false, .bool false, .int .i64 0, .int .i64 0, .int .i64 0, .int .i64 0, .int .i64 0, .int .i64 0, .int .i64 0, .int .i64 0, .int .i64 0, .int .i64 0, .int .i64 0] 36)).setRow v0.heap.size (y0).cells) := below_setRow ((Below.refl _ _).alloc (Nat.le_refl _) _) (Nat.le_refl _) _
  obtain ⟨K0, hB0, hKo, hKn⟩ := hC0.keepX hb
  have hK0 : K0 v0.heap.size := hKn _ (Nat.le_refl _) row0.lt
  clear hKo hKn hC0 hS0 hB4 rz
  cases yc
  · have hbe := hB0.below
    clear HRR
    go_wp2_with fail
    go_ret
    exact ⟨rfl, hbe⟩
  go_upto_region 12 with (fail)
  generalize (v0.alloc (.cells #[.bool false, .int .i64 0, .int .i64 0, .int .i64 0, .int .i64 0, .bool false, .bool false, .int .i64 0, .int .i64 0, .int .i64 0, .int .i64 0, .int .i64 0, .int .i64 0, .int .i64 0, .int .i64 0, .int .i64 0, .int .i64 0, .int .i64 0] 36)).setRow v0.heap.size (y0).cells = x0 at *
  generalize v0.heap.size = g0 at *
  clear hst hsz hb
  have hR := HRR.out (by trivial) m1 (m1.ask n (⟨5, 0, false, false, 0, 0, 0⟩ : Ask)).2 ((m1.ask n (⟨5, 0, false, false, 0, 0, 0⟩ : Ask)).2.ask n (⟨5, 0, false, false, 0, 0, 0⟩ : Ask)).2 rfl rfl rfl
  clear HRR
  have vs := view_slots
  have hss := hB0.at'.ok.ns
  have hv := m_view hB0.at'
  rw [hB0.mb] at hv
  clear yt nk0 xn hnk8
  go_wp2_with fail
  refine hv.mono ?_
  rintro e z1 ⟨vg, vc, va, vd, rfl, hsl, -, -, -, hb⟩
  have hB1 := hB0.below' hb
  have hst := state_any z1 vg vc m1.ss hsl (by omega) 2
  clear hv hb hsl hB0
  go_wp2_with fail
  refine hst.mono ?_
  rintro e z2 ⟨rfl, q, rfl⟩
  have hB2 := hB1.below' (bdrewN (Below.refl _ _) q)
  generalize z1.drewN q = z2 at *
  clear hst hB1
  have hv := m_view hB2.at'
  rw [hB2.mb] at hv
  go_wp2_with fail
  refine hv.mono ?_
  rintro e z3 ⟨vg2, vc2, va2, vd2, rfl, hsl, -, -, -, hb⟩
  have hB3 := hB2.below' hb
  have hst := state_any z3 vg2 vc2 m1.ss hsl (by omega) 3
  clear hv hb hsl hB2
  go_wp2_with fail
  refine hst.mono ?_
  rintro e z4 ⟨rfl, q, rfl⟩
  have hB4 := hB3.below' (bdrewN (Below.refl _ _) q)
  generalize z3.drewN q = z4 at *
  clear hst hB3
  have hm := m_ask hB4.at' n (⟨5, 0, false, false, 0, 0, 0⟩ : Ask)
  rw [hB4.mb] at hm
  have hI2 := hI1.ask n (⟨5, 0, false, false, 0, 0, 0⟩ : Ask) (by decide)
  have hcle := countAt_le m1.ss 2
  generalize hq1 : countAt m1.ss 2 = k2 at *
  generalize hq2 : countAt m1.ss 3 = k3 at *
  clear hq1 hq2
  generalize m1.ask n (⟨5, 0, false, false, 0, 0, 0⟩ : Ask) = r at *
  obtain ⟨⟨y1, yb1, yc1⟩, m2⟩ := r
  simp only at hm hR hI2
  go_wp2_with fail
  refine hm.mono ?_
  intro e v1 hpost
  obtain ⟨rfl, p1, hC1, hS1⟩ := hB4.post hpost
  clear hpost hm
  have rz := RowAt.new v1 #[.bool false, .int .i64 0, .int .i64 0, .int .i64 0, .int .i64 0, .bool false, .bool false, .int .i64 0, .int .i64 0, .int .i64 0, .int .i64 0, .int .i64 0, .int .i64 0, .int .i64 0, .int .i64 0, .int .i64 0, .int .i64 0, .int .i64 0] 36
  have hst := ev_store rz rfl y1
  have hsz := ev_size y1
  have row1 := rz.set (y1).cells
  have hb : Below v1.heap.size v1 ((v1.alloc (.cells #[.bool false, .int .i64 0, .int .i64 0, .int .i64 0, .int .i64 0, .bool false, .bool false, .int .i64 0, .int .i64 0, .int .i64 0, .int .i64 0, .int .i64 0, .int .i64 0, .int .i64 0, .int .i64 0, .int .i64 0, .int .i64 0, .int .i64 0] 36)).setRow v1.heap.size (y1).cells) := below_setRow ((Below.refl _ _).alloc (Nat.le_refl _) _) (Nat.le_refl _) _
  obtain ⟨K1, hB1, hKo, hKn⟩ := hC1.keepX hb
  have hK1 : K1 v1.heap.size := hKn _ (Nat.le_refl _) row1.lt
  clear hKo hKn hC1 hS1 hB4 rz
  go_upto_region 15 with (fail)
  generalize (v1.alloc (.cells #[.bool false, .int .i64 0, .int .i64 0, .int .i64 0, .int .i64 0, .bool false, .bool false, .int .i64 0, .int .i64 0, .int .i64 0, .int .i64 0, .int .i64 0, .int .i64 0, .int .i64 0, .int .i64 0, .int .i64 0, .int .i64 0, .int .i64 0] 36)).setRow v1.heap.size (y1).cells = x1 at *
  generalize v1.heap.size = g1 at *
  clear hst hsz hb
  have hm := m_ask hB1.at' n (⟨5, 0, false, false, 0, 0, 0⟩ : Ask)
  rw [hB1.mb] at hm
  have hI3 := hI2.ask n (⟨5, 0, false, false, 0, 0, 0⟩ : Ask) (by decide)
  generalize m2.ask n (⟨5, 0, false, false, 0, 0, 0⟩ : Ask) = r at *
  obtain ⟨⟨y2, yb2, yc2⟩, m3⟩ := r
  simp only at hm hR hI3
  go_wp2_with fail
  refine hm.mono ?_
  intro e v2 hpost
  obtain ⟨rfl, p2, hC2, hS2⟩ := hB1.post hpost
  clear hpost hm
  have row1 := RowAt.same row1 hS2 hK1
  have rz := RowAt.new v2 #[.bool false, .int .i64 0, .int .i64 0, .int .i64 0, .int .i64 0, .bool false, .bool false, .int .i64 0, .int .i64 0, .int .i64 0, .int .i64 0, .int .i64 0, .int .i64 0, .int .i64 0, .int .i64 0, .int .i64 0, .int .i64 0, .int .i64 0] 36
  have hst := ev_store rz rfl y2
  have hsz := ev_size y2
  have row2 := rz.set (y2).cells
  have hb : Below v2.heap.size v2 ((v2.alloc (.cells #[.bool false, .int .i64 0, .int .i64 0, .int .i64 0, .int .i64 0, .bool false, .bool false, .int .i64 0, .int .i64 0, .int .i64 0, .int .i64 0, .int .i64 0, .int .i64 0, .int .i64 0, .int .i64 0, .int .i64 0, .int .i64 0, .int .i64 0] 36)).setRow v2.heap.size (y2).cells) := below_setRow ((Below.refl _ _).alloc (Nat.le_refl _) _) (Nat.le_refl _) _
  obtain ⟨K2, hB2, hKo, hKn⟩ := hC2.keepX hb
  have hK2 : K2 v2.heap.size := hKn _ (Nat.le_refl _) row2.lt
  have row1 := row1.below hb
  have hK1 := hKo _ hK1
  clear hKo hKn hC2 hS2 hB1 rz
  go_upto_region 16 with (fail)
  generalize (v2.alloc (.cells #[.bool false, .int .i64 0, .int .i64 0, .int .i64 0, .int .i64 0, .bool false, .bool false, .int .i64 0, .int .i64 0, .int .i64 0, .int .i64 0, .int .i64 0, .int .i64 0, .int .i64 0, .int .i64 0, .int .i64 0, .int .i64 0, .int .i64 0] 36)).setRow v2.heap.size (y2).cells = x2 at *
  generalize v2.heap.size = g2 at *
  clear hst hsz hb
  obtain ⟨r1, r2, r3, r4, r5, r6, r7, r8, r9⟩ := hR
  subst r1 r2
  have hss3 := hB2.at'.ok.ns
  have hv := m_view hB2.at'
  rw [hB2.mb] at hv
  go_wp2_with fail
  refine hv.mono ?_
  rintro e z5 ⟨vg3, vc3, va3, vd3, rfl, hsl, -, -, -, hb⟩
  have hB3 := hB2.below' hb
  have row1 := row1.below hb
  have row2 := row2.below hb
  have row6 := RowAt.new z5 #[.slice (some ⟨vg3, 0, none⟩) m3.ss.length vc3, .slice va3 m3.line.length vd3, .int .i64 m3.closed] 45
  have hb6 : Below z5.heap.size z5 (z5.alloc (.cells #[.slice (some ⟨vg3, 0, none⟩) m3.ss.length vc3, .slice va3 m3.line.length vd3, .int .i64 m3.closed] 45)) := (Below.refl _ _).alloc (Nat.le_refl _) _
  have hB5 := hB3.below' hb6
  have row1 := row1.below hb6
  have row2 := row2.below hb6
  have hsl6 := hsl.stable (hb6.block vg3 (hsl.lt hss3.1))
  clear hv hb hsl hB2 hB3
  go_upto_region 17 with (fail)
  generalize z5.alloc (.cells #[.slice (some ⟨vg3, 0, none⟩) m3.ss.length vc3, .slice va3 m3.line.length vd3, .int .i64 m3.closed] 45) = z6 at *
  generalize z5.heap.size = g6 at *
  clear hb6
  have d1 : z6.cell? ⟨g1, 10, none⟩ = some (.int .i64 0) := by rw [← r3]; exact row1.cell 10
  have d2 : z6.cell? ⟨g2, 10, none⟩ = some (.int .i64 0) := by rw [← r4]; exact row2.cell 10
  have d3 : z6.cell? ⟨g1, 11, none⟩ = some (.int .i64 y1.slot) := row1.cell 11
  have d4 : z6.cell? ⟨g2, 11, none⟩ = some (.int .i64 y2.slot) := row2.cell 11
  have d5 : z6.cell? ⟨g6, 0, none⟩ = some (.slice (some ⟨vg3, 0, none⟩) m3.ss.length vc3) := row6.cell 0
  generalize y1.slot = s1 at *
  generalize y2.slot = s2 at *
  clear row1 row2 row6 r3 r4
  have hst := state_any z6 vg3 vc3 m3.ss hsl6 (by omega) 2
  rw [r8] at hst
  have HR9 := Lib.hid r9
  clear r8 r9 hI1 hI2 hI3
  have l1 : s1 + s2 ≤ 16 := by omega
  have w1 : wrap64 (s1 + s2) = k2 := by rw [wrap64_id (by omega) (by omega)]; exact r7
  have w3 : ((s1 + s2) == (k2 : Int)) = true := by simpa using r7
  clear r7
  go_wp2_with fail
  refine hst.mono ?_
  rintro e z7 ⟨rfl, q, rfl⟩
  have hB6 := hB5.below' (bdrewN (Below.refl _ _) q)
  have d5 : (z6.drewN q).cell? ⟨g6, 0, none⟩ = some (.slice (some ⟨vg3, 0, none⟩) m3.ss.length vc3) := d5
  have hst2 := state_any (z6.drewN q) vg3 vc3 m3.ss (hsl6.stable rfl) (by omega) 3
  rw [HR9.out] at hst2
  generalize z6.drewN q = z8 at *
  clear hst hsl6 hB5
  go_wp2_with fail
  refine hst2.mono ?_
  rintro e z9 ⟨rfl, q2, rfl⟩
  have hbe := (hB6.below' (bdrewN (Below.refl _ _) q2)).below
  go_wp2_with fail
  go_ret
  exact ⟨rfl, hbe⟩
end Go.Proofs.YtpmkgddjgebojaaGreatDoor.Mod

namespace Go.Proofs.YtpmkgddjgebojaaGreatDoor.modelReaps
open Go.ChangeShapes Go.WideShapes Go.ChangeAt Go.RowKit
set_option linter.unusedVariables false
set_option linter.unusedSimpArgs false

theorem own : ownKnob Tryz.prog.godebug = none := by kernel_rfl
theorem laidOut : laidOutB Tryz.prog = true := by kernel_rfl

set_option maxRecDepth 100000 in
theorem lifted (os : Os) (started : os.Started) (H : Type) (enc : TypeId × Value → H) :
    ReturnsInHanded {} Tryz.checked os 8 .any (fun w args => (Rows.modelReapsSpec.pre enc Tryz.prog Tryz.f8 [] false w args ∧ laidMetH Tryz.prog Mod.lst w) ∧ sizedMet enc Tryz.prog Tryz.f8 (OpenSpec.ofChange Rows.modelReapsSpec) false w args) (Rows.modelReapsSpec.post enc Tryz.prog Tryz.f8 false true false false) := by
  refine returnsInHanded_of_change_and (C := Tryz.checked) (X := fun w _ => laidMetH Tryz.prog Mod.lst w) (fun _ _ _ hh h => h.of_heap hh) own started (by kernel_rfl) Tryz.func8
    (ChangeSpec.witness_shaped (enc := enc) (C := Tryz.checked) (os := os) (X := fun w _ => laidMetH Tryz.prog Mod.lst w) false (World.doorLaid Tryz.prog 23 os) #[.agg #[.int .u8 0, .int .u8 0, .int .u8 0, .int .u8 0, .int .u8 0], .slice none 0 0, .int .u8 0] 8 rfl (World.shaped_of_RefB (by kernel_rfl) (by kernel_rfl)) (by kernel_rfl) (by kernel_rfl) (by kernel_rfl) (Mod.door_met os _)) ?_
  intro W base args ds gs before hval0 hW _ _ hL _
  have hval : ∀ (j : Nat) t v, Tryz.f8.params[j]? = some t → args[j]? = some v → Value.okWide Tryz.prog W .any base t v := hval0
  have hW' := hW
  obtain ⟨p, q, hA0, hV, rfl, hfz, hnd⟩ := hW
  have hA : DataW.TrodAll enc Tryz.prog W 0 (fun _ => true) true Tryz.f8.params.toList args.toList ds p := hA0
  rw [Tryz.params8] at hA hval
  obtain ⟨v0, vs0, d0, ds0, p0, q0, hargs, rfl, rfl, h0, r0⟩ := trodAll_cons hA
  obtain ⟨v1, vs1, d1, ds1, p1, q1, rfl, rfl, rfl, h1, r1⟩ := trodAll_cons r0
  obtain ⟨v2, vs2, d2, ds2, p2, q2, rfl, rfl, rfl, h2, r2⟩ := trodAll_cons r1
  obtain ⟨rfl, rfl, rfl⟩ := trodAll_nil r2
  obtain rfl : args = #[v0, v1, v2] := by cases args; simp_all
  obtain ⟨rfl, rfl⟩ := trodVars_none hV
  have k0 := h0
  have lt0 : ∀ x ∈ p0, x.block < W.heap.size := by obtain ⟨m, hm⟩ := k0; exact DataW.trod_lt m _ _ _ hm
  obtain ⟨g0a, g0b, g0c, g0d, g0e, rfl, x0a, x0b, x0c, x0d, x0e⟩ := Mod.open_given (hval 0 49 v0 rfl rfl) h0
  have k1 := h1
  have lt1 : ∀ x ∈ p1, x.block < W.heap.size := by obtain ⟨m, hm⟩ := k1; exact DataW.trod_lt m _ _ _ hm
  obtain ⟨a1, len1, cap1, e1⟩ := okWide_slice Tryz.underlying50 (hval 1 50 v1 rfl rfl)
  obtain ⟨l1, wl1, -⟩ := Mod.open_turns e1 h1
  obtain ⟨a2, rfl, rfl, rfl, w2⟩ := open_int Tryz.underlying5 (hval 2 5 v2 rfl rfl) h2
  have hLd := Mod.of_laid hL
  clear hA0 hval0
  refine (Mod.modelReaps_walk W hLd _ _ _ _ _ x0a x0b x0c x0d x0e _ l1 wl1 _ (Mod.u8_bd w2)).mono fun e W' ⟨he, bel⟩ => ?_
  subst he
  exact ⟨_, rfl, _, _, _, [], _, [], hW', trodAll_mk1 (shut_bool Tryz.underlying4 _), (trodAll_cons_mk (Below.trod laidOut (by kernel_rfl) (of_decide_eq_true (by kernel_rfl)) k0 bel lt0) (trodAll_cons_mk (Below.trod laidOut (by kernel_rfl) (of_decide_eq_true (by kernel_rfl)) k1 bel lt1) (trodAll_cons_mk (shut_int Tryz.underlying5 w2) trodAll_mk0))), rfl, bel.frame _, fun h => by cases h⟩

theorem over : Rows.modelReapsRow.holds Tryz.pinned (OpenSpec.ofChange Rows.modelReapsSpec) :=
  OpenClaim.holds_of_wide 8 Tryz.f8 rfl rfl rfl rfl rfl rfl rfl ⟨rfl, rfl, rfl, rfl, rfl⟩ rfl rfl rfl rfl rfl (by kernel_rfl) Tryz.func8 (by kernel_rfl)
    (of_decide_eq_true (by kernel_rfl)) (by unfold Func.isWrapper; first | (rw [if_pos (by decide +kernel)]; kernel_rfl) | (rw [if_neg (by decide +kernel)]; exact ⟨rfl, rfl⟩))
    (fun os started H enc _ => lifted os started H enc)

theorem proved : Rows.ModelReapsCardSaid :=
  Claim7.holds_tied_plain_at .later [] [.data] true (true, "fc8267f2bfccbddf267fa1b35529e40ef16cac4113fcc7d60f2cec3809bf4342") false
    over (fun _ h => by cases h) (by kernel_rfl) (fun _ h => by cases h) modelReaps_row_tie rfl ⟨rfl, rfl⟩ (by kernel_rfl) rfl
    (fun f fn hf hfn => by
      obtain rfl : f = 8 := Option.some.inj ((show Tryz.prog.funcNamed "coachhouse/coachhouselaw23.ModelReaps" = some 8 by kernel_rfl).symm.trans hf) |>.symm
      obtain rfl : fn = Tryz.f8 := (Option.some.inj (Tryz.func8.symm.trans hfn)).symm
      exact ⟨by kernel_rfl, fun j t ht => by
        rw [Tryz.params8] at ht
        have hm : t ∈ [49, 50, 5] := by simpa using Array.mem_of_getElem? ht
        have hall : ([49, 50, 5].all fun u => !Tryz.prog.wantsStandIn u) = true := by kernel_rfl
        exact (show Tryz.prog.wantsStandIn t = false by simpa using List.all_eq_true.1 hall t hm)⟩)
    (by kernel_rfl)
#print axioms proved
end Go.Proofs.YtpmkgddjgebojaaGreatDoor.modelReaps

