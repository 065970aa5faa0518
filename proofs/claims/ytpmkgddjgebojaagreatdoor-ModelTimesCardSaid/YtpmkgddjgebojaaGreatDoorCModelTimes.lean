/- The statement ModelTimes holds, for every input: the call answers true and leaves what it was handed as it was, where the package's table slot.fields is laid as the program's text lays it (the tied card). -/
import Derived.Test.YtpmkgddjgebojaaGreatDoorA6
import Derived.Test.YtpmkgddjgebojaaGreatDoorRows
import Derived.Test.YtpmkgddjgebojaaGreatDoorTie
import Derived.Test.YtpmkgddjgebojaaGreatDoorCards
import Derived.WalkKit
import Derived.ProofKit
import Derived.OpenShut
import Derived.ShutString
import Derived.ChangeOld
import Derived.Below
import Derived.LaidMore
import Derived.SevenTiedAt

namespace Go.Proofs.YtpmkgddjgebojaaGreatDoor.Mod
set_option linter.unusedVariables false
set_option linter.unusedSimpArgs false
open Go.RowKit Hp Slot RowL Life

set_option maxRecDepth 100000 in
set_option maxHeartbeats 16000000 in
theorem modelTimes_walk (W : World) (hL : Laid W) (ga gb gc gd ge : Int) (xa : 0 ≤ ga ∧ ga < 256) (xb : 0 ≤ gb ∧ gb < 256) (xc : 0 ≤ gc ∧ gc < 256) (xd : 0 ≤ gd ∧ gd < 256) (xe : 0 ≤ ge ∧ ge < 256) (lv : Value) (l : List Tn) (hl : TurnsAt W lv l) (oa : Option Addr) (on oc ob oo : Nat) (ol : List Int) (ho : Base.IntsAt .u8 W oa on oc ob oo ol) :
    Calls Tryz.prog 10 #[.agg #[.int .u8 ga, .int .u8 gb, .int .u8 gc, .int .u8 gd, .int .u8 ge], lv, .slice oa on oc] W fun e W' => e = .returned (.bool true) ∧ Below W.heap.size W W' := by
  have hbA : Below W.heap.size W (W.alloc (.cells #[.int .u8 ga, .int .u8 gb, .int .u8 gc, .int .u8 gd, .int .u8 ge] 49)) := (Below.refl _ _).alloc (Nat.le_refl _) _
  have haw := awake_any (W.alloc (.cells #[.int .u8 ga, .int .u8 gb, .int .u8 gc, .int .u8 gd, .int .u8 ge] 49)) (hL.stable (hbA.block 0 (hL.lt (by decide))))
  have rA : RowAt (W.alloc (.cells #[.int .u8 ga, .int .u8 gb, .int .u8 gc, .int .u8 gd, .int .u8 ge] 49)) W.heap.size #[.int .u8 ga, .int .u8 gb, .int .u8 gc, .int .u8 gd, .int .u8 ge] 49 := RowAt.new _ _ _
  have hpos : 0 < W.heap.size := hL.lt (by decide)
  have HLd := Lib.hid hL
  have HL := Lib.hid hl
  obtain ⟨a, cp, rfl, htok, hcells⟩ := hl
  clear hcells hL htok
  go_enter Tryz.func10, Tryz.ntmps10
  have HO := Lib.hid ho
  clear ho
  go_wp2_with fail
  refine haw.mono ?_
  rintro e w1 ⟨rfl, hb1⟩
  have r1 := rA.below hb1
  clear haw rA
  by_cases hn : l.length ≤ 60
  rotate_left
  · have hn' : (60 : Int) < l.length := by omega
    go_wp2
    go_ret
    exact ⟨rfl, hbA.trans (hb1.mono hbA.size)⟩
  have hn' : ¬ (60 : Int) < l.length := by omega
  by_cases hon : on ≤ 20
  rotate_left
  · have hon' : (20 : Int) < on := by omega
    go_wp2
    go_ret
    exact ⟨rfl, hbA.trans (hb1.mono hbA.size)⟩
  have hon' : ¬ (20 : Int) < on := by omega
  have d0 : w1.cell? ⟨W.heap.size, 0, none⟩ = some (.int .u8 ga) := r1.cell 0
  have d1 : w1.cell? ⟨W.heap.size, 1, none⟩ = some (.int .u8 gb) := r1.cell 1
  have d2 : w1.cell? ⟨W.heap.size, 2, none⟩ = some (.int .u8 gc) := r1.cell 2
  have d3 : w1.cell? ⟨W.heap.size, 3, none⟩ = some (.int .u8 gd) := r1.cell 3
  have d4 : w1.cell? ⟨W.heap.size, 4, none⟩ = some (.int .u8 ge) := r1.cell 4
  have hcf := conf_any w1 ga gb gc gd ge xa xb xc xd xe
  have hcr := confOf_right ga gb gc gd ge
  generalize confOf ga gb gc gd ge = c at *
  have hlb := HL.out.below (hbA.trans (hb1.mono hbA.size))
  go_wp2_with fail
  refine hcf.mono ?_
  rintro e w2 ⟨rfl, hb2⟩
  clear hcf d0 d1 d2 d3 d4 r1
  have rz := RowAt.new w2 #[.int .i64 0, .int .i64 0, .int .i64 0, .int .i64 0, .int .i64 0] 23
  have hst := conf_store rz rfl c
  have row3 := rz.set c.cells
  have hb3 : Below w2.heap.size w2 ((w2.alloc (.cells #[.int .i64 0, .int .i64 0, .int .i64 0, .int .i64 0, .int .i64 0] 23)).setRow w2.heap.size c.cells) := below_setRow ((Below.refl _ _).alloc (Nat.le_refl _) _) (Nat.le_refl _) _
  have hb13 : Below w1.heap.size w1 ((w2.alloc (.cells #[.int .i64 0, .int .i64 0, .int .i64 0, .int .i64 0, .int .i64 0] 23)).setRow w2.heap.size c.cells) := hb2.trans (hb3.mono hb2.size)
  have hbW : Below W.heap.size W ((w2.alloc (.cells #[.int .i64 0, .int .i64 0, .int .i64 0, .int .i64 0, .int .i64 0] 23)).setRow w2.heap.size c.cells) := (hbA.trans (hb1.mono hbA.size)).trans (hb13.mono (Nat.le_trans hbA.size hb1.size))
  have hcb : W.heap.size ≤ w2.heap.size := Nat.le_trans hbA.size (Nat.le_trans hb1.size hb2.size)
  have hsc : c.cells.size = 5 := rfl
  go_upto_region 5 with (fail)
  generalize (w2.alloc (.cells #[.int .i64 0, .int .i64 0, .int .i64 0, .int .i64 0, .int .i64 0] 23)).setRow w2.heap.size c.cells = w3 at *
  generalize w2.heap.size = cb at *
  clear hst rz hb13 hb3 hb2 hb1 hbA hsc hlb
  have hL3 : Laid w3 := HLd.out.stable (hbW.block 0 (HLd.out.lt (by decide)))
  have hl3 := HL.out.below hbW
  refine wp_region_lit ?_
  refine RowL.wpList_load_row rfl 23 (.tmp 8) rfl cb _ c.cells _ rfl row3 Tryz.underlying23 rfl (by kernel_rfl) ?_
  have hpl := played_any w3 c hcr hL3 _ l hl3 hn
  go_wp2_with fail
  refine hpl.mono ?_
  rintro e w4 ⟨p, m, evs0, rfl, hA, hran, hnew, hb4⟩
  have hInv := hran.inv hcr
  have hcfm := hran.cf
  have row4 := row3.below hb4
  have hcb3 : cb < w3.heap.size := row3.lt
  have hB4 : PlayB W (fun j => j = cb) p.mb (.slice none 0 0) w4 p m [] := ⟨hpos, rfl, hA, ownS_nil _ _, fun j hj => by have := hnew j hj; have := hbW.size; omega, fun j hj => (fp_nil j hj).elim, fun j hj => (fp_nil j hj).elim, fun j hj => ⟨by have := hb4.size; omega, fun hm => by have := hnew j hm; omega, fun hm => fp_nil j hm⟩, hbW.trans (hb4.mono hbW.size)⟩
  generalize p.mb = mb at *
  clear hpl hA hran hnew hb4 hL3 hl3 row3 hbW
  have ht := m_tick hB4.at' 300 (by omega) (by omega)
  rw [hB4.mb] at ht
  go_wp2_with fail
  refine ht.mono ?_
  rintro e w5 ⟨⟨v, rfl⟩, hA5, hC5⟩
  have hpost : MPost w4 p v (m.tick 300) (.returned v) w5 := ⟨rfl, p.lv, p.rv, hA5, fun k h => .inl h, fun k h => .inl h, hC5⟩
  obtain ⟨-, p5, hB5, hS5⟩ := hB4.post hpost
  have row5 := RowAt.same row4 hS5 rfl
  have hI5 := hInv.tick 300
  have hn5 : 255 ≤ (m.tick 300).now := by
    have := hB4.at'.ok.now
    simp only [M.tick, Clock.tick]
    omega
  have hc5 : (m.tick 300).cf = c := hcfm
  generalize m.tick 300 = m5 at *
  clear hpost hA5 hC5 ht hB4 hS5 row4 hInv hcfm
  obtain ⟨nk, hnk⟩ : ∃ nk : Nat, c.workers = (nk : Int) := ⟨c.workers.toNat, by have := hcr; simp [Conf.Cf.right, Conf.btw] at this; omega⟩
  have hnk8 : 1 ≤ nk ∧ nk ≤ 8 := by have := hcr; simp [Conf.Cf.right, Conf.btw] at this; omega
  have HNK := Lib.hid hnk
  go_wp2_with fail
  go_loopw [10] (fun i wr => ∃ k : Nat, k ≤ on + nk ∧ i = .int .i64 k ∧ ∃ q m', PlayB W (fun j => j = cb) mb (.slice none 0 0) wr q m' [] ∧ Inv m' ∧ 255 ≤ m'.now ∧ m'.cf = c ∧ RowAt wr cb c.cells 23 ∧ ∀ x ∈ m'.line, (k : Int) ≤ on + x) (fun i _ => on + nk - (intOf i).toNat)
  case atStart => exact ⟨0, by omega, rfl, p5, m5, hB5, hI5, hn5, hc5, row5, fun x hx => by have := (hI5.lb x hx).1; omega⟩
  case round =>
    rename_i wr
    clear hB5 hI5 hn5 hc5 row5
    obtain ⟨k, hk, rfl, q, m, hB, hI, hnow, hcm, hrow, hline⟩ := hrel
    have e0 : wr.cell? ⟨cb, 0, none⟩ = some (.int .i64 nk) := by rw [← HNK.out]; exact hrow.cell 0
    have hks : m.ks.length = nk := by have := hB.at'.ok.nks; rw [hcm, HNK.out] at this; omega
    have b0 : (0 : Int) ≤ (k : Int) := by omega
    have vw := view_waits
    clear hnk
    by_cases hlt : k < on + nk
    · have b1 : (k : Int) < (on : Int) + (nk : Int) := by omega
      have hw64 : (on : Int) + (nk : Int) ≤ 28 := by omega
      go_upto_if 50 with (fail)
      go_cut [11] from 34 to 91 (fun s11 wx => (∃ n : Nat, n < nk ∧ s11 = .int .i64 n ∧ (on ≤ k → n + on = k)) ∧ Below wr.heap.size wr wx)
      case first =>
        by_cases hko : k < on
        · have hko' : (k : Int) < (on : Int) := by omega
          have b2 : (k : Int) ≤ (on : Int) - 1 := by omega
          obtain ⟨hol, hoc, hom, hoa, hocell, howf⟩ := HO.out
          obtain ⟨rfl, hob⟩ := hoa (by omega)
          have hu := hocell k hko
          obtain ⟨y, hy⟩ : ∃ y, ol[k]? = some y := ⟨_, List.getElem?_eq_getElem (by omega)⟩
          have hyb : 0 ≤ y ∧ y ≤ 255 := Base.wf_u8_bounds (howf y (List.mem_of_getElem? hy))
          rw [List.getD_eq_getElem?_getD, hy, Option.getD_some] at hu
          have hu' : wr.cell? ⟨ob, oo + k, none⟩ = some (.int .u8 y) := (World.cell?_of_block (w := W) (hB.below.block ob hob)).trans hu
          clear hu hocell howf hoa hy
          have ym : 0 ≤ y % (nk : Int) ∧ y % (nk : Int) < nk := ⟨Int.emod_nonneg _ (by omega), Int.emod_lt_of_pos _ (by omega)⟩
          have yt : y.tmod (nk : Int) = y % (nk : Int) := Int.tmod_eq_emod_of_nonneg hyb.1
          have nk0 : ((nk : Int) == 0) = false := by simp; omega
          go_wp2_with fail
          go_region
          go_wp2_with fail
          go_meet
          case rel => exact ⟨⟨(y % (nk : Int)).toNat, by omega, by congr 1; omega, fun _ => by omega⟩, (Below.refl _ _).drew⟩
        · have hko' : ¬ (k : Int) < (on : Int) := by omega
          go_wp2_with fail
          go_meet
          case rel => exact ⟨⟨k - on, by omega, by congr 1; omega, fun _ => by omega⟩, Below.refl _ _⟩
      case rest =>
        obtain ⟨⟨n, hn', rfl, hkn⟩, hb6⟩ := hcut
        generalize wc = w6 at *
        have hB6 := hB.below' hb6
        have hrow6 := hrow.below hb6
        have hv := m_view hB6.at'
        rw [hB6.mb] at hv
        have hfew := hB6.at'.ok.few
        clear hB hrow e0 hb6
        go_wp2_with fail
        refine hv.mono ?_
        rintro e w7 ⟨g1, c1, a2, c2, rfl, -, -, hown, -, hb7⟩
        have hhas := ref_has w7 _ m.line (by omega) n hown
        obtain ⟨wb, hwb⟩ : ∃ wb, wb = decide ((n : Int) ∈ m.line) := ⟨_, rfl⟩
        rw [← hwb] at hhas
        have HWB := Lib.hid hwb
        clear hv hown hwb
        go_wp2_with fail
        refine hhas.mono ?_
        rintro e w8 ⟨rfl, rfl⟩
        have hB7 := hB6.below' hb7
        have hrow7 := hrow6.below hb7
        have hw := m_wake hB7.at' n
        rw [hB7.mb] at hw
        have hT := times_wake hI hnow (n := n) (by omega)
        have hIw := hI.wake n
        have hcw := (wake_cf m n).trans hcm
        generalize m.wake n = r at *
        obtain ⟨⟨y, yb⟩, m2⟩ := r
        simp only at hT hIw hcw hw
        obtain ⟨t1, t2, t3, t4⟩ := hT
        have T1 := Lib.hid t1
        clear hB6 hrow6 hhas hb7 t1
        go_wp2_with fail
        refine hw.mono ?_
        intro e w9 hpost
        obtain ⟨rfl, p9, hB9, hS9⟩ := hB7.post hpost
        have hrow9 := RowAt.same hrow7 hS9 rfl
        have rz := RowAt.new w9 #[.bool false, .int .i64 0, .int .i64 0, .int .i64 0, .int .i64 0, .bool false, .bool false, .int .i64 0, .int .i64 0, .int .i64 0, .int .i64 0, .int .i64 0, .int .i64 0, .int .i64 0, .int .i64 0, .int .i64 0, .int .i64 0, .int .i64 0] 36
        have hst := ev_store rz rfl y
        have hsz := ev_size y
        have rw2 := rz.set y.cells
        have hb11 : Below w9.heap.size w9 ((w9.alloc (.cells #[.bool false, .int .i64 0, .int .i64 0, .int .i64 0, .int .i64 0, .bool false, .bool false, .int .i64 0, .int .i64 0, .int .i64 0, .int .i64 0, .int .i64 0, .int .i64 0, .int .i64 0, .int .i64 0, .int .i64 0, .int .i64 0, .int .i64 0] 36)).setRow w9.heap.size y.cells) := below_setRow ((Below.refl _ _).alloc (Nat.le_refl _) _) (Nat.le_refl _) _
        have hB10 := hB9.below' hb11
        have hrow10 := hrow9.below hb11
        clear hpost hw hB7 hrow7 hB9 hrow9 hS9 hb11
        go_upto_region 17 with (fail)
        generalize (w9.alloc (.cells #[.bool false, .int .i64 0, .int .i64 0, .int .i64 0, .int .i64 0, .bool false, .bool false, .int .i64 0, .int .i64 0, .int .i64 0, .int .i64 0, .int .i64 0, .int .i64 0, .int .i64 0, .int .i64 0, .int .i64 0, .int .i64 0, .int .i64 0] 36)).setRow w9.heap.size y.cells = w10 at *
        generalize w9.heap.size = ab at *
        have hv2 := m_view hB10.at'
        rw [hB10.mb] at hv2
        have hfew2 := hB10.at'.ok.few
        have hno : decide ((n : Int) ∈ m2.line) = false := by simpa using t2
        have e10 : w10.cell? ⟨ab, 10, none⟩ = some (.int .i64 y.e) := rw2.cell 10
        have hline2 : ∀ x ∈ m2.line, ((k + 1 : Nat) : Int) ≤ on + x := fun x hx => by
          have h1 := hline x (t3 x hx)
          by_cases e : (on : Int) + x = k
          · have h2 := hI.lb x (t3 x hx)
            have h3 : x = n := by have := hkn (by omega); omega
            exact absurd (h3 ▸ hx) t2
          · omega
        clear hst hsz rz rw2 hline
        have tail : True := trivial
        have hfin : wb = true → yb = true ∧ y.e = 4 := fun h => T1.out.1 (by rw [HWB.out] at h; simpa using h)
        have hfin2 : wb = false → ¬ (yb = true ∧ y.e = 4) := fun h e => by have := T1.out.2 e; rw [HWB.out] at h; simp at h; exact h this
        clear HWB T1
        cases wb <;> cases yb
        · clear hfin hfin2 e10
          go_wp2_with fail
          refine hv2.mono ?_
          rintro e w11 ⟨g1, c1, a2, c2, rfl, -, -, hown, -, hb12⟩
          have hhas := ref_has w11 _ m2.line (by omega) n hown
          rw [hno] at hhas
          clear hv2 hown
          go_wp2_with fail
          refine hhas.mono ?_
          rintro e w12 ⟨rfl, rfl⟩
          have hBn := hB10.below' hb12
          have hrown := hrow10.below hb12
          clear hhas
          go_wp2_with fail
          go_round
          case rel => exact ⟨k + 1, by omega, rfl, p9, m2, hBn, hIw, by omega, hcw, hrown, hline2⟩
          case measure => simp [intOf] <;> omega
        · have he4 : (y.e == 4) = false := by have := hfin2 rfl; simpa using this
          clear hfin hfin2
          go_wp2_with fail
          refine hv2.mono ?_
          rintro e w11 ⟨g1, c1, a2, c2, rfl, -, -, hown, -, hb12⟩
          have hhas := ref_has w11 _ m2.line (by omega) n hown
          rw [hno] at hhas
          clear hv2 hown
          go_wp2_with fail
          refine hhas.mono ?_
          rintro e w12 ⟨rfl, rfl⟩
          have hBn := hB10.below' hb12
          have hrown := hrow10.below hb12
          clear hhas
          go_wp2_with fail
          go_round
          case rel => exact ⟨k + 1, by omega, rfl, p9, m2, hBn, hIw, by omega, hcw, hrown, hline2⟩
          case measure => simp [intOf] <;> omega
        · have := (hfin rfl).1; cases this
        · have he4 : y.e = 4 := (hfin rfl).2
          rw [he4] at e10
          clear hfin hfin2
          go_wp2_with fail
          refine hv2.mono ?_
          rintro e w11 ⟨g1, c1, a2, c2, rfl, -, -, hown, -, hb12⟩
          have hhas := ref_has w11 _ m2.line (by omega) n hown
          rw [hno] at hhas
          clear hv2 hown
          go_wp2_with fail
          refine hhas.mono ?_
          rintro e w12 ⟨rfl, rfl⟩
          have hBn := hB10.below' hb12
          have hrown := hrow10.below hb12
          clear hhas
          go_wp2_with fail
          go_round
          case rel => exact ⟨k + 1, by omega, rfl, p9, m2, hBn, hIw, by omega, hcw, hrown, hline2⟩
          case measure => simp [intOf] <;> omega
    · obtain rfl : k = on + nk := by omega
      have hl0 : m.line = [] := by
        cases hm : m.line with
        | nil => rfl
        | cons x t =>
          have h1 := hline x (by rw [hm]; simp)
          have h2 := hI.lb x (by rw [hm]; simp)
          omega
      have hv := m_view hB.at'
      rw [hB.mb, hl0] at hv
      have b1 : ¬ ((on + nk : Nat) : Int) < (on : Int) + (nk : Int) := by omega
      have hw64 : (on : Int) + (nk : Int) ≤ 28 := by omega
      clear hline hrow
      go_wp2_with fail
      refine hv.mono ?_
      rintro e w7 ⟨g1, c1, a2, c2, rfl, -, -, -, -, hb7⟩
      have hbe := (hB.below' hb7).below
      clear hv
      go_wp2_with fail
      go_ret
      exact ⟨rfl, hbe⟩
end Go.Proofs.YtpmkgddjgebojaaGreatDoor.Mod

namespace Go.Proofs.YtpmkgddjgebojaaGreatDoor.modelTimes
open Go.ChangeShapes Go.WideShapes Go.ChangeAt Go.RowKit
set_option linter.unusedVariables false
set_option linter.unusedSimpArgs false

theorem own : ownKnob Tryz.prog.godebug = none := by kernel_rfl
theorem laidOut : laidOutB Tryz.prog = true := by kernel_rfl

set_option maxRecDepth 100000 in
theorem lifted (os : Os) (started : os.Started) (H : Type) (enc : TypeId × Value → H) :
    ReturnsInHanded {} Tryz.checked os 10 .any (fun w args => (Rows.modelTimesSpec.pre enc Tryz.prog Tryz.f10 [] false w args ∧ laidMetH Tryz.prog Mod.lst w) ∧ sizedMet enc Tryz.prog Tryz.f10 (OpenSpec.ofChange Rows.modelTimesSpec) false w args) (Rows.modelTimesSpec.post enc Tryz.prog Tryz.f10 false true false false) := by
  refine returnsInHanded_of_change_and (C := Tryz.checked) (X := fun w _ => laidMetH Tryz.prog Mod.lst w) (fun _ _ _ hh h => h.of_heap hh) own started (by kernel_rfl) Tryz.func10
    (ChangeSpec.witness_shaped (enc := enc) (C := Tryz.checked) (os := os) (X := fun w _ => laidMetH Tryz.prog Mod.lst w) false (World.doorLaid Tryz.prog 23 os) #[.agg #[.int .u8 0, .int .u8 0, .int .u8 0, .int .u8 0, .int .u8 0], .slice none 0 0, .slice none 0 0] 8 rfl (World.shaped_of_RefB (by kernel_rfl) (by kernel_rfl)) (by kernel_rfl) (by kernel_rfl) (by kernel_rfl) (Mod.door_met os _)) ?_
  intro W base args ds gs before hval0 hW _ _ hL _
  have hval : ∀ (j : Nat) t v, Tryz.f10.params[j]? = some t → args[j]? = some v → Value.okWide Tryz.prog W .any base t v := hval0
  have hW' := hW
  obtain ⟨p, q, hA0, hV, rfl, hfz, hnd⟩ := hW
  have hA : DataW.TrodAll enc Tryz.prog W 0 (fun _ => true) true Tryz.f10.params.toList args.toList ds p := hA0
  rw [Tryz.params10] at hA hval
  obtain ⟨v0, vs0, d0, ds0, p0, q0, hargs, rfl, rfl, h0, r0⟩ := trodAll_cons hA
  obtain ⟨v1, vs1, d1, ds1, p1, q1, rfl, rfl, rfl, h1, r1⟩ := trodAll_cons r0
  obtain ⟨v2, vs2, d2, ds2, p2, q2, rfl, rfl, rfl, h2, r2⟩ := trodAll_cons r1
  obtain ⟨rfl, rfl, rfl⟩ := trodAll_nil r2
  obtain rfl : args = #[v0, v1, v2] := by cases args; simp_all
  obtain ⟨rfl, rfl⟩ := trodVars_none hV
  have k0 := h0
  have lt0 : ∀ x ∈ p0, x.block < W.heap.size := by obtain ⟨m, hm⟩ := k0; exact DataW.trod_lt m _ _ _ hm
  obtain ⟨g0a, g0b, g0c, g0d, g0e, rfl, x0a, x0b, x0c, x0d, x0e⟩ := Mod.open_given (hval 0 49 v0 rfl rfl) h0
  have k1 := h1
  have lt1 : ∀ x ∈ p1, x.block < W.heap.size := by obtain ⟨m, hm⟩ := k1; exact DataW.trod_lt m _ _ _ hm
  obtain ⟨a1, len1, cap1, e1⟩ := okWide_slice Tryz.underlying50 (hval 1 50 v1 rfl rfl)
  obtain ⟨l1, wl1, -⟩ := Mod.open_turns e1 h1
  have k2 := h2
  have lt2 : ∀ x ∈ p2, x.block < W.heap.size := by obtain ⟨m, hm⟩ := k2; exact DataW.trod_lt m _ _ _ hm
  obtain ⟨a2, len2, cap2, rfl⟩ := okWide_slice Tryz.underlying75 (hval 2 75 v2 rfl rfl)
  obtain ⟨b2, off2, l2, w2⟩ : ∃ b off l, Base.IntsAt .u8 W a2 len2 cap2 b off l := by
    obtain ⟨fuel, hf⟩ := h2
    rcases open_ints Tryz.underlying75 Tryz.underlying5 (by kernel_rfl) hf with ⟨hcs, _⟩ | ⟨x, l, c, zs, hcs, _, hl, hm, hz, _, hcell, hwz⟩
    · simp [Value.cells] at hcs
      obtain ⟨rfl, rfl, rfl⟩ := hcs
      exact ⟨0, 0, [], Base.intsAt_nil _ _⟩
    · simp [Value.cells] at hcs
      obtain ⟨rfl, rfl, rfl⟩ := hcs
      obtain ⟨b, off, h⟩ := Base.intsAt_some hl hm (by simpa using hz) hcell hwz
      exact ⟨b, off, _, h⟩
  have hLd := Mod.of_laid hL
  clear hA0 hval0
  refine (Mod.modelTimes_walk W hLd _ _ _ _ _ x0a x0b x0c x0d x0e _ l1 wl1 _ _ _ _ _ _ w2).mono fun e W' ⟨he, bel⟩ => ?_
  subst he
  exact ⟨_, rfl, _, _, _, [], _, [], hW', trodAll_mk1 (shut_bool Tryz.underlying4 _), (trodAll_cons_mk (Below.trod laidOut (by kernel_rfl) (of_decide_eq_true (by kernel_rfl)) k0 bel lt0) (trodAll_cons_mk (Below.trod laidOut (by kernel_rfl) (of_decide_eq_true (by kernel_rfl)) k1 bel lt1) (trodAll_cons_mk (Below.trod laidOut (by kernel_rfl) (of_decide_eq_true (by kernel_rfl)) k2 bel lt2) trodAll_mk0))), rfl, bel.frame _, fun h => by cases h⟩

theorem over : Rows.modelTimesRow.holds Tryz.pinned (OpenSpec.ofChange Rows.modelTimesSpec) :=
  OpenClaim.holds_of_wide 10 Tryz.f10 rfl rfl rfl rfl rfl rfl rfl ⟨rfl, rfl, rfl, rfl, rfl⟩ rfl rfl rfl rfl rfl (by kernel_rfl) Tryz.func10 (by kernel_rfl)
    (of_decide_eq_true (by kernel_rfl)) (by unfold Func.isWrapper; first | (rw [if_pos (by decide +kernel)]; kernel_rfl) | (rw [if_neg (by decide +kernel)]; exact ⟨rfl, rfl⟩))
    (fun os started H enc _ => lifted os started H enc)

theorem proved : Rows.ModelTimesCardSaid :=
  Claim7.holds_tied_plain_at .later [] [.data] true (true, "fc8267f2bfccbddf267fa1b35529e40ef16cac4113fcc7d60f2cec3809bf4342") false
    over (fun _ h => by cases h) (by kernel_rfl) (fun _ h => by cases h) modelTimes_row_tie rfl ⟨rfl, rfl⟩ (by kernel_rfl) rfl
    (fun f fn hf hfn => by
      obtain rfl : f = 10 := Option.some.inj ((show Tryz.prog.funcNamed "coachhouse/coachhouselaw23.ModelTimes" = some 10 by kernel_rfl).symm.trans hf) |>.symm
      obtain rfl : fn = Tryz.f10 := (Option.some.inj (Tryz.func10.symm.trans hfn)).symm
      exact ⟨by kernel_rfl, fun j t ht => by
        rw [Tryz.params10] at ht
        have hm : t ∈ [49, 50, 75] := by simpa using Array.mem_of_getElem? ht
        have hall : ([49, 50, 75].all fun u => !Tryz.prog.wantsStandIn u) = true := by kernel_rfl
        exact (show Tryz.prog.wantsStandIn t = false by simpa using List.all_eq_true.1 hall t hm)⟩)
    (by kernel_rfl)
#print axioms proved
end Go.Proofs.YtpmkgddjgebojaaGreatDoor.modelTimes

