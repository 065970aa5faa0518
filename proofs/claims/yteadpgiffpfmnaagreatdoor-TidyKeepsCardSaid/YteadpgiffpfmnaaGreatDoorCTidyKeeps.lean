/- The statement TidyKeeps holds, for every input: the call answers true and leaves what it was handed as it was, where the package's table slot.fields is laid as the program's text lays it (the tied card). -/
import Derived.Test.YteadpgiffpfmnaaGreatDoorQ16
import Derived.Test.YteadpgiffpfmnaaGreatDoorQ11
import Derived.Test.YteadpgiffpfmnaaGreatDoorQ15
import Derived.Test.YteadpgiffpfmnaaGreatDoorQ2
import Derived.Test.YteadpgiffpfmnaaGreatDoorRows
import Derived.Test.YteadpgiffpfmnaaGreatDoorTie
import Derived.Test.YteadpgiffpfmnaaGreatDoorCards
import Derived.WalkKit
import Derived.ProofKit
import Derived.OpenShut
import Derived.ShutString
import Derived.ChangeOld
import Derived.Below
import Derived.LaidMore
import Derived.SevenTiedAt

namespace Go.Proofs.YteadpgiffpfmnaaGreatDoor.Mod
set_option linter.unusedVariables false
set_option linter.unusedSimpArgs false
open Go.RowKit Hp Slot RowL Life Cl

set_option maxRecDepth 100000 in
set_option maxHeartbeats 2000000 in
theorem tidyKeeps_walk (W : World) (hL : Laid W) (g : Gv) (hgv : GvAt W g) (a0 : Option Addr) (len cap b0 off : Nat) (l : List Int) (hl : Base.IntsAt .u8 W a0 len cap b0 off l) (who : Int) (hwho : 0 ≤ who ∧ who < 256) :
    Calls Tryz.prog 5 #[g.val, .slice a0 len cap, .int .u8 who] W fun e W' => e = .returned (.bool true) ∧ Below W.heap.size W W' := by
  have haw := fun w hL => yawake_any w hL
  have hcr := confOf_right g.b0 g.b1 g.b2 g.b3 g.b4
  have hwt := fun w h (h8 : len ≤ 8) hl => waits_any (a0 := a0) (len := len) (cap := cap) (b0 := b0) (off := off) (l := l) w g h hl h8
  generalize confOf g.b0 g.b1 g.b2 g.b3 g.b4 = c at *
  have hA : Below W.heap.size W (W.alloc (.cells g.cells 27)) := (Below.refl _ _).alloc (Nat.le_refl _) _
  have hg : RowAt (W.alloc (.cells g.cells 27)) W.heap.size g.cells 27 := heap_alloc_new W _
  have hG := hgv.below hA
  have hL0 := hL.stable (hA.block 0 (hL.lt (by decide)))
  have hW0 : 0 < W.heap.size := hL.lt (by decide)
  go_enter Tryz.func5, Tryz.ntmps5
  go_upto_region 1 with (fail)
  generalize (W.alloc (.cells g.cells 27)) = w0 at *
  go_wp2_with fail
  refine (haw _ hL0).mono ?_
  rintro e w1 ⟨rfl, hb1⟩
  have hB1 := hA.trans (hb1.mono hA.size)
  have hg1 := RowAt.below hg hb1
  have hG1 := hG.below hb1
  have hl1 := hl.later hB1 (Nat.le_refl _)
  clear haw hb1 hA hg hG hL0 hgv
  by_cases h8 : len ≤ 8
  rotate_left
  · have h8i : (8 : Int) < (len : Int) := by omega
    have HB := Lib.hid hB1
    clear hwt hG1 hg1 hl1 hB1
    go_wp2_with fail
    go_ret
    exact ⟨rfl, HB.out⟩
  have h8i : ¬ (8 : Int) < (len : Int) := by omega
  go_upto_region 4 with (fail)
  refine wp_region_lit ?_
  refine grow hg1 27 (.tmp 3) Tryz.underlying27 ?_
  try simp only [Act.put, sA, sZ, sS]
  refine gl (.slice a0 len cap) ?_
  try simp only [Act.put, sA, sZ, sS]
  refine gcall 10 #[.tmp 25, .tmp 26] #[27, 25] #[g.val, .slice a0 len cap] (enters_of Tryz.func10 (by kernel_rfl) rfl) ?_
  refine (hwt _ hG1 h8 hl1).mono ?_
  rintro e w2 ⟨gb, pre, ss, LL, rfl, hw2, hp, hq, hgb, hb2, hz⟩
  refine ⟨_, rfl, ?_⟩
  have hB2 := hB1.trans (hb2.mono hB1.size)
  dsimp only
  refine gl (.tuple #[c.val, .slice (some ⟨gb, 0, none⟩) (Tk.cells pre ss).length (Tk.cells pre ss).length]) ?_
  refine gl c.val ?_
  refine gl (.slice (some ⟨gb, 0, none⟩) (Tk.cells pre ss).length (Tk.cells pre ss).length) ?_
  refine gbox (ob := .cells zero5 30) (Z := zero5) (cs := c.cells) (t := 30) 30 (.tmp 8) (.tmp 28) rfl ?_
  refine gl (.slice (some ⟨gb, 0, none⟩) (Tk.cells pre ss).length (Tk.cells pre ss).length) ?_
  try simp only [Act.put, sA, sZ, sS]
  rw [setRow_new]
  have M4 : LwAt W c w2.heap.size gb (Tk.cells pre ss) (w2.alloc (.cells c.cells 30)) := ⟨hB2.alloc hB2.size _, heap_alloc_new w2 _, RowAt.below hw2 ((Below.refl _ _).alloc (Nat.le_refl _) _), ⟨by have := hB1.size; omega, RowAt.lt hw2, hW0⟩⟩
  generalize (w2.alloc (.cells c.cells 30)) = w4 at *
  generalize w2.heap.size = cb at *
  have hlen : (Tk.cells pre ss).length = Tk.sc c (Tk.ns c) := by unfold Tk.cells Tk.sc; have := hp.pl; have := hp.sl; simp; omega
  obtain ⟨⟨wk0, wk1⟩, sl0, sl1⟩ := right_small hcr
  have hn6 : 6 ≤ (Tk.cells pre ss).length := by rw [hlen]; unfold Tk.sc Tk.ns; omega
  clear hwt hG1 hg1 hw2 hB1 hB2 hb2 hgb hl1 h8i
  have c0 : w4.cell? ⟨cb, 0, none⟩ = some (.int .i64 c.workers) := RowAt.cell M4.cr 0
  obtain ⟨i, hi, hilt⟩ : ∃ i : Nat, who.tmod c.workers = (i : Int) ∧ (i : Int) < c.workers := ⟨(who % c.workers).toNat, by rw [Int.tmod_eq_emod_of_nonneg hwho.1]; have := Int.emod_nonneg who (show c.workers ≠ 0 by omega); omega, by have := Int.emod_nonneg who (show c.workers ≠ 0 by omega); have := Int.emod_lt_of_pos who (show 0 < c.workers by omega); omega⟩
  have hne : ¬ c.workers = 0 := by omega
  have hnb : (c.workers == 0) = false := by simpa using hne
  have x0 := hwho.1
  have x1 := hwho.2
  obtain ⟨pre', ss', L', t', hrun, h17, hF⟩ := fin_run (k := i) hp hq hcr (by omega)
  have hok : Ty.TyOk (Ty.Ty.new c i) (Tk.cells pre ss).length := Ty.TyOk.new ⟨by omega, by omega⟩ (by unfold Tk.ns; omega) hilt (by rw [hlen]; rfl)
  have hme : Ty.MemOk c (Tk.cells pre ss) := memOk_of hp hq wk1
  have HF := Lib.hid hF
  have HP := Lib.hid (And.intro hp (And.intro hq hz))
  clear hF hz
  go_upto_region 6 with (fail)
  have hld := laid_any w4 c hcr gb 0 (Tk.cells pre ss).length (Tk.cells pre ss) hlen M4.ints
  refine wp_region_lit ?_
  refine grow M4.cr 30 (.tmp 8) Tryz.underlying30 ?_
  refine gl (.slice (some ⟨gb, 0, none⟩) (Tk.cells pre ss).length (Tk.cells pre ss).length) ?_
  try simp only [Act.put, sA, sZ, sS]
  refine gcall 11 #[.tmp 35, .tmp 36] #[30, 31] #[c.val, .slice (some ⟨gb, 0, none⟩) (Tk.cells pre ss).length (Tk.cells pre ss).length] (enters_of Tryz.func11 (by kernel_rfl) rfl) ?_
  refine hld.mono ?_
  rintro e w5 ⟨mb, wb, rfl, hM5, hm1, hm2, hb5⟩
  refine ⟨_, rfl, ?_⟩
  have M5 := M4.below hb5
  have hmb : cb + 1 ≤ mb := Nat.le_trans M4.lt hm1
  have hwb : cb + 1 ≤ wb := Nat.le_trans M4.lt hm2
  have hL5 : Laid w5 := hL.stable (M5.b.block 0 (hL.lt (by decide)))
  clear hld hm1 hm2 hb5 M4 c0 hne hnb x0 x1
  dsimp only
  have hal := yalone_any hM5 hL5 (by have := M5.ng; omega) (by have := M5.ng; omega) ⟨by omega, by rw [hlen]; unfold Tk.sc Tk.ns; omega⟩ c i hok hme
  rw [hrun] at hal
  clear hok hme hM5 hL5 hrun hp hq
  go_upto_region 9 with (fail)
  refine wp_region_lit ?_
  refine gl (.pointer (some ⟨mb, 0, none⟩)) ?_
  try simp only [Act.put, sA, sZ, sS]
  refine grow M5.cr 30 (.tmp 8) Tryz.underlying30 ?_
  try simp only [Act.put, sA, sZ, sS]
  refine gl (.int .i64 i) ?_
  try simp only [Act.put, sA, sZ, sS]
  refine gcall 12 #[.tmp 40, .tmp 41, .tmp 42] #[34, 30, 3] #[Value.pointer (some ⟨mb, 0, none⟩), c.val, .int .i64 i] (enters_of Tryz.func12 (by kernel_rfl) rfl) ?_
  refine hal.mono ?_
  rintro e w7 ⟨rfl, tc, hM7, ht7, hC7⟩
  refine ⟨_, rfl, ?_⟩
  have M7 := M5.keep (hC7.below (B := cb + 1) M5.lt (fun q e => by rcases e with rfl | rfl <;> assumption))
  rw [decide_eq_true h17]
  dsimp only at hM7 ⊢
  have hwo := words_any hM7
  have HM7 := Lib.hid M7
  clear hal hM7 ht7 hC7 M7 M5 h17
  go_wp2_with fail
  refine hwo.mono ?_
  rintro e w9 ⟨na, ncap, rfl, hown, hfp, hb9⟩
  have hl9 : (Tk.cells pre' ss').length = (Tk.cells pre ss).length := by have h1 := HF.out.p.pl; have h2 := HF.out.p.sl; rw [hlen]; unfold Tk.cells Tk.sc; simp; omega
  rw [hl9, hlen] at hown ⊢
  obtain ⟨ng, no, rfl, hng, hni, hnz⟩ := own_ints hown (by omega)
  have M9 := HM7.out.below hb9
  clear hwo hown hfp hb9 HM7 hnz
  have hsB := ref_slots_any w9 c hcr gb 0 (Tk.sc c (Tk.ns c)) (Tk.cells pre ss) hlen M9.ints (words_bd HP.out.1 (HP.out.2.1.bd wk1))
  rw [slotsOf_cells HP.out.1, hlen] at hsB
  go_upto_region 11 with (fail)
  refine wp_region_lit ?_
  refine grow M9.cr 30 (.tmp 8) Tryz.underlying30 ?_
  try simp only [Act.put, sA, sZ, sS]
  refine gl (.slice (some ⟨gb, 0, none⟩) (Tk.sc c (Tk.ns c)) (Tk.sc c (Tk.ns c))) ?_
  try simp only [Act.put, sA, sZ, sS]
  refine gcall 14 #[.tmp 46, .tmp 47] #[30, 31] #[c.val, .slice (some ⟨gb, 0, none⟩) (Tk.sc c (Tk.ns c)) (Tk.sc c (Tk.ns c))] (enters_of Tryz.func14 (by kernel_rfl) rfl) ?_
  refine hsB.mono ?_
  rintro e w10 ⟨oa, ocp, rfl, hoi, hb10⟩
  refine ⟨_, rfl, ?_⟩
  have M10 := M9.below hb10
  have hni10 := hni.keep hb10 hng
  have hng10 : ng < w10.heap.size := Nat.lt_of_lt_of_le hng hb10.size
  have hsl : ss.length = Tk.ns c := HP.out.1.sl
  obtain ⟨pre1, pre2, TT⟩ := HF.out.t
  have hpt := TT.preT HP.out.1.pl (show i < c.workers.toNat by omega)
  have hkp := fun (q : Nat) (s : S) (h : ss[q]? = some s) (hk : s.state = 3 ∧ Tk.rd pre 0 ≠ 2 ∨ s.state = 1 ∨ s.state = 4 ∨ s.state = 5) => Ty.keeps TT h hk
  have hns : Tk.ns c ≤ 16 := by unfold Tk.ns; omega
  have hx0 : (Tk.cells pre' ss')[0]? = some (Tk.rd pre 0) := by rw [rd_here (by rw [hl9]; omega), Tk.rd_pre HF.out.p (by omega)]; exact congrArg some hpt.2.1
  have hy0 : (Tk.cells pre ss)[0]? = some (Tk.rd pre 0) := by rw [rd_here (by omega), Tk.rd_pre HP.out.1 (by omega)]; rfl
  have hold : ∀ (q : Nat) s, ss[q]? = some s → (Tk.cells pre ss)[Tk.sc c q]? = some s.word := fun q s h => by have := (List.getElem?_eq_some_iff.1 h).1; rw [rd_here (by rw [hlen]; unfold Tk.sc; omega), Tk.rd_slot HP.out.1 h]
  have hnow : ∀ (q : Nat), q < Tk.ns c → ∃ x, (Tk.cells pre' ss')[Tk.sc c q]? = some x := fun q h => ⟨_, List.getElem?_eq_getElem (by rw [hl9, hlen]; unfold Tk.sc; omega)⟩
  have hsame : ∀ (q : Nat) s, ss'[q]? = some s → (Tk.cells pre' ss')[Tk.sc c q]? = some s.word := fun q s h => by have h1 := (List.getElem?_eq_some_iff.1 h).1; have h2 := HF.out.p.sl; rw [rd_here (by rw [hl9, hlen]; unfold Tk.sc; omega), Tk.rd_slot HF.out.p h]
  have hpo : ∀ o : Nat, (o : Int) < c.workers → ∃ x, (Tk.cells pre ss)[3 + o]? = some x ∧ (o ≠ i → (Tk.cells pre' ss')[3 + o]? = some x) := fun o ho => ⟨Tk.rd pre (3 + o), by rw [rd_here (by rw [hlen]; unfold Tk.sc Tk.ns; omega), Tk.rd_pre HP.out.1 (by omega)]; rfl, fun hne => by rw [rd_here (by rw [hl9, hlen]; unfold Tk.sc Tk.ns; omega), Tk.rd_pre HF.out.p (by omega)]; exact congrArg some ((hpt.2.2.2.2 o (by omega) hne).1)⟩
  generalize Tk.rd pre 0 = cl at *
  have hslot := fun w (q : Nat) (h : q < Tk.ns c) => ref_slot_any w c q ⟨by omega, wk1⟩ ⟨by unfold Tk.ns at h; omega, by omega⟩
  have hpin := fun w (q : Nat) (h : (q : Int) < c.workers) => ref_pin_any w c q ⟨h, wk1⟩
  have e0 : w10.cell? ⟨ng, no, none⟩ = some (.int .i64 cl) := by have h := hni10 0 _ hx0; rwa [Nat.add_zero] at h
  have f0 := M10.wr.get hy0
  have HK := Lib.hid (And.intro hkp (And.intro hold (And.intro hnow (And.intro hsame hpo))))
  have HI := Lib.hid hoi
  have HN := Lib.hid hni10
  have HM := Lib.hid M10
  have HS := Lib.hid hsl
  have HSL := Lib.hid hslot
  have HPN := Lib.hid hpin
  have hj6 : 6 ≤ Tk.sc c (Tk.ns c) := by omega
  have hjs : ∀ q : Nat, q < Tk.ns c → Tk.sc c q < Tk.sc c (Tk.ns c) ∧ 3 + 2 * c.workers + (q : Int) = (Tk.sc c q : Nat) := fun q h => by unfold Tk.sc; omega
  have hjp : ∀ q : Nat, (q : Int) < c.workers → 3 + q < Tk.sc c (Tk.ns c) := fun q h => by unfold Tk.sc; omega
  rw [hsl]
  clear hsB M9 hni hoi hb10 hni10 hpt hkp hx0 hy0 hold hnow hsame hpo hslot hpin TT hsl hng M10 HF HP
  dsimp only
  go_wp2_with fail
  go_loopw [15] (fun i wr => ∃ q : Nat, q ≤ Tk.ns c ∧ i = .int .i64 q ∧ RowKit.Hid (Below w10.heap.size w10 wr)) (fun i _ => Tk.ns c - (intOf i).toNat)
  case atStart => exact ⟨0, by omega, rfl, Below.refl _ _⟩
  case round =>
    obtain ⟨q, hq, rfl, hB⟩ := hrel
    by_cases hlt : q < Tk.ns c
    · obtain ⟨s, hs⟩ : ∃ s, ss[q]? = some s := ⟨_, List.getElem?_eq_getElem (by rw [HS.out]; exact hlt)⟩
      obtain ⟨og, oo, rfl, hco⟩ := HI.out q s hs
      obtain ⟨xn, hxn⟩ := HK.out.2.2.1 q hlt
      have hxo := HK.out.2.1 q s hs
      have hkeep : (s.state = 3 ∧ cl ≠ 2 ∨ s.state = 1 ∨ s.state = 4 ∨ s.state = 5) → xn = s.word := fun h => by have h1 := HK.out.2.2.2.1 q s (HK.out.1 q s hs h); rw [hxn] at h1; exact Option.some.inj h1
      obtain ⟨hj1, hj2⟩ := hjs q hlt
      have hsl := HSL.out wr q hlt
      rw [hj2] at hsl
      have gn := HN.out _ _ hxn
      have go' := HM.out.wr.get hxo
      obtain ⟨xo, hxo2⟩ : ∃ xo, xo = s.word := ⟨_, rfl⟩
      rw [← hxo2] at go' hkeep
      generalize Tk.sc c q = j at *
      have hMr := HM.out.below hB.out
      have c0 := RowAt.cell hMr.cr
      have k0 : (0 : Int) ≤ (q : Int) := by omega
      have k1 : (q : Int) < (Tk.ns c : Int) := by omega
      have j0 : (0 : Int) ≤ (j : Int) := by omega
      have j1 : (j : Int) < (Tk.sc c (Tk.ns c) : Int) := by omega
      obtain ⟨st, ow, sm, br, ma, us, ge, ep, ve⟩ := s
      have y0 := hco 0 _ rfl
      have y1 := hco 1 _ rfl
      have y2 := hco 2 _ rfl
      have y3 := hco 3 _ rfl
      have y4 := hco 4 _ rfl
      have y5 := hco 5 _ rfl
      have y6 := hco 6 _ rfl
      have y7 := hco 7 _ rfl
      have y8 := hco 8 _ rfl
      simp only [S.cells, Nat.add_zero] at y0 y1 y2 y3 y4 y5 y6 y7 y8
      have HC := Lib.hid hMr.cr
      dsimp only at hkeep
      clear hco hs hxn hxo hxo2 hj1 hj2 hMr c0
      go_upto_region 15 with (fail)
      refine wp_region_lit ?_
      refine grow HC.out 30 (.tmp 8) Tryz.underlying30 ?_
      try simp only [Act.put, sA, sZ, sS]
      refine gl (.int .i64 q) ?_
      try simp only [Act.put, sA, sZ, sS]
      refine gcall 20 #[.tmp 55, .tmp 56] #[30, 3] #[c.val, .int .i64 q] (enters_of Tryz.func20 (by kernel_rfl) rfl) ?_
      refine hsl.mono ?_
      rintro e w11 ⟨rfl, hb11⟩
      refine ⟨_, rfl, ?_⟩
      have hB11 := hB.out.trans (hb11.mono hB.out.size)
      have y0 := Field.bkeep hB11 y0
      have y1 := Field.bkeep hB11 y1
      have y2 := Field.bkeep hB11 y2
      have y3 := Field.bkeep hB11 y3
      have y4 := Field.bkeep hB11 y4
      have y5 := Field.bkeep hB11 y5
      have y6 := Field.bkeep hB11 y6
      have y7 := Field.bkeep hB11 y7
      have y8 := Field.bkeep hB11 y8
      clear hsl hb11
      dsimp only
      go_upto_region 17 with (fail)
      have hB12 : Below w10.heap.size w10 (w11.alloc (.cells #[.int .i64 st, .int .i64 ow, .int .i64 sm, .bool br, .bool ma, .int .i64 us, .int .i64 ge, .int .i64 ep, .int .i64 ve] 41)) := hB11.alloc hB11.size _
      have hs12 : RowAt (w11.alloc (.cells #[.int .i64 st, .int .i64 ow, .int .i64 sm, .bool br, .bool ma, .int .i64 us, .int .i64 ge, .int .i64 ep, .int .i64 ve] 41)) w11.heap.size #[.int .i64 st, .int .i64 ow, .int .i64 sm, .bool br, .bool ma, .int .i64 us, .int .i64 ge, .int .i64 ep, .int .i64 ve] 41 := RowAt.new _ _ _
      generalize (w11.alloc (.cells #[.int .i64 st, .int .i64 ow, .int .i64 sm, .bool br, .bool ma, .int .i64 us, .int .i64 ge, .int .i64 ep, .int .i64 ve] 41)) = w12 at *
      generalize w11.heap.size = sb at *
      have s0 : w12.cell? ⟨sb, 0, none⟩ = some (.int .i64 st) := RowAt.cell hs12 0
      have f0 := Field.bkeep hB12 f0
      have gn := Field.bkeep hB12 gn
      have go' := Field.bkeep hB12 go'
      have HB12 := Lib.hid hB12
      clear hB12 hs12 hB11 e0 HC y0 y1 y2 y3 y4 y5 y6 y7 y8
      have hcase : (st = 3 ∧ cl ≠ 2) ∨ st = 1 ∨ st = 4 ∨ st = 5 ∨ (st = 3 ∧ cl = 2) ∨ (st ≠ 3 ∧ st ≠ 1 ∧ st ≠ 4 ∧ st ≠ 5) := by omega
      rcases hcase with ⟨rfl, h2⟩ | rfl | rfl | rfl | ⟨rfl, rfl⟩ | ⟨h3, h1, h4, h5⟩
      · have hx := hkeep (.inl ⟨rfl, h2⟩)
        subst hx
        have h2b : (cl == 2) = false := by simpa using h2
        have h2c : (cl != 2) = true := by simpa using h2
        clear hkeep
        go_wp2_with fail
        go_region
        go_wp2_with fail
        go_roundw
        case rel => exact ⟨q + 1, by omega, by go_num, Lib.hid (HB12.out.trans ((Below.refl _ _).drew.mono HB12.out.size))⟩
        case measure => simp [intOf]; omega
      · have hx := hkeep (.inr (.inl rfl))
        subst hx
        clear hkeep
        go_wp2_with fail
        go_region
        go_wp2_with fail
        go_roundw
        case rel => exact ⟨q + 1, by omega, by go_num, Lib.hid (HB12.out.trans ((Below.refl _ _).drew.mono HB12.out.size))⟩
        case measure => simp [intOf]; omega
      · have hx := hkeep (.inr (.inr (.inl rfl)))
        subst hx
        clear hkeep
        go_wp2_with fail
        go_region
        go_wp2_with fail
        go_roundw
        case rel => exact ⟨q + 1, by omega, by go_num, Lib.hid (HB12.out.trans ((Below.refl _ _).drew.mono HB12.out.size))⟩
        case measure => simp [intOf]; omega
      · have hx := hkeep (.inr (.inr (.inr rfl)))
        subst hx
        clear hkeep
        go_wp2_with fail
        go_region
        go_wp2_with fail
        go_roundw
        case rel => exact ⟨q + 1, by omega, by go_num, Lib.hid (HB12.out.trans ((Below.refl _ _).drew.mono HB12.out.size))⟩
        case measure => simp [intOf]; omega
      · clear hkeep
        go_wp2_with fail
        go_region
        go_wp2_with fail
        go_roundw
        case rel => exact ⟨q + 1, by omega, by go_num, Lib.hid (HB12.out.trans ((Below.refl _ _).drew.mono HB12.out.size))⟩
        case measure => simp [intOf]; omega
      · have b3 : (st == 3) = false := by simpa using h3
        have b1 : (st == 1) = false := by simpa using h1
        have b4 : (st == 4) = false := by simpa using h4
        have b5 : (st == 5) = false := by simpa using h5
        clear hkeep
        go_wp2_with fail
        go_region
        go_wp2_with fail
        go_roundw
        case rel => exact ⟨q + 1, by omega, by go_num, Lib.hid (HB12.out.trans ((Below.refl _ _).drew.mono HB12.out.size))⟩
        case measure => simp [intOf]; omega
    · have hqe : q = Tk.ns c := by omega
      have k1 : ¬ (q : Int) < (Tk.ns c : Int) := by omega
      clear hlt hqe
      go_wp2_with fail
      go_loopw [18] (fun i wr => ∃ q : Nat, (q : Int) ≤ c.workers ∧ i = .int .i64 q ∧ RowKit.Hid (Below w10.heap.size w10 wr)) (fun i _ => c.workers.toNat - (intOf i).toNat)
      case atStart => exact ⟨0, by omega, rfl, hB⟩
      case round =>
        obtain ⟨p, hp, rfl, hBp⟩ := hrel
        have hMr := HM.out.below hBp.out
        have c0 : wr.cell? ⟨cb, 0, none⟩ = some (.int .i64 c.workers) := RowAt.cell hMr.cr 0
        by_cases hlp : (p : Int) < c.workers
        · obtain ⟨x, hx1, hx2⟩ := HK.out.2.2.2.2 p hlp
          have hj := hjp p hlp
          have p0 : (0 : Int) ≤ (p : Int) := by omega
          have pb : p ≤ 16 := by omega
          by_cases hpk : p = i
          · subst hpk
            clear hx1 hx2 hMr
            go_wp2_with fail
            go_region
            go_wp2_with fail
            go_roundw
            case rel => exact ⟨p + 1, by omega, by go_num, Lib.hid (hBp.out.trans ((Below.refl _ _).drew.mono hBp.out.size))⟩
            case measure => simp [intOf]; omega
          · have hne1 : ((p : Int) == (i : Int)) = false := by simp; omega
            have hne2 : ((p : Int) != (i : Int)) = true := by simp; omega
            have hn := fun w (h : Below w10.heap.size w10 w) => Field.bkeep h (HN.out _ _ (hx2 hpk))
            have ho := HM.out.wr.get hx1
            have ho := fun w (h : Below w10.heap.size w10 w) => Field.bkeep h ho
            have hr0 := fun w (h : Below w10.heap.size w10 w) => (HM.out.below h).cr
            have hBd := hBp.out.trans ((Below.refl _ _).drew.mono hBp.out.size)
            obtain ⟨j, hjj⟩ : ∃ j, j = 3 + p := ⟨_, rfl⟩
            rw [← hjj] at hn ho hj
            have hpn : ∀ w, Calls Tryz.prog 21 #[c.val, .int .i64 p] w fun e w' => e = .returned (.int .i64 (j : Nat)) ∧ Below w.heap.size w w' := fun w => by rw [hjj]; exact HPN.out w p hlp
            clear hjj
            have j0 : (0 : Int) ≤ (j : Int) := by omega
            have j1 : (j : Int) < (Tk.sc c (Tk.ns c) : Int) := by omega
            go_upto_region 22 with (fail)
            refine wp_region_held_drew (S := (fun w' => Below w10.heap.size w10 w' ∧ RowAt w' cb c.cells 30 ∧ w'.cell? ⟨ng, no + j, none⟩ = some (.int .i64 x) ∧ w'.cell? ⟨gb, j, none⟩ = some (.int .i64 x))) (by kernel_rfl) (by exact ⟨hBd, hr0 _ hBd, hn _ hBd, ho _ hBd⟩) (fun hHeld => ?_)
            refine tKg 0 103 hHeld ?_
            try simp only [Act.put, sA, sZ, sS]
            refine tKg 1 104 hHeld ?_
            try simp only [Act.put, sA, sZ, sS]
            refine tKg 2 105 hHeld ?_
            try simp only [Act.put, sA, sZ, sS]
            refine tKg 3 106 hHeld ?_
            try simp only [Act.put, sA, sZ, sS]
            refine tKg 4 107 hHeld ?_
            try simp only [Act.put, sA, sZ, sS]
            refine tKw (gd := (some (3, true))) 5 108 (.load 30 (.tmp 8)) (.agg c.cells) (run_load_row 30 (.tmp 8) cb 30 c.cells _ (by kernel_rfl) Tryz.underlying30 rfl (by kernel_rfl) (fun w h => h.2.1)) hHeld ?_
            try simp only [Act.put, sA, sZ, sS]
            refine tKg 6 109 hHeld ?_
            try simp only [Act.put, sA, sZ, sS]
            refine tKg 10 113 hHeld ?_
            try simp only [Act.put, sA, sZ, sS]
            refine tKw (gd := (some (3, true))) 11 114 (.load 30 (.tmp 8)) (.agg c.cells) (run_load_row 30 (.tmp 8) cb 30 c.cells _ (by kernel_rfl) Tryz.underlying30 rfl (by kernel_rfl) (fun w h => h.2.1)) hHeld ?_
            try simp only [Act.put, sA, sZ, sS]
            refine tKg 12 115 hHeld ?_
            try simp only [Act.put, sA, sZ, sS]
            refine rKc (i := 7) 21 #[.tmp 108, .tmp 109] #[30, 3] (some 110) (some (3, true)) #[c.val, .int .i64 p] (enters_of Tryz.func21 (by kernel_rfl) rfl) ?_
            refine (hpn _).mono ?_
            rintro e wc0 ⟨rfl, hbc0⟩
            have hBc0 := hBd.trans (hbc0.mono hBd.size)
            refine ⟨_, rfl, ⟨hBc0, hr0 _ hBc0, hn _ hBc0, ho _ hBc0⟩, fun hHeld => ?_⟩
            try simp only [Act.put, sA, sZ, sS]
            refine tKg 8 111 hHeld ?_
            try simp only [Act.put, sA, sZ, sS]
            refine tKg 9 112 hHeld ?_
            try simp only [Act.put, sA, sZ, sS]
            refine rKc (i := 13) 21 #[.tmp 114, .tmp 115] #[30, 3] (some 116) (some (3, true)) #[c.val, .int .i64 p] (enters_of Tryz.func21 (by kernel_rfl) rfl) ?_
            refine (hpn _).mono ?_
            rintro e wc1 ⟨rfl, hbc1⟩
            have hBc1 := hBc0.trans (hbc1.mono hBc0.size)
            refine ⟨_, rfl, ⟨hBc1, hr0 _ hBc1, hn _ hBc1, ho _ hBc1⟩, fun hHeld => ?_⟩
            try simp only [Act.put, sA, sZ, sS]
            refine tKg 14 117 hHeld ?_
            try simp only [Act.put, sA, sZ, sS]
            refine tKg 15 118 hHeld ?_
            try simp only [Act.put, sA, sZ, sS]
            refine tKg 16 119 hHeld ?_
            try simp only [Act.put, sA, sZ, sS]
            refine tKg 17 120 hHeld ?_
            try simp only [Act.put, sA, sZ, sS]
            refine wpAnyH_done (by kernel_rfl) ?_ _
            clear hHeld hx1 hx2 hMr hn ho hpn hr0
            go_wp2_with fail
            go_roundw
            case rel => exact ⟨p + 1, by omega, by go_num, Lib.hid hBc1⟩
            case measure => simp [intOf]; omega
        · have k2 : ¬ (p : Int) < c.workers := hlp
          have f1 := Field.bkeep hBp.out e0
          have f2 := Field.bkeep hBp.out f0
          have k3 : (0 : Int) < (Tk.sc c (Tk.ns c) : Int) := by omega
          have HBE := Lib.hid (HM.out.b.trans ((hBp.out.trans ((Below.refl _ _).drew.mono hBp.out.size)).mono HM.out.b.size))
          clear hMr e0 f0 hB hBp hjs hjp
          go_wp2_with fail
          go_region
          go_wp2_with fail
          go_ret
          exact ⟨Base.ret_bool (by simp), HBE.out⟩
end Go.Proofs.YteadpgiffpfmnaaGreatDoor.Mod

namespace Go.Proofs.YteadpgiffpfmnaaGreatDoor.tidyKeeps
open Go.ChangeShapes Go.WideShapes Go.ChangeAt Go.RowKit
set_option linter.unusedVariables false
set_option linter.unusedSimpArgs false

theorem own : ownKnob Tryz.prog.godebug = none := by kernel_rfl
theorem laidOut : laidOutB Tryz.prog = true := by kernel_rfl

set_option maxRecDepth 100000 in
theorem lifted (os : Os) (started : os.Started) (H : Type) (enc : TypeId × Value → H) :
    ReturnsInHanded {} Tryz.checked os 5 .any (fun w args => (Rows.tidyKeepsSpec.pre enc Tryz.prog Tryz.f5 [] false w args ∧ laidMetH Tryz.prog Mod.lst w) ∧ sizedMet enc Tryz.prog Tryz.f5 (OpenSpec.ofChange Rows.tidyKeepsSpec) false w args) (Rows.tidyKeepsSpec.post enc Tryz.prog Tryz.f5 false true false false) := by
  refine returnsInHanded_of_change_and (C := Tryz.checked) (X := fun w _ => laidMetH Tryz.prog Mod.lst w) (fun _ _ _ hh h => h.of_heap hh) own started (by kernel_rfl) Tryz.func5
    (ChangeSpec.witness_shaped (enc := enc) (C := Tryz.checked) (os := os) (X := fun w _ => laidMetH Tryz.prog Mod.lst w) false (World.doorLaid Tryz.prog 23 os) #[.agg #[.int .u8 0, .int .u8 0, .int .u8 0, .int .u8 0, .int .u8 0, .slice none 0 0, .slice none 0 0, .slice none 0 0], .slice none 0 0, .int .u8 0] 8 rfl (World.shaped_of_RefB (by kernel_rfl) (by kernel_rfl)) (by kernel_rfl) (by kernel_rfl) (by kernel_rfl) (Mod.door_met os _)) ?_
  intro W base args ds gs before hval0 hW _ _ hL _
  have hval : ∀ (j : Nat) t v, Tryz.f5.params[j]? = some t → args[j]? = some v → Value.okWide Tryz.prog W .any base t v := hval0
  have hW' := hW
  obtain ⟨p, q, hA0, hV, rfl, hfz, hnd⟩ := hW
  have hA : DataW.TrodAll enc Tryz.prog W 0 (fun _ => true) true Tryz.f5.params.toList args.toList ds p := hA0
  rw [Tryz.params5] at hA hval
  obtain ⟨v0, vs0, d0, ds0, p0, q0, hargs, rfl, rfl, h0, r0⟩ := trodAll_cons hA
  obtain ⟨v1, vs1, d1, ds1, p1, q1, rfl, rfl, rfl, h1, r1⟩ := trodAll_cons r0
  obtain ⟨v2, vs2, d2, ds2, p2, q2, rfl, rfl, rfl, h2, r2⟩ := trodAll_cons r1
  obtain ⟨rfl, rfl, rfl⟩ := trodAll_nil r2
  obtain rfl : args = #[v0, v1, v2] := by cases args; simp_all
  obtain ⟨rfl, rfl⟩ := trodVars_none hV
  have k0 := h0
  have lt0 : ∀ x ∈ p0, x.block < W.heap.size := by obtain ⟨m, hm⟩ := k0; exact DataW.trod_lt m _ _ _ hm
  obtain ⟨g0, rfl, w0⟩ := Mod.open_gv (hval 0 27 v0 rfl rfl) h0
  have k1 := h1
  have lt1 : ∀ x ∈ p1, x.block < W.heap.size := by obtain ⟨m, hm⟩ := k1; exact DataW.trod_lt m _ _ _ hm
  obtain ⟨a1, len1, cap1, rfl⟩ := okWide_slice Tryz.underlying25 (hval 1 25 v1 rfl rfl)
  obtain ⟨b1, off1, l1, w1⟩ : ∃ b off l, Base.IntsAt .u8 W a1 len1 cap1 b off l := by
    obtain ⟨fuel, hf⟩ := h1
    rcases open_ints Tryz.underlying25 Tryz.underlying5 (by kernel_rfl) hf with ⟨hcs, _⟩ | ⟨x, l, c, zs, hcs, _, hl, hm, hz, _, hcell, hwz⟩
    · simp [Value.cells] at hcs
      obtain ⟨rfl, rfl, rfl⟩ := hcs
      exact ⟨0, 0, [], Base.intsAt_nil _ _⟩
    · simp [Value.cells] at hcs
      obtain ⟨rfl, rfl, rfl⟩ := hcs
      obtain ⟨b, off, h⟩ := Base.intsAt_some hl hm (by simpa using hz) hcell hwz
      exact ⟨b, off, _, h⟩
  obtain ⟨a2, rfl, rfl, rfl, w2⟩ := open_int Tryz.underlying5 (hval 2 5 v2 rfl rfl) h2
  have hLd := Mod.of_laid hL
  clear hA0 hval0
  refine (Mod.tidyKeeps_walk W hLd g0 w0 _ _ _ _ _ _ w1 _ (Mod.u8_bd w2)).mono fun e W' ⟨he, bel⟩ => ?_
  subst he
  exact ⟨_, rfl, _, _, _, [], _, [], hW', trodAll_mk1 (shut_bool Tryz.underlying4 _), (trodAll_cons_mk (Below.trod laidOut (by kernel_rfl) (of_decide_eq_true (by kernel_rfl)) k0 bel lt0) (trodAll_cons_mk (Below.trod laidOut (by kernel_rfl) (of_decide_eq_true (by kernel_rfl)) k1 bel lt1) (trodAll_cons_mk (shut_int Tryz.underlying5 w2) trodAll_mk0))), rfl, bel.frame _, fun h => by cases h⟩

theorem over : Rows.tidyKeepsRow.holds Tryz.pinned (OpenSpec.ofChange Rows.tidyKeepsSpec) :=
  OpenClaim.holds_of_wide 5 Tryz.f5 rfl rfl rfl rfl rfl rfl rfl ⟨rfl, rfl, rfl, rfl, rfl⟩ rfl rfl rfl rfl rfl (by kernel_rfl) Tryz.func5 (by kernel_rfl)
    (of_decide_eq_true (by kernel_rfl)) (by unfold Func.isWrapper; first | (rw [if_pos (by decide +kernel)]; kernel_rfl) | (rw [if_neg (by decide +kernel)]; exact ⟨rfl, rfl⟩))
    (fun os started H enc _ => lifted os started H enc)

theorem proved : Rows.TidyKeepsCardSaid :=
  Claim7.holds_tied_plain_at .later [] [.data] true (true, "cd55222638d17cc50f25ad6c8bf105d0d96fe0f485c41963596c810bfd790a53") false
    over (fun _ h => by cases h) (by kernel_rfl) (fun _ h => by cases h) tidyKeeps_row_tie rfl ⟨rfl, rfl⟩ (by kernel_rfl) rfl
    (fun f fn hf hfn => by
      obtain rfl : f = 5 := Option.some.inj ((show Tryz.prog.funcNamed "coachhouse/coachhouselaw20.TidyKeeps" = some 5 by kernel_rfl).symm.trans hf) |>.symm
      obtain rfl : fn = Tryz.f5 := (Option.some.inj (Tryz.func5.symm.trans hfn)).symm
      exact ⟨by kernel_rfl, fun j t ht => by
        rw [Tryz.params5] at ht
        have hm : t ∈ [27, 25, 5] := by simpa using Array.mem_of_getElem? ht
        have hall : ([27, 25, 5].all fun u => !Tryz.prog.wantsStandIn u) = true := by kernel_rfl
        exact (show Tryz.prog.wantsStandIn t = false by simpa using List.all_eq_true.1 hall t hm)⟩)
    (by kernel_rfl)
#print axioms proved
end Go.Proofs.YteadpgiffpfmnaaGreatDoor.tidyKeeps

