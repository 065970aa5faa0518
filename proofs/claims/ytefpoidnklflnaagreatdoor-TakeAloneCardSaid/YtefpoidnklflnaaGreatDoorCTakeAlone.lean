/- The statement TakeAlone holds, for every input: the call answers true and leaves what it was handed as it was, where the package's table slot.fields is laid as the program's text lays it (the tied card). -/
import Derived.Test.YtefpoidnklflnaaGreatDoorP16
import Derived.Test.YtefpoidnklflnaaGreatDoorP1
import Derived.Test.YtefpoidnklflnaaGreatDoorP10
import Derived.Test.YtefpoidnklflnaaGreatDoorP15
import Derived.Test.YtefpoidnklflnaaGreatDoorP2
import Derived.Test.YtefpoidnklflnaaGreatDoorRows
import Derived.Test.YtefpoidnklflnaaGreatDoorTie
import Derived.Test.YtefpoidnklflnaaGreatDoorCards
import Derived.WalkKit
import Derived.ProofKit
import Derived.OpenShut
import Derived.ShutString
import Derived.ChangeOld
import Derived.Below
import Derived.LaidMore
import Derived.SevenTiedAt
import Derived.Deep.CutRange

namespace Go.Proofs.YtefpoidnklflnaaGreatDoor.Tk
set_option linter.unusedVariables false
set_option linter.unusedSimpArgs false
open Go.RowKit Hp Slot RowL Life
/-- The first slot of a kind from m on, or -1. -/
def FirstAt (kd ow : Int) (ss : List S) (m : Nat) (o : Int) : Prop :=
  (o = -1 ∧ ∀ (i : Nat) s, m ≤ i → ss[i]? = some s → Find.fits s kd ow = false) ∨ ∃ j : Nat, o = j ∧ m ≤ j ∧ (∃ s, ss[j]? = some s ∧ Find.fits s kd ow = true) ∧ ∀ (i : Nat) s, m ≤ i → i < j → ss[i]? = some s → Find.fits s kd ow = false
theorem FirstAt.start (kd ow : Int) (ss : List S) : FirstAt kd ow ss ss.length (-1) :=
  .inl ⟨rfl, fun i s hi hs => by have := (List.getElem?_eq_some_iff.1 hs).1; omega⟩
theorem FirstAt.hit {kd ow : Int} {ss : List S} {k : Nat} {s : S} (hs : ss[k]? = some s) (hf : Find.fits s kd ow = true) : FirstAt kd ow ss k k :=
  .inr ⟨k, rfl, Nat.le_refl _, ⟨s, hs, hf⟩, fun i _ h1 h2 => by omega⟩
theorem FirstAt.miss {kd ow : Int} {ss : List S} {k : Nat} {s : S} {o : Int} (h : FirstAt kd ow ss (k + 1) o) (hs : ss[k]? = some s) (hf : Find.fits s kd ow = false) : FirstAt kd ow ss k o := by
  have key : ∀ (i : Nat) s', k ≤ i → ss[i]? = some s' → (k + 1 ≤ i → Find.fits s' kd ow = false) → Find.fits s' kd ow = false := by
    intro i s' hi hs' hn
    by_cases e : i = k
    · subst e
      rw [hs] at hs'
      cases hs'
      exact hf
    · exact hn (by omega)
  rcases h with ⟨h1, h2⟩ | ⟨j, h1, h2, h3, h4⟩
  · exact .inl ⟨h1, fun i s' hi hs' => key i s' hi hs' fun hi => h2 i s' hi hs'⟩
  · exact .inr ⟨j, h1, by omega, h3, fun i s' hi hj hs' => key i s' hi hs' fun hi => h4 i s' hi hj hs'⟩
theorem FirstAt.step {kd ow : Int} {ss : List S} {k : Nat} {s : S} {o : Int} (h : FirstAt kd ow ss (k + 1) o) (hs : ss[k]? = some s) : FirstAt kd ow ss k (if Find.fits s kd ow = true then (k : Int) else o) := by
  split
  · rename_i hf
    exact FirstAt.hit hs hf
  · rename_i hf
    exact h.miss hs (by simpa using hf)
theorem FirstAt.none {kd ow : Int} {ss : List S} {o : Int} (h : FirstAt kd ow ss 0 o) (ho : o < 0) : NoFit kd ow ss := by
  rcases h with ⟨-, h2⟩ | ⟨j, h1, -⟩
  · exact fun i s hs => h2 i s (Nat.zero_le _) hs
  · omega
theorem FirstAt.some {kd ow : Int} {ss : List S} {o : Int} (h : FirstAt kd ow ss 0 o) (ho : 0 ≤ o) : ∃ j : Nat, o = j ∧ First kd ow ss j := by
  rcases h with ⟨h1, -⟩ | ⟨j, h1, -, ⟨s, hs, hf⟩, h4⟩
  · omega
  · exact ⟨j, h1, s, hs, hf, fun i s' hi hs' => h4 i s' (Nat.zero_le _) hi hs'⟩
/-- It got the slot v. -/
def GotAt (w : Int) (ss' : List S) (t : Tk) (v : Int) : Prop := t.answer.1 = 0 ∧ t.answer.2.1 = v ∧ ∃ (j : Nat) (s : S), v = j ∧ ss'[j]? = Option.some s ∧ s.state = 3 ∧ s.own = w ∧ s.gen = t.answer.2.2
def AlEnd (w o1 o2 o3 : Int) (good : Bool) (ss ss' : List S) (t : Tk) : Prop :=
  (0 ≤ o1 → GotAt w ss' t o1) ∧ (o1 < 0 → 0 ≤ o2 → GotAt w ss' t o2) ∧ (o1 < 0 → o2 < 0 → 0 ≤ o3 → good = false → t.answer.1 = 6) ∧
  (o1 < 0 → o2 < 0 → 0 ≤ o3 → good = true → GotAt w ss' t o3) ∧ (o1 < 0 → o2 < 0 → o3 < 0 → t.answer.1 = 3 ∧ ss' = ss)
theorem alone_all {c : Conf.Cf} {pre : List Int} {ss : List S} {w o1 o2 o3 : Int} (h : Pool c pre ss) (h0 : pre.getD 0 0 = 0) (hw : 0 ≤ w ∧ w ≤ 15) (h1 : 1 ≤ ns c) (h16 : ns c ≤ 16) (good : Bool) (f1 : FirstAt 0 w ss 0 o1) (f2 : FirstAt 1 0 ss 0 o2) (f3 : FirstAt 2 0 ss 0 o3) :
    ∃ n t' ss', alone good 200 0 (Tk.new c w) (cells pre ss) = (n, t', cells pre ss') ∧ n ≤ 4 * ns c + 10 ∧ Pool c pre ss' ∧ AlEnd w o1 o2 o3 good ss ss' t' := by
  have fin : ∀ n t' ss', Gets good c w pre ss n t' ss' → AlEnd w o1 o2 o3 good ss ss' t' → ∃ n t' ss', alone good 200 0 (Tk.new c w) (cells pre ss) = (n, t', cells pre ss') ∧ n ≤ 4 * ns c + 10 ∧ Pool c pre ss' ∧ AlEnd w o1 o2 o3 good ss ss' t' := by
    intro n t' ss' g hE
    obtain ⟨g1, g2⟩ := g.alone h16
    exact ⟨_, t', ss', Prod.ext rfl g1, g2, g.pool, hE⟩
  have got : ∀ (t' : Tk) (ss' : List S) (j : Nat) (v : Int), t'.st = 15 → t'.e = 0 → t'.i = j → v = j → (∃ s, ss'[j]? = Option.some s ∧ s.state = 3 ∧ s.own = w ∧ s.gen = t'.gen) → GotAt w ss' t' v := by
    intro t' ss' j v hd he hi hv ⟨s, hs, a1, a2, a3⟩
    have ha := answer_ok hd he
    unfold GotAt
    rw [ha]
    exact ⟨rfl, by rw [hi, hv], j, s, hv, hs, a1, a2, a3⟩
  by_cases p1 : 0 ≤ o1
  · obtain ⟨j, hj, hf⟩ := f1.some p1
    obtain ⟨n, t', ss', g, e0, ei, hx⟩ := alone_own h h0 hw h1 good hf
    refine fin n t' ss' g ⟨fun _ => got t' ss' j o1 g.done e0 ei hj hx, fun q => by omega, fun q => by omega, fun q => by omega, fun q => by omega⟩
  · have n1 := f1.none (by omega)
    by_cases p2 : 0 ≤ o2
    · obtain ⟨j, hj, hf⟩ := f2.some p2
      obtain ⟨n, t', ss', g, e0, ei, hx, -⟩ := alone_other h h0 hw h1 good n1 hf
      refine fin n t' ss' g ⟨fun q => absurd q p1, fun _ _ => got t' ss' j o2 g.done e0 ei hj hx, fun _ q => by omega, fun _ q => by omega, fun _ q => by omega⟩
    · have n2 := f2.none (by omega)
      by_cases p3 : 0 ≤ o3
      · obtain ⟨j, hj, hf⟩ := f3.some p3
        obtain ⟨n, t', ss', g, e⟩ := alone_free h h0 hw h1 good n1 n2 hf
        cases good
        · simp only [Bool.false_eq_true, if_false] at e
          exact fin n t' ss' g ⟨fun q => absurd q p1, fun _ q => absurd q p2, fun _ _ _ _ => answer_err g.done e (by decide), fun _ _ _ q => (nomatch q), fun _ _ q => by omega⟩
        · simp only [if_true] at e
          obtain ⟨e0, ei, hx⟩ := e
          exact fin n t' ss' g ⟨fun q => absurd q p1, fun _ q => absurd q p2, fun _ _ _ q => (nomatch q), fun _ _ _ _ => got t' ss' j o3 g.done e0 ei hj hx, fun _ _ q => by omega⟩
      · obtain ⟨n, t', g, e⟩ := alone_none h h0 h1 good n1 n2 (f3.none (by omega))
        exact fin n t' ss g ⟨fun q => absurd q p1, fun _ q => absurd q p2, fun _ _ q => absurd q p3, fun _ _ q => absurd q p3, fun _ _ _ => ⟨answer_err g.done e (by decide), rfl⟩⟩
end Go.Proofs.YtefpoidnklflnaaGreatDoor.Tk

namespace Go.Proofs.YtefpoidnklflnaaGreatDoor.Mod
set_option linter.unusedVariables false
set_option linter.unusedSimpArgs false
open Go.RowKit Hp Slot RowL Life Cl

set_option maxRecDepth 100000 in
set_option maxHeartbeats 4000000 in
theorem takeAlone_walk (W : World) (hL : Laid W) (g : Gv) (hgv : GvAt W g) (who : Int) (hwho : 0 ≤ who ∧ who < 256) (good : Bool) :
    Calls Tryz.prog 4 #[g.val, .int .u8 who, .bool good] W fun e W' => e = .returned (.bool true) ∧ Below W.heap.size W W' := by
  have haw := fun w hL => awake_any w hL
  have hmd := fun w h => made_any w g h
  have hcr := Cl.confOf_right g.b0 g.b1 g.b2 g.b3 g.b4
  generalize Cl.confOf g.b0 g.b1 g.b2 g.b3 g.b4 = c at *
  have hA : Below W.heap.size W (W.alloc (.cells g.cells 50)) := (Below.refl _ _).alloc (Nat.le_refl _) _
  have hg : RowAt (W.alloc (.cells g.cells 50)) W.heap.size g.cells 50 := heap_alloc_new W _
  have hG := hgv.below hA
  have hL0 := hL.stable (hA.block 0 (hL.lt (by decide)))
  have hW0 : 0 < W.heap.size := hL.lt (by decide)
  go_enter Tryz.func4, Tryz.ntmps4
  go_upto_region 1 with (fail)
  generalize (W.alloc (.cells g.cells 50)) = w0 at *
  go_wp2_with fail
  refine (haw _ hL0).mono ?_
  rintro e w1 ⟨rfl, hb1⟩
  have hB1 := hA.trans (hb1.mono hA.size)
  have hg1 := RowAt.below hg hb1
  have hG1 := hG.below hb1
  clear haw hb1 hA hg hG hL0 hgv
  go_upto_region 2 with (fail)
  refine wp_region_lit ?_
  refine grow hg1 50 (.tmp 3) Tryz.underlying50 ?_
  try simp only [Act.put, sA, sZ, sS]
  refine gcall 20 #[.tmp 29] #[50] #[g.val] (enters_of Tryz.func20 (by kernel_rfl) rfl) ?_
  refine (hmd _ hG1).mono ?_
  rintro e w2 ⟨gb, pre, ss, rfl, hw2, hp, hq, hgb, hb2⟩
  refine ⟨_, rfl, ?_⟩
  have hB2 := hB1.trans (hb2.mono hB1.size)
  dsimp only
  refine gl (.tuple #[c.val, .slice (some ⟨gb, 0, none⟩) (Tk.cells pre ss).length (Tk.cells pre ss).length]) ?_
  refine gl c.val ?_
  refine gl (.slice (some ⟨gb, 0, none⟩) (Tk.cells pre ss).length (Tk.cells pre ss).length) ?_
  refine gbox (ob := .cells zero5 25) (Z := zero5) (cs := c.cells) (t := 25) 25 (.tmp 8) (.tmp 31) rfl ?_
  refine gl (.slice (some ⟨gb, 0, none⟩) (Tk.cells pre ss).length (Tk.cells pre ss).length) ?_
  try simp only [Act.put, sA, sZ, sS]
  rw [setRow_new]
  have M : LwAt W c w2.heap.size gb (Tk.cells pre ss) (w2.alloc (.cells c.cells 25)) := ⟨hB2.alloc hB2.size _, heap_alloc_new w2 _, RowAt.below hw2 ((Below.refl _ _).alloc (Nat.le_refl _) _), ⟨by have := hB1.size; omega, RowAt.lt hw2, hW0⟩⟩
  generalize (w2.alloc (.cells c.cells 25)) = w3 at *
  generalize w2.heap.size = cb at *
  have hlen : (Tk.cells pre ss).length = Tk.sc c (Tk.ns c) := by unfold Tk.cells Tk.sc; have := hp.pl; have := hp.sl; simp; omega
  obtain ⟨⟨wk0, wk1⟩, sl0, sl1⟩ := right_small hcr
  have hn6 : 6 ≤ (Tk.cells pre ss).length := by rw [hlen]; unfold Tk.sc Tk.ns; omega
  clear hmd hG1 hg1 hw2 hB1 hB2 hb2 hgb
  obtain ⟨v0, q0⟩ : ∃ v, w3.cell? ⟨gb, 0, none⟩ = some (.int .i64 v) := ⟨_, M.wr.get (List.getElem?_eq_getElem (by omega))⟩
  have z0 : w3.frozen? ⟨gb, 0, none⟩ = false := RowAt.frozen M.wr 0
  have hn0 : (0 : Int) < (Tk.cells pre ss).length := by omega
  have M4 := M.put 0 0
  rw [Tk.set_pre hp (i := 0) (by omega)] at M4
  have hp4 := hp.setPre 0 0
  have hq4 := hq.set0 (x := 0) (by omega)
  have h04 : (pre.set 0 0).getD 0 0 = 0 := by rw [getD_set]; split; rfl; rename_i hh; exact absurd ⟨rfl, by have := hp.pl; omega⟩ hh
  have hl4 : (Tk.cells (pre.set 0 0) ss).length = (Tk.cells pre ss).length := by unfold Tk.cells; simp
  go_upto_region 4 with (fail)
  generalize (w3.setCell ⟨gb, 0, none⟩ (.int .i64 0)) = w4 at *
  rw [← hl4] at hlen hn6 ⊢
  generalize pre.set 0 0 = pre4 at *
  clear q0 z0 M hp hq hl4 hn0
  have c0 : w4.cell? ⟨cb, 0, none⟩ = some (.int .i64 c.workers) := RowAt.cell M4.cr 0
  obtain ⟨i, hi, hilt⟩ : ∃ i : Nat, who.tmod c.workers = (i : Int) ∧ (i : Int) < c.workers := ⟨(who % c.workers).toNat, by rw [Int.tmod_eq_emod_of_nonneg hwho.1]; have := Int.emod_nonneg who (show c.workers ≠ 0 by omega); omega, by have := Int.emod_nonneg who (show c.workers ≠ 0 by omega); have := Int.emod_lt_of_pos who (show 0 < c.workers by omega); omega⟩
  have hnei : ¬ c.workers = 0 := by omega
  have hnbi : (c.workers == 0) = false := by simpa using hnei
  have x0i := hwho.1
  have x1i := hwho.2
  go_upto_region 5 with (fail)
  clear c0
  have hld := laid_any w4 c hcr gb 0 (Tk.cells pre4 ss).length (Tk.cells pre4 ss) hlen M4.ints
  go_upto_region 5 with (fail)
  refine wp_region_lit ?_
  refine grow M4.cr 25 (.tmp 8) Tryz.underlying25 ?_
  refine gl (.slice (some ⟨gb, 0, none⟩) (Tk.cells pre4 ss).length (Tk.cells pre4 ss).length) ?_
  try simp only [Act.put, sA, sZ, sS]
  refine gcall 13 #[.tmp 40, .tmp 41] #[25, 26] #[c.val, .slice (some ⟨gb, 0, none⟩) (Tk.cells pre4 ss).length (Tk.cells pre4 ss).length] (enters_of Tryz.func13 (by kernel_rfl) rfl) ?_
  refine hld.mono ?_
  rintro e w5 ⟨mb, wb, rfl, hM5, hm1, hm2, hb5⟩
  refine ⟨_, rfl, ?_⟩
  have M5 := M4.below hb5
  have hmb : cb + 1 ≤ mb := Nat.le_trans M4.lt hm1
  have hwb : cb + 1 ≤ wb := Nat.le_trans M4.lt hm2
  have hL5 : Laid w5 := hL.stable (M5.b.block 0 (hL.lt (by decide)))
  clear hld hm1 hm2 hb5 M4
  dsimp only
  go_upto_region 6 with (fail)
  refine wp_region_lit ?_
  refine grow M5.cr 25 (.tmp 8) Tryz.underlying25 ?_
  refine gl (.int .i64 i) ?_
  try simp only [Act.put, sA, sZ, sS]
  refine gcall 14 #[.tmp 43, .tmp 44] #[25, 3] #[c.val, .int .i64 i] (enters_of Tryz.func14 (by kernel_rfl) rfl) ?_
  refine (tnew_any w5 c i).mono ?_
  rintro e w6 ⟨tb, rfl, hT6, ht6, hb6⟩
  refine ⟨_, rfl, ?_⟩
  have M6 := M5.below hb6
  have htb : cb + 1 ≤ tb := Nat.le_trans M5.lt ht6
  have h6 := TkAt.fresh hM5 hL5 (by have := M5.ng; omega) (by have := M5.ng; omega) hb6 ht6 hT6 rfl rfl
  have hH6 := hi_new htb
  clear hT6 ht6 hb6 hM5 hL5 M5
  dsimp only
  have hsls := ref_slots_any w6 c hcr gb 0 (Tk.sc c (Tk.ns c)) (Tk.cells pre4 ss) hlen M6.ints (cells_bd hp4 hq4)
  rw [slotsOf_cells hp4, hlen] at hsls
  go_upto_region 9 with (fail)
  refine wp_region_lit ?_
  refine grow M6.cr 25 (.tmp 8) Tryz.underlying25 ?_
  refine gl (.slice (some ⟨gb, 0, none⟩) (Tk.sc c (Tk.ns c)) (Tk.sc c (Tk.ns c))) ?_
  try simp only [Act.put, sA, sZ, sS]
  refine gcall 21 #[.tmp 52, .tmp 53] #[25, 26] #[c.val, .slice (some ⟨gb, 0, none⟩) (Tk.sc c (Tk.ns c)) (Tk.sc c (Tk.ns c))] (enters_of Tryz.func21 (by kernel_rfl) rfl) ?_
  refine hsls.mono ?_
  rintro e w7 ⟨sa, scp, rfl, hsi, hb7⟩
  refine ⟨_, rfl, ?_⟩
  have M7 := M6.below hb7
  have h7 := h6.below hb7
  have hsl : ss.length = Tk.ns c := hp4.sl
  have hN1 : 1 ≤ Tk.ns c ∧ Tk.ns c ≤ 16 := by unfold Tk.ns; omega
  have HSI := Lib.hid hsi
  have H7 := Lib.hid h7
  have M7 := Lib.hid M7
  have HSL := Lib.hid hsl
  rw [hsl]
  clear hsls hsi hb7 h6 M6 h7 hsl
  dsimp only
  go_wp2_with fail
  go_loopw [14, 15, 16, 17] (fun a b d v wr => ∃ (m : Nat) (o1 o2 o3 : Int), m ≤ Tk.ns c ∧ v = .int .i64 ((m : Int) - 1) ∧ a = .int .i64 o1 ∧ b = .int .i64 o2 ∧ d = .int .i64 o3 ∧ RowKit.Hid (Tk.FirstAt 0 i ss m o1) ∧ RowKit.Hid (Tk.FirstAt 1 0 ss m o2) ∧ RowKit.Hid (Tk.FirstAt 2 0 ss m o3) ∧ RowKit.Hid (Below w7.heap.size w7 wr)) (fun a b d v _ => (intOf v + 1).toNat)
  case atStart => exact ⟨Tk.ns c, -1, -1, -1, by omega, by go_num, rfl, rfl, rfl, Lib.hid (HSL.out ▸ Tk.FirstAt.start 0 i ss), Lib.hid (HSL.out ▸ Tk.FirstAt.start 1 0 ss), Lib.hid (HSL.out ▸ Tk.FirstAt.start 2 0 ss), Lib.hid (Below.refl _ _)⟩
  case round =>
    obtain ⟨m, o1, o2, o3, hm, rfl, rfl, rfl, rfl, F1, F2, F3, hB⟩ := hrel
    cases m with
    | zero =>
      have hE7 := hB.out.mono M7.out.lt
      have M8 := M7.out.keep hE7
      have h8 := H7.out.below hB.out
      obtain ⟨n, t', ss', hrun, hn10, hpl, hAl⟩ := Tk.alone_all hp4 h04 (w := i) (by omega) hN1.1 hN1.2 good F1.out F2.out F3.out
      have hok : Tk.TkOk (Tk.Tk.new c i) (Tk.cells pre4 ss) := new_ok hcr (by omega) hlen
      have hal := alone_any h8 hok ⟨by omega, by rw [hlen]; unfold Tk.sc Tk.ns; omega⟩ good
      rw [hrun] at hal
      have HAL := Lib.hid hAl
      have HN := Lib.hid hn10
      have HPL := Lib.hid hpl
      have M8 := Lib.hid M8
      clear hrun hAl hn10 hpl h8 hok F1 F2 F3 hB M7 H7 HSI hE7
      go_wp2_with fail
      refine hal.mono ?_
      rintro e w9 ⟨rfl, lo, ro, tc, h9, ht9, r9⟩
      have r9' : TR wr tb mb wb none none w9 lo ro := r9
      have M9 := M8.out.keep (r9'.hiBelow hH6 hmb hwb M8.out.lt)
      have h9 : TkAt w9 tb mb wb lo ro t' (Tk.cells pre4 ss') tc := h9
      have han := answer_any h9
      have H9 := Lib.hid h9
      have M9 := Lib.hid M9
      clear hal r9 r9' h9 hH6 M8
      go_wp2_with fail
      refine han.mono ?_
      rintro e w10 ⟨rfl, hb10⟩
      have M10 := M9.out.below hb10
      have h10 := H9.out.below hb10
      have hwo := words_any h10.mem
      have M10 := Lib.hid M10
      clear han hb10 M9 H9 h10
      go_wp2_with fail
      refine hwo.mono ?_
      rintro e w11 ⟨na, ncap, rfl, hown, hfp, hb11⟩
      have hl9 : (Tk.cells pre4 ss').length = (Tk.cells pre4 ss).length := by unfold Tk.cells; have := HPL.out.sl; have := HSL.out; simp; omega
      rw [hl9, hlen] at hown ⊢
      obtain ⟨ng, no, rfl, hng, hni, hnz⟩ := own_ints hown (by omega)
      have M11 := M10.out.below hb11
      clear hwo hown hfp hb11 M10 hnz
      have hpre : ∀ k, k < 3 + 2 * c.workers.toNat → ∃ x, (Tk.cells pre4 ss')[k]? = some x ∧ (Tk.cells pre4 ss)[k]? = some x := fun k hk => ⟨pre4[k]'(by rw [hp4.pl]; exact hk), by unfold Tk.cells; rw [List.getElem?_append_left (by rw [hp4.pl]; exact hk), List.getElem?_eq_getElem], by unfold Tk.cells; rw [List.getElem?_append_left (by rw [hp4.pl]; exact hk), List.getElem?_eq_getElem]⟩
      have hslz := fun w => ref_slot_any w c 0 ⟨by omega, wk1⟩ ⟨by omega, by omega⟩
      have hPz : 3 + 2 * c.workers + ((0 : Nat) : Int) = ((3 + 2 * c.workers.toNat : Nat) : Int) := by omega
      rw [hPz] at hslz
      have hPN : 3 + 2 * c.workers.toNat < Tk.sc c (Tk.ns c) := by unfold Tk.sc; omega
      have hPs : 3 + 2 * c.workers.toNat ≤ 30 := by omega
      generalize hPq : 3 + 2 * c.workers.toNat = P at *
      have HPQ := Lib.hid hPq
      have HPR := Lib.hid hpre
      have M11 := Lib.hid M11
      have HNI := Lib.hid hni
      have HLN := Lib.hid hlen
      clear hpre hni hPz hPq hlen
      go_wp2_with fail
      go_loopw [23] (fun v wr => ∃ k : Nat, k ≤ P ∧ v = .int .i64 k ∧ RowKit.Hid (Below w11.heap.size w11 wr)) (fun v _ => P - (intOf v).toNat)
      case atStart => exact ⟨0, by omega, rfl, Lib.hid (Below.refl _ _)⟩
      case round =>
        obtain ⟨k, hk, rfl, hB⟩ := hrel
        have M12 := M11.out.below hB.out
        go_upto_region 26 with (fail)
        refine wp_region_lit ?_
        refine gl (.int .i64 k) ?_
        refine grow M12.cr 25 (.tmp 8) Tryz.underlying25 ?_
        try simp only [Act.put, sA, sZ, sS]
        refine gcall 12 #[.tmp 94, .const (.int .i64 0)] #[25, 3] #[c.val, .int .i64 0] (enters_of Tryz.func12 (by kernel_rfl) rfl) ?_
        refine (hslz _).mono ?_
        rintro e w13 ⟨rfl, hb13⟩
        refine ⟨_, rfl, ?_⟩
        have hB13 := hB.out.trans (hb13.mono hB.out.size)
        clear M12 hB hb13
        dsimp only
        by_cases hlt : k < P
        · obtain ⟨x, hx1, hx2⟩ := HPR.out k hlt
          have e1 : w13.cell? ⟨ng, no + k, none⟩ = some (.int .i64 x) := Field.bkeep hB13 (HNI.out k x hx1)
          have e2 : w13.cell? ⟨gb, k, none⟩ = some (.int .i64 x) := Field.bkeep hB13 (M11.out.wr.get hx2)
          have l1 : (k : Int) < (P : Int) := by omega
          have l2 : (k : Int) < (Tk.sc c (Tk.ns c) : Int) := by omega
          have l0 : (0 : Int) ≤ (k : Int) := by omega
          have l3 : k ≤ 30 := by omega
          have l4 : (x != x) = false := by simp
          have HB13 := Lib.hid hB13
          clear hx1 hx2 hB13
          go_wp2_with fail
          go_region
          go_wp2_with fail
          go_roundw
          case rel => exact ⟨k + 1, by omega, by go_num, Lib.hid HB13.out.drew⟩
          case measure => first | (simp [intOf]; done) | (simp [intOf]; omega)
        · have l1 : ¬ (k : Int) < (P : Int) := by omega
          have M14 := M11.out.below hB13
          have hni14 := HNI.out.below hB13
          have c1 : w13.cell? ⟨cb, 1, none⟩ = some (.int .i64 c.slots) := RowAt.cell M14.cr 1
          have hw1 : IntKind.i64.wrap (4 * c.slots) = 4 * c.slots := by rw [IntKind.wrap_i64]; omega
          have hw2 : IntKind.i64.wrap (4 * c.slots + 10) = 4 * c.slots + 10 := by rw [IntKind.wrap_i64]; omega
          have hw3 : wrap64 (4 * c.slots) = 4 * c.slots := by unfold wrap64; omega
          have hw4 : wrap64 (4 * c.slots + 10) = 4 * c.slots + 10 := by unfold wrap64; omega
          have hst : ¬ (4 * c.slots + 10 < (n : Int)) := by have := HN.out; unfold Tk.ns at this; omega
          have HM := Lib.hid M14
          have HNI14 := Lib.hid hni14
          clear M14 hni14 hB13 HPR HNI M11 hslz
          go_upto_region 33 with (fail)
          obtain ⟨E1, E2, E3, E4, E5⟩ := HAL.out
          unfold Tk.GotAt at E1 E2 E4
          generalize t'.answer = A at *
          obtain ⟨a1, a2, a3⟩ := A
          dsimp only at E1 E2 E3 E4 E5
          clear HAL c1 hw1 hw2 hw3 hw4 hst
          by_cases p1 : 0 ≤ o1
          · have p1' : ¬ o1 < 0 := by omega
            have G := E1 p1
            clear E1 E2 E3 E4 E5
            obtain ⟨q1, q2, j, s, rfl, hsj, s3, s1, s6⟩ := G
            subst q1 q2
            subst s6
            have hjn : j < Tk.ns c := by rw [← HPL.out.sl]; exact (List.getElem?_eq_some_iff.1 hsj).1
            have hsr := HPL.out.get hsj
            obtain ⟨jj, hjj⟩ : ∃ jj, jj = Tk.sc c j := ⟨_, rfl⟩
            have hjl : jj < Tk.sc c (Tk.ns c) := by rw [hjj]; unfold Tk.sc; omega
            have hslot := fun w => ref_slot_any w c j ⟨by omega, wk1⟩ ⟨by unfold Tk.ns at hjn; omega, by omega⟩
            have hjc : 3 + 2 * c.workers + (j : Int) = (jj : Int) := by rw [hjj]; unfold Tk.sc; omega
            simp only [hjc] at hslot
            have hnow : (Tk.cells pre4 ss')[jj]? = some s.word := by rw [rd_here (by rw [hl9, HLN.out]; exact hjl), hjj, Tk.rd_slot HPL.out hsj]
            have hdc := fun w => ref_decode_any w s.word (by have := word_bd hsr; omega)
            rw [dec_word hsr] at hdc
            simp only [Option.getD_some, Option.isSome_some] at hdc
            have HNW := Lib.hid hnow
            have j0 : (0 : Int) ≤ (jj : Int) := by omega
            have j1 : (jj : Int) < (Tk.sc c (Tk.ns c) : Int) := by omega
            clear hjj hjc hnow hsj hjn hsr
            go_upto_region 41 with (fail)
            refine wp_region_lit ?_
            refine gl (.slice (some ⟨ng, no, none⟩) (Tk.sc c (Tk.ns c)) ncap) ?_
            refine grow HM.out.cr 25 (.tmp 8) Tryz.underlying25 ?_
            refine gl (.int .i64 j) ?_
            try simp only [Act.put, sA, sZ, sS]
            refine gcall 12 #[.tmp 146, .tmp 147] #[25, 3] #[c.val, .int .i64 j] (enters_of Tryz.func12 (by kernel_rfl) rfl) ?_
            refine (hslot _).mono ?_
            rintro e w14 ⟨rfl, hb14⟩
            refine ⟨_, rfl, ?_⟩
            have M14 := HM.out.below hb14
            have e14 : w14.cell? ⟨ng, no + jj, none⟩ = some (.int .i64 s.word) := Field.bkeep hb14 (HNI14.out jj _ HNW.out)
            clear hb14
            dsimp only
            go_wp2_with fail
            refine (hdc _).mono ?_
            rintro e w15 ⟨rfl, hb15⟩
            have hB15 := M14.b.trans (hb15.mono M14.b.size)
            clear hdc hb15 e14 M14 hslot
            dsimp only
            go_step
            refine gl (.tuple #[s.val, .bool true]) ?_
            refine gl s.val ?_
            refine gl (.bool true) ?_
            refine gbox (ob := .cells zero9 30) (Z := zero9) (cs := s.cells) (t := 30) 30 (.tmp 25) (.tmp 152) rfl ?_
            refine gl (.bool true) ?_
            try simp only [Act.put, sA, sZ, sS]
            rw [setRow_new]
            have hB16 : Below W.heap.size W (w15.alloc (.cells s.cells 30)) := hB15.alloc hB15.size _
            have hr16 : RowAt (w15.alloc (.cells s.cells 30)) w15.heap.size s.cells 30 := RowAt.new _ _ _
            generalize (w15.alloc (.cells s.cells 30)) = w16 at *
            generalize w15.heap.size = sb at *
            obtain ⟨st, ow, sm, br, ma, us, ge, ep, ve⟩ := s
            dsimp only at s3 s1
            subst s3 s1
            have z0 : w16.cell? ⟨sb, 0, none⟩ = some (.int .i64 3) := RowAt.cell hr16 0
            have z1 : w16.cell? ⟨sb, 1, none⟩ = some (.int .i64 i) := RowAt.cell hr16 1
            have z6 : w16.cell? ⟨sb, 6, none⟩ = some (.int .i64 ge) := RowAt.cell hr16 6
            have HB := Lib.hid hB16
            clear hr16 hB16 hB15
            go_wp2_with fail
            go_ret
            exact ⟨Base.ret_bool (by simp), HB.out⟩
          · have p1' : o1 < 0 := by omega
            by_cases p2 : 0 ≤ o2
            · have p2' : ¬ o2 < 0 := by omega
              have G := E2 p1' p2
              clear E1 E2 E3 E4 E5 p1
              obtain ⟨q1, q2, j, s, rfl, hsj, s3, s1, s6⟩ := G
              subst q1 q2
              subst s6
              have hjn : j < Tk.ns c := by rw [← HPL.out.sl]; exact (List.getElem?_eq_some_iff.1 hsj).1
              have hsr := HPL.out.get hsj
              obtain ⟨jj, hjj⟩ : ∃ jj, jj = Tk.sc c j := ⟨_, rfl⟩
              have hjl : jj < Tk.sc c (Tk.ns c) := by rw [hjj]; unfold Tk.sc; omega
              have hslot := fun w => ref_slot_any w c j ⟨by omega, wk1⟩ ⟨by unfold Tk.ns at hjn; omega, by omega⟩
              have hjc : 3 + 2 * c.workers + (j : Int) = (jj : Int) := by rw [hjj]; unfold Tk.sc; omega
              simp only [hjc] at hslot
              have hnow : (Tk.cells pre4 ss')[jj]? = some s.word := by rw [rd_here (by rw [hl9, HLN.out]; exact hjl), hjj, Tk.rd_slot HPL.out hsj]
              have hdc := fun w => ref_decode_any w s.word (by have := word_bd hsr; omega)
              rw [dec_word hsr] at hdc
              simp only [Option.getD_some, Option.isSome_some] at hdc
              have HNW := Lib.hid hnow
              have j0 : (0 : Int) ≤ (jj : Int) := by omega
              have j1 : (jj : Int) < (Tk.sc c (Tk.ns c) : Int) := by omega
              clear hjj hjc hnow hsj hjn hsr
              go_upto_region 41 with (fail)
              refine wp_region_lit ?_
              refine gl (.slice (some ⟨ng, no, none⟩) (Tk.sc c (Tk.ns c)) ncap) ?_
              refine grow HM.out.cr 25 (.tmp 8) Tryz.underlying25 ?_
              refine gl (.int .i64 j) ?_
              try simp only [Act.put, sA, sZ, sS]
              refine gcall 12 #[.tmp 146, .tmp 147] #[25, 3] #[c.val, .int .i64 j] (enters_of Tryz.func12 (by kernel_rfl) rfl) ?_
              refine (hslot _).mono ?_
              rintro e w14 ⟨rfl, hb14⟩
              refine ⟨_, rfl, ?_⟩
              have M14 := HM.out.below hb14
              have e14 : w14.cell? ⟨ng, no + jj, none⟩ = some (.int .i64 s.word) := Field.bkeep hb14 (HNI14.out jj _ HNW.out)
              clear hb14
              dsimp only
              go_wp2_with fail
              refine (hdc _).mono ?_
              rintro e w15 ⟨rfl, hb15⟩
              have hB15 := M14.b.trans (hb15.mono M14.b.size)
              clear hdc hb15 e14 M14 hslot
              dsimp only
              go_step
              refine gl (.tuple #[s.val, .bool true]) ?_
              refine gl s.val ?_
              refine gl (.bool true) ?_
              refine gbox (ob := .cells zero9 30) (Z := zero9) (cs := s.cells) (t := 30) 30 (.tmp 25) (.tmp 152) rfl ?_
              refine gl (.bool true) ?_
              try simp only [Act.put, sA, sZ, sS]
              rw [setRow_new]
              have hB16 : Below W.heap.size W (w15.alloc (.cells s.cells 30)) := hB15.alloc hB15.size _
              have hr16 : RowAt (w15.alloc (.cells s.cells 30)) w15.heap.size s.cells 30 := RowAt.new _ _ _
              generalize (w15.alloc (.cells s.cells 30)) = w16 at *
              generalize w15.heap.size = sb at *
              obtain ⟨st, ow, sm, br, ma, us, ge, ep, ve⟩ := s
              dsimp only at s3 s1
              subst s3 s1
              have z0 : w16.cell? ⟨sb, 0, none⟩ = some (.int .i64 3) := RowAt.cell hr16 0
              have z1 : w16.cell? ⟨sb, 1, none⟩ = some (.int .i64 i) := RowAt.cell hr16 1
              have z6 : w16.cell? ⟨sb, 6, none⟩ = some (.int .i64 ge) := RowAt.cell hr16 6
              have HB := Lib.hid hB16
              clear hr16 hB16 hB15
              go_wp2_with fail
              go_ret
              exact ⟨Base.ret_bool (by simp), HB.out⟩
            · have p2' : o2 < 0 := by omega
              by_cases p3 : 0 ≤ o3
              · have p3' : ¬ o3 < 0 := by omega
                cases good
                · have q := E3 p1' p2' p3 rfl
                  subst q
                  clear E1 E2 E3 E4 E5 p1 p2
                  go_wp2_with fail
                  go_ret
                  exact ⟨rfl, HM.out.b⟩
                · have G := E4 p1' p2' p3 rfl
                  clear E1 E2 E3 E4 E5 p1 p2
                  obtain ⟨q1, q2, j, s, rfl, hsj, s3, s1, s6⟩ := G
                  subst q1 q2
                  subst s6
                  have hjn : j < Tk.ns c := by rw [← HPL.out.sl]; exact (List.getElem?_eq_some_iff.1 hsj).1
                  have hsr := HPL.out.get hsj
                  obtain ⟨jj, hjj⟩ : ∃ jj, jj = Tk.sc c j := ⟨_, rfl⟩
                  have hjl : jj < Tk.sc c (Tk.ns c) := by rw [hjj]; unfold Tk.sc; omega
                  have hslot := fun w => ref_slot_any w c j ⟨by omega, wk1⟩ ⟨by unfold Tk.ns at hjn; omega, by omega⟩
                  have hjc : 3 + 2 * c.workers + (j : Int) = (jj : Int) := by rw [hjj]; unfold Tk.sc; omega
                  simp only [hjc] at hslot
                  have hnow : (Tk.cells pre4 ss')[jj]? = some s.word := by rw [rd_here (by rw [hl9, HLN.out]; exact hjl), hjj, Tk.rd_slot HPL.out hsj]
                  have hdc := fun w => ref_decode_any w s.word (by have := word_bd hsr; omega)
                  rw [dec_word hsr] at hdc
                  simp only [Option.getD_some, Option.isSome_some] at hdc
                  have HNW := Lib.hid hnow
                  have j0 : (0 : Int) ≤ (jj : Int) := by omega
                  have j1 : (jj : Int) < (Tk.sc c (Tk.ns c) : Int) := by omega
                  clear hjj hjc hnow hsj hjn hsr
                  go_upto_region 41 with (fail)
                  refine wp_region_lit ?_
                  refine gl (.slice (some ⟨ng, no, none⟩) (Tk.sc c (Tk.ns c)) ncap) ?_
                  refine grow HM.out.cr 25 (.tmp 8) Tryz.underlying25 ?_
                  refine gl (.int .i64 j) ?_
                  try simp only [Act.put, sA, sZ, sS]
                  refine gcall 12 #[.tmp 146, .tmp 147] #[25, 3] #[c.val, .int .i64 j] (enters_of Tryz.func12 (by kernel_rfl) rfl) ?_
                  refine (hslot _).mono ?_
                  rintro e w14 ⟨rfl, hb14⟩
                  refine ⟨_, rfl, ?_⟩
                  have M14 := HM.out.below hb14
                  have e14 : w14.cell? ⟨ng, no + jj, none⟩ = some (.int .i64 s.word) := Field.bkeep hb14 (HNI14.out jj _ HNW.out)
                  clear hb14
                  dsimp only
                  go_wp2_with fail
                  refine (hdc _).mono ?_
                  rintro e w15 ⟨rfl, hb15⟩
                  have hB15 := M14.b.trans (hb15.mono M14.b.size)
                  clear hdc hb15 e14 M14 hslot
                  dsimp only
                  go_step
                  refine gl (.tuple #[s.val, .bool true]) ?_
                  refine gl s.val ?_
                  refine gl (.bool true) ?_
                  refine gbox (ob := .cells zero9 30) (Z := zero9) (cs := s.cells) (t := 30) 30 (.tmp 25) (.tmp 152) rfl ?_
                  refine gl (.bool true) ?_
                  try simp only [Act.put, sA, sZ, sS]
                  rw [setRow_new]
                  have hB16 : Below W.heap.size W (w15.alloc (.cells s.cells 30)) := hB15.alloc hB15.size _
                  have hr16 : RowAt (w15.alloc (.cells s.cells 30)) w15.heap.size s.cells 30 := RowAt.new _ _ _
                  generalize (w15.alloc (.cells s.cells 30)) = w16 at *
                  generalize w15.heap.size = sb at *
                  obtain ⟨st, ow, sm, br, ma, us, ge, ep, ve⟩ := s
                  dsimp only at s3 s1
                  subst s3 s1
                  have z0 : w16.cell? ⟨sb, 0, none⟩ = some (.int .i64 3) := RowAt.cell hr16 0
                  have z1 : w16.cell? ⟨sb, 1, none⟩ = some (.int .i64 i) := RowAt.cell hr16 1
                  have z6 : w16.cell? ⟨sb, 6, none⟩ = some (.int .i64 ge) := RowAt.cell hr16 6
                  have HB := Lib.hid hB16
                  clear hr16 hB16 hB15
                  go_wp2_with fail
                  go_ret
                  exact ⟨Base.ret_bool (by simp), HB.out⟩
              · have p3' : o3 < 0 := by omega
                obtain ⟨q1, q2⟩ := E5 p1' p2' p3'
                subst q1 q2
                clear E1 E2 E3 E4 E5 p1 p2
                have hin := Ref01.ints_any _ _ _ _ _ (HNI14.out.at (c := ncap) (by rw [HLN.out]; unfold maxLen Tk.sc; omega)) (HM.out.ints.at (c := Tk.sc c (Tk.ns c)) (by rw [HLN.out]; unfold maxLen Tk.sc; omega))
                rw [HLN.out, decide_eq_true rfl] at hin
                go_wp2_with fail
                refine hin.mono ?_
                rintro e w15 ⟨rfl, nq, rfl⟩
                have hB15 := bdrewN HM.out.b nq
                generalize w13.drewN nq = w15 at *
                clear hin
                go_wp2_with fail
                go_ret
                exact ⟨rfl, hB15⟩
    | succ k =>
      have ek : (((k + 1 : Nat)) : Int) - 1 = (k : Int) := by omega
      simp only [ek]
      clear ek H7
      obtain ⟨s, hs⟩ : ∃ s, ss[k]? = some s := ⟨_, List.getElem?_eq_getElem (by rw [HSL.out]; omega)⟩
      obtain ⟨sg, so, rfl, hcs⟩ := HSI.out k s hs
      have rf1 := fun w => Find.ref_fits w s 0 i (by omega)
      have rf2 := fun w => Find.ref_fits w s 1 0 (by omega)
      have rf3 := fun w => Find.ref_fits w s 2 0 (by omega)
      have N1 := F1.out.step hs
      have N2 := F2.out.step hs
      have N3 := F3.out.step hs
      generalize Find.fits s 0 i = b1 at *
      generalize Find.fits s 1 0 = b2 at *
      generalize Find.fits s 2 0 = b3 at *
      have N1 := Lib.hid N1
      have N2 := Lib.hid N2
      have N3 := Lib.hid N3
      clear F1 F2 F3 hs
      obtain ⟨st, ow, sm, br, ma, us, ge, ep, ve⟩ := s
      have x0 := Field.bkeep hB.out (hcs 0 _ rfl)
      have x1 := Field.bkeep hB.out (hcs 1 _ rfl)
      have x2 := Field.bkeep hB.out (hcs 2 _ rfl)
      have x3 := Field.bkeep hB.out (hcs 3 _ rfl)
      have x4 := Field.bkeep hB.out (hcs 4 _ rfl)
      have x5 := Field.bkeep hB.out (hcs 5 _ rfl)
      have x6 := Field.bkeep hB.out (hcs 6 _ rfl)
      have x7 := Field.bkeep hB.out (hcs 7 _ rfl)
      have x8 := Field.bkeep hB.out (hcs 8 _ rfl)
      simp only [S.val, S.cells, Nat.add_zero] at rf1 rf2 rf3 x0 x1 x2 x3 x4 x5 x6 x7 x8
      have k0 : (0 : Int) ≤ (k : Int) := by omega
      have k1 : (k : Int) < (Tk.ns c : Int) := by omega
      have k9 : ¬ ((k : Int) < 0) := by omega
      have kn : k ≤ 16 := by omega
      clear hcs M7 hp4 hq4 h04 hH6
      go_wp2_with fail
      refine (rf1 _).mono ?_
      rintro e w8 ⟨rfl, hb8⟩
      replace x0 := Field.bkeep hb8 x0
      replace x1 := Field.bkeep hb8 x1
      replace x2 := Field.bkeep hb8 x2
      replace x3 := Field.bkeep hb8 x3
      replace x4 := Field.bkeep hb8 x4
      replace x5 := Field.bkeep hb8 x5
      replace x6 := Field.bkeep hb8 x6
      replace x7 := Field.bkeep hb8 x7
      replace x8 := Field.bkeep hb8 x8
      have hB8 := hB.out.trans (hb8.mono hB.out.size)
      clear rf1 hb8 hB
      cases b1
      all_goals
        go_wp2_with fail
        refine (rf2 _).mono ?_
        rintro e w9 ⟨rfl, hb9⟩
        replace x0 := Field.bkeep hb9 x0
        replace x1 := Field.bkeep hb9 x1
        replace x2 := Field.bkeep hb9 x2
        replace x3 := Field.bkeep hb9 x3
        replace x4 := Field.bkeep hb9 x4
        replace x5 := Field.bkeep hb9 x5
        replace x6 := Field.bkeep hb9 x6
        replace x7 := Field.bkeep hb9 x7
        replace x8 := Field.bkeep hb9 x8
        have hB9 := hB8.trans (hb9.mono hB8.size)
        clear hb9 hB8
        cases b2
        all_goals
          go_wp2_with fail
          refine (rf3 _).mono ?_
          rintro e w10 ⟨rfl, hb10⟩
          have HB10 := Lib.hid (hB9.trans (hb10.mono hB9.size))
          clear hb10 hB9 x0 x1 x2 x3 x4 x5 x6 x7 x8
          cases b3
          all_goals
            go_wp2_with fail
            go_roundw
            case rel => exact ⟨k, _, _, _, by omega, by go_num, rfl, rfl, rfl, N1, N2, N3, HB10⟩
            case measure => first | (simp [intOf]; done) | (simp [intOf]; omega)
end Go.Proofs.YtefpoidnklflnaaGreatDoor.Mod

namespace Go.Proofs.YtefpoidnklflnaaGreatDoor.takeAlone
open Go.ChangeShapes Go.WideShapes Go.ChangeAt Go.RowKit
set_option linter.unusedVariables false
set_option linter.unusedSimpArgs false

theorem own : ownKnob Tryz.prog.godebug = none := by kernel_rfl
theorem laidOut : laidOutB Tryz.prog = true := by kernel_rfl

set_option maxRecDepth 100000 in
theorem lifted (os : Os) (started : os.Started) (H : Type) (enc : TypeId × Value → H) :
    ReturnsInHanded {} Tryz.checked os 4 .any (fun w args => (Rows.takeAloneSpec.pre enc Tryz.prog Tryz.f4 [] false w args ∧ laidMetH Tryz.prog Mod.lst w) ∧ sizedMet enc Tryz.prog Tryz.f4 (OpenSpec.ofChange Rows.takeAloneSpec) false w args) (Rows.takeAloneSpec.post enc Tryz.prog Tryz.f4 false true false false) := by
  refine returnsInHanded_of_change_and (C := Tryz.checked) (X := fun w _ => laidMetH Tryz.prog Mod.lst w) (fun _ _ _ hh h => h.of_heap hh) own started (by kernel_rfl) Tryz.func4
    (ChangeSpec.witness_shaped (enc := enc) (C := Tryz.checked) (os := os) (X := fun w _ => laidMetH Tryz.prog Mod.lst w) false (World.doorLaid Tryz.prog 23 os) #[.agg #[.int .u8 0, .int .u8 0, .int .u8 0, .int .u8 0, .int .u8 0, .slice none 0 0, .slice none 0 0, .slice none 0 0], .int .u8 0, .bool false] 8 rfl (World.shaped_of_RefB (by kernel_rfl) (by kernel_rfl)) (by kernel_rfl) (by kernel_rfl) (by kernel_rfl) (Mod.door_met os _)) ?_
  intro W base args ds gs before hval0 hW _ _ hL _
  have hval : ∀ (j : Nat) t v, Tryz.f4.params[j]? = some t → args[j]? = some v → Value.okWide Tryz.prog W .any base t v := hval0
  have hW' := hW
  obtain ⟨p, q, hA0, hV, rfl, hfz, hnd⟩ := hW
  have hA : DataW.TrodAll enc Tryz.prog W 0 (fun _ => true) true Tryz.f4.params.toList args.toList ds p := hA0
  rw [Tryz.params4] at hA hval
  obtain ⟨v0, vs0, d0, ds0, p0, q0, hargs, rfl, rfl, h0, r0⟩ := trodAll_cons hA
  obtain ⟨v1, vs1, d1, ds1, p1, q1, rfl, rfl, rfl, h1, r1⟩ := trodAll_cons r0
  obtain ⟨v2, vs2, d2, ds2, p2, q2, rfl, rfl, rfl, h2, r2⟩ := trodAll_cons r1
  obtain ⟨rfl, rfl, rfl⟩ := trodAll_nil r2
  obtain rfl : args = #[v0, v1, v2] := by cases args; simp_all
  obtain ⟨rfl, rfl⟩ := trodVars_none hV
  have k0 := h0
  have lt0 : ∀ x ∈ p0, x.block < W.heap.size := by obtain ⟨m, hm⟩ := k0; exact DataW.trod_lt m _ _ _ hm
  obtain ⟨g0, rfl, w0⟩ := Mod.open_gv (hval 0 50 v0 rfl rfl) h0
  obtain ⟨a1, rfl, rfl, rfl, w1⟩ := open_int Tryz.underlying5 (hval 1 5 v1 rfl rfl) h1
  obtain ⟨a2, rfl, rfl, rfl⟩ := open_bool Tryz.underlying4 (hval 2 4 v2 rfl rfl) h2
  have hLd := Mod.of_laid hL
  clear hA0 hval0
  refine (Mod.takeAlone_walk W hLd g0 w0 _ (Mod.u8_bd w1) a2).mono fun e W' ⟨he, bel⟩ => ?_
  subst he
  exact ⟨_, rfl, _, _, _, [], _, [], hW', trodAll_mk1 (shut_bool Tryz.underlying4 _), (trodAll_cons_mk (Below.trod laidOut (by kernel_rfl) (of_decide_eq_true (by kernel_rfl)) k0 bel lt0) (trodAll_cons_mk (shut_int Tryz.underlying5 w1) (trodAll_cons_mk (shut_bool Tryz.underlying4 _) trodAll_mk0))), rfl, bel.frame _, fun h => by cases h⟩

theorem over : Rows.takeAloneRow.holds Tryz.pinned (OpenSpec.ofChange Rows.takeAloneSpec) :=
  OpenClaim.holds_of_wide 4 Tryz.f4 rfl rfl rfl rfl rfl rfl rfl ⟨rfl, rfl, rfl, rfl, rfl⟩ rfl rfl rfl rfl rfl (by kernel_rfl) Tryz.func4 (by kernel_rfl)
    (of_decide_eq_true (by kernel_rfl)) (by unfold Func.isWrapper; first | (rw [if_pos (by decide +kernel)]; kernel_rfl) | (rw [if_neg (by decide +kernel)]; exact ⟨rfl, rfl⟩))
    (fun os started H enc _ => lifted os started H enc)

theorem proved : Rows.TakeAloneCardSaid :=
  Claim7.holds_tied_plain_at .later [] [.data] true (true, "9b8bff58fe40348fefb797c643549a366003180c2937cd5f0cb8670f9547f7cb") false
    over (fun _ h => by cases h) (by kernel_rfl) (fun _ h => by cases h) takeAlone_row_tie rfl ⟨rfl, rfl⟩ (by kernel_rfl) rfl
    (fun f fn hf hfn => by
      obtain rfl : f = 4 := Option.some.inj ((show Tryz.prog.funcNamed "coachhouse/coachhouselaw17.TakeAlone" = some 4 by kernel_rfl).symm.trans hf) |>.symm
      obtain rfl : fn = Tryz.f4 := (Option.some.inj (Tryz.func4.symm.trans hfn)).symm
      exact ⟨by kernel_rfl, fun j t ht => by
        rw [Tryz.params4] at ht
        have hm : t ∈ [50, 5, 4] := by simpa using Array.mem_of_getElem? ht
        have hall : ([50, 5, 4].all fun u => !Tryz.prog.wantsStandIn u) = true := by kernel_rfl
        exact (show Tryz.prog.wantsStandIn t = false by simpa using List.all_eq_true.1 hall t hm)⟩)
    (by kernel_rfl)
#print axioms proved
end Go.Proofs.YtefpoidnklflnaaGreatDoor.takeAlone

