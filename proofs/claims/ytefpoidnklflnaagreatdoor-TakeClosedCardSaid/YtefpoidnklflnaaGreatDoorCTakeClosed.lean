/- The statement TakeClosed holds, for every input: the call answers true and leaves what it was handed as it was, where the package's table slot.fields is laid as the program's text lays it (the tied card). -/
import Derived.Test.YtefpoidnklflnaaGreatDoorP16
import Derived.Test.YtefpoidnklflnaaGreatDoorP10
import Derived.Test.YtefpoidnklflnaaGreatDoorP11
import Derived.Test.YtefpoidnklflnaaGreatDoorP15
import Derived.Test.YtefpoidnklflnaaGreatDoorP2
import Derived.Test.YtefpoidnklflnaaGreatDoorRows
import Derived.Test.YtefpoidnklflnaaGreatDoorTie
import Derived.Test.YtefpoidnklflnaaGreatDoorCards
import Derived.WalkKit
import Derived.ProofKit
import Derived.OpenShut
import Derived.ShutString
import Derived.ChangeOld
import Derived.Below
import Derived.LaidMore
import Derived.SevenTiedAt
import Derived.Deep.CutRange

namespace Go.Proofs.YtefpoidnklflnaaGreatDoor.Tk
set_option linter.unusedVariables false
set_option linter.unusedSimpArgs false
open Go.RowKit Hp Slot RowL Life
/-- What a take may end with. -/
def EOk (e : Int) : Prop := e = 0 ∨ e = 3 ∨ e = 5 ∨ e = 6
theorem swap_e (t : Tk) (i : Nat) (word : Int) (d : Nat) (ws : List Int) : (t.swap i word d ws).2.1.e = t.e := by
  unfold Tk.swap
  split
  · split <;> rfl
  · rfl
theorem seize_e (t : Tk) (d : Nat) (ws : List Int) : (t.seize d ws).2.1.e = t.e := by
  have h := swap_e t t.fd.at' t.fd.word d ws
  unfold Tk.seize
  dsimp only
  split <;> exact h
theorem step_e (t : Tk) (ws : List Int) (good : Bool) (h : EOk t.e) : EOk (t.step ws good).1.e := by
  have f5 : EOk 5 := .inr (.inr (.inl rfl))
  have f3 : EOk 3 := .inr (.inl rfl)
  have f6 : EOk 6 := .inr (.inr (.inr rfl))
  have f0 : EOk 0 := .inl rfl
  have z := fun (k d : Nat) => (seize_e { t with st := k } d ws).symm ▸ h
  have s9 := fun i word d => (swap_e t i word d ws).symm ▸ h
  unfold Tk.step
  split
  · split
    · exact f5
    · exact h
  · dsimp only; split; exact h; split <;> exact h
  · dsimp only; split <;> exact z 1 3
  · dsimp only; split; exact h; split <;> exact h
  · dsimp only
    split
    · split
      · split <;> exact z 3 3
      · exact z 3 3
    · exact z 3 3
  · dsimp only; split; exact h; split; exact h; split <;> exact h
  · split <;> exact h
  · dsimp only; split; exact h; split; exact f3; exact h
  · dsimp only; split <;> exact z 7 0
  · dsimp only; generalize (if good = true then 1 else 2) = d; split; exact s9 _ _ d; exact f6
  · split
    · exact f0
    · exact h
  · dsimp only
    split
    · split
      · exact h
      · exact f5
    · exact f5
  · dsimp only
    split
    · split
      · exact f5
      · exact h
    · exact h
  · exact h
  · split
    · exact f5
    · dsimp only
      split
      · split <;> exact s9 _ _ _
      · exact s9 _ _ _
  · exact h
/-- All words are numbers of 64 bits. -/
def Bd (ws : List Int) : Prop := ∀ x ∈ ws, x < 9223372036854775808
theorem Bd.set {ws : List Int} (h : Bd ws) (i : Nat) {x : Int} (hx : x < 9223372036854775808) : Bd (ws.set i x) := by
  intro y hy
  rcases List.mem_or_eq_of_mem_set hy with q | q
  · exact h y q
  · omega
theorem done_ok {d : Nat} (h : d = 0 ∨ d = 1 ∨ d = 2 ∨ d = 3 ∨ d = 9 ∨ d = 11 ∨ d = 16 ∨ d = 17) : DoneX d := by
  rcases h with rfl | rfl | rfl | rfl | rfl | rfl | rfl | rfl
  · exact done0
  · exact done1
  · exact done2
  · exact done3
  · exact done9
  · exact done11
  · exact done16
  · exact done17
theorem nextW_bd {w : Int} {d : Nat} {own more nw : Int} (hd : DoneX d) (h : nextW w d own more = some nw) : nw < 9223372036854775808 := by
  unfold nextW at h
  cases hw : dec w with
  | none => rw [hw] at h; cases h
  | some s =>
    rw [hw] at h
    simp only [Option.bind_some] at h
    cases hn : nextX s d own more with
    | none => rw [hn] at h; cases h
    | some u =>
      rw [hn] at h
      cases h
      have := word_bd (next_right hd hn)
      omega
theorem wrap_bd (x : Int) : wrap64 x < 9223372036854775808 := by unfold wrap64; omega
theorem swap_bd {t : Tk} {i : Nat} {word : Int} {d : Nat} {ws : List Int} (hd : DoneX d) (h : Bd ws) : Bd (t.swap i word d ws).2.2.1 := by
  unfold Tk.swap
  split
  · rename_i s hs
    split
    · refine h.set _ ?_
      cases hw : dec word with
      | none => rw [hw] at hs; cases hs
      | some s0 =>
        rw [hw] at hs
        have := word_bd (next_right hd (show nextX s0 d t.w 0 = some s from hs))
        omega
    · exact h
  · exact h
theorem seize_bd {t : Tk} {d : Nat} {ws : List Int} (hd : DoneX d) (h : Bd ws) : Bd (t.seize d ws).2.2.1 := by
  have h2 := swap_bd (t := t) (i := t.fd.at') (word := t.fd.word) hd h
  unfold Tk.seize
  dsimp only
  split <;> exact h2
theorem cas_bd {ws : List Int} (h : Bd ws) (i : Nat) (old : Int) {x : Int} (hx : x < 9223372036854775808) : Bd (cas ws i old x).2 := by
  unfold cas
  split
  · exact h.set i hx
  · exact h
theorem rt_bd {r : Rt} {ws : List Int} (h : Bd ws) : Bd (r.step ws).2.2.1 := by
  unfold Rt.step
  split
  · split
    · rename_i nw hn
      split
      · exact h.set _ (nextW_bd done11 hn)
      · exact h
    · exact h
  · exact h
  · split
    · rename_i nw hn
      exact cas_bd h _ _ (nextW_bd done17 hn)
    · exact h
  · exact h.set _ (wrap_bd _)
  · exact h
theorem step_bd {t : Tk} {ws : List Int} (good : Bool) (h : Bd ws) : Bd (t.step ws good).2.1 := by
  have z := fun (k : Nat) (d : Nat) (hd : DoneX d) => seize_bd (t := { t with st := k }) hd h
  have s9 := fun i word d (hd : DoneX d) => swap_bd (t := t) (i := i) (word := word) hd h
  unfold Tk.step
  split
  · split <;> exact h
  · dsimp only; split; exact h; split <;> exact h
  · dsimp only; split <;> exact z 1 3 done3
  · dsimp only; split; exact h; split <;> exact h
  · dsimp only
    split
    · split
      · split <;> exact z 3 3 done3
      · exact z 3 3 done3
    · exact z 3 3 done3
  · dsimp only; split; exact h; split; exact h; split <;> exact h
  · split
    · rename_i nw hn
      exact cas_bd h _ _ (nextW_bd done9 hn)
    · exact h
  · dsimp only; split; exact h; split <;> exact h
  · dsimp only; split <;> exact z 7 0 done0
  · dsimp only
    have hd : DoneX (if good = true then 1 else 2) := by split; exact done1; exact done2
    generalize (if good = true then 1 else 2) = d at *
    split <;> exact s9 _ _ d hd
  · split <;> exact h
  · dsimp only
    split
    · split <;> exact h
    · exact h
  · have r12 := rt_bd (r := t.ret) h
    dsimp only
    split
    · split <;> exact r12
    · exact r12
  · exact h
  · split
    · exact h
    · dsimp only
      split
      · split <;> exact s9 _ _ _ done16
      · exact s9 _ _ _ done16
  · exact h
theorem alone_bd (good : Bool) : ∀ (f n : Nat) {t : Tk} {ws : List Int}, Bd ws → Bd (alone good f n t ws).2.2
  | 0, n, t, ws, h => h
  | f + 1, n, t, ws, h => by
    have h1 := step_bd (t := t) good h
    unfold alone
    split
    · exact h1
    · exact alone_bd good f (n + 1) h1
theorem closed_end {c : Conf.Cf} {pre : List Int} {ss old : List S} {t : Tk} {w : Int} (hJ : J c w old t ss) (h : Pool c pre ss) (he : 0 ≤ pre.getD 2 0 ∧ pre.getD 2 0 ≤ 4095) (hw : 0 ≤ w ∧ w ≤ 15) (h1 : 1 ≤ ns c) (h16 : ns c ≤ 16) (h0 : pre.getD 0 0 ≠ 0) (hE : EOk t.e) :
    (t.st = 15 → t.answer.1 ≠ 8 ∧ (alone true 200 0 t (cells pre ss)).2.1.answer.1 = t.answer.1) ∧
    (t.st ≠ 15 → t.answer.1 = 8 ∧ ∃ pre2 ss2, (alone true 200 0 t (cells pre ss)).2.2 = cells pre2 ss2 ∧ Pool c pre2 ss2 ∧ Nm old ss2 none ∧ ((alone true 200 0 t (cells pre ss)).2.1.answer.1 = 5 ∨ (alone true 200 0 t (cells pre ss)).2.1.answer.1 = 3)) := by
  refine ⟨fun hd => ?_, fun hd => ?_⟩
  · have hs := step_done true (t := t) (ws := cells pre ss) hd
    have ha : alone true 200 0 t (cells pre ss) = (0 + 1, t, cells pre ss) := by
      rw [alone, hs, if_pos hd]
    rw [ha]
    refine ⟨?_, rfl⟩
    unfold Tk.answer
    rw [if_neg (by omega)]
    unfold EOk at hE
    split
    · show t.e ≠ 8; omega
    · show (0 : Int) ≠ 8; omega
  · obtain ⟨n, t', pre', ss', r, n1, nB, hst, hee, hp, hn⟩ := J.fin hJ h h0 he hw h1 hd
    obtain ⟨m, rfl⟩ : ∃ m, n = m + 1 := ⟨n - 1, by omega⟩
    obtain ⟨g1, -⟩ := alone_of true m 200 0 r hst (by omega)
    refine ⟨by unfold Tk.answer; rw [if_pos hd], pre', ss', by rw [g1], hp, hn, ?_⟩
    rw [g1]
    rcases hee with q | q
    · exact .inl (answer_err hst q (by decide))
    · exact .inr (answer_err hst q (by decide))
end Go.Proofs.YtefpoidnklflnaaGreatDoor.Tk

namespace Go.Proofs.YtefpoidnklflnaaGreatDoor.Mod
set_option linter.unusedVariables false
set_option linter.unusedSimpArgs false
open Go.RowKit Hp Slot RowL Life Cl

theorem set_same {l : List Int} {i : Nat} {x : Int} (h : l[i]? = some x) : l.set i x = l := by
  apply List.ext_getElem?
  intro j
  rw [List.getElem?_set]
  split
  · rename_i e; subst e; rw [h]; simp [(List.getElem?_eq_some_iff.1 h).1]
  · rfl
/-- A slot lies here. -/
def SlotHere (w : World) (g off : Nat) (s : S) : Prop := ∀ (j : Nat) (v : Value), s.cells[j]? = some v → w.cell? ⟨g, off + j, none⟩ = some v
theorem SlotHere.below {w w' : World} {g off : Nat} {s : S} (h : SlotHere w g off s) (hb : Below w.heap.size w w') : SlotHere w' g off s := fun j v hv => Field.bkeep hb (h j v hv)
abbrev sv (s : S) : Value := .agg #[.int .i64 s.state, .int .i64 s.own, .int .i64 s.streams, .bool s.broken, .bool s.marked, .int .i64 s.uses, .int .i64 s.gen, .int .i64 s.epoch, .int .i64 s.version]
theorem run_slot {Sx : World → Prop} {a : Act} (x : Operand) (g off : Nat) (y : S) (hx : a.eval x = .pointer (some ⟨g, off, none⟩)) (hg : ∀ w, Sx w → SlotHere w g off y) : ∀ o : Oper, o.op = Op.load 30 x → ∀ w, Sx w → (execOp a.eval o).run Tryz.prog w = .ok (.value (sv y)) w := by
  intro o ho w hw
  have h := hg w hw
  have x0 := h 0 _ rfl
  have x1 := h 1 _ rfl
  have x2 := h 2 _ rfl
  have x3 := h 3 _ rfl
  have x4 := h 4 _ rfl
  have x5 := h 5 _ rfl
  have x6 := h 6 _ rfl
  have x7 := h 7 _ rfl
  have x8 := h 8 _ rfl
  simp only [Nat.add_zero, S.cells] at x0 x1 x2 x3 x4 x5 x6 x7 x8
  clear h hg hw
  unfold execOp
  simp only [ho, hx]
  go_simp
  try exact ⟨rfl, rfl, rfl, rfl, rfl, rfl, rfl, rfl, rfl⟩
  try rfl
theorem run_state {Sx : World → Prop} {a : Act} (x : Operand) (g off : Nat) (y : S) (hx : a.eval x = .pointer (some ⟨g, off, none⟩)) (hg : ∀ w, Sx w → SlotHere w g off y) : ∀ o : Oper, o.op = Op.load 3 x → ∀ w, Sx w → (execOp a.eval o).run Tryz.prog w = .ok (.value (.int .i64 y.state)) w := by
  intro o ho w hw
  have x0 := hg w hw 0 _ rfl
  simp only [Nat.add_zero, S.cells] at x0
  clear hg hw
  unfold execOp
  simp only [ho, hx]
  go_simp
  try exact ⟨rfl, rfl, rfl, rfl, rfl, rfl, rfl, rfl, rfl⟩
  try rfl
set_option maxRecDepth 100000 in
set_option maxHeartbeats 16000000 in
theorem takeClosed_walk (W : World) (hL : Laid W) (g : Gv) (hgv : GvAt W g) (who : Int) (hwho : 0 ≤ who ∧ who < 256) (when' : Int) (hwn : 0 ≤ when' ∧ when' < 256) (force : Bool) :
    Calls Tryz.prog 6 #[g.val, .int .u8 who, .int .u8 when', .bool force] W fun e W' => e = .returned (.bool true) ∧ Below W.heap.size W W' := by
  have haw := fun w hL => awake_any w hL
  have hmd := fun w h => made_any w g h
  have hcr := Cl.confOf_right g.b0 g.b1 g.b2 g.b3 g.b4
  generalize Cl.confOf g.b0 g.b1 g.b2 g.b3 g.b4 = c at *
  have hA : Below W.heap.size W (W.alloc (.cells g.cells 50)) := (Below.refl _ _).alloc (Nat.le_refl _) _
  have hg : RowAt (W.alloc (.cells g.cells 50)) W.heap.size g.cells 50 := heap_alloc_new W _
  have hG := hgv.below hA
  have hL0 := hL.stable (hA.block 0 (hL.lt (by decide)))
  have hW0 : 0 < W.heap.size := hL.lt (by decide)
  go_enter Tryz.func6, Tryz.ntmps6
  go_upto_region 1 with (fail)
  generalize (W.alloc (.cells g.cells 50)) = w0 at *
  go_wp2_with fail
  refine (haw _ hL0).mono ?_
  rintro e w1 ⟨rfl, hb1⟩
  have hB1 := hA.trans (hb1.mono hA.size)
  have hg1 := RowAt.below hg hb1
  have hG1 := hG.below hb1
  clear haw hb1 hA hg hG hL0 hgv
  go_upto_region 2 with (fail)
  refine wp_region_lit ?_
  refine grow hg1 50 (.tmp 4) Tryz.underlying50 ?_
  try simp only [Act.put, sA, sZ, sS]
  refine gcall 20 #[.tmp 28] #[50] #[g.val] (enters_of Tryz.func20 (by kernel_rfl) rfl) ?_
  refine (hmd _ hG1).mono ?_
  rintro e w2 ⟨gb, pre, ss, rfl, hw2, hp, hq, hgb, hb2⟩
  refine ⟨_, rfl, ?_⟩
  have hB2 := hB1.trans (hb2.mono hB1.size)
  dsimp only
  refine gl (.tuple #[c.val, .slice (some ⟨gb, 0, none⟩) (Tk.cells pre ss).length (Tk.cells pre ss).length]) ?_
  refine gl c.val ?_
  refine gl (.slice (some ⟨gb, 0, none⟩) (Tk.cells pre ss).length (Tk.cells pre ss).length) ?_
  refine gbox (ob := .cells zero5 25) (Z := zero5) (cs := c.cells) (t := 25) 25 (.tmp 10) (.tmp 30) rfl ?_
  refine gl (.slice (some ⟨gb, 0, none⟩) (Tk.cells pre ss).length (Tk.cells pre ss).length) ?_
  try simp only [Act.put, sA, sZ, sS]
  rw [setRow_new]
  have M : LwAt W c w2.heap.size gb (Tk.cells pre ss) (w2.alloc (.cells c.cells 25)) := ⟨hB2.alloc hB2.size _, heap_alloc_new w2 _, RowAt.below hw2 ((Below.refl _ _).alloc (Nat.le_refl _) _), ⟨by have := hB1.size; omega, RowAt.lt hw2, hW0⟩⟩
  generalize (w2.alloc (.cells c.cells 25)) = w3 at *
  generalize w2.heap.size = cb at *
  have hlen : (Tk.cells pre ss).length = Tk.sc c (Tk.ns c) := by unfold Tk.cells Tk.sc; have := hp.pl; have := hp.sl; simp; omega
  obtain ⟨⟨wk0, wk1⟩, sl0, sl1⟩ := right_small hcr
  have hn6 : 6 ≤ (Tk.cells pre ss).length := by rw [hlen]; unfold Tk.sc Tk.ns; omega
  clear hmd hG1 hg1 hw2 hB1 hB2 hb2 hgb
  obtain ⟨v0, q0⟩ : ∃ v, w3.cell? ⟨gb, 0, none⟩ = some (.int .i64 v) := ⟨_, M.wr.get (List.getElem?_eq_getElem (by omega))⟩
  have z0 : w3.frozen? ⟨gb, 0, none⟩ = false := RowAt.frozen M.wr 0
  have hn0 : (0 : Int) < (Tk.cells pre ss).length := by omega
  have M4 := M.put 0 0
  rw [Tk.set_pre hp (i := 0) (by omega)] at M4
  have hp4 := hp.setPre 0 0
  have hq4 := hq.set0 (x := 0) (by omega)
  have h04 : (pre.set 0 0).getD 0 0 = 0 := by rw [getD_set]; split; rfl; rename_i hh; exact absurd ⟨rfl, by have := hp.pl; omega⟩ hh
  have hl4 : (Tk.cells (pre.set 0 0) ss).length = (Tk.cells pre ss).length := by unfold Tk.cells; simp
  go_upto_region 4 with (fail)
  generalize (w3.setCell ⟨gb, 0, none⟩ (.int .i64 0)) = w4 at *
  rw [← hl4] at hlen hn6 ⊢
  generalize pre.set 0 0 = pre4 at *
  clear q0 z0 M hp hq hl4 hn0
  have x2e : (Tk.cells pre4 ss)[2]? = some (pre4.getD 2 0) := by unfold Tk.cells; rw [List.getElem?_append_left (by have := hp4.pl; omega), List.getD_eq_getElem?_getD, List.getElem?_eq_getElem (by have := hp4.pl; omega)]; rfl
  have hep := hq4.ep
  have e2 : w4.cell? ⟨gb, 2, none⟩ = some (.int .i64 (pre4.getD 2 0)) := M4.wr.get x2e
  have z2 : w4.frozen? ⟨gb, 2, none⟩ = false := RowAt.frozen M4.wr 2
  have M4y := M4.put 2 (pre4.getD 2 0)
  rw [set_same x2e] at M4y
  generalize hx2 : pre4.getD 2 0 = x2 at *
  have hmin : min x2 4000 = x2 := by omega
  have hle : x2 ≤ 4000 := by omega
  have h4n : ¬ (4000 : Int) < x2 := by omega
  have HX2 := Lib.hid hx2
  clear hx2
  have n2 : (2 : Int) < (Tk.cells pre4 ss).length := by omega
  go_upto_region 5 with (fail)
  generalize (w4.setCell ⟨gb, 2, none⟩ (.int .i64 x2)) = w4x at *
  clear M4 e2 z2 hmin hle h4n n2 x2e
  have c0 : w4x.cell? ⟨cb, 0, none⟩ = some (.int .i64 c.workers) := RowAt.cell M4y.cr 0
  obtain ⟨i, hi, hilt⟩ : ∃ i : Nat, who.tmod c.workers = (i : Int) ∧ (i : Int) < c.workers := ⟨(who % c.workers).toNat, by rw [Int.tmod_eq_emod_of_nonneg hwho.1]; have := Int.emod_nonneg who (show c.workers ≠ 0 by omega); omega, by have := Int.emod_nonneg who (show c.workers ≠ 0 by omega); have := Int.emod_lt_of_pos who (show 0 < c.workers by omega); omega⟩
  have hnei : ¬ c.workers = 0 := by omega
  have hnbi : (c.workers == 0) = false := by simpa using hnei
  have x0i := hwho.1
  have x1i := hwho.2
  go_upto_region 6 with (fail)
  clear c0
  have hld := laid_any w4x c hcr gb 0 (Tk.cells pre4 ss).length (Tk.cells pre4 ss) hlen M4y.ints
  go_upto_region 6 with (fail)
  refine wp_region_lit ?_
  refine grow M4y.cr 25 (.tmp 10) Tryz.underlying25 ?_
  refine gl (.slice (some ⟨gb, 0, none⟩) (Tk.cells pre4 ss).length (Tk.cells pre4 ss).length) ?_
  try simp only [Act.put, sA, sZ, sS]
  refine gcall 13 #[.tmp 45, .tmp 46] #[25, 26] #[c.val, .slice (some ⟨gb, 0, none⟩) (Tk.cells pre4 ss).length (Tk.cells pre4 ss).length] (enters_of Tryz.func13 (by kernel_rfl) rfl) ?_
  refine hld.mono ?_
  rintro e w5 ⟨mb, wb, rfl, hM5, hm1, hm2, hb5⟩
  refine ⟨_, rfl, ?_⟩
  have M5 := M4y.below hb5
  have hmb : cb + 1 ≤ mb := Nat.le_trans M4y.lt hm1
  have hwb : cb + 1 ≤ wb := Nat.le_trans M4y.lt hm2
  have hL5 : Laid w5 := hL.stable (M5.b.block 0 (hL.lt (by decide)))
  clear hld hm1 hm2 hb5 M4y
  dsimp only
  go_upto_region 7 with (fail)
  refine wp_region_lit ?_
  refine grow M5.cr 25 (.tmp 10) Tryz.underlying25 ?_
  refine gl (.int .i64 i) ?_
  try simp only [Act.put, sA, sZ, sS]
  refine gcall 14 #[.tmp 48, .tmp 49] #[25, 3] #[c.val, .int .i64 i] (enters_of Tryz.func14 (by kernel_rfl) rfl) ?_
  refine (tnew_any w5 c i).mono ?_
  rintro e w6 ⟨tb, rfl, hT6, ht6, hb6⟩
  refine ⟨_, rfl, ?_⟩
  have M6 := M5.below hb6
  have htb : cb + 1 ≤ tb := Nat.le_trans M5.lt ht6
  have h6 := TkAt.fresh hM5 hL5 (by have := M5.ng; omega) (by have := M5.ng; omega) hb6 ht6 hT6 rfl rfl
  have hH6 := hi_new htb
  clear hT6 ht6 hb6 hM5 hL5 M5
  dsimp only
  have hN1 : 1 ≤ Tk.ns c ∧ Tk.ns c ≤ 16 := by unfold Tk.ns; omega
  have hok : Tk.TkOk (Tk.Tk.new c i) (Tk.cells pre4 ss) := new_ok hcr (by omega) hlen
  obtain ⟨wn, hwk, hw40⟩ : ∃ wn : Nat, when' % 40 = (wn : Int) ∧ wn < 40 := ⟨(when' % 40).toNat, by omega, by omega⟩
  have xw0 := hwn.1
  have xw1 := hwn.2
  have H6 := Lib.hid h6
  have M6 := Lib.hid M6
  have HOK := Lib.hid hok
  have HLN := Lib.hid hlen
  have HP := Lib.hid hp4
  have HQ := Lib.hid hq4
  have H04 := Lib.hid h04
  have hlw : 8 ≤ Tk.sc c (Tk.ns c) ∧ Tk.sc c (Tk.ns c) ≤ 100 ∨ True := .inr trivial
  clear hlw
  have hl100 : (Tk.cells pre4 ss).length ≤ 100 := by rw [hlen]; unfold Tk.sc Tk.ns; omega
  clear h6 hok hp4 hq4 h04 hlen
  go_upto_if 57 with (fail)
  go_cut [15] from 57 to 57 (fun s wx => (∃ h : Int, (h = 1 ∨ h = 2) ∧ s = .int .i64 h) ∧ w6 = wx)
  case first =>
    cases force
    · go_wp2_with fail
      go_meet
      case rel => exact ⟨⟨1, .inl rfl, rfl⟩, rfl⟩
    · go_wp2_with fail
      go_meet
      case rel => exact ⟨⟨2, .inr rfl, rfl⟩, rfl⟩
  case rest =>
    obtain ⟨⟨how, hhow, rfl⟩, rfl⟩ := hcut
    have HOW := Lib.hid hhow
    clear hhow
    go_wp2_with fail
    go_loopw [16] (fun v wr => ∃ (k : Nat) (t' : Tk.Tk) (ss' : List S) (lo ro : Option Nat) (tc : Int), k ≤ wn ∧ v = .int .i64 k ∧ RowKit.Hid (Tk.J c i ss t' ss') ∧ RowKit.Hid (Tk.Pool c pre4 ss') ∧ RowKit.Hid (TkAt wr tb mb wb lo ro t' (Tk.cells pre4 ss') tc) ∧ RowKit.Hid (Tk.TkOk t' (Tk.cells pre4 ss')) ∧ (0 ≤ tc ∧ tc ≤ 1000 + k) ∧ RowKit.Hid (Below (cb + 1) w6 wr) ∧ RowKit.Hid (Hi (cb + 1) tb lo ro) ∧ RowKit.Hid (Tk.EOk t'.e)) (fun v _ => wn - (intOf v).toNat)
    case atStart => exact ⟨0, _, ss, none, none, _, by omega, rfl, Lib.hid (Tk.J.new c i ss), HP, H6, HOK, by omega, Lib.hid (Below.refl _ _), Lib.hid hH6, Lib.hid (.inl rfl)⟩
    case round =>
      obtain ⟨k, t', ss', lo, ro, tc, hk, rfl, hJ, hP, hT, hO, hc, hB, hH, hE⟩ := hrel
      clear H6 HOK
      have hcs : cb + 1 ≤ wr.heap.size := Nat.le_trans M6.out.lt hB.out.size
      by_cases hlt : k < wn
      · obtain ⟨t1, ss1, n1, hst, hJ1, hP1⟩ := hJ.out.step hP.out H04.out (by omega) hN1.1
        have hs := tstep_any hT.out hO.out ⟨by omega, by omega⟩ true
        have hfew := Tk.step_few t' (Tk.cells pre4 ss') true
        have hok' := hO.out.step true
        have he' := Tk.step_e t' (Tk.cells pre4 ss') true hE.out
        unfold StepPost at hs
        rw [hst] at hs hfew hok' he'
        dsimp only at hs hfew hok' he'
        have k1 : (k : Int) < (wn : Int) := by omega
        have HJ1 := Lib.hid hJ1
        have HP1 := Lib.hid hP1
        have HO1 := Lib.hid hok'
        have HE1 := Lib.hid he'
        clear hst hJ1 hP1 hok' he' hJ hP hO hE
        go_wp2_with fail
        refine hs.mono ?_
        rintro e w9 ⟨rfl, l2, r2, h9, r9⟩
        have r9' : TR wr tb mb wb lo ro w9 l2 r2 := r9
        have H9 := Lib.hid h9
        have HB9 := Lib.hid (hB.out.trans (r9'.hiBelow hH.out hmb hwb hcs))
        have HH9 := Lib.hid (r9'.hi hH.out hcs)
        clear hs h9 r9 r9' hT hB hH hcs
        go_wp2_with fail
        go_roundw
        case rel => exact ⟨k + 1, t1, ss1, l2, r2, tc + n1, by omega, by go_num, HJ1, HP1, H9, HO1, by omega, HB9, HH9, HE1⟩
        case measure => first | (simp [intOf]; done) | (simp [intOf]; omega)
      · have k1 : ¬ (k : Int) < (wn : Int) := by omega
        have hp0 : pre4.set 0 how ≠ [] ∨ True := .inr trivial
        clear hp0
        have hg0 : (pre4.set 0 how).getD 0 0 ≠ 0 := by rw [getD_set, if_pos ⟨rfl, by have := HP.out.pl; omega⟩]; have := HOW.out; omega
        have hg2 : 0 ≤ (pre4.set 0 how).getD 2 0 ∧ (pre4.set 0 how).getD 2 0 ≤ 4095 := by rw [getD_set, if_neg (by omega)]; have := HQ.out.ep; omega
        have hend := Tk.closed_end hJ.out (hP.out.setPre 0 how) hg2 (by omega) hN1.1 hN1.2 hg0 hE.out
        have han := answer_any hT.out
        have hl' : (Tk.cells pre4 ss').length = (Tk.cells pre4 ss).length := by unfold Tk.cells; have := hP.out.sl; have := HP.out.sl; simp; omega
        have hbd : Tk.Bd (Tk.cells (pre4.set 0 how) ss') := cells_bd (hP.out.setPre 0 how) (HQ.out.set0 (by have := HOW.out; omega))
        have HEND := Lib.hid hend
        have HBD := Lib.hid hbd
        have HLL := Lib.hid hl'
        clear hend hbd hl' hg0 hg2 hJ hE
        go_wp2_with fail
        refine han.mono ?_
        rintro e w9 ⟨rfl, hb9⟩
        have h9 := hT.out.below hb9
        have hB9 := hB.out.trans (hb9.mono hcs)
        have hcs9 : cb + 1 ≤ w9.heap.size := Nat.le_trans hcs hb9.size
        have hsto := store_any h9.mem ⟨by omega, by omega⟩ 0 _ (rd_here (ws := Tk.cells pre4 ss') (i := 0) (by rw [HLL.out]; omega)) how
        rw [Tk.set_pre hP.out (i := 0) (by omega)] at hsto
        have H9 := Lib.hid h9
        have HB9 := Lib.hid hB9
        clear han hb9 h9 hB9 hT hB hcs
        go_wp2_with fail
        refine Calls.mono (show Calls Tryz.prog 25 #[.pointer (some ⟨mb, 0, none⟩), .int .i64 0, .int .i64 how] _ _ from hsto) ?_
        rintro e w10 ⟨rfl, hM10, hC10⟩
        have h10 := H9.out.mems hC10 hM10
        have hB10 := HB9.out.trans (hC10.below hcs9 (fun q hq => by rcases hq with rfl | rfl <;> assumption))
        have hcs10 : cb + 1 ≤ w10.heap.size := Nat.le_trans hcs9 hC10.size
        have hl2 : (Tk.cells (pre4.set 0 how) ss').length = (Tk.cells pre4 ss').length := by unfold Tk.cells; simp
        have hok10 := TkOk.len hO.out hl2
        have hal := alone_any h10 hok10 ⟨by omega, by omega⟩ true
        have hbd2 := Tk.alone_bd true 200 0 (t := t') HBD.out
        have hln2 := Tk.alone_ok true 200 0 hok10
        have hcf2 := Tk.alone_cf true 200 0 hok10
        have hlo2 := hok10.len
        have hend := HEND.out
        generalize Tk.alone true 200 0 t' (Tk.cells (pre4.set 0 how) ss') = r at *
        obtain ⟨n2, t2, ws2⟩ := r
        try dsimp only at hal hbd2 hln2 hcf2 hend
        have hl3 : ws2.length = Tk.sc c (Tk.ns c) := by have h1 := hln2.len; rw [hcf2] at h1; rw [h1, ← hlo2, hl2, HLL.out, HLN.out]
        have HEND := Lib.hid hend
        have HBD := Lib.hid hbd2
        clear hsto hM10 hC10 h10 H9 HB9 hend hbd2 hln2 hcf2 hlo2 hl2 hok10 hO
        go_wp2_with fail
        refine hal.mono ?_
        rintro e w11 ⟨rfl, l2, r2, tc2, h11, ht11, r11⟩
        have r11' : TR w10 tb mb wb lo ro w11 l2 r2 := r11
        have h11 : TkAt w11 tb mb wb l2 r2 t2 ws2 tc2 := h11
        have hB11 := hB10.trans (r11'.hiBelow hH.out hmb hwb hcs10)
        have hcs11 : cb + 1 ≤ w11.heap.size := Nat.le_trans hcs10 r11'.2.2.size
        have han := answer_any h11
        have H11 := Lib.hid h11
        have HB11 := Lib.hid hB11
        clear hal r11 r11' h11 hB10 hB11 hH hcs9 hcs10
        go_wp2_with fail
        refine han.mono ?_
        rintro e w12 ⟨rfl, hb12⟩
        have h12 := H11.out.below hb12
        have hB12 := HB11.out.trans (hb12.mono hcs11)
        have M12 := M6.out.keep hB12
        have hcs12 : cb + 1 ≤ w12.heap.size := Nat.le_trans hcs11 hb12.size
        clear han hb12 H11 HB11
        obtain ⟨E1, E2⟩ := HEND.out
        try dsimp only at E1 E2
        by_cases hd : t'.st = 15
        · obtain ⟨q1, q2⟩ := E1 hd
          rw [q2]
          have q3 : (t'.answer.1 != 8) = true := by simpa using q1
          have q4 : (t'.answer.1 == 8) = false := by simpa using q1
          clear E1 E2 hd q1 q2 HEND
          go_wp2_with fail
          go_ret
          exact ⟨Base.ret_bool (by simp), M12.b⟩
        · obtain ⟨q1, pre2, ss2, q2, hp2, hnm, q3⟩ := E2 hd
          subst q2
          rw [q1]
          clear E1 E2 hd q1 HEND
          have hwo := words_any (h12.below (Below.refl _ _).drew).mem
          have hl4 : (Tk.cells pre2 ss2).length = Tk.sc c (Tk.ns c) := hl3
          go_upto_region 23 with (fail)
          refine wp_region_held_drew (S := fun w' => RowAt w' cb c.cells 25) (by kernel_rfl) (by exact M12.cr) (fun hHeld => ?_)
          refine tKg 1 95 hHeld ?_
          try simp only [Act.put, sA, sZ, sS]
          refine tKw (gd := none) 0 94 (.load 25 (.tmp 10)) (.agg c.cells) (run_load_row 25 (.tmp 10) cb 25 c.cells _ (by kernel_rfl) Tryz.underlying25 rfl (by kernel_rfl) (fun w h => h)) hHeld ?_
          try simp only [Act.put, sA, sZ, sS]
          refine rKc (i := 2) 23 #[.tmp 95] #[32] (some 96) none #[.pointer (some ⟨mb, 0, none⟩)] (enters_of Tryz.func23 (by kernel_rfl) rfl) ?_
          refine hwo.mono ?_
          rintro e w13 ⟨na, ncap, rfl, hown, hfp, hb13⟩
          have hb13 := (Below.refl w12.heap.size w12).drew.trans hb13
          rw [hl4] at hown ⊢
          obtain ⟨ng, no, rfl, hng, hni, hnz⟩ := own_ints hown (by rw [← hl4]; unfold Tk.cells; have := hp2.pl; simp; omega)
          have M13 := M12.below hb13
          refine ⟨_, rfl, M13.cr, fun hHeld => ?_⟩
          try simp only [Act.put, sA, sZ, sS]
          have hsls := ref_slots_any w13 c hcr ng no ncap (Tk.cells pre2 ss2) hl4 hni HBD.out
          rw [slotsOf_cells hp2, hl4] at hsls
          refine rKc (i := 3) 21 #[.tmp 94, .tmp 96] #[25, 26] (some 97) none #[c.val, .slice (some ⟨ng, no, none⟩) (Tk.sc c (Tk.ns c)) ncap] (enters_of Tryz.func21 (by kernel_rfl) rfl) ?_
          refine hsls.mono ?_
          rintro e w14 ⟨sa, scp, rfl, hsi, hb14⟩
          have M14 := M13.below hb14
          refine ⟨_, rfl, M14.cr, fun hHeld => ?_⟩
          try simp only [Act.put, sA, sZ, sS]
          refine tKg 4 23 hHeld ?_
          try simp only [Act.put, sA, sZ, sS]
          refine wpAnyH_done (by kernel_rfl) ?_ _
          clear hwo hown hfp hb13 hnz hni hsls M13 M12 hb14 hHeld h12 hng
          have hsls := ref_slots_any w14 c hcr gb 0 (Tk.sc c (Tk.ns c)) (Tk.cells pre4 ss) HLN.out M14.ints (cells_bd HP.out HQ.out)
          rw [slotsOf_cells HP.out, HLN.out] at hsls
          go_upto_region 24 with (fail)
          refine wp_region_lit ?_
          refine grow M14.cr 25 (.tmp 10) Tryz.underlying25 ?_
          refine gl (.slice (some ⟨gb, 0, none⟩) (Tk.sc c (Tk.ns c)) (Tk.sc c (Tk.ns c))) ?_
          try simp only [Act.put, sA, sZ, sS]
          refine gcall 21 #[.tmp 98, .tmp 99] #[25, 26] #[c.val, .slice (some ⟨gb, 0, none⟩) (Tk.sc c (Tk.ns c)) (Tk.sc c (Tk.ns c))] (enters_of Tryz.func21 (by kernel_rfl) rfl) ?_
          refine hsls.mono ?_
          rintro e w15 ⟨ua, ucp, rfl, hui, hb15⟩
          refine ⟨_, rfl, ?_⟩
          have M15 := M14.below hb15
          have hsi15 := hsi.below hb15
          have hsl2 : ss2.length = Tk.ns c := hp2.sl
          have hsl : ss.length = Tk.ns c := HP.out.sl
          rw [hsl2, hsl]
          have HS2 := Lib.hid hsl2
          have HS := Lib.hid hsl
          have HSI := Lib.hid hsi15
          have HUI := Lib.hid hui
          have HM := Lib.hid M15
          have HNM := Lib.hid hnm
          clear hsls hsi hui hb15 M14 M15 hsi15 hsl2 hsl hnm hp2 hl3 hl4 HBD HLN HP HQ H04 HLL
          dsimp only
          go_wp2_with fail
          go_loopw [25] (fun v wr => ∃ k : Nat, k ≤ Tk.ns c ∧ v = .int .i64 k ∧ RowKit.Hid (Below w15.heap.size w15 wr)) (fun v _ => Tk.ns c - (intOf v).toNat)
          case atStart => exact ⟨0, by omega, rfl, Lib.hid (Below.refl _ _)⟩
          case round =>
            obtain ⟨k, hk, rfl, hB⟩ := hrel
            by_cases hlt : k < Tk.ns c
            · obtain ⟨s, hs⟩ : ∃ s, ss2[k]? = some s := ⟨_, List.getElem?_eq_getElem (by rw [HS2.out]; exact hlt)⟩
              obtain ⟨u, hu⟩ : ∃ u, ss[k]? = some u := ⟨_, List.getElem?_eq_getElem (by rw [HS.out]; exact hlt)⟩
              have hnk : s.state = 3 ∨ s.state = 1 → u = s := fun hq => by have h := HNM.out k s hs (by simp) hq; rw [hu] at h; exact (Option.some.inj h)
              obtain ⟨sg, so, rfl, hcs⟩ := HSI.out k s hs
              obtain ⟨ug, uo, rfl, hcu⟩ := HUI.out k u hu
              have k0 : (0 : Int) ≤ (k : Int) := by omega
              have k1 : (k : Int) < (Tk.ns c : Int) := by omega
              have kn : k ≤ 16 := by omega
              clear hs hu
              by_cases h3 : s.state = 3
              · have hus := hnk (.inl h3)
                have hq : ∀ W, _ := fun W => eq_slot W s.state s.own s.streams s.broken s.marked s.uses s.gen s.epoch s.version u.state u.own u.streams u.broken u.marked u.uses u.gen u.epoch u.version
                have hqd : decide (S.mk s.state s.own s.streams s.broken s.marked s.uses s.gen s.epoch s.version = S.mk u.state u.own u.streams u.broken u.marked u.uses u.gen u.epoch u.version) = true := decide_eq_true (by rw [hus])
                rw [hqd] at hq
                clear hqd hus hnk
                have b3 : (s.state == 3) = true := by simpa using h3
                have b1 : (s.state == 1) = false := by rw [h3]; rfl
                clear h3
                have HBx := Lib.hid hB.out
                have HS1 : SlotHere wr sg (so + k * 9) s := fun j v hv => Field.bkeep hB.out (hcs j v hv)
                have HU1 : SlotHere wr ug (uo + k * 9) u := fun j v hv => Field.bkeep hB.out (hcu j v hv)
                clear hB HSI HUI HNM HS2 HS hcs hcu
                go_upto_region 28 with (fail)
                refine wp_region_held_drew (S := fun w' => SlotHere w' sg (so + k * 9) s ∧ SlotHere w' ug (uo + k * 9) u) (by kernel_rfl) (by exact ⟨HS1, HU1⟩) (fun hHeld => ?_)
                refine tKg 0 107 hHeld ?_
                try simp only [Act.put, sA, sZ, sS]
                refine tKg 1 108 hHeld ?_
                try simp only [Act.put, sA, sZ, sS]
                refine tKg 2 109 hHeld ?_
                try simp only [Act.put, sA, sZ, sS]
                refine tKg 3 110 hHeld ?_
                try simp only [Act.put, sA, sZ, sS]
                refine tKw (gd := none) 4 111 (.load 3 (.tmp 110)) (.int .i64 s.state) (run_state (.tmp 110) sg (so + k * 9) s (by kernel_rfl) (fun w h => h.1)) hHeld ?_
                try simp only [Act.put, sA, sZ, sS]
                refine tKg 5 112 hHeld ?_
                try simp only [Act.put, sA, sZ, sS]
                refine tKg 6 113 hHeld ?_
                try simp only [Act.put, sA, sZ, sS]
                refine tKg 7 114 hHeld ?_
                try simp only [Act.put, sA, sZ, sS]
                refine tKg 8 115 hHeld ?_
                try simp only [Act.put, sA, sZ, sS]
                refine tKg 9 116 hHeld ?_
                try simp only [Act.put, sA, sZ, sS]
                refine tKw (gd := (some (6, true))) 10 117 (.load 30 (.tmp 116)) (sv s) (run_slot (.tmp 116) sg (so + k * 9) s (by kernel_rfl) (fun w h => h.1)) hHeld ?_
                try simp only [Act.put, sA, sZ, sS]
                refine tKg 11 118 hHeld ?_
                try simp only [Act.put, sA, sZ, sS]
                refine tKg 12 119 hHeld ?_
                try simp only [Act.put, sA, sZ, sS]
                refine tKg 13 120 hHeld ?_
                try simp only [Act.put, sA, sZ, sS]
                refine tKw (gd := (some (6, true))) 14 121 (.load 30 (.tmp 120)) (sv u) (run_slot (.tmp 120) ug (uo + k * 9) u (by kernel_rfl) (fun w h => h.2)) hHeld ?_
                try simp only [Act.put, sA, sZ, sS]
                refine tKg 15 122 hHeld ?_
                try simp only [Act.put, sA, sZ, sS]
                refine tKg 16 123 hHeld ?_
                try simp only [Act.put, sA, sZ, sS]
                refine tKg 17 124 hHeld ?_
                try simp only [Act.put, sA, sZ, sS]
                refine tKg 18 125 hHeld ?_
                try simp only [Act.put, sA, sZ, sS]
                refine tKg 19 126 hHeld ?_
                try simp only [Act.put, sA, sZ, sS]
                refine tKg 20 127 hHeld ?_
                try simp only [Act.put, sA, sZ, sS]
                refine tKg 21 128 hHeld ?_
                try simp only [Act.put, sA, sZ, sS]
                refine tKw (gd := (some (17, false))) 22 129 (.load 3 (.tmp 128)) (.int .i64 s.state) (run_state (.tmp 128) sg (so + k * 9) s (by kernel_rfl) (fun w h => h.1)) hHeld ?_
                try simp only [Act.put, sA, sZ, sS]
                refine tKg 23 130 hHeld ?_
                try simp only [Act.put, sA, sZ, sS]
                refine tKg 24 131 hHeld ?_
                try simp only [Act.put, sA, sZ, sS]
                refine sKp 25 (some 132) hHeld ?_
                try simp only [Act.put, sA, sZ, sS]
                refine sKp 26 (some 133) hHeld ?_
                try simp only [Act.put, sA, sZ, sS]
                refine sKp 27 (some 134) hHeld ?_
                try simp only [Act.put, sA, sZ, sS]
                refine sKp 28 (some 135) hHeld ?_
                try simp only [Act.put, sA, sZ, sS]
                refine sKp 29 (some 136) hHeld ?_
                try simp only [Act.put, sA, sZ, sS]
                refine sKp 30 (some 137) hHeld ?_
                try simp only [Act.put, sA, sZ, sS]
                refine sKp 31 (some 138) hHeld ?_
                try simp only [Act.put, sA, sZ, sS]
                refine sKp 32 (some 139) hHeld ?_
                try simp only [Act.put, sA, sZ, sS]
                refine sKp 33 (some 140) hHeld ?_
                try simp only [Act.put, sA, sZ, sS]
                refine tKg 34 141 hHeld ?_
                try simp only [Act.put, sA, sZ, sS]
                refine tKg 35 142 hHeld ?_
                try simp only [Act.put, sA, sZ, sS]
                refine wpAnyH_done (by kernel_rfl) ?_ _
                clear hHeld HS1 HU1
                go_wp2_with fail
                go_roundw
                case rel => exact ⟨k + 1, by omega, by go_num, Lib.hid HBx.out.drew⟩
                case measure => first | (simp [intOf]; done) | (simp [intOf]; omega)
              · have b3 : (s.state == 3) = false := by simpa using h3
                by_cases h1 : s.state = 1
                · have hus := hnk (.inr h1)
                  have hq : ∀ W, _ := fun W => eq_slot W s.state s.own s.streams s.broken s.marked s.uses s.gen s.epoch s.version u.state u.own u.streams u.broken u.marked u.uses u.gen u.epoch u.version
                  have hqd : decide (S.mk s.state s.own s.streams s.broken s.marked s.uses s.gen s.epoch s.version = S.mk u.state u.own u.streams u.broken u.marked u.uses u.gen u.epoch u.version) = true := decide_eq_true (by rw [hus])
                  rw [hqd] at hq
                  clear hqd hus hnk
                  have b1 : (s.state == 1) = true := by simpa using h1
                  clear h1 h3
                  have HBx := Lib.hid hB.out
                  have HS1 : SlotHere wr sg (so + k * 9) s := fun j v hv => Field.bkeep hB.out (hcs j v hv)
                  have HU1 : SlotHere wr ug (uo + k * 9) u := fun j v hv => Field.bkeep hB.out (hcu j v hv)
                  clear hB HSI HUI HNM HS2 HS hcs hcu
                  go_upto_region 28 with (fail)
                  refine wp_region_held_drew (S := fun w' => SlotHere w' sg (so + k * 9) s ∧ SlotHere w' ug (uo + k * 9) u) (by kernel_rfl) (by exact ⟨HS1, HU1⟩) (fun hHeld => ?_)
                  refine tKg 0 107 hHeld ?_
                  try simp only [Act.put, sA, sZ, sS]
                  refine tKg 1 108 hHeld ?_
                  try simp only [Act.put, sA, sZ, sS]
                  refine tKg 2 109 hHeld ?_
                  try simp only [Act.put, sA, sZ, sS]
                  refine tKg 3 110 hHeld ?_
                  try simp only [Act.put, sA, sZ, sS]
                  refine tKw (gd := none) 4 111 (.load 3 (.tmp 110)) (.int .i64 s.state) (run_state (.tmp 110) sg (so + k * 9) s (by kernel_rfl) (fun w h => h.1)) hHeld ?_
                  try simp only [Act.put, sA, sZ, sS]
                  refine tKg 5 112 hHeld ?_
                  try simp only [Act.put, sA, sZ, sS]
                  refine tKg 6 113 hHeld ?_
                  try simp only [Act.put, sA, sZ, sS]
                  refine sKp 7 (some 114) hHeld ?_
                  try simp only [Act.put, sA, sZ, sS]
                  refine sKp 8 (some 115) hHeld ?_
                  try simp only [Act.put, sA, sZ, sS]
                  refine sKp 9 (some 116) hHeld ?_
                  try simp only [Act.put, sA, sZ, sS]
                  refine sKp 10 (some 117) hHeld ?_
                  try simp only [Act.put, sA, sZ, sS]
                  refine sKp 11 (some 118) hHeld ?_
                  try simp only [Act.put, sA, sZ, sS]
                  refine sKp 12 (some 119) hHeld ?_
                  try simp only [Act.put, sA, sZ, sS]
                  refine sKp 13 (some 120) hHeld ?_
                  try simp only [Act.put, sA, sZ, sS]
                  refine sKp 14 (some 121) hHeld ?_
                  try simp only [Act.put, sA, sZ, sS]
                  refine sKp 15 (some 122) hHeld ?_
                  try simp only [Act.put, sA, sZ, sS]
                  refine tKg 16 123 hHeld ?_
                  try simp only [Act.put, sA, sZ, sS]
                  refine tKg 17 124 hHeld ?_
                  try simp only [Act.put, sA, sZ, sS]
                  refine tKg 18 125 hHeld ?_
                  try simp only [Act.put, sA, sZ, sS]
                  refine tKg 19 126 hHeld ?_
                  try simp only [Act.put, sA, sZ, sS]
                  refine tKg 20 127 hHeld ?_
                  try simp only [Act.put, sA, sZ, sS]
                  refine tKg 21 128 hHeld ?_
                  try simp only [Act.put, sA, sZ, sS]
                  refine tKw (gd := (some (17, false))) 22 129 (.load 3 (.tmp 128)) (.int .i64 s.state) (run_state (.tmp 128) sg (so + k * 9) s (by kernel_rfl) (fun w h => h.1)) hHeld ?_
                  try simp only [Act.put, sA, sZ, sS]
                  refine tKg 23 130 hHeld ?_
                  try simp only [Act.put, sA, sZ, sS]
                  refine tKg 24 131 hHeld ?_
                  try simp only [Act.put, sA, sZ, sS]
                  refine tKg 25 132 hHeld ?_
                  try simp only [Act.put, sA, sZ, sS]
                  refine tKg 26 133 hHeld ?_
                  try simp only [Act.put, sA, sZ, sS]
                  refine tKg 27 134 hHeld ?_
                  try simp only [Act.put, sA, sZ, sS]
                  refine tKw (gd := (some (24, true))) 28 135 (.load 30 (.tmp 134)) (sv s) (run_slot (.tmp 134) sg (so + k * 9) s (by kernel_rfl) (fun w h => h.1)) hHeld ?_
                  try simp only [Act.put, sA, sZ, sS]
                  refine tKg 29 136 hHeld ?_
                  try simp only [Act.put, sA, sZ, sS]
                  refine tKg 30 137 hHeld ?_
                  try simp only [Act.put, sA, sZ, sS]
                  refine tKg 31 138 hHeld ?_
                  try simp only [Act.put, sA, sZ, sS]
                  refine tKw (gd := (some (24, true))) 32 139 (.load 30 (.tmp 138)) (sv u) (run_slot (.tmp 138) ug (uo + k * 9) u (by kernel_rfl) (fun w h => h.2)) hHeld ?_
                  try simp only [Act.put, sA, sZ, sS]
                  refine tKg 33 140 hHeld ?_
                  try simp only [Act.put, sA, sZ, sS]
                  refine tKg 34 141 hHeld ?_
                  try simp only [Act.put, sA, sZ, sS]
                  refine tKg 35 142 hHeld ?_
                  try simp only [Act.put, sA, sZ, sS]
                  refine wpAnyH_done (by kernel_rfl) ?_ _
                  clear hHeld HS1 HU1
                  go_wp2_with fail
                  go_roundw
                  case rel => exact ⟨k + 1, by omega, by go_num, Lib.hid HBx.out.drew⟩
                  case measure => first | (simp [intOf]; done) | (simp [intOf]; omega)
                · have b1 : (s.state == 1) = false := by simpa using h1
                  clear h1 h3 hnk
                  have HBx := Lib.hid hB.out
                  have HS1 : SlotHere wr sg (so + k * 9) s := fun j v hv => Field.bkeep hB.out (hcs j v hv)
                  have HU1 : SlotHere wr ug (uo + k * 9) u := fun j v hv => Field.bkeep hB.out (hcu j v hv)
                  clear hB HSI HUI HNM HS2 HS hcs hcu
                  go_upto_region 28 with (fail)
                  refine wp_region_held_drew (S := fun w' => SlotHere w' sg (so + k * 9) s ∧ SlotHere w' ug (uo + k * 9) u) (by kernel_rfl) (by exact ⟨HS1, HU1⟩) (fun hHeld => ?_)
                  refine tKg 0 107 hHeld ?_
                  try simp only [Act.put, sA, sZ, sS]
                  refine tKg 1 108 hHeld ?_
                  try simp only [Act.put, sA, sZ, sS]
                  refine tKg 2 109 hHeld ?_
                  try simp only [Act.put, sA, sZ, sS]
                  refine tKg 3 110 hHeld ?_
                  try simp only [Act.put, sA, sZ, sS]
                  refine tKw (gd := none) 4 111 (.load 3 (.tmp 110)) (.int .i64 s.state) (run_state (.tmp 110) sg (so + k * 9) s (by kernel_rfl) (fun w h => h.1)) hHeld ?_
                  try simp only [Act.put, sA, sZ, sS]
                  refine tKg 5 112 hHeld ?_
                  try simp only [Act.put, sA, sZ, sS]
                  refine tKg 6 113 hHeld ?_
                  try simp only [Act.put, sA, sZ, sS]
                  refine sKp 7 (some 114) hHeld ?_
                  try simp only [Act.put, sA, sZ, sS]
                  refine sKp 8 (some 115) hHeld ?_
                  try simp only [Act.put, sA, sZ, sS]
                  refine sKp 9 (some 116) hHeld ?_
                  try simp only [Act.put, sA, sZ, sS]
                  refine sKp 10 (some 117) hHeld ?_
                  try simp only [Act.put, sA, sZ, sS]
                  refine sKp 11 (some 118) hHeld ?_
                  try simp only [Act.put, sA, sZ, sS]
                  refine sKp 12 (some 119) hHeld ?_
                  try simp only [Act.put, sA, sZ, sS]
                  refine sKp 13 (some 120) hHeld ?_
                  try simp only [Act.put, sA, sZ, sS]
                  refine sKp 14 (some 121) hHeld ?_
                  try simp only [Act.put, sA, sZ, sS]
                  refine sKp 15 (some 122) hHeld ?_
                  try simp only [Act.put, sA, sZ, sS]
                  refine tKg 16 123 hHeld ?_
                  try simp only [Act.put, sA, sZ, sS]
                  refine tKg 17 124 hHeld ?_
                  try simp only [Act.put, sA, sZ, sS]
                  refine tKg 18 125 hHeld ?_
                  try simp only [Act.put, sA, sZ, sS]
                  refine tKg 19 126 hHeld ?_
                  try simp only [Act.put, sA, sZ, sS]
                  refine tKg 20 127 hHeld ?_
                  try simp only [Act.put, sA, sZ, sS]
                  refine tKg 21 128 hHeld ?_
                  try simp only [Act.put, sA, sZ, sS]
                  refine tKw (gd := (some (17, false))) 22 129 (.load 3 (.tmp 128)) (.int .i64 s.state) (run_state (.tmp 128) sg (so + k * 9) s (by kernel_rfl) (fun w h => h.1)) hHeld ?_
                  try simp only [Act.put, sA, sZ, sS]
                  refine tKg 23 130 hHeld ?_
                  try simp only [Act.put, sA, sZ, sS]
                  refine tKg 24 131 hHeld ?_
                  try simp only [Act.put, sA, sZ, sS]
                  refine sKp 25 (some 132) hHeld ?_
                  try simp only [Act.put, sA, sZ, sS]
                  refine sKp 26 (some 133) hHeld ?_
                  try simp only [Act.put, sA, sZ, sS]
                  refine sKp 27 (some 134) hHeld ?_
                  try simp only [Act.put, sA, sZ, sS]
                  refine sKp 28 (some 135) hHeld ?_
                  try simp only [Act.put, sA, sZ, sS]
                  refine sKp 29 (some 136) hHeld ?_
                  try simp only [Act.put, sA, sZ, sS]
                  refine sKp 30 (some 137) hHeld ?_
                  try simp only [Act.put, sA, sZ, sS]
                  refine sKp 31 (some 138) hHeld ?_
                  try simp only [Act.put, sA, sZ, sS]
                  refine sKp 32 (some 139) hHeld ?_
                  try simp only [Act.put, sA, sZ, sS]
                  refine sKp 33 (some 140) hHeld ?_
                  try simp only [Act.put, sA, sZ, sS]
                  refine tKg 34 141 hHeld ?_
                  try simp only [Act.put, sA, sZ, sS]
                  refine tKg 35 142 hHeld ?_
                  try simp only [Act.put, sA, sZ, sS]
                  refine wpAnyH_done (by kernel_rfl) ?_ _
                  clear hHeld HS1 HU1
                  go_wp2_with fail
                  go_roundw
                  case rel => exact ⟨k + 1, by omega, by go_num, Lib.hid HBx.out.drew⟩
                  case measure => first | (simp [intOf]; done) | (simp [intOf]; omega)
            · have k1 : ¬ (k : Int) < (Tk.ns c : Int) := by omega
              have hB9 := HM.out.b.trans (hB.out.mono HM.out.b.size)
              have HB := Lib.hid hB9
              clear hB9
              rcases q3 with q3 | q3
              all_goals
                rw [q3]
                go_wp2_with fail
                go_ret
                exact ⟨rfl, HB.out⟩
end Go.Proofs.YtefpoidnklflnaaGreatDoor.Mod

namespace Go.Proofs.YtefpoidnklflnaaGreatDoor.takeClosed
open Go.ChangeShapes Go.WideShapes Go.ChangeAt Go.RowKit
set_option linter.unusedVariables false
set_option linter.unusedSimpArgs false

theorem own : ownKnob Tryz.prog.godebug = none := by kernel_rfl
theorem laidOut : laidOutB Tryz.prog = true := by kernel_rfl

set_option maxRecDepth 100000 in
theorem lifted (os : Os) (started : os.Started) (H : Type) (enc : TypeId × Value → H) :
    ReturnsInHanded {} Tryz.checked os 6 .any (fun w args => (Rows.takeClosedSpec.pre enc Tryz.prog Tryz.f6 [] false w args ∧ laidMetH Tryz.prog Mod.lst w) ∧ sizedMet enc Tryz.prog Tryz.f6 (OpenSpec.ofChange Rows.takeClosedSpec) false w args) (Rows.takeClosedSpec.post enc Tryz.prog Tryz.f6 false true false false) := by
  refine returnsInHanded_of_change_and (C := Tryz.checked) (X := fun w _ => laidMetH Tryz.prog Mod.lst w) (fun _ _ _ hh h => h.of_heap hh) own started (by kernel_rfl) Tryz.func6
    (ChangeSpec.witness_shaped (enc := enc) (C := Tryz.checked) (os := os) (X := fun w _ => laidMetH Tryz.prog Mod.lst w) false (World.doorLaid Tryz.prog 23 os) #[.agg #[.int .u8 0, .int .u8 0, .int .u8 0, .int .u8 0, .int .u8 0, .slice none 0 0, .slice none 0 0, .slice none 0 0], .int .u8 0, .int .u8 0, .bool false] 8 rfl (World.shaped_of_RefB (by kernel_rfl) (by kernel_rfl)) (by kernel_rfl) (by kernel_rfl) (by kernel_rfl) (Mod.door_met os _)) ?_
  intro W base args ds gs before hval0 hW _ _ hL _
  have hval : ∀ (j : Nat) t v, Tryz.f6.params[j]? = some t → args[j]? = some v → Value.okWide Tryz.prog W .any base t v := hval0
  have hW' := hW
  obtain ⟨p, q, hA0, hV, rfl, hfz, hnd⟩ := hW
  have hA : DataW.TrodAll enc Tryz.prog W 0 (fun _ => true) true Tryz.f6.params.toList args.toList ds p := hA0
  rw [Tryz.params6] at hA hval
  obtain ⟨v0, vs0, d0, ds0, p0, q0, hargs, rfl, rfl, h0, r0⟩ := trodAll_cons hA
  obtain ⟨v1, vs1, d1, ds1, p1, q1, rfl, rfl, rfl, h1, r1⟩ := trodAll_cons r0
  obtain ⟨v2, vs2, d2, ds2, p2, q2, rfl, rfl, rfl, h2, r2⟩ := trodAll_cons r1
  obtain ⟨v3, vs3, d3, ds3, p3, q3, rfl, rfl, rfl, h3, r3⟩ := trodAll_cons r2
  obtain ⟨rfl, rfl, rfl⟩ := trodAll_nil r3
  obtain rfl : args = #[v0, v1, v2, v3] := by cases args; simp_all
  obtain ⟨rfl, rfl⟩ := trodVars_none hV
  have k0 := h0
  have lt0 : ∀ x ∈ p0, x.block < W.heap.size := by obtain ⟨m, hm⟩ := k0; exact DataW.trod_lt m _ _ _ hm
  obtain ⟨g0, rfl, w0⟩ := Mod.open_gv (hval 0 50 v0 rfl rfl) h0
  obtain ⟨a1, rfl, rfl, rfl, w1⟩ := open_int Tryz.underlying5 (hval 1 5 v1 rfl rfl) h1
  obtain ⟨a2, rfl, rfl, rfl, w2⟩ := open_int Tryz.underlying5 (hval 2 5 v2 rfl rfl) h2
  obtain ⟨a3, rfl, rfl, rfl⟩ := open_bool Tryz.underlying4 (hval 3 4 v3 rfl rfl) h3
  have hLd := Mod.of_laid hL
  clear hA0 hval0
  refine (Mod.takeClosed_walk W hLd g0 w0 _ (Mod.u8_bd w1) _ (Mod.u8_bd w2) a3).mono fun e W' ⟨he, bel⟩ => ?_
  subst he
  exact ⟨_, rfl, _, _, _, [], _, [], hW', trodAll_mk1 (shut_bool Tryz.underlying4 _), (trodAll_cons_mk (Below.trod laidOut (by kernel_rfl) (of_decide_eq_true (by kernel_rfl)) k0 bel lt0) (trodAll_cons_mk (shut_int Tryz.underlying5 w1) (trodAll_cons_mk (shut_int Tryz.underlying5 w2) (trodAll_cons_mk (shut_bool Tryz.underlying4 _) trodAll_mk0)))), rfl, bel.frame _, fun h => by cases h⟩

theorem over : Rows.takeClosedRow.holds Tryz.pinned (OpenSpec.ofChange Rows.takeClosedSpec) :=
  OpenClaim.holds_of_wide 6 Tryz.f6 rfl rfl rfl rfl rfl rfl rfl ⟨rfl, rfl, rfl, rfl, rfl⟩ rfl rfl rfl rfl rfl (by kernel_rfl) Tryz.func6 (by kernel_rfl)
    (of_decide_eq_true (by kernel_rfl)) (by unfold Func.isWrapper; first | (rw [if_pos (by decide +kernel)]; kernel_rfl) | (rw [if_neg (by decide +kernel)]; exact ⟨rfl, rfl⟩))
    (fun os started H enc _ => lifted os started H enc)

theorem proved : Rows.TakeClosedCardSaid :=
  Claim7.holds_tied_plain_at .later [] [.data] true (true, "9b8bff58fe40348fefb797c643549a366003180c2937cd5f0cb8670f9547f7cb") false
    over (fun _ h => by cases h) (by kernel_rfl) (fun _ h => by cases h) takeClosed_row_tie rfl ⟨rfl, rfl⟩ (by kernel_rfl) rfl
    (fun f fn hf hfn => by
      obtain rfl : f = 6 := Option.some.inj ((show Tryz.prog.funcNamed "coachhouse/coachhouselaw17.TakeClosed" = some 6 by kernel_rfl).symm.trans hf) |>.symm
      obtain rfl : fn = Tryz.f6 := (Option.some.inj (Tryz.func6.symm.trans hfn)).symm
      exact ⟨by kernel_rfl, fun j t ht => by
        rw [Tryz.params6] at ht
        have hm : t ∈ [50, 5, 5, 4] := by simpa using Array.mem_of_getElem? ht
        have hall : ([50, 5, 5, 4].all fun u => !Tryz.prog.wantsStandIn u) = true := by kernel_rfl
        exact (show Tryz.prog.wantsStandIn t = false by simpa using List.all_eq_true.1 hall t hm)⟩)
    (by kernel_rfl)
#print axioms proved
end Go.Proofs.YtefpoidnklflnaaGreatDoor.takeClosed

