/- Slices that a call owns, also such as begin amid a block (behind s = s[1:]); what a call may have changed, by blocks; the law of append in these words. No program is named. -/
import Derived.Test.YtokmnjepglagjaaProg
import Derived.WalkKit
import Derived.ProofKit
import Derived.ArgAppend
import Derived.OwnWalkIn
import Derived.RangeFuncOwn
import Derived.Below
namespace Go.Proofs.Ytokmnjepglagjaa.Hp
set_option linter.unusedVariables false
set_option linter.unusedSimpArgs false
open Go.RowKit

/-- The block that a slice value leads to. -/
def Fp (v : Value) (k : Nat) : Prop := ∃ a n c, v = .slice (some a) n c ∧ a.block = k

theorem fp_nil (k : Nat) : ¬ Fp (.slice none 0 0) k := by rintro ⟨a, n, c, h, _⟩; cases h
theorem fp_some (a : Addr) (n c k : Nat) : Fp (.slice (some a) n c) k ↔ a.block = k :=
  ⟨by rintro ⟨a', n', c', h, e⟩; cases h; exact e, fun h => ⟨a, n, c, rfl, h⟩⟩

/-- But for the blocks of F nothing that was there has changed. -/
structure Chg (F : Nat → Prop) (w w' : World) : Prop where
  os : w'.os = w.os
  tape : w'.tape = w.tape
  output : w'.output = w.output
  size : w.heap.size ≤ w'.heap.size
  block : ∀ k, k < w.heap.size → ¬ F k → w'.heap[k]? = w.heap[k]?

section
variable {F G : Nat → Prop} {w w' a b c : World}
theorem Chg.refl (F : Nat → Prop) (w : World) : Chg F w w := ⟨rfl, rfl, rfl, Nat.le_refl _, fun _ _ _ => rfl⟩
theorem Chg.trans (h : Chg F a b) (k : Chg G b c) (hg : ∀ i, i < a.heap.size → G i → F i) : Chg F a c :=
  ⟨k.os.trans h.os, k.tape.trans h.tape, k.output.trans h.output, Nat.le_trans h.size k.size, fun i hi hf =>
    (k.block i (Nat.lt_of_lt_of_le hi h.size) (fun hh => hf (hg i hi hh))).trans (h.block i hi hf)⟩
theorem Chg.mono (h : Chg F a b) (hg : ∀ i, i < a.heap.size → F i → G i) : Chg G a b :=
  ⟨h.os, h.tape, h.output, h.size, fun i hi hf => h.block i hi (fun hh => hf (hg i hi hh))⟩
theorem Chg.drew (h : Chg F a b) : Chg F a b.drew := ⟨h.os, h.tape, h.output, h.size, h.block⟩
theorem Chg.alloc (h : Chg F a b) (o : Obj) : Chg F a (b.alloc o) :=
  ⟨h.os, h.tape, h.output, by have := h.size; simp; omega, fun k hk hf => (Below.heap_alloc _ _ _ (Nat.lt_of_lt_of_le hk h.size)).trans (h.block k hk hf)⟩
theorem Chg.setCell (h : Chg F a b) (p : Addr) (u : Value) (hp : p.block < a.heap.size → F p.block) : Chg F a (b.setCell p u) :=
  ⟨h.os, h.tape, h.output, by have := h.size; simpa [World.setCell] using this, fun k hk hf =>
    (Below.heap_setCell _ _ _ _ (fun e => hf (by rw [e]; exact hp (by rw [← e]; exact hk)))).trans (h.block k hk hf)⟩
theorem Chg.ofBelow (h : Below w.heap.size w w') : Chg F w w' := ⟨h.os, h.tape, h.output, h.size, fun k hk _ => h.block k hk⟩
theorem Chg.below {B : Nat} (h : Chg F w w') (hB : B ≤ w.heap.size) (hF : ∀ k, F k → B ≤ k) : Below B w w' :=
  ⟨h.os, h.tape, h.output, h.size, fun k hk => h.block k (Nat.lt_of_lt_of_le hk hB) (fun hh => by have := hF k hh; omega)⟩
theorem Chg.cell (h : Chg F w w') {p : Addr} (hp : p.block < w.heap.size) (hf : ¬ F p.block) : w'.cell? p = w.cell? p := World.cell?_of_block (w := w) (h.block _ hp hf)
theorem Chg.frozen (h : Chg F w w') {p : Addr} (hp : p.block < w.heap.size) (hf : ¬ F p.block) : w'.frozen? p = w.frozen? p := World.frozen?_of_block (w := w) (h.block _ hp hf)
end

/-- A block of cells. -/
def IsC (w : World) (g : Nat) : Prop := ∃ o : Obj, w.heap[g]? = some o ∧ o.isCells = true
theorem IsC.lt {w : World} {g : Nat} (h : IsC w g) : g < w.heap.size := by obtain ⟨o, h, _⟩ := h; exact (Array.getElem?_eq_some_iff.1 h).1
theorem IsC.of_cell {w : World} {p : Addr} {v : Value} (h : w.cell? p = some v) : IsC w p.block := cells_of_cell h
theorem IsC.same {w w' : World} {g : Nat} (h : IsC w g) (e : w'.heap[g]? = w.heap[g]?) : IsC w' g := by obtain ⟨o, h1, h2⟩ := h; exact ⟨o, e.trans h1, h2⟩
theorem IsC.setCell {w : World} {g : Nat} (h : IsC w g) (p : Addr) (v : Value) : IsC (w.setCell p v) g := by
  obtain ⟨o, h1, h2⟩ := h
  by_cases e : g = p.block
  · subst e
    refine ⟨_, by simp only [World.setCell, Array.getElem?_modify, if_true, h1]; rfl, ?_⟩
    cases o <;> simp_all [Obj.isCells]
  · exact ⟨o, (Below.heap_setCell w p v g e).trans h1, h2⟩
theorem IsC.setCells {g : Nat} (b : Nat) : ∀ (vs : List Value) (o : Nat) {w : World} (h : IsC w g), IsC (w.setCells b o vs) g
  | [], _, _, h => h
  | v :: r, o, _, h => IsC.setCells b r (o + 1) (h.setCell _ _)
theorem one_new (w : World) (x : Value) (T : TypeId) : ∀ j u, [x][j]? = some u → (w.alloc (.cells #[x] T)).cell? ((⟨w.heap.size, 0, none⟩ : Addr).add j) = some u := by
  intro j u hu
  cases j with
  | zero => simp at hu; subst hu; simp [Addr.add]
  | succ j => simp at hu

/-- A slice of n elements of 'size' cells each that the call owns: its cells up to the capacity are there and not frozen; the first ones are xs. -/
def OwnS (w : World) (v : Value) (n size : Nat) (xs : List Value) : Prop :=
  xs.length = n * size ∧ ((v = .slice none 0 0 ∧ n = 0) ∨ ∃ g off cap, v = .slice (some ⟨g, off, none⟩) n cap ∧ n ≤ cap ∧ cap ≤ maxLen ∧ IsC w g ∧
    (∀ j, j < cap * size → (w.cell? ⟨g, off + j, none⟩).isSome = true) ∧ (∀ j, j < cap * size → w.frozen? ⟨g, off + j, none⟩ = false) ∧ ∀ j u, xs[j]? = some u → w.cell? ⟨g, off + j, none⟩ = some u)

section
variable {w w' : World} {v : Value} {n size : Nat} {xs : List Value}
theorem ownS_nil (w : World) (size : Nat) : OwnS w (.slice none 0 0) 0 size [] := ⟨by simp, .inl ⟨rfl, rfl⟩⟩
theorem OwnS.lt (h : OwnS w v n size xs) {k : Nat} (hk : Fp v k) : k < w.heap.size := by
  rcases h.2 with ⟨rfl, _⟩ | ⟨g, off, cap, rfl, _, _, hg, _⟩
  · exact (fp_nil _ hk).elim
  · rw [fp_some] at hk; subst hk; exact hg.lt
theorem OwnS.isC (h : OwnS w v n size xs) {k : Nat} (hk : Fp v k) : IsC w k := by
  rcases h.2 with ⟨rfl, _⟩ | ⟨g, off, cap, rfl, _, _, hg, _⟩
  · exact (fp_nil _ hk).elim
  · rw [fp_some] at hk; subst hk; exact hg
theorem OwnS.stable (h : OwnS w v n size xs) (hs : w.heap.size ≤ w'.heap.size) (hb : ∀ k, Fp v k → w'.heap[k]? = w.heap[k]?) : OwnS w' v n size xs := by
  refine ⟨h.1, ?_⟩
  rcases h.2 with h2 | ⟨g, off, cap, rfl, h1, h2, hg, h3, h4, h5⟩
  · exact .inl h2
  · have e : ∀ j, w'.cell? ⟨g, off + j, none⟩ = w.cell? ⟨g, off + j, none⟩ := fun j => World.cell?_of_block (hb g ((fp_some _ _ _ _).2 rfl))
    have f : ∀ j, w'.frozen? ⟨g, off + j, none⟩ = w.frozen? ⟨g, off + j, none⟩ := fun j => World.frozen?_of_block (hb g ((fp_some _ _ _ _).2 rfl))
    exact .inr ⟨g, off, cap, rfl, h1, h2, hg.same (hb g ((fp_some _ _ _ _).2 rfl)), fun j hj => by rw [e]; exact h3 j hj, fun j hj => by rw [f]; exact h4 j hj, fun j u hu => by rw [e]; exact h5 j u hu⟩
theorem OwnS.chg {F : Nat → Prop} (h : OwnS w v n size xs) (hc : Chg F w w') (hf : ∀ k, Fp v k → ¬ F k) : OwnS w' v n size xs :=
  h.stable hc.size fun k hk => hc.block k (h.lt hk) (hf k hk)
theorem OwnS.alloc (h : OwnS w v n size xs) (o : Obj) : OwnS (w.alloc o) v n size xs :=
  h.chg (F := fun _ => False) ((Chg.refl _ _).alloc o) (fun _ _ => id)
theorem OwnS.drew (h : OwnS w v n size xs) : OwnS w.drew v n size xs := h.stable (Nat.le_refl _) fun _ _ => rfl
theorem OwnS.len (h : OwnS w v n size xs) : n ≤ 9223372036854775807 := by
  rcases h.2 with ⟨_, rfl⟩ | ⟨g, off, cap, rfl, h1, h2, _⟩
  · omega
  · unfold maxLen at h2; omega
/-- The value written out. -/
theorem OwnS.form (h : OwnS w v n size xs) : ∃ a c, v = .slice a n c := by
  rcases h.2 with ⟨rfl, rfl⟩ | ⟨g, off, cap, rfl, _⟩
  · exact ⟨_, _, rfl⟩
  · exact ⟨_, _, rfl⟩
/-- Where there is something, its place and its cells. -/
theorem OwnS.some (h : OwnS w v n size xs) (h0 : 0 < n) : ∃ g off cap, v = .slice (some ⟨g, off, none⟩) n cap ∧ n ≤ cap ∧ cap ≤ maxLen ∧ IsC w g ∧
    (∀ j, j < cap * size → (w.cell? ⟨g, off + j, none⟩).isSome = true) ∧ (∀ j, j < cap * size → w.frozen? ⟨g, off + j, none⟩ = false) ∧ ∀ j u, xs[j]? = some u → w.cell? ⟨g, off + j, none⟩ = some u := by
  rcases h.2 with ⟨_, rfl⟩ | r
  · omega
  · exact r
end

theorem ownS_of_row {w : World} {base : Nat} {e : TypeId} {size : Nat} {v : Value} {n : Nat} {xs : List Value} (h : w.ownsRow base e size v n xs) : OwnS w v n size xs := by
  refine ⟨h.1, ?_⟩
  rcases h.2 with h2 | ⟨g, cap, cur, rfl, hb, hg, h1, h2, h3, h4⟩
  · exact .inl h2
  · have hc : ∀ j, w.cell? ⟨g, 0 + j, none⟩ = cur[j]? := fun j => by rw [Nat.zero_add]; exact cell_of_row w g j cur e (0, 0) hg
    refine .inr ⟨g, 0, cap, rfl, h1, h2, ⟨_, hg, rfl⟩, fun j hj => ?_, fun j hj => ?_, fun j u hu => ?_⟩
    · rw [hc, Array.getElem?_eq_getElem (by omega)]; rfl
    · simp [World.frozen?, hg]
    · rw [hc]
      rw [← h4, List.getElem?_take] at hu
      split at hu
      · simpa using hu
      · cases hu

theorem chg_of_grownBy {w w' : World} {r : Option Nat} (h : w.grownBy w' r) : Chg (fun k => r = some k) w w' :=
  ⟨h.os, h.tape, h.output, h.size, fun k hk hf => h.block k hk (fun e => hf e.symm)⟩

theorem chg_setCells (b : Nat) : ∀ (vs : List Value) (o : Nat) (w : World), Chg (fun k => k = b) w (w.setCells b o vs)
  | [], _, w => Chg.refl _ w
  | v :: r, o, w => Chg.trans (G := fun k => k = b) ((Chg.refl _ w).setCell ⟨b, o, none⟩ v (fun _ => rfl)) (chg_setCells b r (o + 1) _) (fun _ _ h => h)

theorem run_append {P : Program} (w : World) (t ty e : TypeId) (i : TypeInfo) (z : Value) (size bytes : Nat) (h1 : P.underlying t = some (.slice e)) (h2 : P.info? e = some i) (h3 : i.zero = some z) (h4 : i.size = size) (h5 : i.bytes = bytes) (h6 : z.cells.size = size) (h7 : 0 < size)
    (v : Value) (n : Nat) (xs : List Value) (hown : OwnS w v n size xs)
    (ad : Addr) (m c : Nat) (news : List Value) (hn : news.length = m * size) (hc : ∀ j u, news[j]? = some u → w.cell? (ad.add j) = some u) (h1c : ∀ u ∈ news, u.oneCell' = true)
    (b1 : n + m ≤ maxLen) (b2 : (n + m) * bytes ≤ 140737488355328) :
    ∃ a' c' w', (Builtin.append_ #[t, t] ty #[v, .slice (some ad) m c]).run P w = .ok (.slice a' (n + m) c') w' ∧ OwnS w' (.slice a' (n + m) c') (n + m) size (xs ++ news) ∧
      (∀ k, Fp (.slice a' (n + m) c') k → Fp v k ∨ w.heap.size ≤ k) ∧ Chg (Fp v) w w' := by
  have fin : ∀ (v' : Value) (w' : World), w'.ownsRow w.heap.size e size v' (n + m) (xs ++ news) → w.grownBy w' none → ∃ a' c', v' = .slice a' (n + m) c' ∧ OwnS w' (.slice a' (n + m) c') (n + m) size (xs ++ news) ∧
      (∀ k, Fp (.slice a' (n + m) c') k → Fp v k ∨ w.heap.size ≤ k) ∧ Chg (Fp v) w w' := by
    intro v' w' ho hgr
    have hO := ownS_of_row ho
    obtain ⟨a', c', rfl⟩ := hO.form
    refine ⟨a', c', rfl, hO, fun k hk => .inr ?_, (chg_of_grownBy hgr).mono (fun k _ h => by cases h)⟩
    rcases hk with ⟨aa, n1, c1, hv, he⟩
    cases hv
    exact (ho.lt k (by simp [Value.ownBlock, he])).1
  rcases hown.2 with ⟨rfl, rfl⟩ | ⟨g, off, cap, rfl, hn1, hc1, hgs, h8, h9, h10⟩
  · obtain rfl : xs = [] := List.eq_nil_of_length_eq_zero (by simpa using hown.1)
    obtain ⟨v', w', hrun, r1, r2, _⟩ := run_append_own (P := P) w w.heap.size t ty e i z size bytes h1 h2 h3 h4 h5 h6 h7 (.slice none 0 0) 0 [] (World.ownsRow_nil w _ e size) ad m c news hn hc h1c b1 b2 (Nat.le_refl _)
    obtain ⟨a', c', rfl, q⟩ := fin v' w' r1 r2
    exact ⟨a', c', w', hrun, q⟩
  · by_cases hr : n + m ≤ cap
    · subst h4
      have hle : n * i.size + m * i.size ≤ cap * i.size := by rw [← Nat.add_mul]; exact Nat.mul_le_mul_right _ hr
      have hsp : ∀ j, j < news.length → (w.cell? ⟨g, off + n * i.size + j, none⟩).isSome = true ∧ w.frozen? ⟨g, off + n * i.size + j, none⟩ = false := by
        intro j hj
        have q1 := h8 (n * i.size + j) (by omega)
        have q2 := h9 (n * i.size + j) (by omega)
        rw [← Nat.add_assoc] at q1 q2
        exact ⟨q1, q2⟩
      have hrun := run_append_room_cells (P := P) w t ty e i h1 h2 g off n cap ad m c news hn hc h1c hr (fun j hj => (hsp j hj).1) (fun j hj => (hsp j hj).2)
      have hch := chg_setCells g news (off + n * i.size) w
      refine ⟨_, _, _, hrun, ⟨by rw [List.length_append, hown.1, hn, Nat.add_mul], .inr ⟨g, off, cap, rfl, hr, hc1, hgs.setCells g news _, fun j hj => ?_, fun j hj => ?_, fun j u hu => ?_⟩⟩, fun k hk => .inl ?_, hch.mono fun k _ h => (fp_some _ _ _ _).2 h.symm⟩
      · by_cases hin : n * i.size ≤ j ∧ j < n * i.size + news.length
        · have hh := World.cell?_setCells_in g news (off + n * i.size) w (fun q hq => by
            have := h8 (n * i.size + q) (by omega)
            rw [← Nat.add_assoc] at this
            exact this) (j - n * i.size) (by omega)
          rw [show off + n * i.size + (j - n * i.size) = off + j by omega] at hh
          rw [hh]; rfl
        · rw [World.cell?_setCells_out g news (off + n * i.size) w ⟨g, off + j, none⟩ (fun _ _ => by simp only; omega)]
          exact h8 j hj
      · rw [World.frozen?_setCells]; exact h9 j hj
      · rw [List.getElem?_append] at hu
        have hxl := hown.1
        split at hu
        · rename_i hlt
          rw [World.cell?_setCells_out g news (off + n * i.size) w ⟨g, off + j, none⟩ (fun _ _ => by simp only; omega)]
          exact h10 j u hu
        · rename_i hlt
          have hj2 : j - xs.length < news.length := (List.getElem?_eq_some_iff.1 hu).1
          have hh := World.cell?_setCells_in g news (off + n * i.size) w (fun q hq => by
            have := h8 (n * i.size + q) (by omega)
            rw [← Nat.add_assoc] at this
            exact this) (j - xs.length) hj2
          rw [show off + n * i.size + (j - xs.length) = off + j by omega] at hh
          rw [hh, ← hu, List.getElem?_eq_getElem hj2]
      · rw [fp_some] at hk ⊢; exact hk
    · obtain ⟨v', w', hrun, r1, r2⟩ := run_append_arg_grows (P := P) w t ty e i z size bytes h1 h2 h3 h4 h5 h6 h7 ⟨g, off, none⟩ n cap xs hown.1 (fun j u hj => by rw [Addr.add_lit]; exact h10 j u hj) ad m c news hn hc (by omega) b1 b2
      obtain ⟨a', c', rfl, q⟩ := fin v' w' r1 r2
      exact ⟨a', c', w', hrun, q⟩

theorem wpList_append {P : Program} (w : World) {ops : Array Oper} {rest : List Oper} {o : Oper} {a : Act} {Q : Exit → Act → World → Prop}
    (hg : o.guard = none) (s x : Operand) (t : TypeId) (hop : o.op = Op.call { callee := Callee.builtin Builtin.append, args := #[s, x], argTypes := #[t, t] })
    (e : TypeId) (i : TypeInfo) (z : Value) (size bytes : Nat) (h1 : P.underlying t = some (.slice e)) (h2 : P.info? e = some i) (h3 : i.zero = some z) (h4 : i.size = size) (h5 : i.bytes = bytes) (h6 : z.cells.size = size) (h7 : 0 < size)
    (v : Value) (n : Nat) (xs : List Value) (hs : a.eval s = v) (hown : OwnS w v n size xs)
    (ad : Addr) (m c : Nat) (news : List Value) (hx : a.eval x = .slice (some ad) m c) (hn : news.length = m * size) (hc : ∀ j u, news[j]? = some u → w.cell? (ad.add j) = some u) (h1c : ∀ u ∈ news, u.oneCell' = true)
    (b1 : n + m ≤ maxLen) (b2 : (n + m) * bytes ≤ 140737488355328)
    (hK : ∀ a' c' w', OwnS w' (.slice a' (n + m) c') (n + m) size (xs ++ news) → (∀ k, Fp (.slice a' (n + m) c') k → Fp v k ∨ w.heap.size ≤ k) → Chg (Fp v) w w' → wpList P ops Q rest (a.put o.dst (.slice a' (n + m) c')) w') :
    wpList P ops Q (o :: rest) a w := by
  refine wpList_plain hg fun K hK' => ?_
  obtain ⟨a', c', w', hrun, r1, r2, r3⟩ := run_append (P := P) w t o.type e i z size bytes h1 h2 h3 h4 h5 h6 h7 v n xs hown ad m c news hn hc h1c b1 b2
  unfold Oper.wp
  simp [execOp, hop, resolve, invoke, builtin, hs, hx, hrun, Result.andThen]
  exact hK' _ _ (hK a' c' w' r1 r2 r3)

theorem wpListIn_append {F : Fence} {d : Nat} {P : Program} (w : World) {ops : Array Oper} {rest : List Oper} {o : Oper} {a : Act} {Q : Exit → Act → World → Prop}
    (hg : o.guard = none) (s x : Operand) (t : TypeId) (hop : o.op = Op.call { callee := Callee.builtin Builtin.append, args := #[s, x], argTypes := #[t, t] })
    (e : TypeId) (i : TypeInfo) (z : Value) (size bytes : Nat) (h1 : P.underlying t = some (.slice e)) (h2 : P.info? e = some i) (h3 : i.zero = some z) (h4 : i.size = size) (h5 : i.bytes = bytes) (h6 : z.cells.size = size) (h7 : 0 < size)
    (v : Value) (n : Nat) (xs : List Value) (hs : a.eval s = v) (hown : OwnS w v n size xs)
    (ad : Addr) (m c : Nat) (news : List Value) (hx : a.eval x = .slice (some ad) m c) (hn : news.length = m * size) (hc : ∀ j u, news[j]? = some u → w.cell? (ad.add j) = some u) (h1c : ∀ u ∈ news, u.oneCell' = true)
    (b1 : n + m ≤ maxLen) (b2 : (n + m) * bytes ≤ 140737488355328)
    (hK : ∀ a' c' w', OwnS w' (.slice a' (n + m) c') (n + m) size (xs ++ news) → (∀ k, Fp (.slice a' (n + m) c') k → Fp v k ∨ w.heap.size ≤ k) → Chg (Fp v) w w' → wpListIn F d P ops Q rest (a.put o.dst (.slice a' (n + m) c')) w') :
    wpListIn F d P ops Q (o :: rest) a w := by
  refine wpListIn_plain hg fun K hK' => ?_
  obtain ⟨a', c', w', hrun, r1, r2, r3⟩ := run_append (P := P) w t o.type e i z size bytes h1 h2 h3 h4 h5 h6 h7 v n xs hown ad m c news hn hc h1c b1 b2
  unfold Oper.wpIn
  refine ⟨?_, ?_⟩
  · simp [Oper.about, hop, resolve, Target.leads, Sem.run_pure]
  · rw [Oper.semAt_plain F _ _ (by rw [hop]; intro c hc'; cases hc')]
    simp [execOp, hop, resolve, invoke, builtin, hs, hx, hrun, Result.andThen]
    exact hK' _ _ (hK a' c' w' r1 r2 r3)

/-- A slice that reads as xs (one cell an element). -/
def SliceAt (w : World) (v : Value) (xs : List Value) : Prop :=
  ∃ a c, v = .slice a xs.length c ∧ xs.length ≤ maxLen ∧ (xs = [] ∨ ∃ g off, a = some ⟨g, off, none⟩ ∧ ∀ j u, xs[j]? = some u → w.cell? ⟨g, off + j, none⟩ = some u)

theorem OwnS.at {w : World} {v : Value} {n : Nat} {xs : List Value} (h : OwnS w v n 1 xs) : SliceAt w v xs := by
  obtain ⟨h1, h2⟩ := h
  obtain rfl : xs.length = n := by omega
  rcases h2 with ⟨rfl, h0⟩ | ⟨g, off, cap, rfl, a1, a2, a3, a4, a5, a6⟩
  · obtain rfl : xs = [] := List.eq_nil_of_length_eq_zero h0
    exact ⟨none, 0, rfl, by simp, .inl rfl⟩
  · exact ⟨_, cap, rfl, Nat.le_trans a1 a2, .inr ⟨g, off, rfl, a6⟩⟩

theorem SliceAt.stable {w w' : World} {v : Value} {xs : List Value} (h : SliceAt w v xs) (hb : ∀ p u, w.cell? p = some u → w'.cell? p = some u) : SliceAt w' v xs := by
  obtain ⟨a, c, rfl, h1, h2⟩ := h
  refine ⟨a, c, rfl, h1, h2.imp id ?_⟩
  rintro ⟨g, off, rfl, h3⟩
  exact ⟨g, off, rfl, fun j u hu => hb _ _ (h3 j u hu)⟩
theorem SliceAt.below {w w' : World} {v : Value} {xs : List Value} (h : SliceAt w v xs) (hb : Below w.heap.size w w') : SliceAt w' v xs := h.stable fun p u hp => (hb.cell (World.block_lt_of_cell? _ _ hp)).trans hp
/-- s[k:] of one that reads as xs. -/
theorem slice_drop_eq (a : Option Addr) (n c k : Nat) (xs : List Value) (w : World) (h : SliceAt w (.slice a n c) xs) (hk : k ≤ n) (hc : n ≤ c) :
    SliceAt w (.slice (if c = k then a else a.map (·.add (k * 1))) (n - k) (c - k)) (xs.drop k) := by
  obtain ⟨a', c', he, h1, h2⟩ := h
  cases he
  refine ⟨_, _, by rw [List.length_drop], by simp; omega, ?_⟩
  by_cases hd : xs.drop k = []
  · exact .inl hd
  · right
    have hlt : k < xs.length := by
      rcases Nat.lt_or_ge k xs.length with h | h
      · exact h
      · exact absurd (List.drop_of_length_le h) hd
    rcases h2 with rfl | ⟨g, off, rfl, h3⟩
    · simp at hlt
    · refine ⟨g, off + k, ?_, fun j u hu => ?_⟩
      · rw [if_neg (by omega)]
        simp [Addr.add_lit]
      · rw [List.getElem?_drop] at hu
        rw [Nat.add_assoc]; exact h3 _ _ hu
/-- s[:m] of one that reads as xs. -/
theorem SliceAt.take {w : World} {a : Option Addr} {n c c' m : Nat} {xs : List Value} (h : SliceAt w (.slice a n c) xs) (hm : m ≤ n) : SliceAt w (.slice a m c') (xs.take m) := by
  obtain ⟨a', c', he, h1, h2⟩ := h
  cases he
  refine ⟨a, _, by rw [List.length_take, Nat.min_eq_left hm], by simp; omega, ?_⟩
  rcases h2 with rfl | ⟨g, off, rfl, h3⟩
  · exact .inl (by simp)
  · exact .inr ⟨g, off, rfl, fun j u hu => h3 j u (by rw [List.getElem?_take] at hu; split at hu <;> simp_all)⟩

end Go.Proofs.Ytokmnjepglagjaa.Hp
