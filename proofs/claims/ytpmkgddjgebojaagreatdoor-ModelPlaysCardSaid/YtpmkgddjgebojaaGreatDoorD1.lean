/- Part 1 of the walks over the program's functions, and of the plain laws, that the claim's last text joins. -/
import Derived.Test.YtpmkgddjgebojaaGreatDoorProg
import Derived.WalkKit
import Derived.ProofKit
import Derived.ArgAppend
import Derived.OwnWalkIn
import Derived.RangeFuncOwn
import Derived.Below
import Derived.OpenShut
import Derived.SliceStrings
import Derived.Deep.Grids
import Derived.Lib.Hide
import Derived.Deep.RegionHeld3
import Derived.RangeFuncNested
import Derived.RangeFuncBound
import Derived.RangeFuncCalls
import Derived.RangeFuncLeaves
import Derived.Shelf.Abstract
import Derived.Shelf.RegionOpen
import Derived.TacticsInMore
import Derived.LoopNIn
import Derived.LoopIn
import Derived.Deep.QuietTactic
import Derived.BigQuiet
import Derived.Laws.Rows
import Derived.Laws.StructEq
import Derived.Laws.Small
import Derived.Deep.MidRow
import Derived.Deep.WholeRow
import Derived.Laws.Tables
import Derived.Laws.ResultCell
import Derived.Laws.CopyOwn
import Derived.Deep.RegionWith
import Derived.Laws.EntriesVeiled
import Derived.MapKept
import Derived.Carry
set_option maxRecDepth 100000
set_option maxHeartbeats 16000000
set_option linter.unusedVariables false
set_option linter.unusedSimpArgs false
namespace Go.Proofs.YtpmkgddjgebojaaGreatDoor
open Go.RowKit
abbrev _root_.Go.Value.i (n : Int) : Value := .int .i64 n
abbrev Zv : Array Value := #[.bool false, .i 0, .i 0, .i 0, .i 0, .bool false, .bool false, .i 0, .i 0, .i 0, .i 0, .i 0, .i 0, .i 0, .i 0, .i 0, .i 0, .i 0]
abbrev Zw : Array Value := #[.bool false, .bool false, .i 0, .i 0, .i 0, .bool false, .bool false, .i 0, .i 0, .i 0]
abbrev Zs : Array Value := #[.i 0, .i 0, .i 0, .bool false, .bool false, .i 0, .i 0, .i 0, .i 0]
abbrev Zf : Array Value := #[.bool false, .i 0, .i 0, .i 0, .i 0, .bool false, .bool false, .i 0, .i 0, .i 0, .i 4, .i 0, .i 0, .i 0, .i 0, .i 0, .i 0, .i 0]
abbrev Zg : Array Value := #[.bool false, .i 0, .i 0, .i 0, .i 0, .bool false, .bool false, .i 0, .i 0, .i 0, .i 5, .i 0, .i 0, .i 0, .i 0, .i 0, .i 0, .i 0]
abbrev Aa (x0 : Int) (x1 : Int) (x2 : Int) (x3 : Int) (x4 : Int) : Array Value := #[.i x0, .i x1, .i x2, .i x3, .i x4]
abbrev Ab (x0 : Int) (x1 : Int) (x2 : Int) (x3 : Int) (x4 : Bool) (x5 : Bool) (x6 : Int) (x7 : Int) (x8 : Int) (x9 : Int) (x10 : Bool) : Array Value := #[.i x0, .i x1, .i x2, .i x3, .bool x4, .bool x5, .i x6, .i x7, .i x8, .i x9, .bool x10]
abbrev Ac (x0 : Int) (x1 : Int) (x2 : Int) (x3 : Bool) (x4 : Bool) (x5 : Int) (x6 : Int) (x7 : Int) (x8 : Int) : Array Value := #[.i x0, .i x1, .i x2, .bool x3, .bool x4, .i x5, .i x6, .i x7, .i x8]
abbrev Ad (x0 : Int) (x1 : Int) (x2 : Bool) (x3 : Bool) (x4 : Int) (x5 : Int) (x6 : Int) : Array Value := #[.i x0, .i x1, .bool x2, .bool x3, .i x4, .i x5, .i x6]
abbrev Ae (x0 : Int) (x1 : Int) (x2 : Int) (x3 : Bool) (x4 : Bool) (x5 : Int) (x6 : Int) (x7 : Int) (x8 : Int) (x9 : Int) (x10 : Int) : Array Value := #[.i x0, .i x1, .i x2, .bool x3, .bool x4, .i x5, .i x6, .i x7, .i x8, .i x9, .i x10]
abbrev Af (x0 : Int) (x1 : Int) (x2 : Int) (x3 : Int) (x4 : Int) (x5 : Int) (x6 : Int) (x7 : Int) (x8 : Int) (x9 : Int) (x10 : Int) (x11 : Int) (x12 : Int) (x13 : Int) (x14 : Int) (x15 : Int) (x16 : Int) (x17 : Int) : Array Value := #[.i x0, .i x1, .i x2, .i x3, .i x4, .i x5, .i x6, .i x7, .i x8, .i x9, .i x10, .i x11, .i x12, .i x13, .i x14, .i x15, .i x16, .i x17]
abbrev Ag (x0 : Int) (x1 : Int) (x2 : Int) (x3 : Int) (x4 : Int) (x5 : Int) (x6 : Int) (x7 : Int) (x8 : Int) : Array Value := #[.i x0, .i x1, .i x2, .i x3, .i x4, .i x5, .i x6, .i x7, .i x8]
abbrev Ah (x0 : Bool) (x1 : Int) (x2 : Int) (x3 : Int) (x4 : Int) (x5 : Bool) (x6 : Bool) (x7 : Int) (x8 : Int) (x9 : Int) (x10 : Int) (x11 : Int) (x12 : Int) (x13 : Int) (x14 : Int) (x15 : Int) (x16 : Int) (x17 : Int) : Array Value := #[.bool x0, .i x1, .i x2, .i x3, .i x4, .bool x5, .bool x6, .i x7, .i x8, .i x9, .i x10, .i x11, .i x12, .i x13, .i x14, .i x15, .i x16, .i x17]
abbrev Ai (x0 : Bool) (x1 : Bool) (x2 : Int) (x3 : Int) (x4 : Int) (x5 : Bool) (x6 : Bool) (x7 : Int) (x8 : Int) (x9 : Int) : Array Value := #[.bool x0, .bool x1, .i x2, .i x3, .i x4, .bool x5, .bool x6, .i x7, .i x8, .i x9]
end Go.Proofs.YtpmkgddjgebojaaGreatDoor
namespace Go.Proofs.YtpmkgddjgebojaaGreatDoor.Hp
open Go.RowKit
def Fp (v : Value) (k : Nat) : Prop := ∃ a n c, v = .slice (some a) n c ∧ a.block = k
theorem fp_nil (k : Nat) : ¬ Fp (.slice none 0 0) k := by rintro ⟨a, n, c, h, _⟩; cases h
theorem fp_some (a : Addr) (n c k : Nat) : Fp (.slice (some a) n c) k ↔ a.block = k :=
 ⟨by rintro ⟨a', n', c', h, e⟩; cases h; exact e, fun h => ⟨a, n, c, rfl, h⟩⟩
structure Chg (F : Nat → Prop) (w w' : World) : Prop where
 os : w'.os = w.os
 tape : w'.tape = w.tape
 output : w'.output = w.output
 size : w.heap.size ≤ w'.heap.size
 block : ∀ k, k < w.heap.size → ¬ F k → w'.heap[k]? = w.heap[k]?
section
variable {F G : Nat → Prop} {w w' a b c : World}
theorem Chg.refl (F : Nat → Prop) (w : World) : Chg F w w := ⟨rfl, rfl, rfl, Nat.le_refl _, fun _ _ _ => rfl⟩
theorem Chg.trans (h : Chg F a b) (k : Chg G b c) (hg : ∀ i, i < a.heap.size → G i → F i) : Chg F a c :=
 ⟨k.os.trans h.os, k.tape.trans h.tape, k.output.trans h.output, Nat.le_trans h.size k.size, fun i hi hf =>
  (k.block i (Nat.lt_of_lt_of_le hi h.size) (fun hh => hf (hg i hi hh))).trans (h.block i hi hf)⟩
theorem Chg.mono (h : Chg F a b) (hg : ∀ i, i < a.heap.size → F i → G i) : Chg G a b :=
 ⟨h.os, h.tape, h.output, h.size, fun i hi hf => h.block i hi (fun hh => hf (hg i hi hh))⟩
theorem Chg.drew (h : Chg F a b) : Chg F a b.drew := ⟨h.os, h.tape, h.output, h.size, h.block⟩
theorem Chg.alloc (h : Chg F a b) (o : Obj) : Chg F a (b.alloc o) :=
 ⟨h.os, h.tape, h.output, by have := h.size; simp; omega, fun k hk hf => (Below.heap_alloc _ _ _ (Nat.lt_of_lt_of_le hk h.size)).trans (h.block k hk hf)⟩
theorem Chg.setCell (h : Chg F a b) (p : Addr) (u : Value) (hp : p.block < a.heap.size → F p.block) : Chg F a (b.setCell p u) :=
 ⟨h.os, h.tape, h.output, by have := h.size; simpa [World.setCell] using this, fun k hk hf =>
  (Below.heap_setCell _ _ _ _ (fun e => hf (by rw [e]; exact hp (by rw [← e]; exact hk)))).trans (h.block k hk hf)⟩
theorem Chg.ofBelow (h : Below w.heap.size w w') : Chg F w w' := ⟨h.os, h.tape, h.output, h.size, fun k hk _ => h.block k hk⟩
theorem Chg.below {B : Nat} (h : Chg F w w') (hB : B ≤ w.heap.size) (hF : ∀ k, F k → B ≤ k) : Below B w w' :=
 ⟨h.os, h.tape, h.output, h.size, fun k hk => h.block k (Nat.lt_of_lt_of_le hk hB) (fun hh => by have := hF k hh; omega)⟩
theorem Chg.cell (h : Chg F w w') {p : Addr} (hp : p.block < w.heap.size) (hf : ¬ F p.block) : w'.cell? p = w.cell? p := World.cell?_of_block (w := w) (h.block _ hp hf)
theorem Chg.frozen (h : Chg F w w') {p : Addr} (hp : p.block < w.heap.size) (hf : ¬ F p.block) : w'.frozen? p = w.frozen? p := World.frozen?_of_block (w := w) (h.block _ hp hf)
end
def IsC (w : World) (g : Nat) : Prop := ∃ o : Obj, w.heap[g]? = some o ∧ o.isCells = true
theorem IsC.lt {w : World} {g : Nat} (h : IsC w g) : g < w.heap.size := by obtain ⟨o, h, _⟩ := h; exact (Array.getElem?_eq_some_iff.1 h).1
theorem IsC.same {w w' : World} {g : Nat} (h : IsC w g) (e : w'.heap[g]? = w.heap[g]?) : IsC w' g := by obtain ⟨o, h1, h2⟩ := h; exact ⟨o, e.trans h1, h2⟩
theorem IsC.setCell {w : World} {g : Nat} (h : IsC w g) (p : Addr) (v : Value) : IsC (w.setCell p v) g := by
 obtain ⟨o, h1, h2⟩ := h
 by_cases e : g = p.block
 ·subst e
  refine ⟨_, by simp only [World.setCell, Array.getElem?_modify, if_true, h1]; rfl, ?_⟩
  cases o <;> simp_all [Obj.isCells]
 ·exact ⟨o, (Below.heap_setCell w p v g e).trans h1, h2⟩
theorem IsC.setCells {g : Nat} (b : Nat) : ∀ (vs : List Value) (o : Nat) {w : World} (h : IsC w g), IsC (w.setCells b o vs) g
 | [], _, _, h => h
 | v :: r, o, _, h => IsC.setCells b r (o + 1) (h.setCell _ _)
theorem one_new (w : World) (x : Value) (T : TypeId) : ∀ j u, [x][j]? = some u → (w.alloc (.cells #[x] T)).cell? ((⟨w.heap.size, 0, none⟩ : Addr).add j) = some u := by
 intro j u hu
 cases j with
 | zero => simp at hu; subst hu; simp [Addr.add]
 | succ j => simp at hu
def OwnS (w : World) (v : Value) (n size : Nat) (xs : List Value) : Prop :=
 xs.length = n * size ∧ ((v = .slice none 0 0 ∧ n = 0) ∨ ∃ g off cap, v = .slice (some ⟨g, off, none⟩) n cap ∧ n ≤ cap ∧ cap ≤ maxLen ∧ IsC w g ∧
  (∀ j, j < cap * size → (w.cell? ⟨g, off + j, none⟩).isSome = true) ∧ (∀ j, j < cap * size → w.frozen? ⟨g, off + j, none⟩ = false) ∧ ∀ j u, xs[j]? = some u → w.cell? ⟨g, off + j, none⟩ = some u)
section
variable {w w' : World} {v : Value} {n size : Nat} {xs : List Value}
theorem ownS_nil (w : World) (size : Nat) : OwnS w (.slice none 0 0) 0 size [] := ⟨by simp, .inl ⟨rfl, rfl⟩⟩
theorem OwnS.lt (h : OwnS w v n size xs) {k : Nat} (hk : Fp v k) : k < w.heap.size := by
 rcases h.2 with ⟨rfl, _⟩ | ⟨g, off, cap, rfl, _, _, hg, _⟩
 ·exact (fp_nil _ hk).elim
 ·rw [fp_some] at hk; subst hk; exact hg.lt
theorem OwnS.isC (h : OwnS w v n size xs) {k : Nat} (hk : Fp v k) : IsC w k := by
 rcases h.2 with ⟨rfl, _⟩ | ⟨g, off, cap, rfl, _, _, hg, _⟩
 ·exact (fp_nil _ hk).elim
 ·rw [fp_some] at hk; subst hk; exact hg
theorem OwnS.stable (h : OwnS w v n size xs) (hs : w.heap.size ≤ w'.heap.size) (hb : ∀ k, Fp v k → w'.heap[k]? = w.heap[k]?) : OwnS w' v n size xs := by
 refine ⟨h.1, ?_⟩
 rcases h.2 with h2 | ⟨g, off, cap, rfl, h1, h2, hg, h3, h4, h5⟩
 ·exact .inl h2
 ·have e : ∀ j, w'.cell? ⟨g, off + j, none⟩ = w.cell? ⟨g, off + j, none⟩ := fun j => World.cell?_of_block (hb g ((fp_some _ _ _ _).2 rfl))
  have f : ∀ j, w'.frozen? ⟨g, off + j, none⟩ = w.frozen? ⟨g, off + j, none⟩ := fun j => World.frozen?_of_block (hb g ((fp_some _ _ _ _).2 rfl))
  exact .inr ⟨g, off, cap, rfl, h1, h2, hg.same (hb g ((fp_some _ _ _ _).2 rfl)), fun j hj => by rw [e]; exact h3 j hj, fun j hj => by rw [f]; exact h4 j hj, fun j u hu => by rw [e]; exact h5 j u hu⟩
theorem OwnS.chg {F : Nat → Prop} (h : OwnS w v n size xs) (hc : Chg F w w') (hf : ∀ k, Fp v k → ¬ F k) : OwnS w' v n size xs :=
 h.stable hc.size fun k hk => hc.block k (h.lt hk) (hf k hk)
theorem OwnS.alloc (h : OwnS w v n size xs) (o : Obj) : OwnS (w.alloc o) v n size xs :=
 h.chg (F := fun _ => False) ((Chg.refl _ _).alloc o) (fun _ _ => id)
theorem OwnS.drew (h : OwnS w v n size xs) : OwnS w.drew v n size xs := h.stable (Nat.le_refl _) fun _ _ => rfl
theorem OwnS.len (h : OwnS w v n size xs) : n ≤ 9223372036854775807 := by
 rcases h.2 with ⟨_, rfl⟩ | ⟨g, off, cap, rfl, h1, h2, _⟩
 ·omega
 ·unfold maxLen at h2; omega
theorem OwnS.form (h : OwnS w v n size xs) : ∃ a c, v = .slice a n c := by
 rcases h.2 with ⟨rfl, rfl⟩ | ⟨g, off, cap, rfl, _⟩
 ·exact ⟨_, _, rfl⟩
 ·exact ⟨_, _, rfl⟩
theorem OwnS.some (h : OwnS w v n size xs) (h0 : 0 < n) : ∃ g off cap, v = .slice (some ⟨g, off, none⟩) n cap ∧ n ≤ cap ∧ cap ≤ maxLen ∧ IsC w g ∧
  (∀ j, j < cap * size → (w.cell? ⟨g, off + j, none⟩).isSome = true) ∧ (∀ j, j < cap * size → w.frozen? ⟨g, off + j, none⟩ = false) ∧ ∀ j u, xs[j]? = some u → w.cell? ⟨g, off + j, none⟩ = some u := by
 rcases h.2 with ⟨_, rfl⟩ | r
 ·omega
 ·exact r
end
theorem ownS_of_row {w : World} {base : Nat} {e : TypeId} {size : Nat} {v : Value} {n : Nat} {xs : List Value} (h : w.ownsRow base e size v n xs) : OwnS w v n size xs := by
 refine ⟨h.1, ?_⟩
 rcases h.2 with h2 | ⟨g, cap, cur, rfl, hb, hg, h1, h2, h3, h4⟩
 ·exact .inl h2
 ·have hc : ∀ j, w.cell? ⟨g, 0 + j, none⟩ = cur[j]? := fun j => by rw [Nat.zero_add]; exact cell_of_row w g j cur e (0, 0) hg
  refine .inr ⟨g, 0, cap, rfl, h1, h2, ⟨_, hg, rfl⟩, fun j hj => ?_, fun j hj => ?_, fun j u hu => ?_⟩
  ·rw [hc, Array.getElem?_eq_getElem (by omega)]; rfl
  ·simp [World.frozen?, hg]
  ·rw [hc]
   rw [← h4, List.getElem?_take] at hu
   split at hu
   ·simpa using hu
   ·cases hu
theorem chg_of_grownBy {w w' : World} {r : Option Nat} (h : w.grownBy w' r) : Chg (fun k => r = some k) w w' :=
 ⟨h.os, h.tape, h.output, h.size, fun k hk hf => h.block k hk (fun e => hf e.symm)⟩
theorem chg_setCells (b : Nat) : ∀ (vs : List Value) (o : Nat) (w : World), Chg (fun k => k = b) w (w.setCells b o vs)
 | [], _, w => Chg.refl _ w
 | v :: r, o, w => Chg.trans (G := fun k => k = b) ((Chg.refl _ w).setCell ⟨b, o, none⟩ v (fun _ => rfl)) (chg_setCells b r (o + 1) _) (fun _ _ h => h)
theorem run_append {P : Program} (w : World) (t ty e : TypeId) (i : TypeInfo) (z : Value) (size bytes : Nat) (h1 : P.underlying t = some (.slice e)) (h2 : P.info? e = some i) (h3 : i.zero = some z) (h4 : i.size = size) (h5 : i.bytes = bytes) (h6 : z.cells.size = size) (h7 : 0 < size)
  (v : Value) (n : Nat) (xs : List Value) (hown : OwnS w v n size xs)
  (ad : Addr) (m c : Nat) (news : List Value) (hn : news.length = m * size) (hc : ∀ j u, news[j]? = some u → w.cell? (ad.add j) = some u) (h1c : ∀ u ∈ news, u.oneCell' = true)
  (b1 : n + m ≤ maxLen) (b2 : (n + m) * bytes ≤ 140737488355328) :
  ∃ a' c' w', (Builtin.append_ #[t, t] ty #[v, .slice (some ad) m c]).run P w = .ok (.slice a' (n + m) c') w' ∧ OwnS w' (.slice a' (n + m) c') (n + m) size (xs ++ news) ∧
   (∀ k, Fp (.slice a' (n + m) c') k → Fp v k ∨ w.heap.size ≤ k) ∧ Chg (Fp v) w w' := by
 have fin : ∀ (v' : Value) (w' : World), w'.ownsRow w.heap.size e size v' (n + m) (xs ++ news) → w.grownBy w' none → ∃ a' c', v' = .slice a' (n + m) c' ∧ OwnS w' (.slice a' (n + m) c') (n + m) size (xs ++ news) ∧
   (∀ k, Fp (.slice a' (n + m) c') k → Fp v k ∨ w.heap.size ≤ k) ∧ Chg (Fp v) w w' := by
  intro v' w' ho hgr
  have hO := ownS_of_row ho
  obtain ⟨a', c', rfl⟩ := hO.form
  refine ⟨a', c', rfl, hO, fun k hk => .inr ?_, (chg_of_grownBy hgr).mono (fun k _ h => by cases h)⟩
  rcases hk with ⟨aa, n1, c1, hv, he⟩
  cases hv
  exact (ho.lt k (by simp [Value.ownBlock, he])).1
 rcases hown.2 with ⟨rfl, rfl⟩ | ⟨g, off, cap, rfl, hn1, hc1, hgs, h8, h9, h10⟩
 ·obtain rfl : xs = [] := List.eq_nil_of_length_eq_zero (by simpa using hown.1)
  obtain ⟨v', w', hrun, r1, r2, _⟩ := run_append_own (P := P) w w.heap.size t ty e i z size bytes h1 h2 h3 h4 h5 h6 h7 (.slice none 0 0) 0 [] (World.ownsRow_nil w _ e size) ad m c news hn hc h1c b1 b2 (Nat.le_refl _)
  obtain ⟨a', c', rfl, q⟩ := fin v' w' r1 r2
  exact ⟨a', c', w', hrun, q⟩
 ·by_cases hr : n + m ≤ cap
  ·subst h4
   have hle : n * i.size + m * i.size ≤ cap * i.size := by rw [← Nat.add_mul]; exact Nat.mul_le_mul_right _ hr
   have hsp : ∀ j, j < news.length → (w.cell? ⟨g, off + n * i.size + j, none⟩).isSome = true ∧ w.frozen? ⟨g, off + n * i.size + j, none⟩ = false := by
    intro j hj
    have q1 := h8 (n * i.size + j) (by omega)
    have q2 := h9 (n * i.size + j) (by omega)
    rw [← Nat.add_assoc] at q1 q2
    exact ⟨q1, q2⟩
   have hrun := run_append_room_cells (P := P) w t ty e i h1 h2 g off n cap ad m c news hn hc h1c hr (fun j hj => (hsp j hj).1) (fun j hj => (hsp j hj).2)
   have hch := chg_setCells g news (off + n * i.size) w
   refine ⟨_, _, _, hrun, ⟨by rw [List.length_append, hown.1, hn, Nat.add_mul], .inr ⟨g, off, cap, rfl, hr, hc1, hgs.setCells g news _, fun j hj => ?_, fun j hj => ?_, fun j u hu => ?_⟩⟩, fun k hk => .inl ?_, hch.mono fun k _ h => (fp_some _ _ _ _).2 h.symm⟩
   ·by_cases hin : n * i.size ≤ j ∧ j < n * i.size + news.length
    ·have hh := World.cell?_setCells_in g news (off + n * i.size) w (fun q hq => by
      have := h8 (n * i.size + q) (by omega)
      rw [← Nat.add_assoc] at this
      exact this) (j - n * i.size) (by omega)
     rw [show off + n * i.size + (j - n * i.size) = off + j by omega] at hh
     rw [hh]; rfl
    ·rw [World.cell?_setCells_out g news (off + n * i.size) w ⟨g, off + j, none⟩ (fun _ _ => by simp only; omega)]
     exact h8 j hj
   ·rw [World.frozen?_setCells]; exact h9 j hj
   ·rw [List.getElem?_append] at hu
    have hxl := hown.1
    split at hu
    ·rename_i hlt
     rw [World.cell?_setCells_out g news (off + n * i.size) w ⟨g, off + j, none⟩ (fun _ _ => by simp only; omega)]
     exact h10 j u hu
    ·rename_i hlt
     have hj2 : j - xs.length < news.length := (List.getElem?_eq_some_iff.1 hu).1
     have hh := World.cell?_setCells_in g news (off + n * i.size) w (fun q hq => by
      have := h8 (n * i.size + q) (by omega)
      rw [← Nat.add_assoc] at this
      exact this) (j - xs.length) hj2
     rw [show off + n * i.size + (j - xs.length) = off + j by omega] at hh
     rw [hh, ← hu, List.getElem?_eq_getElem hj2]
   ·rw [fp_some] at hk ⊢; exact hk
  ·obtain ⟨v', w', hrun, r1, r2⟩ := run_append_arg_grows (P := P) w t ty e i z size bytes h1 h2 h3 h4 h5 h6 h7 ⟨g, off, none⟩ n cap xs hown.1 (fun j u hj => by rw [Addr.add_lit]; exact h10 j u hj) ad m c news hn hc (by omega) b1 b2
   obtain ⟨a', c', rfl, q⟩ := fin v' w' r1 r2
   exact ⟨a', c', w', hrun, q⟩
theorem wpList_append {P : Program} (w : World) {ops : Array Oper} {rest : List Oper} {o : Oper} {a : Act} {Q : Exit → Act → World → Prop}
  (hg : o.guard = none) (s x : Operand) (t : TypeId) (hop : o.op = Op.call { callee := Callee.builtin Builtin.append, args := #[s, x], argTypes := #[t, t] })
  (e : TypeId) (i : TypeInfo) (z : Value) (size bytes : Nat) (h1 : P.underlying t = some (.slice e)) (h2 : P.info? e = some i) (h3 : i.zero = some z) (h4 : i.size = size) (h5 : i.bytes = bytes) (h6 : z.cells.size = size) (h7 : 0 < size)
  (v : Value) (n : Nat) (xs : List Value) (hs : a.eval s = v) (hown : OwnS w v n size xs)
  (ad : Addr) (m c : Nat) (news : List Value) (hx : a.eval x = .slice (some ad) m c) (hn : news.length = m * size) (hc : ∀ j u, news[j]? = some u → w.cell? (ad.add j) = some u) (h1c : ∀ u ∈ news, u.oneCell' = true)
  (b1 : n + m ≤ maxLen) (b2 : (n + m) * bytes ≤ 140737488355328)
  (hK : ∀ a' c' w', OwnS w' (.slice a' (n + m) c') (n + m) size (xs ++ news) → (∀ k, Fp (.slice a' (n + m) c') k → Fp v k ∨ w.heap.size ≤ k) → Chg (Fp v) w w' → wpList P ops Q rest (a.put o.dst (.slice a' (n + m) c')) w') :
  wpList P ops Q (o :: rest) a w := by
 refine wpList_plain hg fun K hK' => ?_
 obtain ⟨a', c', w', hrun, r1, r2, r3⟩ := run_append (P := P) w t o.type e i z size bytes h1 h2 h3 h4 h5 h6 h7 v n xs hown ad m c news hn hc h1c b1 b2
 unfold Oper.wp
 simp [execOp, hop, resolve, invoke, builtin, hs, hx, hrun, Result.andThen]
 exact hK' _ _ (hK a' c' w' r1 r2 r3)
def SliceAt (w : World) (v : Value) (xs : List Value) : Prop :=
 ∃ a c, v = .slice a xs.length c ∧ xs.length ≤ maxLen ∧ (xs = [] ∨ ∃ g off, a = some ⟨g, off, none⟩ ∧ ∀ j u, xs[j]? = some u → w.cell? ⟨g, off + j, none⟩ = some u)
theorem OwnS.at {w : World} {v : Value} {n : Nat} {xs : List Value} (h : OwnS w v n 1 xs) : SliceAt w v xs := by
 obtain ⟨h1, h2⟩ := h
 obtain rfl : xs.length = n := by omega
 rcases h2 with ⟨rfl, h0⟩ | ⟨g, off, cap, rfl, a1, a2, a3, a4, a5, a6⟩
 ·obtain rfl : xs = [] := List.eq_nil_of_length_eq_zero h0
  exact ⟨none, 0, rfl, by simp, .inl rfl⟩
 ·exact ⟨_, cap, rfl, Nat.le_trans a1 a2, .inr ⟨g, off, rfl, a6⟩⟩
theorem SliceAt.stable {w w' : World} {v : Value} {xs : List Value} (h : SliceAt w v xs) (hb : ∀ p u, w.cell? p = some u → w'.cell? p = some u) : SliceAt w' v xs := by
 obtain ⟨a, c, rfl, h1, h2⟩ := h
 refine ⟨a, c, rfl, h1, h2.imp id ?_⟩
 rintro ⟨g, off, rfl, h3⟩
 exact ⟨g, off, rfl, fun j u hu => hb _ _ (h3 j u hu)⟩
theorem SliceAt.below {w w' : World} {v : Value} {xs : List Value} (h : SliceAt w v xs) (hb : Below w.heap.size w w') : SliceAt w' v xs := h.stable fun p u hp => (hb.cell (World.block_lt_of_cell? _ _ hp)).trans hp
theorem SliceAt.take {w : World} {a : Option Addr} {n c c' m : Nat} {xs : List Value} (h : SliceAt w (.slice a n c) xs) (hm : m ≤ n) : SliceAt w (.slice a m c') (xs.take m) := by
 obtain ⟨a', c', he, h1, h2⟩ := h
 cases he
 refine ⟨a, _, by rw [List.length_take, Nat.min_eq_left hm], by simp; omega, ?_⟩
 rcases h2 with rfl | ⟨g, off, rfl, h3⟩
 ·exact .inl (by simp)
 ·exact .inr ⟨g, off, rfl, fun j u hu => h3 j u (by rw [List.getElem?_take] at hu; split at hu <;> simp_all)⟩
end Go.Proofs.YtpmkgddjgebojaaGreatDoor.Hp
namespace Go.Proofs.YtpmkgddjgebojaaGreatDoor.Base
open Go.RowKit Go.ChangeShapes Go.WideShapes Go.ChangeAt
theorem wf_i64_bounds {n : Int} (h : (Lit.int .i64 n).wf = true) : -9223372036854775808 ≤ n ∧ n ≤ 9223372036854775807 := bounds_i64 h
theorem wf_u8_bounds {n : Int} (h : (Lit.int .u8 n).wf = true) : 0 ≤ n ∧ n ≤ 255 := bounds_u8 h
theorem ret_int {k : IntKind} {a b : Int} (h : a = b) : Ending.returned (.int k a) = .returned (.int k b) := by rw [h]
theorem ret_bool {a b : Bool} (h : a = b) : Ending.returned (.bool a) = .returned (.bool b) := by rw [h]
end Go.Proofs.YtpmkgddjgebojaaGreatDoor.Base
namespace Go.Proofs.YtpmkgddjgebojaaGreatDoor.Field
open Go.RowKit Hp
abbrev fval (a b : Nat) : Value := .agg #[.i a, .i b]
def R (a b : Nat) : Prop := 1 ≤ b ∧ a + b ≤ 62
theorem right_any (w : World) (a b : Nat) (h : R a b) : Calls Tryz.prog 149 #[fval a b] w fun e w' => e = .returned (.bool true) ∧ Below w.heap.size w w' := by
 obtain ⟨h1, h2⟩ := h
 go_enter Tryz.func149, Tryz.ntmps149
 go_wp2
 go_ret
 exact ⟨Base.ret_bool (by simp; omega), (Below.refl _ _).alloc (Nat.le_refl _) _⟩
def mx (b : Nat) : Nat := 2 ^ b - 1
theorem mx_lt {b : Nat} (h : b ≤ 62) : mx b + 1 ≤ 4611686018427387904 := by
 have h1 : 2 ^ b ≤ 2 ^ 62 := Nat.pow_le_pow_right (by decide) h
 have h2 : 1 ≤ 2 ^ b := Nat.one_le_two_pow
 unfold mx; omega
theorem wrap64_small {n : Int} (h : -9223372036854775808 ≤ n) (h2 : n ≤ 9223372036854775807) : wrap64 n = n := by
 unfold wrap64; omega
theorem max_any (w : World) (a b : Nat) (h : R a b) : Calls Tryz.prog 147 #[fval a b] w fun e w' => e = .returned (.i (mx b)) ∧ Below w.heap.size w w' := by
 have hr := fun w => right_any w a b h
 obtain ⟨h3, h4⟩ := h
 have hm := mx_lt (show b ≤ 62 by omega)
 have hp : ((2 : Int) ^ b) = (mx b : Int) + 1 := by
  have h2 : 1 ≤ 2 ^ b := Nat.one_le_two_pow
  have : ((2 ^ b : Nat) : Int) = (2 : Int) ^ b := by push_cast; rfl
  rw [← this]; unfold mx; omega
 have Hp := Lib.hid hp
 clear hp
 go_enter Tryz.func147, Tryz.ntmps147
 go_wp2_with fail
 refine (hr _).mono ?_
 rintro e w' ⟨rfl, hb⟩
 have hc : w'.cell? ⟨w.heap.size, 1, none⟩ = some (.i b) := by rw [hb.cell (by simp)]; simp
 have hB : Below w.heap.size w w' := ((Below.refl _ _).alloc (Nat.le_refl _) _).trans (hb.mono (by simp))
 clear hb
 go_wp2_with fail
 go_ret
 refine ⟨Base.ret_int ?_, hB⟩
 rw [Hp.out, wrap64_small (n := (mx b : Int) + 1) (by omega) (by omega), wrap64_small (by omega) (by omega)]; omega
theorem mask_any (w : World) (a b : Nat) (h : R a b) : Calls Tryz.prog 151 #[fval a b] w fun e w' => e = .returned (.i (mx b * 2 ^ a)) ∧ Below w.heap.size w w' := by
 have hr := fun w => max_any w a b h
 obtain ⟨h3, h4⟩ := h
 have hm : (mx b : Int) * 2 ^ a ≤ 9223372036854775807 := by
  have h1 : 2 ^ b * 2 ^ a ≤ 2 ^ 62 := by rw [← Nat.pow_add]; exact Nat.pow_le_pow_right (by decide) (by omega)
  have h2 : mx b * 2 ^ a ≤ 2 ^ b * 2 ^ a := Nat.mul_le_mul_right _ (by unfold mx; exact Nat.sub_le _ _)
  have h3 : ((mx b * 2 ^ a : Nat) : Int) = (mx b : Int) * 2 ^ a := by push_cast; rfl
  rw [← h3]; exact Int.le_trans (Int.ofNat_le.2 (Nat.le_trans h2 h1)) (by decide)
 have hm0 : 0 ≤ (mx b : Int) * 2 ^ a := Int.mul_nonneg (by omega) (Int.pow_nonneg (by decide))
 have Hm := Lib.hid hm
 have Hm0 := Lib.hid hm0
 clear hm hm0
 go_enter Tryz.func151, Tryz.ntmps151
 go_wp2_with fail
 have hr1 := hr (w.alloc (.cells #[.i a, .i b] 156)).drew
 go_region_held3 (fun w' => w'.cell? ⟨w.heap.size, 0, none⟩ = some (.i a) ∧ w'.cell? ⟨w.heap.size, 1, none⟩ = some (.i b)) (first | go_keep | assumption | exact ⟨by assumption, by assumption⟩)
  ((first
  | (go_at_call 147; refine (hr _).mono ?_; rintro e w6 ⟨rfl, hb6⟩; have hc0 : w6.cell? ⟨w.heap.size, 0, none⟩ = some (.i a) := (by rw [hb6.cell (by simp)]; simp); have hc1 : w6.cell? ⟨w.heap.size, 1, none⟩ = some (.i b) := (by rw [hb6.cell (by simp)]; simp))))
 have hB : Below w.heap.size w w6 := (((Below.refl _ _).alloc (Nat.le_refl _) _).drew).trans (hb6.mono (by simp))
 have hm0' := Hm0.out
 have hm1' := Hm.out
 have hwr : IntKind.i64.wrap ((mx b : Int) * 2 ^ a) = (mx b : Int) * 2 ^ a := by
  generalize (mx b : Int) * 2 ^ a = z at *
  rw [IntKind.wrap_i64]; omega
 clear hm0' hm1'
 clear hc0 hc1 hb6
 go_wp2_with fail
 go_ret
 exact ⟨Base.ret_int hwr, hB⟩
theorem put_any (w : World) (n : Int) (a b : Nat) (x : Int) (h : R a b) : Calls Tryz.prog 148 #[.i n, fval a b, .i x] w fun e w' => (∃ z, e = .returned (.i z)) ∧ Below w.heap.size w w' := by
 have hr := fun w => right_any w a b h
 have hm := fun w => max_any w a b h
 have hk := fun w => mask_any w a b h
 go_enter Tryz.func148, Tryz.ntmps148
 go_wp2_with fail
 refine (hr _).mono ?_
 rintro e w5 ⟨rfl, hb5⟩
 have hc0 : w5.cell? ⟨w.heap.size, 0, none⟩ = some (.i a) := by rw [hb5.cell (by simp)]; simp
 have hc1 : w5.cell? ⟨w.heap.size, 1, none⟩ = some (.i b) := by rw [hb5.cell (by simp)]; simp
 have hB : Below w.heap.size w w5 := ((Below.refl _ _).alloc (Nat.le_refl _) _).trans (hb5.mono (by simp))
 have hlt : w.heap.size < w5.heap.size := World.block_lt_of_cell? _ _ hc0
 clear hb5
 go_wp2_with fail
 go_region_held3 (fun w' => w'.cell? ⟨w.heap.size, 0, none⟩ = some (.i a) ∧ w'.cell? ⟨w.heap.size, 1, none⟩ = some (.i b)) (first | go_keep | assumption | exact ⟨by assumption, by assumption⟩)
  ((first
  | (go_at_call 151; refine (hk _).mono ?_; rintro e w6 ⟨rfl, hb6⟩; have hc2 := (hb6.cell hlt).trans hc0; have hc3 := (hb6.cell hlt).trans hc1; have hB6 := hB.drew.trans (hb6.mono (Nat.le_of_lt hlt)))
  | (go_at_call 147; refine (hm _).mono ?_; rintro e w7 ⟨rfl, hb7⟩; have hlt6 := Nat.lt_of_lt_of_le hlt hb6.size; have hc4 := (hb7.cell (p := ⟨w.heap.size, 0, none⟩) hlt6).trans hc2; have hc5 := (hb7.cell (p := ⟨w.heap.size, 1, none⟩) hlt6).trans hc3; have hB7 := hB6.trans (hb7.mono (Nat.le_of_lt hlt6)))))
 go_wp2_with fail
 go_ret
 exact ⟨⟨_, rfl⟩, hB7⟩
end Go.Proofs.YtpmkgddjgebojaaGreatDoor.Field
namespace Go.Proofs.YtpmkgddjgebojaaGreatDoor.Rng
open Go.RowKit Hp
structure Turn (B : Nat) (W W' : World) : Prop where
 os : W'.os = W.os
 tape : W'.tape = W.tape
 output : W'.output = W.output
 size : W.heap.size ≤ W'.heap.size
 block : ∀ k, k < B → k < W.heap.size → W'.heap[k]? = W.heap[k]?
 cells : ∀ (k : Nat) (o : Obj), W.heap[k]? = some o → o.isCells = true → W'.heap[k]? = some o
theorem Turn.refl (B : Nat) (W : World) : Turn B W W := ⟨rfl, rfl, rfl, Nat.le_refl _, fun _ _ _ => rfl, fun _ _ h _ => h⟩
theorem Turn.alloc {B : Nat} {W W' : World} (h : Turn B W W') (o : Obj) : Turn B W (W'.alloc o) :=
 ⟨h.os, h.tape, h.output, by have := h.size; simp; omega, fun k hk hs => (Below.heap_alloc _ _ _ (Nat.lt_of_lt_of_le hs h.size)).trans (h.block k hk hs),
  fun k o hk hc => (Below.heap_alloc _ _ _ (Array.getElem?_eq_some_iff.1 (h.cells k o hk hc)).1).trans (h.cells k o hk hc)⟩
theorem Turn.putObj {B : Nat} {W W' : World} (h : Turn B W W') {l : Nat} {o : Obj} (o' : Obj) (hl : B ≤ l) (ho : W'.heap[l]? = some o) (hc : o.isCells = false) : Turn B W (W'.putObj l o') :=
 ⟨h.os, h.tape, h.output, by have := h.size; simpa using this, fun k hk hs => (World.putObj_heap_other (by omega)).trans (h.block k hk hs),
  fun k o2 hk hc2 => by
   have h1 := h.cells k o2 hk hc2
   refine (World.putObj_heap_other (fun e => ?_)).trans h1
   subst e
   rw [ho] at h1; cases h1; rw [hc] at hc2; cases hc2⟩
theorem Turn.below {B A : Nat} {w W W' : World} (h : Turn B W W') (hb : Below A w W) (hA : A ≤ B) (hw : A ≤ w.heap.size) : Below A w W' :=
 hb.trans ⟨h.os, h.tape, h.output, h.size, fun k hk => h.block k (by omega) (by have := hb.size; omega)⟩
theorem Turn.chg {B : Nat} {F : Nat → Prop} {w W W' : World} (h : Turn B W W') (hb : Chg F w W) (hw : w.heap.size ≤ B) : Chg F w W' :=
 ⟨h.os.trans hb.os, h.tape.trans hb.tape, h.output.trans hb.output, Nat.le_trans hb.size h.size, fun k hk hf => (h.block k (by omega) (Nat.lt_of_lt_of_le hk hb.size)).trans (hb.block k hk hf)⟩
theorem Turn.cell {B : Nat} {W W' : World} (h : Turn B W W') {p : Addr} {v : Value} (hc : W.cell? p = some v) : W'.cell? p = some v := by
 obtain ⟨o, ho, hoc⟩ := cells_of_cell hc
 exact (World.cell?_of_block ((h.cells _ _ ho hoc).trans ho.symm)).trans hc
theorem Turn.frozen {B : Nat} {W W' : World} (h : Turn B W W') {p : Addr} {v : Value} (hc : W.cell? p = some v) : W'.frozen? p = W.frozen? p := by
 obtain ⟨o, ho, hoc⟩ := cells_of_cell hc
 exact World.frozen?_of_block ((h.cells _ _ ho hoc).trans ho.symm)
theorem Turn.isC {B : Nat} {W W' : World} (h : Turn B W W') {g : Nat} (hg : IsC W g) : IsC W' g := by
 obtain ⟨o, h1, h2⟩ := hg; exact ⟨o, h.cells g o h1 h2, h2⟩
theorem Turn.own {B : Nat} {W W' : World} (ht : Turn B W W') {v : Value} {n size : Nat} {xs : List Value} (h : OwnS W v n size xs) : OwnS W' v n size xs := by
 obtain ⟨h1, h2⟩ := h
 refine ⟨h1, h2.imp id ?_⟩
 rintro ⟨g, off, cap, hv, a1, a2, a3, a4, a5, a6⟩
 refine ⟨g, off, cap, hv, a1, a2, ht.isC a3, fun j hj => ?_, fun j hj => ?_, fun j u hu => ht.cell (a6 j u hu)⟩
 ·obtain ⟨u, hu⟩ := Option.isSome_iff_exists.1 (a4 j hj)
  rw [ht.cell hu]; rfl
 ·obtain ⟨u, hu⟩ := Option.isSome_iff_exists.1 (a4 j hj)
  rw [ht.frozen hu]; exact a5 j hj
theorem _root_.Go.Proofs.YtpmkgddjgebojaaGreatDoor.Hp.SliceAt.turn {B : Nat} {w w' : World} {v : Value} {xs : List Value} (h : SliceAt w v xs) (ht : Turn B w w') : SliceAt w' v xs := h.stable fun p u hp => ht.cell hp
structure KeepsB (Ww : Nat → Prop) (W W' : World) : Prop where
 size : W.heap.size ≤ W'.heap.size
 same : ∀ k, k < W.heap.size → ¬ Ww k → W'.heap[k]? = W.heap[k]?
theorem KeepsB.of_chg {Ww F : Nat → Prop} {W W' : World} (h : Chg F W W') (hF : ∀ k, k < W.heap.size → F k → Ww k) : KeepsB Ww W W' :=
 ⟨h.size, fun k hk hn => h.block k hk fun hf => hn (hF k hk hf)⟩
def SeqB {σ α : Type} (P : Program) (gf : Nat) (lb : Array Value) (encs : α → Array Value) (Ww Wr : Nat → Prop) (Skips : σ → World → σ → Prop) (Yields : σ → World → α → σ → Prop) (Done : σ → World → Prop) (s0 : σ) (W : World) : Prop :=
 ∀ (l : Nat) (J : σ → World → Prop) (Jx : World → Prop),
  (∀ s W W', J s W → Chg Wr W W' → J s W') → (∀ s s' W, J s W → Skips s W s' → J s' W) →
  (∀ s x s' W, J s W → Yields s W x s' → YieldAt Fence.wide 7 P l (encs x) W fun e W' =>
   (e = .returned (.bool true) ∧ J s' W' ∧ KeepsB Ww W W') ∨ (e = .returned (.bool false) ∧ Jx W')) →
  J s0 W →
  CallsIn Fence.wide 8 P gf (#[.func (.yield l) #[] #[]] ++ lb) W fun e W' => (∃ v, e = .returned v) ∧ ((∃ s, Done s W' ∧ J s W') ∨ Jx W')
def roundOutB (Ww : Nat → Prop) (K : World → Prop) (Kx : Code → World → Prop) (W : World) : Exit → Act → World → Prop
 | .normal, _, W' => KeepsB Ww W W' ∧ K W'
 | .ret, _, W' => KeepsB Ww W W' ∧ Kx .ret W'
 | .exit id, _, W' => KeepsB Ww W W' ∧ Kx (.exit id) W'
 | .goto t, _, W' => KeepsB Ww W W' ∧ Kx (.goto t) W'
 | .panic _, _, _ => False
 | .outgrown, _, _ => False
theorem wpIn_rangeB {σ α : Type} {P : Program} {g : Operand} {ps : Array Tmp} {assign body : Code} {Q : Exit → Act → World → Prop} {a : Act} {w : World}
  {gf : Nat} {lb : Array Value} (hg : a.eval g = .func (.func gf) #[] lb) (eg : ∀ args w, (callFunc gf args).run P w = .ok (.enter gf args) w)
  {encs : α → Array Value} {Ww Wr : Nat → Prop} {Skips : σ → World → σ → Prop} {Yields : σ → World → α → σ → Prop} {Done : σ → World → Prop} {s0 : σ}
  (hps : ∀ x, (encs x).size = ps.size) (hRd : ∀ k, Ww k ∨ Wr k → k < w.heap.size)
  (hseq : ∀ W1, Turn w.heap.size w W1 → SeqB P gf lb encs Ww Wr Skips Yields Done s0 W1)
  (K : σ → World → Prop) (Kx : Code → World → Prop)
  (hKs : ∀ s W W', K s W → Chg Wr W W' → K s W') (hKk : ∀ s s' W, K s W → Skips s W s' → K s' W)
  (hKt : ∀ s W W', K s W → Turn w.heap.size W W' → K s W') (hKxt : ∀ c W W', Kx c W → Turn w.heap.size W W' → Kx c W') (hYt : ∀ s x s' W W', Yields s W x s' → Turn w.heap.size W W' → Yields s W' x s')
  (hDt : ∀ s W W', Done s W → Turn w.heap.size W W' → Done s W')
  (hYc : ∀ s x s' W W', Yields s W x s' → Chg (fun _ => False) W W' → Yields s W' x s')
  (h0 : K s0 w)
  (hround : ∀ (l : Nat) (s : σ) (x : α) (s' : σ) (W : World), w.heap.size < l → l < W.heap.size → K s W → Yields s W x s' →
   assign.wpIn (Fence.wide.inRound l) 7 P (Exit.then (fun a' W' => Chg (fun _ => False) W W' ∧ ∀ W2 : World, Turn w.heap.size W' W2 → (∃ r, W2.heap[l]? = some (.loop r)) → K s W2 → Yields s W2 x s' →
    body.wpIn (Fence.wide.inRound l) 7 P (roundOutB Ww (K s') Kx W2) a' W2) (fun _ _ _ => False)) { tmps := (ps.zip (encs x)).foldl (fun t (p, v) => t.setIfInBounds p v) a.tmps, defers := [] } W)
  (hdone : ∀ (D : Nat) (s : σ) (W : World), w.heap.size ≤ D → Done s W → K s W → W.heap[D]? = some (.deferred (some [])) → Q .normal { a with defers := { target := .collected D, args := #[] } :: a.defers } W)
  (hstop : ∀ (D : Nat) (c : Code) (W : World), w.heap.size ≤ D → Kx c W → W.heap[D]? = some (.deferred (some [])) → c.wpIn Fence.wide 9 P Q { a with defers := { target := .collected D, args := #[] } :: a.defers } W) :
  (Code.rangeFunc g ps assign body).wpIn Fence.wide 9 P Q a w := by
 refine wpIn_rangeFunc ?_
 intro fn hfn
 obtain ⟨rec, hrec⟩ : ∃ rec : LoopState → Option Code → Loop, rec = fun st pe => { state := st, pending := pe, fn, tmps := a.tmps, params := ps, assign, body, defers := w.heap.size } := ⟨_, rfl⟩
 obtain ⟨W1, hW1⟩ : ∃ W1, (w.alloc (.deferred (some []))).alloc (.loop (rec .ready none)) = W1 := ⟨_, rfl⟩
 have hL1 : W1.heap[w.heap.size + 1]? = some (.loop (rec .ready none)) := by
  rw [← hW1]; have := World.alloc_heap_new (w.alloc (.deferred (some []))) (.loop (rec .ready none)); rwa [World.size_alloc] at this
 have hK1 : W1.heap[w.heap.size]? = some (.deferred (some [])) := by
  rw [← hW1]; exact (Below.heap_alloc _ _ _ (by simp)).trans (World.alloc_heap_new w _)
 have hT1 : Turn w.heap.size w W1 := by rw [← hW1]; exact ((Turn.refl _ _).alloc _).alloc _
 refine ⟨w.heap.size + 1, [{ target := .collected w.heap.size, args := #[] }], W1, { target := .fn (.func gf) lb, args := #[.func (.yield (w.heap.size + 1)) #[] #[]] }, W1, gf,
  #[.func (.yield (w.heap.size + 1)) #[] #[]] ++ lb, W1, ?_, ?_, ?_, ?_, fun h => by simp [Fence.wide] at h, ?_⟩
 ·rw [← hW1, hrec]; exact run_enterLoop_outer _ _ _ _ _
 ·simp only [resolve, hg]
  simp [go_sem]
 ·intro f' hf'; exact trivial
 ·simp [invoke, go_sem, eg]
 ·refine ((hseq W1 hT1) (w.heap.size + 1)
   (fun s W => K s W ∧ W.heap[w.heap.size + 1]? = some (.loop (rec .ready none)) ∧ W.heap[w.heap.size]? = some (.deferred (some [])))
   (fun W => ∃ c, Kx c W ∧ W.heap[w.heap.size + 1]? = some (.loop (rec .done (some c))) ∧ W.heap[w.heap.size]? = some (.deferred (some [])))
   (fun s W W' h hc => ⟨hKs s W W' h.1 hc, (hc.block _ (Array.getElem?_eq_some_iff.1 h.2.1).1 (fun hw => by have := hRd _ (.inr hw); omega)).trans h.2.1, (hc.block _ (Array.getElem?_eq_some_iff.1 h.2.2).1 (fun hw => by have := hRd _ (.inr hw); omega)).trans h.2.2⟩)
   (fun s s' W h hs => ⟨hKk s s' W h.1 hs, h.2⟩)
   ?_ ⟨hKt _ _ _ h0 hT1, hL1, hK1⟩).mono ?_
  ·rintro s x s' W ⟨hi, hl, hk⟩ hyl
   have hlt : w.heap.size + 1 < W.heap.size := (Array.getElem?_eq_some_iff.1 hl).1
   have hy := run_yield (P := P) (args := encs x) hl (by rw [hrec]; exact hps x)
   rw [hrec] at hy
   refine ⟨fn, _, assign, body, hy, roundIn_of_wpIn hfn (wpIn_mono (hround _ s x s' W (by omega) hlt hi hyl) ?_)⟩
   clear hy
   rintro e a' W' he
   cases e with
   | normal => ?_
   | ret => exact he
   | exit id => exact he
   | goto t => exact he
   | panic ch => exact he
   | outgrown => exact he
   obtain ⟨hch, hbody⟩ := he
   have hl0 := hl
   have hl : W'.heap[w.heap.size + 1]? = some (.loop (rec .ready none)) := (hch.block _ hlt id).trans hl0
   have hk : W'.heap[w.heap.size]? = some (.deferred (some [])) := (hch.block _ (by omega) id).trans hk
   have hi : K s W' := hKs s W W' hi (hch.mono fun _ _ h => h.elim)
   have hyl : Yields s W' x s' := hYc _ _ _ _ _ hyl hch
   have hlt0 := hlt
   have hlt : w.heap.size + 1 < W'.heap.size := Nat.lt_of_lt_of_le hlt0 hch.size
   refine ⟨_, run_beginRound hl (by rw [hrec]), ?_⟩
   have hl2 : (W'.putObj (w.heap.size + 1) (.loop { rec .ready none with state := .busy })).heap[w.heap.size + 1]? = some (.loop { rec .ready none with state := .busy }) := World.putObj_heap_same hlt
   have hk2 : (W'.putObj (w.heap.size + 1) (.loop { rec .ready none with state := .busy })).heap[w.heap.size]? = some (.deferred (some [])) := (World.putObj_heap_other (by omega)).trans hk
   have hT2 : Turn w.heap.size W' (W'.putObj (w.heap.size + 1) (.loop { rec .ready none with state := .busy })) := (Turn.refl _ _).putObj _ (by omega) hl rfl
   refine wpIn_mono (hbody _ hT2 ⟨_, hl2⟩ (hKt _ _ _ hi hT2) (hYt _ _ _ _ _ hyl hT2)) ?_
   have fin : ∀ (jump : Option Code) (W3 : World), KeepsB Ww (W'.putObj (w.heap.size + 1) (.loop { rec .ready none with state := .busy })) W3 →
     (Instr.endRound (w.heap.size + 1) jump).run P W3 = .ok (.bool jump.isNone) (W3.putObj (w.heap.size + 1) (.loop (rec (if jump.isNone then .ready else .done) jump))) ∧
     W3.heap[w.heap.size + 1]? = some (.loop { rec .ready none with state := .busy }) ∧
     (W3.putObj (w.heap.size + 1) (.loop (rec (if jump.isNone then .ready else .done) jump))).heap[w.heap.size + 1]? = some (.loop (rec (if jump.isNone then .ready else .done) jump)) ∧
     (W3.putObj (w.heap.size + 1) (.loop (rec (if jump.isNone then .ready else .done) jump))).heap[w.heap.size]? = some (.deferred (some [])) := fun jump W3 hk3 => by
    have hl3 := (hk3.same _ (Array.getElem?_eq_some_iff.1 hl2).1 (fun hw => by have := hRd _ (.inl hw); omega)).trans hl2
    have := run_endRound (P := P) jump hl3
    rw [hrec] at this ⊢
    exact ⟨this, by rw [hrec] at hl3; exact hl3, World.putObj_heap_same (Array.getElem?_eq_some_iff.1 hl3).1, (World.putObj_heap_other (by omega)).trans ((hk3.same _ (Array.getElem?_eq_some_iff.1 hk2).1 (fun hw => by have := hRd _ (.inl hw); omega)).trans hk2)⟩
   rintro e a3 W3 hp
   cases e with
   | normal =>
    obtain ⟨hk3, hi3⟩ := hp
    obtain ⟨hr, hl3, hl4, hk4⟩ := fin none W3 hk3
    refine ⟨_, _, hr, .inl ⟨rfl, ⟨hKt _ _ _ hi3 ((Turn.refl _ _).putObj _ (by omega) hl3 rfl), hl4, hk4⟩, ?_, fun k hkk hn => ?_⟩⟩
    ·have := hk3.size; have := hch.size; simp at *; omega
    ·by_cases hkl : k = w.heap.size + 1
     ·subst hkl
      exact hl4.trans hl0.symm
     ·have hkW : k < W'.heap.size := Nat.lt_of_lt_of_le hkk hch.size
      exact (World.putObj_heap_other (by omega)).trans ((hk3.same k (by simpa using hkW) hn).trans ((World.putObj_heap_other (by omega)).trans (hch.block k hkk id)))
   | ret =>
    obtain ⟨hk3, hi3⟩ := hp
    obtain ⟨hr, hl3, hl4, hk4⟩ := fin (some .ret) W3 hk3
    exact ⟨_, _, hr, .inr ⟨rfl, .ret, hKxt _ _ _ hi3 ((Turn.refl _ _).putObj _ (by omega) hl3 rfl), hl4, hk4⟩⟩
   | exit id =>
    obtain ⟨hk3, hi3⟩ := hp
    obtain ⟨hr, hl3, hl4, hk4⟩ := fin (some (.exit id)) W3 hk3
    exact ⟨_, _, hr, .inr ⟨rfl, .exit id, hKxt _ _ _ hi3 ((Turn.refl _ _).putObj _ (by omega) hl3 rfl), hl4, hk4⟩⟩
   | goto t =>
    obtain ⟨hk3, hi3⟩ := hp
    obtain ⟨hr, hl3, hl4, hk4⟩ := fin (some (.goto t)) W3 hk3
    exact ⟨_, _, hr, .inr ⟨rfl, .goto t, hKxt _ _ _ hi3 ((Turn.refl _ _).putObj _ (by omega) hl3 rfl), hl4, hk4⟩⟩
   | panic ch => exact hp.elim
   | outgrown => exact hp.elim
  ·rintro e W2 ⟨⟨v, rfl⟩, (⟨s, hD, hi, hl, hk⟩ | ⟨c, hi, hl, hk⟩)⟩
   ·have hT : Turn w.heap.size W2 (W2.putObj (w.heap.size + 1) (.loop { rec .ready none with state := .exhausted })) := (Turn.refl _ _).putObj _ (by omega) hl rfl
    exact ⟨none, _, by have := run_endLoop (P := P) hl (by rw [hrec]; simp); rw [hrec] at this; exact this, hdone _ s _ (Nat.le_refl _) (by rw [hrec] at hT; exact hDt _ _ _ hD hT) (by rw [hrec] at hT; exact hKt _ _ _ hi hT) ((World.putObj_heap_other (by omega)).trans hk)⟩
   ·have hT : Turn w.heap.size W2 (W2.putObj (w.heap.size + 1) (.loop { rec .done (some c) with state := .exhausted })) := (Turn.refl _ _).putObj _ (by omega) hl rfl
    exact ⟨some c, _, by have := run_endLoop (P := P) hl (by rw [hrec]; simp); rw [hrec] at this; exact this, hstop _ c _ (Nat.le_refl _) (by rw [hrec] at hT; exact hKxt _ _ _ hi hT) ((World.putObj_heap_other (by omega)).trans hk)⟩
end Go.Proofs.YtpmkgddjgebojaaGreatDoor.Rng
namespace Go.Proofs.YtpmkgddjgebojaaGreatDoor.Field
open Go.RowKit Go.Shelf Hp Rng
attribute [local go_sem] Oper.semAt_some
def FAt (w : World) (g : Nat) (l : List (Nat × Nat)) : Prop :=
 ∀ i x, l[i]? = some x → w.cell? ⟨g, i * 2, none⟩ = some (.i x.1) ∧ w.cell? ⟨g, i * 2 + 1, none⟩ = some (.i x.2)
theorem FAt.stable {w w' : World} {g : Nat} {l : List (Nat × Nat)} (h : FAt w g l) (hb : w'.heap[g]? = w.heap[g]?) : FAt w' g l := fun i x hx =>
 ⟨(World.cell?_of_block (w := w) hb).trans (h i x hx).1, (World.cell?_of_block (w := w) hb).trans (h i x hx).2⟩
theorem FAt.turn {B : Nat} {w w' : World} {g : Nat} {l : List (Nat × Nat)} (h : FAt w g l) (ht : Turn B w w') : FAt w' g l := fun i x hx =>
 ⟨ht.cell (h i x hx).1, ht.cell (h i x hx).2⟩
theorem FAt.lt {w : World} {g : Nat} {l : List (Nat × Nat)} (h : FAt w g l) (hl : 0 < l.length) : g < w.heap.size := World.block_lt_of_cell? _ _ (h 0 l[0] (List.getElem?_eq_getElem hl)).1
theorem pairs_any (w : World) (g n : Nat) : Calls Tryz.prog 150 #[.slice (some ⟨g, 0, none⟩) n n] w fun e w' =>
  e = .returned (.func (.func 152) #[] #[.pointer (some ⟨w.heap.size, 0, none⟩)]) ∧ w' = w.alloc (.cells #[.slice (some ⟨g, 0, none⟩) n n] 159) := by
 go_enter Tryz.func150, Tryz.ntmps150
 go_wp2
 go_ret
 exact ⟨rfl, rfl⟩
def pEnc (x : (Nat × Nat) × (Nat × Nat)) : Array Value := #[fval x.1.1 x.1.2, fval x.2.1 x.2.2]
def pSkips (l : List (Nat × Nat)) (s : Nat × Nat) (_ : World) (s' : Nat × Nat) : Prop := s.1 < l.length ∧ l.length ≤ s.1 + 1 + s.2 ∧ s' = (s.1 + 1, 0)
def pYields (l : List (Nat × Nat)) (s : Nat × Nat) (_ : World) (x : (Nat × Nat) × (Nat × Nat)) (s' : Nat × Nat) : Prop := l[s.1]? = some x.1 ∧ l[s.1 + 1 + s.2]? = some x.2 ∧ s' = (s.1, s.2 + 1)
theorem pairs_seq (bx g : Nat) (l : List (Nat × Nat)) (Ww : Nat → Prop) (W : World) (hl : l.length ≤ 1000) (h : FAt W g l) (hb : W.cell? ⟨bx, 0, none⟩ = some (.slice (some ⟨g, 0, none⟩) l.length l.length))
  (hg : g < W.heap.size) (h1 : ¬ Ww g) (h2 : ¬ Ww bx) (h3 : ∀ k, Ww k → k < W.heap.size) :
  SeqB Tryz.prog 152 #[.pointer (some ⟨bx, 0, none⟩)] pEnc Ww (fun _ => False) (pSkips l)
   (pYields l) (fun s _ => s.1 = l.length) (0, 0) W := by
 intro L J Jx hJs hJk hY h0
 refine callsIn_of_wp Tryz.func152 rfl trivial ?_ rfl
 simp only [Tryz.ntmps152, List.size_toArray, List.length_cons, List.length_nil, Nat.reduceAdd, Nat.reduceSub, Array.replicate_succ, Array.replicate_zero, List.push_toArray, List.append_toArray, List.nil_append, List.cons_append]
 have hbs : bx < W.heap.size := World.block_lt_of_cell? _ _ hb
 gi_wp2
 gi_loopw [9] (fun i wr => ∃ k : Nat, k ≤ l.length ∧ i = .i k ∧ FAt wr g l ∧ wr.cell? ⟨bx, 0, none⟩ = some (.slice (some ⟨g, 0, none⟩) l.length l.length) ∧ J (k, 0) wr ∧ W.heap.size ≤ wr.heap.size) (fun i _ => l.length - (intOf i).toNat)
 case atStart => exact ⟨0, by omega, rfl, h, hb, h0, Nat.le_refl _⟩
 case round =>
  obtain ⟨k, hk, rfl, hat, hbx, hj, hsz⟩ := hrel
  by_cases hlt : k < l.length
  ·obtain ⟨x, hx⟩ : ∃ x, l[k]? = some x := ⟨_, List.getElem?_eq_getElem hlt⟩
   obtain ⟨hc0, hc1⟩ := hat k x hx
   have Hx := Lib.hid hx
   clear hx
   have hbl : bx < wr.heap.size := World.block_lt_of_cell? _ _ hbx
   obtain ⟨fb, hfb⟩ : ∃ fb, fb = wr.heap.size := ⟨_, rfl⟩
   have hA := (Chg.refl (fun _ => False) wr).alloc (.cells #[.i x.1, .i x.2] 156)
   have hjA := hJs _ _ _ hj hA
   have hatA := hat.stable (hA.block g (by omega) id)
   have hbxA := (hA.cell (p := ⟨bx, 0, none⟩) hbl id).trans hbx
   by_cases hlast : l.length = k + 1
   ·have hj2 := hJk (k, 0) (k + 1, 0) _ hjA ⟨hlt, by omega, rfl⟩
    gi_wp2
    gi_loopw [19] (fun i wr2 => i = .i 0 ∧ wr2 = wr.alloc (.cells #[.i x.1, .i x.2] 156)) (fun i _ => 0)
    case atStart => exact ⟨rfl, rfl⟩
    case round =>
     obtain ⟨rfl, rfl⟩ := hrel
     gi_wp2
     go_roundw
     case rel => exact ⟨k + 1, by omega, by go_num, hatA, hbxA, hj2, by simp; omega⟩
     case measure => simp [intOf]; omega
   ·have hf0 : (wr.alloc (.cells #[.i x.1, .i x.2] 156)).cell? ⟨fb, 0, none⟩ = some (.i x.1) := by rw [hfb]; simp
    have hf1 : (wr.alloc (.cells #[.i x.1, .i x.2] 156)).cell? ⟨fb, 1, none⟩ = some (.i x.2) := by rw [hfb]; simp
    have hsA : W.heap.size ≤ (wr.alloc (.cells #[.i x.1, .i x.2] 156)).heap.size := by simp; omega
    have hfW : W.heap.size ≤ fb := by omega
    gi_wp2
    rw [← hfb]
    generalize wr.alloc (.cells #[.i x.1, .i x.2] 156) = wa at *
    clear hfb hA hbl hsz hc0 hc1 hat hbx hj
    gi_loopw [19] (fun i wr2 => ∃ j : Nat, i = .i j ∧ j ≤ l.length - (k + 1) ∧ FAt wr2 g l ∧ wr2.cell? ⟨bx, 0, none⟩ = some (.slice (some ⟨g, 0, none⟩) l.length l.length) ∧ J (k, j) wr2 ∧ W.heap.size ≤ wr2.heap.size ∧
     wr2.cell? ⟨fb, 0, none⟩ = some (.i x.1) ∧ wr2.cell? ⟨fb, 1, none⟩ = some (.i x.2)) (fun i _ => l.length - (intOf i).toNat)
    case atStart => exact ⟨0, rfl, by omega, hatA, hbxA, hjA, hsA, hf0, hf1⟩
    case round =>
     obtain ⟨j, rfl, hj, hat2, hbx2, hj2, hsz2, hq0, hq1⟩ := hrel
     by_cases hlt2 : j < l.length - (k + 1)
     ·obtain ⟨y, hy⟩ : ∃ y, l[k + 1 + j]? = some y := ⟨_, List.getElem?_eq_getElem (by omega)⟩
      obtain ⟨hd0, hd1⟩ := hat2 _ y hy
      rw [Nat.add_mul] at hd0 hd1
      have Hy := Lib.hid hy
      clear hy
      have hA2 := (Chg.refl (fun _ => False) wr).alloc (.cells #[.i y.1, .i y.2] 156)
      have hfl : fb < wr.heap.size := World.block_lt_of_cell? _ _ hq0
      have hbl2 : bx < wr.heap.size := World.block_lt_of_cell? _ _ hbx2
      have hr0 : (wr.alloc (.cells #[.i y.1, .i y.2] 156)).cell? ⟨fb, 0, none⟩ = some (.i x.1) := (hA2.cell (p := ⟨fb, 0, none⟩) hfl id).trans hq0
      have hr1 : (wr.alloc (.cells #[.i y.1, .i y.2] 156)).cell? ⟨fb, 1, none⟩ = some (.i x.2) := (hA2.cell (p := ⟨fb, 1, none⟩) hfl id).trans hq1
      have hjA2 := hJs _ _ _ hj2 hA2
      have hatA2 := hat2.stable (hA2.block g (by omega) id)
      have hbxA2 := (hA2.cell (p := ⟨bx, 0, none⟩) hbl2 id).trans hbx2
      obtain ⟨fn, tmps, assign, body, hy, hR⟩ := hY (k, j) (x, y) (k, j + 1) _ hjA2 ⟨Hx.out, Hy.out, rfl⟩
      simp only [pEnc] at hy
      have Hr0 := Lib.hid hr0
      have Hr1 := Lib.hid hr1
      clear hr0 hr1
      gi_wp2_with (simp only [Hr0.out, Hr1.out])
      have hszA : W.heap.size ≤ (wr.alloc (.cells #[.i y.1, .i y.2] 156)).heap.size := by simp; omega
      have hflA : fb < (wr.alloc (.cells #[.i y.1, .i y.2] 156)).heap.size := by simp; omega
      generalize wr.alloc (.cells #[.i y.1, .i y.2] 156) = wc at *
      clear hd0 hd1 hq0 hq1 hA2 hat2 hbx2 hj2 hfl
      refine hR.mono ?_
      rintro e W3 (⟨rfl, hJ3, hs3, hk3⟩ | ⟨rfl, hJx3⟩)
      ·have hat3 := hatA2.stable (hk3 g (by omega) h1)
       have hbx3 : W3.cell? ⟨bx, 0, none⟩ = some (.slice (some ⟨g, 0, none⟩) l.length l.length) := (World.cell?_of_block (w := wc) (hk3 bx (by omega) h2)).trans hbxA2
       have hfb3 := hk3 fb hflA (fun hw => by have := h3 fb hw; omega)
       have hq0 : W3.cell? ⟨fb, 0, none⟩ = some (.i x.1) := (World.cell?_of_block (w := wc) hfb3).trans Hr0.out
       have hq1 : W3.cell? ⟨fb, 1, none⟩ = some (.i x.2) := (World.cell?_of_block (w := wc) hfb3).trans Hr1.out
       clear Hr0 Hr1 hk3 hfb3
       gi_wp2
       go_roundw
       case rel => exact ⟨j + 1, by go_num, by omega, hat3, hbx3, hJ3, by omega, hq0, hq1⟩
       case measure => simp [intOf]; omega
      ·gi_wp2
       refine bodyPost_ret (results_none rfl _ _ _) rfl ?_
       exact ⟨⟨_, rfl⟩, .inr hJx3⟩
     ·have hj3 := hJk (k, j) (k + 1, 0) _ hj2 ⟨hlt, by omega, rfl⟩
      clear hq0 hq1 hj2
      gi_wp2
      go_roundw
      case rel => exact ⟨k + 1, by omega, by go_num, hat2, hbx2, hj3, hsz2⟩
      case measure => simp [intOf]; omega
  ·gi_wp2
   go_end0
   exact ⟨⟨_, rfl⟩, .inl ⟨(k, 0), by omega, hj⟩⟩
attribute [local go_sem] Oper.semAt_some
def mk (x : Nat × Nat) : Int := mx x.2 * 2 ^ x.1
def Disj (l : List (Nat × Nat)) : Prop := ∀ (i j : Nat) (x y : Nat × Nat), l[i]? = some x → l[j]? = some y → i < j → bits .and .i64 (mk x) (mk y) = 0
def AllR (l : List (Nat × Nat)) : Prop := ∀ x ∈ l, R x.1 x.2
theorem bkeep {W W' : World} {p : Addr} {v : Value} (h : Below W.heap.size W W') (hc : W.cell? p = some v) : W'.cell? p = some v := (h.cell (World.block_lt_of_cell? _ _ hc)).trans hc
theorem bkeepz {W W' : World} {p : Addr} {v : Value} {b : Bool} (h : Below W.heap.size W W') (hc : W.cell? p = some v) (hz : W.frozen? p = b) : W'.frozen? p = b := (h.frozen (World.block_lt_of_cell? _ _ hc)).trans hz
def ApK (w : World) (g : Nat) (l : List (Nat × Nat)) (W : World) : Prop :=
  FAt W g l ∧ Below w.heap.size w W ∧ W.cell? ⟨w.heap.size, 0, none⟩ = some (.bool false) ∧ W.frozen? ⟨w.heap.size, 0, none⟩ = false
theorem ApK.later {w : World} {g : Nat} {l : List (Nat × Nat)} {W W' : World} (h : ApK w g l W) (hg : g < w.heap.size) (hb : Below W.heap.size W W') : ApK w g l W' := by
  obtain ⟨h1, h2, h3, h4⟩ := h
  exact ⟨h1.stable (hb.block g (Nat.lt_of_lt_of_le hg h2.size)), h2.trans (hb.mono h2.size), bkeep hb h3, bkeepz hb h3 h4⟩
theorem below_chg {W W' : World} (hc : Chg (fun _ => False) W W') : Below W.heap.size W W' := hc.below (Nat.le_refl _) fun _ h => h.elim
theorem apart_any (w : World) (g : Nat) (l : List (Nat × Nat)) (hl : l.length ≤ 1000) (h : FAt w g l) (hg : g < w.heap.size) (hR : AllR l) (hD : Disj l) :
    Calls Tryz.prog 146 #[.slice (some ⟨g, 0, none⟩) l.length l.length] w fun e w' => e = .returned (.bool true) ∧ Below w.heap.size w w' := by
  refine (callsIn_wide (n := 9)).1 ?_
  refine callsIn_of_wp_marks Tryz.func146 rfl trivial ?_
  simp only [Tryz.ntmps146, List.size_toArray, List.length_cons, List.length_nil, Nat.reduceAdd, Nat.reduceSub, Array.replicate_succ, Array.replicate_zero, List.push_toArray, List.append_toArray, List.nil_append, List.cons_append]
  gi_wp2
  have hB0 : Below w.heap.size w (w.alloc (.cells #[.bool false] 4)) := (Below.refl _ _).alloc (Nat.le_refl _) _
  have hF0 : FAt (w.alloc (.cells #[.bool false] 4)) g l := h.stable (hB0.block g hg)
  have hc0 : (w.alloc (.cells #[.bool false] 4)).cell? ⟨w.heap.size, 0, none⟩ = some (.bool false) := by simp
  have hz0 : (w.alloc (.cells #[.bool false] 4)).frozen? ⟨w.heap.size, 0, none⟩ = false := by simp
  have HR := Lib.hid hR
  have HD := Lib.hid hD
  clear hR hD
  gi_loopw [9] (fun i wr => ∃ k : Nat, k ≤ l.length ∧ i = .i k ∧ FAt wr g l ∧ Below w.heap.size w wr ∧ wr.cell? ⟨w.heap.size, 0, none⟩ = some (.bool false) ∧ wr.frozen? ⟨w.heap.size, 0, none⟩ = false) (fun i _ => l.length - (intOf i).toNat)
  case atStart => exact ⟨0, by omega, rfl, hF0, hB0, hc0, hz0⟩
  case round =>
    obtain ⟨k, hk, rfl, hat, hB, hc, hz⟩ := hrel
    have hlr : w.heap.size < wr.heap.size := World.block_lt_of_cell? _ _ hc
    by_cases hlt : k < l.length
    · obtain ⟨x, hx⟩ : ∃ x, l[k]? = some x := ⟨_, List.getElem?_eq_getElem hlt⟩
      obtain ⟨hd0, hd1⟩ := hat k x hx
      have hr := HR.out x (List.mem_of_getElem? hx)
      clear hx
      gi_wp2_with fail
      refine ⟨trivial, (callsIn_wide.2 (right_any _ _ _ hr)).mono ?_⟩
      rintro e w5 ⟨rfl, hb5⟩
      have hb6 : Below wr.heap.size wr w5 := ((Below.refl _ _).alloc (Nat.le_refl _) _).trans (hb5.mono (by simp))
      have hat5 := hat.stable (hb6.block g (by omega))
      have hc5 := (hb6.cell (p := ⟨w.heap.size, 0, none⟩) hlr).trans hc
      have hz5 := (hb6.frozen (p := ⟨w.heap.size, 0, none⟩) hlr).trans hz
      have hB5 := hB.trans (hb6.mono (Nat.le_of_lt hlr))
      clear hb5 hb6 hd0 hd1
      gi_wp2
      go_roundw
      case rel => exact ⟨k + 1, by omega, by go_num, hat5, hB5, hc5, hz5⟩
      case measure => simp [intOf]; omega
    · clear hF0 hB0 hc0 hz0
      gi_wp2_with (refine ⟨trivial, ?_⟩; gi_at_call 150; refine (callsIn_wide.2 (pairs_any _ _ _)).mono ?_; rintro e w' ⟨rfl, rfl⟩)
      have hK0 : ApK w g l (wr.alloc (.cells #[.slice (some ⟨g, 0, none⟩) l.length l.length] 159)) := ApK.later ⟨hat, hB, hc, hz⟩ hg ((Below.refl _ _).alloc (Nat.le_refl _) _)
      have hbx : (wr.alloc (.cells #[.slice (some ⟨g, 0, none⟩) l.length l.length] 159)).cell? ⟨wr.heap.size, 0, none⟩ = some (.slice (some ⟨g, 0, none⟩) l.length l.length) := by simp
      generalize wr.alloc (.cells #[.slice (some ⟨g, 0, none⟩) l.length l.length] 159) = wq at *
      generalize wr.heap.size = bx at *
      clear hat hB hc hz hlr
      have hmo : Tryz.prog.follows .mixedOrders = true := by kernel_rfl
      refine wpIn_rangeB (gf := 152) (lb := #[.pointer (some ⟨bx, 0, none⟩)]) rfl (enters_of Tryz.func152 (by kernel_rfl) rfl) (encs := pEnc)
        (Ww := fun _ => False) (Wr := fun _ => False) (Skips := pSkips l) (Yields := pYields l) (Done := fun s _ => s.1 = l.length) (s0 := (0, 0))
        ?hps ?hRd ?hseq (fun _ => ApK w g l) (fun c W => False) ?hKs (fun _ _ _ h _ => h) ?hKt (fun _ _ _ h _ => h) (fun _ _ _ _ _ h _ => h) (fun _ _ _ h _ => h) (fun _ _ _ _ _ h _ => h) ?h0
        ?round ?done ?stop
      case round =>
        intro L s x s' W hL hLW hk hy
        simp only [pEnc]
        gi_wp2
        refine ⟨((Chg.refl _ _).alloc _).alloc _, ?_⟩
        intro W2 hT2 _ hk2 hy2
        have hx0 : W2.cell? ⟨W.heap.size, 0, none⟩ = some (.i x.1.1) := hT2.cell (by go_simp)
        have hx1 : W2.cell? ⟨W.heap.size, 1, none⟩ = some (.i x.1.2) := hT2.cell (by go_simp)
        have hy0 : W2.cell? ⟨W.heap.size + 1, 0, none⟩ = some (.i x.2.1) := hT2.cell (by go_simp)
        have hy1 : W2.cell? ⟨W.heap.size + 1, 1, none⟩ = some (.i x.2.2) := hT2.cell (by go_simp)
        obtain ⟨q1, q2, rfl⟩ := hy2
        have hRx := HR.out x.1 (List.mem_of_getElem? q1)
        have hRy := HR.out x.2 (List.mem_of_getElem? q2)
        have hxy : bits .and .i64 ((mx x.1.2 : Int) * 2 ^ x.1.1) ((mx x.2.2 : Int) * 2 ^ x.2.1) = 0 := HD.out _ _ _ _ q1 q2 (by omega)
        have Bb : Below W2.heap.size W2 W2.drew := (Below.refl _ _).drew
        clear q1 q2 hT2 hy hk hLW hL
        generalize W.heap.size = p0 at *
        gi_wp2_with fail
        gi_region_with_o (first
          | (refine ⟨trivial, ?_⟩; gi_at_call 151; first
             | (refine (CallsIn.inRound L (callsIn_wide.2 (mask_any _ _ _ hRx))).mono ?_; rintro e w6 ⟨rfl, hb6⟩; have hx0 := bkeep hb6 hx0; have hx1 := bkeep hb6 hx1; have hy0 := bkeep hb6 hy0; have hy1 := bkeep hb6 hy1; have Bb := Bb.trans (hb6.mono Bb.size))
             | (refine (CallsIn.inRound L (callsIn_wide.2 (mask_any _ _ _ hRy))).mono ?_; rintro e w6 ⟨rfl, hb6⟩; have hx0 := bkeep hb6 hx0; have hx1 := bkeep hb6 hx1; have hy0 := bkeep hb6 hy0; have hy1 := bkeep hb6 hy1; have Bb := Bb.trans (hb6.mono Bb.size))))
        all_goals gi_wp2
        all_goals exact ⟨KeepsB.of_chg (Chg.ofBelow Bb) (fun _ _ h => h), hk2.later hg Bb⟩
      case hps => intro x; rfl
      case hRd => rintro k (hk | hk) <;> exact hk.elim
      case hseq =>
        intro W1 hT
        exact pairs_seq bx g l _ W1 hl (hK0.1.turn hT) (hT.cell hbx) (Nat.lt_of_lt_of_le (Nat.lt_of_lt_of_le hg hK0.2.1.size) hT.size) id id (fun _ h => h.elim)
      case hKs => exact fun s W W' h hc => h.later hg (below_chg hc)
      case hKt => exact fun s W W' h ht => ⟨h.1.turn ht, ht.below h.2.1 hK0.2.1.size (Nat.le_refl _), ht.cell h.2.2.1, (ht.frozen h.2.2.1).trans h.2.2.2⟩
      case h0 => exact hK0
      case done =>
        rintro D s W hD _ ⟨k1, k2, k3, k4⟩ hKD
        gi_wp2
        have hsz : D ≠ w.heap.size := fun e => by have := hK0.2.1.size; have := World.block_lt_of_cell? _ _ hK0.2.2.1; simp at this; omega
        have hK2 : (W.setCell ⟨w.heap.size, 0, none⟩ (.bool true)).heap[D]? = some (.deferred (some [])) := (Below.heap_setCell _ _ _ _ (by simpa using hsz)).trans hKD
        have h7 := k2.setCell (p := ⟨w.heap.size, 0, none⟩) (by simp) (.bool true)
        have h8 := World.cell?_setCell_same _ _ (.bool true) k3
        generalize W.setCell ⟨w.heap.size, 0, none⟩ (.bool true) = W3 at *
        have hT : Turn wq.heap.size W3 (W3.putObj D (.deferred none)) := (Turn.refl _ _).putObj _ hD hK2 rfl
        have hc := hT.cell h8
        refine ⟨by simp, .inl ⟨_, _, rfl, run_takeDeferred hK2, ?_⟩⟩
        exact ⟨.bool true, by simp [results, Tryz.results146, go_sem, hc], rfl, hT.below h7 hK0.2.1.size (Nat.le_refl _)⟩
      case stop => exact fun D c W hD h hK => h.elim
end Go.Proofs.YtpmkgddjgebojaaGreatDoor.Field
namespace Go.Proofs.YtpmkgddjgebojaaGreatDoor.Field
open Go.RowKit Hp
def packOk : List (Nat × Nat) → List Int → Bool
 | x :: l, v :: vs => decide (0 ≤ v) && (decide (v ≤ (mx x.2 : Int)) && packOk l vs)
 | _, _ => true
theorem packOk_step {l : List (Nat × Nat)} {xs : List Int} {k : Nat} {x : Nat × Nat} {v : Int} (hx : l[k]? = some x) (hv : xs[k]? = some v) :
  packOk (l.drop k) (xs.drop k) = (decide (0 ≤ v) && (decide (v ≤ (mx x.2 : Int)) && packOk (l.drop (k + 1)) (xs.drop (k + 1)))) := by
 obtain ⟨h1, rfl⟩ := List.getElem?_eq_some_iff.1 hx
 obtain ⟨h2, rfl⟩ := List.getElem?_eq_some_iff.1 hv
 rw [List.drop_eq_getElem_cons h1, List.drop_eq_getElem_cons h2]; rfl
def PkK (w : World) (g : Nat) (l : List (Nat × Nat)) (g2 : Nat) (o2 : Nat) (xs : List Int) (W : World) : Prop :=
 FAt W g l ∧ (∀ i x, xs[i]? = some x → W.cell? ⟨g2, o2 + i, none⟩ = some (.i x)) ∧ Below w.heap.size w W
theorem PkK.later {w : World} {g g2 o2 : Nat} {l : List (Nat × Nat)} {xs : List Int} {W W' : World} (h : PkK w g l g2 o2 xs W) (hg : g < w.heap.size) (hb : Below W.heap.size W W') : PkK w g l g2 o2 xs W' := by
 obtain ⟨h1, h2, h3⟩ := h
 exact ⟨h1.stable (hb.block g (Nat.lt_of_lt_of_le hg h3.size)), fun i x hx => bkeep hb (h2 i x hx), h3.trans (hb.mono h3.size)⟩
theorem pack_any (w : World) (g : Nat) (l : List (Nat × Nat)) (g2 o2 c2 : Nat) (xs : List Int) (hl : l.length ≤ 1000) (h : FAt w g l) (hg : g < w.heap.size) (hR : AllR l) (hD : Disj l)
  (hx : ∀ i x, xs[i]? = some x → w.cell? ⟨g2, o2 + i, none⟩ = some (.i x)) (hxl : xs.length = l.length) (hlo : ∀ x ∈ xs, -9223372036854775808 ≤ x ∧ x ≤ 9223372036854775807) :
  Calls Tryz.prog 144 #[.slice (some ⟨g, 0, none⟩) l.length l.length, .slice (some ⟨g2, o2, none⟩) l.length c2] w fun e w' =>
   ∃ z, e = .returned (.tuple #[.i z, .bool (packOk l xs)]) ∧ Below w.heap.size w w' := by
 have hap := fun W (hk : PkK w g l g2 o2 xs W) => apart_any W g l hl hk.1 (Nat.lt_of_lt_of_le hg hk.2.2.size) hR hD
 have hK : PkK w g l g2 o2 xs w := ⟨h, hx, Below.refl _ _⟩
 have HR := Lib.hid hR
 have HL := Lib.hid hxl
 clear hR hD hxl h hx
 have hne : ((l.length : Int) != (l.length : Int)) = false := by simp
 go_enter Tryz.func144, Tryz.ntmps144
 go_wp2_with fail
 refine (hap _ hK).mono ?_
 rintro e w6 ⟨rfl, hb6⟩
 have hK6 := hK.later hg hb6
 clear hK hb6 hap
 go_wp2_with fail
 go_loopw [6, 21] (fun zv iv wr => ∃ (k : Nat) (z : Int), zv = .i z ∧ iv = .i k ∧ k ≤ l.length ∧ RowKit.Hid (packOk l xs = packOk (l.drop k) (xs.drop k)) ∧ PkK w g l g2 o2 xs wr) (fun _ iv _ => l.length - (intOf iv).toNat)
 case atStart => exact ⟨0, 0, rfl, rfl, by omega, rfl, hK6⟩
 case round =>
  obtain ⟨k, z, rfl, rfl, hk, hP, hKr⟩ := hrel
  by_cases hlt : k < l.length
  ·obtain ⟨x, hx⟩ : ∃ x, l[k]? = some x := ⟨_, List.getElem?_eq_getElem hlt⟩
   obtain ⟨v, hv⟩ : ∃ v, xs[k]? = some v := ⟨_, List.getElem?_eq_getElem (by have := HL.out; omega)⟩
   obtain ⟨hd0, hd1⟩ := hKr.1 k x hx
   have hcv := hKr.2.1 k v hv
   obtain ⟨hv0, hv1⟩ := hlo v (List.mem_of_getElem? hv)
   have hRx := HR.out x (List.mem_of_getElem? hx)
   have hP2 := Lib.hid (hP.out.trans (packOk_step hx hv))
   have hA := (Below.refl wr.heap.size wr).alloc (Nat.le_refl _) (.cells #[.i x.1, .i x.2] 156)
   have hKA := hKr.later hg hA
   have hcA := hKA.2.1 k v hv
   have hf0 : (wr.alloc (.cells #[.i x.1, .i x.2] 156)).cell? ⟨wr.heap.size, 0, none⟩ = some (.i x.1) := by simp
   have hf1 : (wr.alloc (.cells #[.i x.1, .i x.2] 156)).cell? ⟨wr.heap.size, 1, none⟩ = some (.i x.2) := by simp
   have hmx := mx_lt (show x.2 ≤ 62 by unfold R at hRx; omega)
   clear hx hv hP hcv
   by_cases hneg : v < 0
   ·have hP3 : packOk l xs = false := by rw [hP2.out]; simp; omega
    clear hP2
    have HP3 := Lib.hid hP3
    clear hP3
    go_wp2_with fail
    generalize wr.alloc (.cells #[.i x.1, .i x.2] 156) = wa at *
    generalize wr.heap.size = fb at *
    have hKd : PkK w g l g2 o2 xs wa.drew := ⟨hKA.1, hKA.2.1, hKA.2.2.drew⟩
    have hng : decide (v < 0) = true := by simpa using hneg
    go_region
    go_wp2_with fail
    go_ret2
    exact ⟨0, by rw [HP3.out]; rfl, hKd.2.2⟩
   ·go_wp2_with fail
    generalize wr.alloc (.cells #[.i x.1, .i x.2] 156) = wa at *
    generalize wr.heap.size = fb at *
    have hKd : PkK w g l g2 o2 xs wa.drew := ⟨hKA.1, hKA.2.1, hKA.2.2.drew⟩
    have hng : decide (v < 0) = false := by simpa using hneg
    by_cases hbig : (mx x.2 : Int) < v
    ·have hbg : decide ((mx x.2 : Int) < v) = true := by simpa using hbig
     have hP3 : packOk l xs = false := by rw [hP2.out]; simp; omega
     clear hP2
     have HP3 := Lib.hid hP3
     clear hP3
     go_region_held3 (fun w' => w'.cell? ⟨g2, o2 + k, none⟩ = some (.i v) ∧ w'.cell? ⟨fb, 0, none⟩ = some (.i x.1) ∧ w'.cell? ⟨fb, 1, none⟩ = some (.i x.2)) (first | go_keep | exact ⟨by assumption, by assumption, by assumption⟩)
      ((first
      | (go_at_call 147; refine (max_any _ _ _ hRx).mono ?_; rintro e w7 ⟨rfl, hb7⟩; have hK7 := hKd.later hg hb7; have hcA := bkeep hb7 hcA; have hf0 := bkeep hb7 hf0; have hf1 := bkeep hb7 hf1)))
     go_wp2_with fail
     go_ret2
     exact ⟨0, by rw [HP3.out]; rfl, hK7.2.2⟩
    ·have hbg : decide ((mx x.2 : Int) < v) = false := by simpa using hbig
     have hP3 : packOk l xs = packOk (l.drop (k + 1)) (xs.drop (k + 1)) := by rw [hP2.out, decide_eq_true (by omega : 0 ≤ v), decide_eq_true (by omega : v ≤ (mx x.2 : Int))]; rfl
     have HP3 := Lib.hid hP3
     clear hP2 hP3
     go_region_held3 (fun w' => w'.cell? ⟨g2, o2 + k, none⟩ = some (.i v) ∧ w'.cell? ⟨fb, 0, none⟩ = some (.i x.1) ∧ w'.cell? ⟨fb, 1, none⟩ = some (.i x.2)) (first | go_keep | exact ⟨by assumption, by assumption, by assumption⟩)
      ((first
      | (go_at_call 147; refine (max_any _ _ _ hRx).mono ?_; rintro e w7 ⟨rfl, hb7⟩; have hK7 := hKd.later hg hb7; have hcB := bkeep hb7 hcA; have hf2 := bkeep hb7 hf0; have hf3 := bkeep hb7 hf1)))
     have hKd7 : PkK w g l g2 o2 xs w7.drew := ⟨hK7.1, hK7.2.1, hK7.2.2.drew⟩
     clear hcA hf0 hf1 hb7 hKA hKd hKr hK7 hK6
     go_wp2_with fail
     go_region_held3 (fun w' => w'.cell? ⟨g2, o2 + k, none⟩ = some (.i v) ∧ w'.cell? ⟨fb, 0, none⟩ = some (.i x.1) ∧ w'.cell? ⟨fb, 1, none⟩ = some (.i x.2)) (first | go_keep | exact ⟨by assumption, by assumption, by assumption⟩)
      ((first
      | (go_at_call 148; refine (put_any _ _ _ _ _ hRx).mono ?_; rintro e w8 ⟨⟨z2, rfl⟩, hb8⟩; have hK8 := hKd7.later hg hb8; have hcC := bkeep hb8 hcB; have hf4 := bkeep hb8 hf2; have hf5 := bkeep hb8 hf3)))
     clear hcB hf2 hf3 hcC hf4 hf5 hb8 hKd7
     go_wp2_with fail
     go_roundw
     case rel => exact ⟨k + 1, z2, by go_num, by go_num, by omega, HP3, hK8⟩
     case measure => simp [intOf]; omega
  ·have hP3 : packOk l xs = true := by rw [hP.out, List.drop_eq_nil_of_le (by omega)]; rfl
   have HP3 := Lib.hid hP3
   clear hP hP3
   go_wp2_with fail
   go_ret2
   exact ⟨z, by rw [HP3.out]; rfl, hKr.2.2⟩
end Go.Proofs.YtpmkgddjgebojaaGreatDoor.Field
namespace Go.Proofs.YtpmkgddjgebojaaGreatDoor.Slot
open Go.RowKit Hp
structure S where
 state : Int
 own : Int
 streams : Int
 broken : Bool
 marked : Bool
 uses : Int
 gen : Int
 epoch : Int
 version : Int
 deriving DecidableEq
def S.cells (s : S) : Array Value := (Ac s.state s.own s.streams s.broken s.marked s.uses s.gen s.epoch s.version)
abbrev S.val (s : S) : Value := .agg s.cells
def bit (b : Bool) : Int := if b then 1 else 0
def S.bare (s : S) : S :=
 { s with
  streams := if s.state = 3 then s.streams else 0
  marked := if s.state = 2 then s.marked else false
  broken := if s.state = 2 ∨ s.state = 3 ∨ s.state = 4 then s.broken else false
  uses := if s.state = 2 ∨ s.state = 3 ∨ s.state = 4 then s.uses else 0
  epoch := if s.state = 6 then s.epoch else 0
  own := if s.state = 0 ∨ s.state = 6 then 0 else s.own }
theorem bit_any (w : World) (b : Bool) : Calls Tryz.prog 145 #[.bool b] w fun e w' => e = .returned (.i (bit b)) ∧ w = w' := by
 go_enter Tryz.func145, Tryz.ntmps145
 cases b
 ·go_wp2
  go_ret
  exact ⟨rfl, rfl⟩
 ·go_wp2
  go_ret
  exact ⟨rfl, rfl⟩
theorem bare_any (w : World) (s : S) : Calls Tryz.prog 143 #[s.val] w fun e w' => e = .returned s.bare.val ∧ Below w.heap.size w w' := by
 obtain ⟨st, ow, sm, br, ma, us, ge, ep, ve⟩ := s
 go_enter Tryz.func143, Tryz.ntmps143
 simp only [S.val, S.cells]
 by_cases h0 : st = 0
 ·subst h0
  go_wp2
  refine bodyPost_ret (results_cell_row rfl _ _ (w.heap.size + 1) _ _ _ _ rfl (heap_alloc2_new _ _ _) Tryz.underlying59 rfl (by kernel_rfl)) rfl ?_
  exact ⟨by simp [S.bare, *], ((Below.refl _ _).alloc (Nat.le_refl _) _).alloc (by simp) _⟩
 by_cases h1 : st = 1
 ·subst h1
  go_wp2
  refine bodyPost_ret (results_cell_row rfl _ _ (w.heap.size + 1) _ _ _ _ rfl (heap_alloc2_new _ _ _) Tryz.underlying59 rfl (by kernel_rfl)) rfl ?_
  exact ⟨by simp [S.bare, *], ((Below.refl _ _).alloc (Nat.le_refl _) _).alloc (by simp) _⟩
 by_cases h2 : st = 2
 ·subst h2
  go_wp2
  refine bodyPost_ret (results_cell_row rfl _ _ (w.heap.size + 1) _ _ _ _ rfl (heap_alloc2_new _ _ _) Tryz.underlying59 rfl (by kernel_rfl)) rfl ?_
  exact ⟨by simp [S.bare, *], ((Below.refl _ _).alloc (Nat.le_refl _) _).alloc (by simp) _⟩
 by_cases h3 : st = 3
 ·subst h3
  go_wp2
  refine bodyPost_ret (results_cell_row rfl _ _ (w.heap.size + 1) _ _ _ _ rfl (heap_alloc2_new _ _ _) Tryz.underlying59 rfl (by kernel_rfl)) rfl ?_
  exact ⟨by simp [S.bare, *], ((Below.refl _ _).alloc (Nat.le_refl _) _).alloc (by simp) _⟩
 by_cases h4 : st = 4
 ·subst h4
  go_wp2
  refine bodyPost_ret (results_cell_row rfl _ _ (w.heap.size + 1) _ _ _ _ rfl (heap_alloc2_new _ _ _) Tryz.underlying59 rfl (by kernel_rfl)) rfl ?_
  exact ⟨by simp [S.bare, *], ((Below.refl _ _).alloc (Nat.le_refl _) _).alloc (by simp) _⟩
 by_cases h5 : st = 5
 ·subst h5
  go_wp2
  refine bodyPost_ret (results_cell_row rfl _ _ (w.heap.size + 1) _ _ _ _ rfl (heap_alloc2_new _ _ _) Tryz.underlying59 rfl (by kernel_rfl)) rfl ?_
  exact ⟨by simp [S.bare, *], ((Below.refl _ _).alloc (Nat.le_refl _) _).alloc (by simp) _⟩
 by_cases h6 : st = 6
 ·subst h6
  go_wp2
  refine bodyPost_ret (results_cell_row rfl _ _ (w.heap.size + 1) _ _ _ _ rfl (heap_alloc2_new _ _ _) Tryz.underlying59 rfl (by kernel_rfl)) rfl ?_
  exact ⟨by simp [S.bare, *], ((Below.refl _ _).alloc (Nat.le_refl _) _).alloc (by simp) _⟩
 have n2 : (st != 2) = true := by simpa using h2
 have n3 : (st != 3) = true := by simpa using h3
 have n4 : (st != 4) = true := by simpa using h4
 have n6 : (st != 6) = true := by simpa using h6
 have e0 : (st == 0) = false := by simpa using h0
 have e6 : (st == 6) = false := by simpa using h6
 go_wp2
 refine bodyPost_ret (results_cell_row rfl _ _ (w.heap.size + 1) _ _ _ _ rfl (heap_alloc2_new _ _ _) Tryz.underlying59 rfl (by kernel_rfl)) rfl ?_
 exact ⟨by simp [S.bare, *], ((Below.refl _ _).alloc (Nat.le_refl _) _).alloc (by simp) _⟩
theorem eq_slot (w : World) (a1 a2 a3 : Int) (a4 a5 : Bool) (a6 a7 a8 a9 b1 b2 b3 : Int) (b4 b5 : Bool) (b6 b7 b8 b9 : Int) :
  (Op.equalIn 10000 59 (.agg (Ac a1 a2 a3 a4 a5 a6 a7 a8 a9))
   (.agg (Ac b1 b2 b3 b4 b5 b6 b7 b8 b9))).run Tryz.prog w = .ok (decide ((⟨a1, a2, a3, a4, a5, a6, a7, a8, a9⟩ : S) = ⟨b1, b2, b3, b4, b5, b6, b7, b8, b9⟩)) w := by
 have u3 := Tryz.underlying3
 have a3' := Tryz.isAgg3
 have z3 := Tryz.sizeOf3
 have u4 := Tryz.underlying4
 have a4' := Tryz.isAgg4
 have z4 := Tryz.sizeOf4
 have hS : Tryz.prog.underlying 59 = some (.struct (Tryz.prog.fieldsOf 59)) := by kernel_rfl
 have hp : ∀ w, ((typeInfo 59).run Tryz.prog w).andThen (fun i w' => Result.ok (i.hasPointers && Tryz.prog.cutTypes.any fun x => x.snd == 59) w') = .ok false w := fun w => by rw [Tryz.typeInfo59]; kernel_rfl
 rw [show (10000 : Nat) = 9999 + 1 from rfl]
 first
  | rw [run_equalIn_agg w 9999 59 _ _ hS (by kernel_rfl)]
  | rw [run_equalIn_agg w 9999 59 _ _ hS (hp w)]
 simp only [Program.fieldsOf, Tryz.underlying59]
 go_simp
 repeat' split
 all_goals simp_all
def fields9 : List (Nat × Nat) := [(0, 3), (3, 4), (7, 8), (15, 1), (16, 1), (17, 6), (23, 12), (35, 12), (47, 15)]
theorem fields9_R : Field.AllR fields9 := by
 intro x hx
 simp only [fields9, List.mem_cons, List.not_mem_nil, or_false] at hx
 rcases hx with rfl | rfl | rfl | rfl | rfl | rfl | rfl | rfl | rfl <;> exact ⟨by decide, by decide⟩
theorem disj_of (l : List (Nat × Nat)) (h : ((List.range l.length).all fun i => (List.range l.length).all fun j => decide (j ≤ i) || (bits .and .i64 (Field.mk (l.getD i (0, 0))) (Field.mk (l.getD j (0, 0))) == 0)) = true) : Field.Disj l := by
 intro i j x y hx hy hij
 obtain ⟨hi, rfl⟩ := List.getElem?_eq_some_iff.1 hx
 obtain ⟨hj, rfl⟩ := List.getElem?_eq_some_iff.1 hy
 have h1 := (List.all_eq_true.1 (List.all_eq_true.1 h i (List.mem_range.2 hi))) j (List.mem_range.2 hj)
 simp only [Bool.or_eq_true, decide_eq_true_eq, beq_iff_eq] at h1
 rcases h1 with h1 | h1
 ·omega
 ·simpa [List.getD_eq_getElem?_getD, hi, hj] using h1
theorem fields9_D : Field.Disj fields9 := disj_of _ (by kernel_rfl)
def S.nums (s : S) : List Int := [s.state, s.own, s.streams, bit s.broken, bit s.marked, s.uses, s.gen, s.epoch, s.version]
def S.right (s : S) : Bool := decide (s.state ≤ 6) && (decide (s = s.bare) && Field.packOk fields9 s.nums)
def S.wf (s : S) : Prop := ∀ x ∈ s.nums, -9223372036854775808 ≤ x ∧ x ≤ 9223372036854775807
abbrev Laid (w : World) : Prop := Field.FAt w 0 fields9
def cs9 : List Value := [.i 0, .i 3, .i 3, .i 4, .i 7, .i 8, .i 15, .i 1, .i 16, .i 1, .i 17, .i 6, .i 23, .i 12, .i 35, .i 12, .i 47, .i 15]
theorem range9 {w : World} (h : Laid w) : w.rangeAt 0 0 cs9 := by
 intro j v hv
 have hc : ∀ (i : Nat) (x : Nat × Nat), fields9[i]? = some x → w.cell? ⟨0, i * 2, none⟩ = some (.i x.1) ∧ w.cell? ⟨0, i * 2 + 1, none⟩ = some (.i x.2) := h
 have hj : j < 18 := (List.getElem?_eq_some_iff.1 hv).1
 rw [Nat.zero_add]
 match j, hj, hv with
 | 0, _, hv => cases hv; exact (hc 0 _ rfl).1
 | 1, _, hv => cases hv; exact (hc 0 _ rfl).2
 | 2, _, hv => cases hv; exact (hc 1 _ rfl).1
 | 3, _, hv => cases hv; exact (hc 1 _ rfl).2
 | 4, _, hv => cases hv; exact (hc 2 _ rfl).1
 | 5, _, hv => cases hv; exact (hc 2 _ rfl).2
 | 6, _, hv => cases hv; exact (hc 3 _ rfl).1
 | 7, _, hv => cases hv; exact (hc 3 _ rfl).2
 | 8, _, hv => cases hv; exact (hc 4 _ rfl).1
 | 9, _, hv => cases hv; exact (hc 4 _ rfl).2
 | 10, _, hv => cases hv; exact (hc 5 _ rfl).1
 | 11, _, hv => cases hv; exact (hc 5 _ rfl).2
 | 12, _, hv => cases hv; exact (hc 6 _ rfl).1
 | 13, _, hv => cases hv; exact (hc 6 _ rfl).2
 | 14, _, hv => cases hv; exact (hc 7 _ rfl).1
 | 15, _, hv => cases hv; exact (hc 7 _ rfl).2
 | 16, _, hv => cases hv; exact (hc 8 _ rfl).1
 | 17, _, hv => cases hv; exact (hc 8 _ rfl).2
theorem fat9 {w : World} {g : Nat} (h : w.rangeAt g 0 cs9) : Field.FAt w g fields9 := by
 have hc : ∀ (j : Nat) (v : Value), cs9[j]? = some v → w.cell? ⟨g, j, none⟩ = some v := fun j v hv => by have := h j v hv; rwa [Nat.zero_add] at this
 intro i x hx
 have hi : i < 9 := (List.getElem?_eq_some_iff.1 hx).1
 match i, hi, hx with
 | 0, _, hx => cases hx; exact ⟨hc 0 _ rfl, hc 1 _ rfl⟩
 | 1, _, hx => cases hx; exact ⟨hc 2 _ rfl, hc 3 _ rfl⟩
 | 2, _, hx => cases hx; exact ⟨hc 4 _ rfl, hc 5 _ rfl⟩
 | 3, _, hx => cases hx; exact ⟨hc 6 _ rfl, hc 7 _ rfl⟩
 | 4, _, hx => cases hx; exact ⟨hc 8 _ rfl, hc 9 _ rfl⟩
 | 5, _, hx => cases hx; exact ⟨hc 10 _ rfl, hc 11 _ rfl⟩
 | 6, _, hx => cases hx; exact ⟨hc 12 _ rfl, hc 13 _ rfl⟩
 | 7, _, hx => cases hx; exact ⟨hc 14 _ rfl, hc 15 _ rfl⟩
 | 8, _, hx => cases hx; exact ⟨hc 16 _ rfl, hc 17 _ rfl⟩
theorem range_new (w : World) (t : TypeId) : (w.alloc (.cells cs9.toArray t)).rangeAt w.heap.size 0 cs9 := by
 intro j v hv
 rw [cell_of_row _ _ _ _ _ _ (heap_alloc_new w _), Nat.zero_add]
 simpa using hv
theorem store9 (W : World) : (storeCells ⟨W.heap.size, 0, none⟩ cs9 0).run Tryz.prog (W.alloc (.cells (Af 0 0 0 0 0 0 0 0 0 0 0 0 0 0 0 0 0 0) 157))
  = .ok () (W.alloc (.cells cs9.toArray 157)) :=
 run_storeCells_new W _ _ cs9.toArray (by kernel_rfl) rfl (by kernel_rfl)
theorem nums_new (w : World) (s : S) (t : TypeId) : ∀ i x, s.nums[i]? = some x → (w.alloc (.cells (Ag s.state s.own s.streams (bit s.broken) (bit s.marked) s.uses s.gen s.epoch s.version) t)).cell? ⟨w.heap.size, 0 + i, none⟩ = some (.i x) := by
 intro i x hx
 have hi : i < 9 := (List.getElem?_eq_some_iff.1 hx).1
 rw [cell_of_row _ _ _ _ _ _ (heap_alloc_new w _), Nat.zero_add]
 match i, hi, hx with
 | 0, _, hx => cases hx; rfl
 | 1, _, hx => cases hx; rfl
 | 2, _, hx => cases hx; rfl
 | 3, _, hx => cases hx; rfl
 | 4, _, hx => cases hx; rfl
 | 5, _, hx => cases hx; rfl
 | 6, _, hx => cases hx; rfl
 | 7, _, hx => cases hx; rfl
 | 8, _, hx => cases hx; rfl
theorem encode_big (w : World) (s : S) (h6 : 6 < s.state) : Calls Tryz.prog 129 #[s.val] w fun e w' => ∃ z, e = .returned (.tuple #[.i z, .bool s.right]) ∧ Below w.heap.size w w' := by
 have hs : S.right s = false := by unfold S.right; rw [decide_eq_false (by omega)]; rfl
 have HS := Lib.hid hs
 clear hs
 obtain ⟨st, ow, sm, br, ma, us, ge, ep, ve⟩ := s
 go_enter Tryz.func129, Tryz.ntmps129
 simp only [S.val, S.cells] at h6 ⊢
 go_wp2_with fail
 have hg : decide (6 < st) = true := by simpa using h6
 go_region
 go_wp2_with fail
 go_ret2
 exact ⟨0, by rw [HS.out]; rfl, ((Below.refl _ _).alloc (Nat.le_refl _) _).drew⟩
theorem encode_bad (w : World) (s : S) (h6 : ¬ 6 < s.state) (hn : s ≠ s.bare) : Calls Tryz.prog 129 #[s.val] w fun e w' => ∃ z, e = .returned (.tuple #[.i z, .bool s.right]) ∧ Below w.heap.size w w' := by
 have hb := fun w => bare_any w s
 have hs : S.right s = false := by unfold S.right; rw [decide_eq_false hn]; simp
 have HS := Lib.hid hs
 clear hs
 generalize s.bare = t at *
 obtain ⟨st, ow, sm, br, ma, us, ge, ep, ve⟩ := s
 obtain ⟨st', ow', sm', br', ma', us', ge', ep', ve'⟩ := t
 have hne := decide_eq_false hn
 have hq := fun w => eq_slot w st ow sm br ma us ge ep ve st' ow' sm' br' ma' us' ge' ep' ve'
 simp only [hne] at hq
 clear hn
 go_enter Tryz.func129, Tryz.ntmps129
 simp only [S.val, S.cells] at hb h6 ⊢
 ·skip
  have hg : decide (6 < st) = false := by simpa using h6
  have hA := (Below.refl w.heap.size w).alloc (Nat.le_refl _) (.cells (Ac st ow sm br ma us ge ep ve) 59)
  have hB := hA.drew
  have c0 : (w.alloc (.cells (Ac st ow sm br ma us ge ep ve) 59)).cell? ⟨w.heap.size, 0, none⟩ = some (.i st) := by simp
  have c1 : (w.alloc (.cells (Ac st ow sm br ma us ge ep ve) 59)).cell? ⟨w.heap.size, 1, none⟩ = some (.i ow) := by simp
  have c2 : (w.alloc (.cells (Ac st ow sm br ma us ge ep ve) 59)).cell? ⟨w.heap.size, 2, none⟩ = some (.i sm) := by simp
  have c3 : (w.alloc (.cells (Ac st ow sm br ma us ge ep ve) 59)).cell? ⟨w.heap.size, 3, none⟩ = some (.bool br) := by simp
  have c4 : (w.alloc (.cells (Ac st ow sm br ma us ge ep ve) 59)).cell? ⟨w.heap.size, 4, none⟩ = some (.bool ma) := by simp
  have c5 : (w.alloc (.cells (Ac st ow sm br ma us ge ep ve) 59)).cell? ⟨w.heap.size, 5, none⟩ = some (.i us) := by simp
  have c6 : (w.alloc (.cells (Ac st ow sm br ma us ge ep ve) 59)).cell? ⟨w.heap.size, 6, none⟩ = some (.i ge) := by simp
  have c7 : (w.alloc (.cells (Ac st ow sm br ma us ge ep ve) 59)).cell? ⟨w.heap.size, 7, none⟩ = some (.i ep) := by simp
  have c8 : (w.alloc (.cells (Ac st ow sm br ma us ge ep ve) 59)).cell? ⟨w.heap.size, 8, none⟩ = some (.i ve) := by simp
  have hsz : w.heap.size < (w.alloc (.cells (Ac st ow sm br ma us ge ep ve) 59)).heap.size := by simp
  go_wp2_with fail
  generalize w.alloc (.cells (Ac st ow sm br ma us ge ep ve) 59) = wa at *
  go_region_held3 (fun w' => w'.cell? ⟨w.heap.size, 0, none⟩ = some (.i st) ∧ w'.cell? ⟨w.heap.size, 1, none⟩ = some (.i ow) ∧ w'.cell? ⟨w.heap.size, 2, none⟩ = some (.i sm) ∧ w'.cell? ⟨w.heap.size, 3, none⟩ = some (.bool br) ∧ w'.cell? ⟨w.heap.size, 4, none⟩ = some (.bool ma) ∧ w'.cell? ⟨w.heap.size, 5, none⟩ = some (.i us) ∧ w'.cell? ⟨w.heap.size, 6, none⟩ = some (.i ge) ∧ w'.cell? ⟨w.heap.size, 7, none⟩ = some (.i ep) ∧ w'.cell? ⟨w.heap.size, 8, none⟩ = some (.i ve)) (first | go_keep | exact ⟨by assumption, by assumption, by assumption, by assumption, by assumption, by assumption, by assumption, by assumption, by assumption⟩)
   ((first
   | (go_at_call 143; refine (hb _).mono ?_; rintro e w5 ⟨rfl, hb5⟩; have hB5 := hB.trans (hb5.mono (Nat.le_of_lt hsz)); have d0 := Field.bkeep hb5 c0; have d1 := Field.bkeep hb5 c1; have d2 := Field.bkeep hb5 c2; have d3 := Field.bkeep hb5 c3; have d4 := Field.bkeep hb5 c4; have d5 := Field.bkeep hb5 c5; have d6 := Field.bkeep hb5 c6; have d7 := Field.bkeep hb5 c7; have d8 := Field.bkeep hb5 c8)))
  clear c0 c1 c2 c3 c4 c5 c6 c7 c8 d0 d1 d2 d3 d4 d5 d6 d7 d8 hb5
  go_wp2_with fail
  go_ret2
  exact ⟨0, by rw [HS.out]; rfl, hB5⟩
theorem encode_fit (w : World) (s : S) (hL : Laid w) (hw : s.wf) (h6 : ¬ 6 < s.state) (hn : s = s.bare) : Calls Tryz.prog 129 #[s.val] w fun e w' => ∃ z, e = .returned (.tuple #[.i z, .bool s.right]) ∧ Below w.heap.size w w' := by
 have hb := fun w => bare_any w s
 have hs : S.right s = Field.packOk fields9 s.nums := by unfold S.right; rw [decide_eq_true hn, decide_eq_true (by omega)]; rfl
 have HS := Lib.hid hs
 have HW := Lib.hid hw
 rw [← hn] at hb
 clear hs hn hw
 obtain ⟨st, ow, sm, br, ma, us, ge, ep, ve⟩ := s
 have hq := fun w => eq_slot w st ow sm br ma us ge ep ve st ow sm br ma us ge ep ve
 simp only [decide_true] at hq
 go_enter Tryz.func129, Tryz.ntmps129
 simp only [S.val, S.cells] at hb h6 ⊢
 ·skip
  have hg : decide (6 < st) = false := by simpa using h6
  have hA := (Below.refl w.heap.size w).alloc (Nat.le_refl _) (.cells (Ac st ow sm br ma us ge ep ve) 59)
  have hB := hA.drew
  have hLA : Laid (w.alloc (.cells (Ac st ow sm br ma us ge ep ve) 59)) := hL.stable (hA.block 0 (hL.lt (by decide)))
  have c0 : (w.alloc (.cells (Ac st ow sm br ma us ge ep ve) 59)).cell? ⟨w.heap.size, 0, none⟩ = some (.i st) := by simp
  have c1 : (w.alloc (.cells (Ac st ow sm br ma us ge ep ve) 59)).cell? ⟨w.heap.size, 1, none⟩ = some (.i ow) := by simp
  have c2 : (w.alloc (.cells (Ac st ow sm br ma us ge ep ve) 59)).cell? ⟨w.heap.size, 2, none⟩ = some (.i sm) := by simp
  have c3 : (w.alloc (.cells (Ac st ow sm br ma us ge ep ve) 59)).cell? ⟨w.heap.size, 3, none⟩ = some (.bool br) := by simp
  have c4 : (w.alloc (.cells (Ac st ow sm br ma us ge ep ve) 59)).cell? ⟨w.heap.size, 4, none⟩ = some (.bool ma) := by simp
  have c5 : (w.alloc (.cells (Ac st ow sm br ma us ge ep ve) 59)).cell? ⟨w.heap.size, 5, none⟩ = some (.i us) := by simp
  have c6 : (w.alloc (.cells (Ac st ow sm br ma us ge ep ve) 59)).cell? ⟨w.heap.size, 6, none⟩ = some (.i ge) := by simp
  have c7 : (w.alloc (.cells (Ac st ow sm br ma us ge ep ve) 59)).cell? ⟨w.heap.size, 7, none⟩ = some (.i ep) := by simp
  have c8 : (w.alloc (.cells (Ac st ow sm br ma us ge ep ve) 59)).cell? ⟨w.heap.size, 8, none⟩ = some (.i ve) := by simp
  have hsz : w.heap.size < (w.alloc (.cells (Ac st ow sm br ma us ge ep ve) 59)).heap.size := by simp
  go_wp2_with fail
  generalize w.alloc (.cells (Ac st ow sm br ma us ge ep ve) 59) = wa at *
  go_region_held3 (fun w' => w'.cell? ⟨w.heap.size, 0, none⟩ = some (.i st) ∧ w'.cell? ⟨w.heap.size, 1, none⟩ = some (.i ow) ∧ w'.cell? ⟨w.heap.size, 2, none⟩ = some (.i sm) ∧ w'.cell? ⟨w.heap.size, 3, none⟩ = some (.bool br) ∧ w'.cell? ⟨w.heap.size, 4, none⟩ = some (.bool ma) ∧ w'.cell? ⟨w.heap.size, 5, none⟩ = some (.i us) ∧ w'.cell? ⟨w.heap.size, 6, none⟩ = some (.i ge) ∧ w'.cell? ⟨w.heap.size, 7, none⟩ = some (.i ep) ∧ w'.cell? ⟨w.heap.size, 8, none⟩ = some (.i ve)) (first | go_keep | exact ⟨by assumption, by assumption, by assumption, by assumption, by assumption, by assumption, by assumption, by assumption, by assumption⟩)
   ((first
   | (go_at_call 143; refine (hb _).mono ?_; rintro e w5 ⟨rfl, hb5⟩; have hL5 := hLA.stable (hb5.block 0 (hLA.lt (by decide))); have hB5 := hB.trans (hb5.mono (Nat.le_of_lt hsz)); have d0 := Field.bkeep hb5 c0; have d1 := Field.bkeep hb5 c1; have d2 := Field.bkeep hb5 c2; have d3 := Field.bkeep hb5 c3; have d4 := Field.bkeep hb5 c4; have d5 := Field.bkeep hb5 c5; have d6 := Field.bkeep hb5 c6; have d7 := Field.bkeep hb5 c7; have d8 := Field.bkeep hb5 c8)))
  have hr9 := range9 hL5
  have hst := store9
  clear c0 c1 c2 c3 c4 c5 c6 c7 c8 hb5 hq hb
  go_wp2_with (first
   | (refine wpList_load_mid rfl 157 (.global 0) rfl 0 0 rfl cs9 _ hr9 Tryz.underlying157 rfl (by kernel_rfl) ?_))
  have hA2 : Below w5.heap.size w5 (w5.alloc (.cells cs9.toArray 157)) := (Below.refl _ _).alloc (Nat.le_refl _) _
  have hF : Field.FAt (w5.alloc (.cells cs9.toArray 157)) w5.heap.size fields9 := fat9 (range_new _ _)
  have hB6 := hB5.trans (hA2.mono (hB5.size))
  have hlt5 : w5.heap.size < (w5.alloc (.cells cs9.toArray 157)).heap.size := by simp
  have c0 := Field.bkeep hA2 d0
  have c1 := Field.bkeep hA2 d1
  have c2 := Field.bkeep hA2 d2
  have c3 := Field.bkeep hA2 d3
  have c4 := Field.bkeep hA2 d4
  have c5 := Field.bkeep hA2 d5
  have c6 := Field.bkeep hA2 d6
  have c7 := Field.bkeep hA2 d7
  have c8 := Field.bkeep hA2 d8
  generalize w5.alloc (.cells cs9.toArray 157) = wb at *
  generalize w5.heap.size = gb at *
  clear d0 d1 d2 d3 d4 d5 d6 d7 d8 hA2 hr9 hst
  have hsw := hB6.size
  have hAl : Below wb.heap.size wb (wb.drew.alloc (.cells (Ag st ow sm (bit br) (bit ma) us ge ep ve) 3)) := (Below.refl _ _).drew.alloc (by simp) _
  have k0 := Field.bkeep hAl c0
  have k1 := Field.bkeep hAl c1
  have k2 := Field.bkeep hAl c2
  have k3 := Field.bkeep hAl c3
  have k4 := Field.bkeep hAl c4
  have k5 := Field.bkeep hAl c5
  have k6 := Field.bkeep hAl c6
  have k7 := Field.bkeep hAl c7
  have k8 := Field.bkeep hAl c8
  have hpk := Field.pack_any (wb.drew.alloc (.cells (Ag st ow sm (bit br) (bit ma) us ge ep ve) 3)) gb fields9 wb.heap.size 0 9 (S.nums ⟨st, ow, sm, br, ma, us, ge, ep, ve⟩) (by decide) (hF.stable (Below.heap_alloc _ _ _ hlt5)) (by simp; omega) fields9_R fields9_D (nums_new wb.drew ⟨st, ow, sm, br, ma, us, ge, ep, ve⟩ _) rfl HW.out
  go_region_held3 (fun w' => w'.cell? ⟨w.heap.size, 0, none⟩ = some (.i st) ∧ w'.cell? ⟨w.heap.size, 1, none⟩ = some (.i ow) ∧ w'.cell? ⟨w.heap.size, 2, none⟩ = some (.i sm) ∧ w'.cell? ⟨w.heap.size, 3, none⟩ = some (.bool br) ∧ w'.cell? ⟨w.heap.size, 4, none⟩ = some (.bool ma) ∧ w'.cell? ⟨w.heap.size, 5, none⟩ = some (.i us) ∧ w'.cell? ⟨w.heap.size, 6, none⟩ = some (.i ge) ∧ w'.cell? ⟨w.heap.size, 7, none⟩ = some (.i ep) ∧ w'.cell? ⟨w.heap.size, 8, none⟩ = some (.i ve)) (first | go_keep | exact ⟨by assumption, by assumption, by assumption, by assumption, by assumption, by assumption, by assumption, by assumption, by assumption⟩)
   ((first
   | (go_at_call 145; refine (bit_any _ br).mono ?_; rintro e w6 ⟨rfl, rfl⟩)
   | (go_at_call 145; refine (bit_any _ ma).mono ?_; rintro e w6 ⟨rfl, rfl⟩)
   | (go_at_call 144; refine hpk.mono ?_; rintro e w7 ⟨z, rfl, hb7⟩; have m0 := Field.bkeep hb7 k0; have m1 := Field.bkeep hb7 k1; have m2 := Field.bkeep hb7 k2; have m3 := Field.bkeep hb7 k3; have m4 := Field.bkeep hb7 k4; have m5 := Field.bkeep hb7 k5; have m6 := Field.bkeep hb7 k6; have m7 := Field.bkeep hb7 k7; have m8 := Field.bkeep hb7 k8)))
  have hB7 := hB6.trans ((hAl.trans (hb7.mono hAl.size)).mono hsw)
  clear k0 m0 c0 k1 m1 c1 k2 m2 c2 k3 m3 c3 k4 m4 c4 k5 m5 c5 k6 m6 c6 k7 m7 c7 k8 m8 c8 hb7 hpk
  go_wp2_with fail
  go_ret2
  exact ⟨z, by rw [HS.out]; rfl, hB7⟩
theorem encode_any (w : World) (s : S) (hL : Laid w) (hw : s.wf) : Calls Tryz.prog 129 #[s.val] w fun e w' => ∃ z, e = .returned (.tuple #[.i z, .bool s.right]) ∧ Below w.heap.size w w' := by
 by_cases h6 : 6 < s.state
 ·exact encode_big w s h6
 ·by_cases hn : s = s.bare
  ·exact encode_fit w s hL hw h6 hn
  ·exact encode_bad w s h6 hn
theorem right_any (w : World) (s : S) (hL : Laid w) (hw : s.wf) : Calls Tryz.prog 103 #[s.val] w fun e w' => e = .returned (.bool s.right) ∧ Below w.heap.size w w' := by
 have he := encode_any (w.alloc (.cells s.cells 59)) s (hL.stable (Below.heap_alloc _ _ _ (hL.lt (by decide)))) hw
 obtain ⟨st, ow, sm, br, ma, us, ge, ep, ve⟩ := s
 simp only [S.val, S.cells] at he
 go_enter Tryz.func103, Tryz.ntmps103
 simp only [S.val, S.cells]
 go_wp2_with fail
 refine he.mono ?_
 rintro e w5 ⟨z, rfl, hb5⟩
 have hB : Below w.heap.size w w5 := ((Below.refl _ _).alloc (Nat.le_refl _) _).trans (hb5.mono (by simp))
 clear he hb5
 go_wp2_with fail
 go_ret
 exact ⟨rfl, hB⟩
end Go.Proofs.YtpmkgddjgebojaaGreatDoor.Slot
namespace Go.Proofs.YtpmkgddjgebojaaGreatDoor.RowL
open Go.RowKit Hp
variable {P : Program}
def RowAt (w : World) (g : Nat) (cs : Array Value) (t : TypeId) : Prop := w.heap[g]? = some (.cells cs t (0, 0))
theorem RowAt.lt {w : World} {g : Nat} {cs : Array Value} {t : TypeId} (h : RowAt w g cs t) : g < w.heap.size := (Array.getElem?_eq_some_iff.1 h).1
theorem RowAt.below {w w' : World} {g : Nat} {cs : Array Value} {t : TypeId} (h : RowAt w g cs t) (hb : Below w.heap.size w w') : RowAt w' g cs t := (hb.block g h.lt).trans h
theorem RowAt.alloc {w : World} {g : Nat} {cs : Array Value} {t : TypeId} (h : RowAt w g cs t) (o : Obj) : RowAt (w.alloc o) g cs t := (Below.heap_alloc _ _ _ h.lt).trans h
theorem RowAt.new (w : World) (cs : Array Value) (t : TypeId) : RowAt (w.alloc (.cells cs t)) w.heap.size cs t := heap_alloc_new w _
theorem RowAt.cell {w : World} {g : Nat} {cs : Array Value} {t : TypeId} (h : RowAt w g cs t) (j : Nat) : w.cell? ⟨g, j, none⟩ = cs[j]? := cell_of_row w g j cs t _ h
theorem RowAt.chg {F : Nat → Prop} {w w' : World} {g : Nat} {cs : Array Value} {t : TypeId} (h : RowAt w g cs t) (hb : Chg F w w') (hf : ¬ F g) : RowAt w' g cs t := (hb.block g h.lt hf).trans h
theorem RowAt.frozen {w : World} {g : Nat} {cs : Array Value} {t : TypeId} (h : RowAt w g cs t) (j : Nat) : w.frozen? ⟨g, j, none⟩ = false := frozen_of_row w g j cs t h
theorem RowAt.setc {w : World} {g : Nat} {cs : Array Value} {t : TypeId} (h : RowAt w g cs t) (i : Nat) (v : Value) : RowAt (w.setCell ⟨g, i, none⟩ v) g (cs.setIfInBounds i v) t := heap_setCell_same w g i cs t v h
theorem RowAt.drew {w : World} {g : Nat} {cs : Array Value} {t : TypeId} (h : RowAt w g cs t) : RowAt w.drew g cs t := h
theorem run_storeAt_row (w : World) (g : Nat) (ty t : TypeId) (Z cs : Array Value) (h : RowAt w g Z t) (hsz : Z.size = cs.size) (hi : (P.info? ty).map (·.size) = some cs.size) (h1 : cs.all (·.oneCell') = true) :
  (Instr.storeAt ty (.pointer (some ⟨g, 0, none⟩)) (.agg cs)).run P w = .ok () (w.setRow g cs) := by
 simp only [Instr.storeAt, Instr.sureAddr, Sem.run_bind, Sem.run_pure, Result.andThen_ok, run_storeVar_row w g t ty Z cs h hi hsz h1]
theorem wp_store_row {op : Oper} {a : Act} {w : World} {K : Act → World → Prop} {Q : Exit → Act → World → Prop} (ty : TypeId) (x y : Operand) (ho : op.op = .store ty x y)
  (g : Nat) (t : TypeId) (Z cs : Array Value) (hx : a.eval x = .pointer (some ⟨g, 0, none⟩)) (hy : a.eval y = .agg cs)
  (ht : RowAt w g Z t) (hsz : Z.size = cs.size) (hi : (P.info? ty).map (·.size) = some cs.size) (h1 : cs.all (·.oneCell') = true)
  (h : K (a.put op.dst undef) (w.setRow g cs)) : op.wp P a w K Q := by
 unfold Oper.wp execOp
 simp only [ho, hx, hy, Sem.run_bind, Sem.run_pure, run_storeAt_row w g ty t Z cs ht hsz hi h1, Result.andThen_ok]
 exact h
theorem wpList_store_row {ops : Array Oper} {rest : List Oper} {op : Oper} {a : Act} {w : World} {Q : Exit → Act → World → Prop} (hgd : op.guard = none) (ty : TypeId) (x y : Operand) (ho : op.op = .store ty x y)
  (g : Nat) (t : TypeId) (Z cs : Array Value) (hx : a.eval x = .pointer (some ⟨g, 0, none⟩)) (hy : a.eval y = .agg cs)
  (ht : RowAt w g Z t) (hsz : Z.size = cs.size) (hi : (P.info? ty).map (·.size) = some cs.size) (h1 : cs.all (·.oneCell') = true)
  (h : wpList P ops Q rest (a.put op.dst undef) (w.setRow g cs)) : wpList P ops Q (op :: rest) a w :=
 wpList_plain hgd fun _ hK => wp_store_row ty x y ho g t Z cs hx hy ht hsz hi h1 (hK _ _ h)
theorem RowAt.set {w : World} {g : Nat} {Z : Array Value} {t : TypeId} (h : RowAt w g Z t) (cs : Array Value) : RowAt (w.setRow g cs) g cs t := setRow_heap w g Z cs t _ h
theorem chg_setRow {F : Nat → Prop} {w w' : World} (h : Chg F w w') (g : Nat) (cs : Array Value) (hg : g < w.heap.size → F g) : Chg F w (w'.setRow g cs) :=
 ⟨h.os, h.tape, h.output, by simpa using h.size, fun k hk hf => by
  by_cases e : k = g
  ·subst e; exact absurd (hg hk) hf
  ·exact (setRow_other w' g k cs e).trans (h.block k hk hf)⟩
theorem results_row {fn : Func} {p : Tmp} {ty : TypeId} (h : fn.results = #[.cell p ty]) (tmps : Array Value) (w : World) (g : Nat) (t : TypeId) (cs : Array Value) (d : TypeDesc)
  (hp : tmps.getD p undef = .pointer (some ⟨g, 0, none⟩)) (hg : RowAt w g cs t)
  (hu : P.underlying ty = some d) (hd : (match d with | .struct _ | .array _ _ => true | _ => false) = true) (hi : (P.info? ty).map (·.size) = some cs.size) :
  (results fn tmps).run P w = .ok (.agg cs) w := results_cell_row h tmps w g t cs (0, 0) d hp hg hu hd hi
theorem results_row2 {fn : Func} {p u : Tmp} {ty : TypeId} (h : fn.results = #[.cell p ty, .tmp u]) (tmps : Array Value) (w : World) (g : Nat) (t : TypeId) (cs : Array Value) (d : TypeDesc)
  (hp : tmps.getD p undef = .pointer (some ⟨g, 0, none⟩)) (hg : RowAt w g cs t)
  (hu : P.underlying ty = some d) (hd : (match d with | .struct _ | .array _ _ => true | _ => false) = true) (hi : (P.info? ty).map (·.size) = some cs.size) :
  (results fn tmps).run P w = .ok (.tuple #[.agg cs, tmps.getD u undef]) w := by
 rw [results_cell_tmp h tmps P w, hp]
 simp [asAddr, run_loadVar_row w g t ty cs (0, 0) d hg hu hd hi]
section
variable {P : Program} {ops : Array Oper} {Q : Exit → Act → World → Prop} {md : Region.Mode} {S : World → Prop}
theorem op_of {i : Nat} {d : Option Tmp} {op : Op} {g : Option (Nat × Bool)} (ho : (ops[i]?).map (fun o => (o.dst, o.op, o.guard)) = some (d, op, g)) : ∃ o, ops[i]? = some o ∧ o.dst = d ∧ o.op = op ∧ o.guard = g := by
 cases h : ops[i]? with
 | none => rw [h] at ho; cases ho
 | some o =>
  rw [h] at ho
  simp only [Option.map_some, Option.some.injEq, Prod.mk.injEq] at ho
  exact ⟨o, rfl, ho.1, ho.2.1, ho.2.2⟩
theorem ready_store_row {i fuel : Nat} {listed : Array Bool} {a : Act} {w : World} (hr : Region.ready md ops listed = [i]) (T : TypeId) (x y : Operand)
  (ho : (ops[i]?).map (fun o => (o.dst, o.op, o.guard)) = some (none, Op.store T x y, none))
  (g : Nat) (t : TypeId) (Z cs : Array Value) (hx : a.eval x = .pointer (some ⟨g, 0, none⟩)) (hy : a.eval y = .agg cs)
  (ht : RowAt w g Z t) (hsz : Z.size = cs.size) (hi : (P.info? T).map (·.size) = some cs.size) (h1 : cs.all (·.oneCell') = true)
  (hS : S (w.setRow g cs)) (h : S (w.setRow g cs) → wpAnyH P md ops Q S fuel (listed.setIfInBounds i true) a (w.setRow g cs)) : wpAnyH P md ops Q S (fuel + 1) listed a w := by
 obtain ⟨o, h1o, h2o, h3o, h4o⟩ := op_of ho
 refine wpAnyH_ready hr (by simp) (AllReadyH.cons h1o (fun K hK => ?_) AllReadyH.nil)
 rw [if_pos (by simp [Region.wanted, h4o])]
 refine wp_store_row T x y h3o g t Z cs hx hy ht hsz hi h1 ?_
 rw [h2o]
 exact hK.out _ _ hS h
theorem take_of {i fuel : Nat} {listed : Array Bool} {a : Act} {w : World} {d : Option Tmp} {op : Op} {gd : Option (Nat × Bool)} {v : Value} (ho : (ops[i]?).map (fun o => (o.dst, o.op, o.guard)) = some (d, op, gd))
  (hs : Region.noSelect ops = true) (hf : Region.free md ops listed i = true) (hr : (Region.ready md ops listed).contains i = true)
  (hQ : ∀ c a w, Q (.panic c) (a.put d v) w → Q (.panic c) a w)
  (hw : (ops[i]?).map (fun o => Region.wanted o (yielded ops a.tmps)) = some true) (hy : ∀ o : Oper, o.op = op → ∀ w, S w → (execOp a.eval o).run P w = .ok (.value v) w) (hS : S w)
  (h : wpAnyH P md ops Q S fuel (listed.setIfInBounds i true) (a.put d v) w) : wpAnyH P md ops Q S (fuel + 1) listed a w := by
 obtain ⟨o, h1o, h2o, h3o, h4o⟩ := op_of ho
 subst h2o
 rw [h1o] at hw
 exact wpAnyH_take h1o hs hf hr hQ (Or.inl ⟨by simpa using hw, hy o h3o⟩) hS h
theorem takeg {i fuel : Nat} {listed : Array Bool} {a : Act} {w : World} {d : Option Tmp} {v : Value} (ho : (ops[i]?).map (fun o => o.dst) = some d)
  (hs : Region.noSelect ops = true) (hf : Region.free md ops listed i = true) (hr : (Region.ready md ops listed).contains i = true)
  (hQ : ∀ c a w, Q (.panic c) (a.put d v) w → Q (.panic c) a w)
  (hw : (ops[i]?).map (fun o => Region.wanted o (yielded ops a.tmps)) = some true) (hy : ∀ w, S w → ((ops[i]?).map fun o => (execOp a.eval o).run P w) = some (.ok (.value v) w)) (hS : S w)
  (h : wpAnyH P md ops Q S fuel (listed.setIfInBounds i true) (a.put d v) w) : wpAnyH P md ops Q S (fuel + 1) listed a w := by
 cases h1 : ops[i]? with
 | none => rw [h1] at ho; cases ho
 | some o =>
  rw [h1] at ho hw
  simp only [Option.map_some, Option.some.injEq] at ho hw
  subst ho
  exact wpAnyH_take h1 hs hf hr hQ (Or.inl ⟨hw, fun w h => by have := hy w h; rw [h1] at this; simpa using this⟩) hS h
theorem skip_of {i fuel : Nat} {listed : Array Bool} {a : Act} {w : World} {d : Option Tmp} (ho : (ops[i]?).map (fun o => o.dst) = some d)
  (hs : Region.noSelect ops = true) (hf : Region.free md ops listed i = true) (hr : (Region.ready md ops listed).contains i = true)
  (hQ : ∀ c a w, Q (.panic c) (a.put d undef) w → Q (.panic c) a w)
  (hw : (ops[i]?).map (fun o => Region.wanted o (yielded ops a.tmps)) = some false) (hS : S w)
  (h : wpAnyH P md ops Q S fuel (listed.setIfInBounds i true) (a.put d undef) w) : wpAnyH P md ops Q S (fuel + 1) listed a w := by
 cases h1 : ops[i]? with
 | none => rw [h1] at ho; cases ho
 | some o =>
  rw [h1] at ho hw
  simp only [Option.map_some, Option.some.injEq] at ho hw
  subst ho
  exact wpAnyH_take h1 hs hf hr hQ (Or.inr ⟨hw, rfl⟩) hS h
theorem run_load_row {a : Act} (T : TypeId) (x : Operand) (g : Nat) (t : TypeId) (cs : Array Value) (d : TypeDesc) (hx : a.eval x = .pointer (some ⟨g, 0, none⟩)) (hu : P.underlying T = some d)
  (hd : (match d with | .struct _ | .array _ _ => true | _ => false) = true) (hi : (P.info? T).map (·.size) = some cs.size) (hg : ∀ w, S w → RowAt w g cs t) :
  ∀ o : Oper, o.op = Op.load T x → ∀ w, S w → (execOp a.eval o).run P w = .ok (.value (.agg cs)) w := by
 intro o ho w hS
 have hl := run_loadVar_row (P := P) w g t T cs (0, 0) d (hg w hS) hu hd hi
 unfold execOp
 simp only [ho, hx]
 simp only [Instr.loadAt, Instr.sureAddr, Sem.run_bind, Sem.run_pure, Result.andThen_ok, hl]
theorem run_move_of {a : Act} (x : Operand) (v : Value) (hx : a.eval x = v) : ∀ o : Oper, o.op = Op.move x → ∀ w, S w → (execOp a.eval o).run P w = .ok (.value v) w := by
 intro o ho w _; unfold execOp; simp only [ho, hx, Sem.run_pure]
theorem run_assign_of {a : Act} (x : Operand) (v : Value) (hx : a.eval x = v) : ∀ o : Oper, o.op = Op.assign x → ∀ w, S w → (execOp a.eval o).run P w = .ok (.value v) w := by
 intro o ho w _; unfold execOp; simp only [ho, hx, Sem.run_pure]
theorem run_pick_of {a : Act} (c x y : Operand) (b : Bool) (v : Value) (hc : a.eval c = .bool b) (hx : (if b then a.eval x else a.eval y) = v) : ∀ o : Oper, o.op = Op.pick c x y → ∀ w, S w → (execOp a.eval o).run P w = .ok (.value v) w := by
 intro o ho w _
 have hA : ∀ b : Bool, (asBool (.bool b)).run P w = .ok b w := fun _ => rfl
 cases b
 ·have hx' : a.eval y = v := hx
  unfold execOp; simp only [ho, hc, Sem.run_bind, hA, Result.andThen_ok, Sem.run_pure, Bool.false_eq_true, if_false, hx']
 ·have hx' : a.eval x = v := hx
  unfold execOp; simp only [ho, hc, Sem.run_bind, hA, Result.andThen_ok, Sem.run_pure, if_true, hx']
theorem run_not_of {a : Act} (T : TypeId) (x : Operand) (b : Bool) (hx : a.eval x = .bool b) : ∀ o : Oper, o.op = Op.unOp .not T x → ∀ w, S w → (execOp a.eval o).run P w = .ok (.value (.bool (!b))) w := by
 intro o ho w _; unfold execOp; simp only [ho, hx]; simp [go_sem, Op.unary]
theorem wpList_load_row {rest : List Oper} {op : Oper} {a : Act} {w : World} (hgd : op.guard = none) (T : TypeId) (x : Operand) (ho : op.op = .load T x)
  (g : Nat) (t : TypeId) (cs : Array Value) (d : TypeDesc) (hx : a.eval x = .pointer (some ⟨g, 0, none⟩)) (hg : RowAt w g cs t) (hu : P.underlying T = some d)
  (hd : (match d with | .struct _ | .array _ _ => true | _ => false) = true) (hi : (P.info? T).map (·.size) = some cs.size)
  (h : wpList P ops Q rest (a.put op.dst (.agg cs)) w) : wpList P ops Q (op :: rest) a w :=
 wpList_plain hgd fun _ hK => by
  have hl := run_load_row (P := P) (S := fun w' => w' = w) (a := a) T x g t cs d hx hu hd hi (fun w' e => by rw [e]; exact hg) op ho w rfl
  unfold Oper.wp
  rw [hl]
  exact hK _ _ h
theorem ready_call {i fuel : Nat} {listed : Array Bool} {a : Act} {w : World} (hr : Region.ready md ops listed = [i]) (F : Nat) (args : Array Operand) (ats : Array TypeId) (d : Option Tmp) (gd : Option (Nat × Bool))
  (ho : (ops[i]?).map (fun o => (o.dst, o.op, o.guard)) = some (d, Op.call { callee := Callee.value (Operand.func F), args := args, argTypes := ats }, gd))
  (hw : (ops[i]?).map (fun o => Region.wanted o (yielded ops a.tmps)) = some true)
  (vals : Array Value) (hv : args.map a.eval = vals) (hE : ∀ args w, (callFunc F args).run P w = .ok (.enter F args) w)
  (h : Calls P F vals w fun e w' => ∃ v, e = .returned v ∧ S w' ∧ (S w' → wpAnyH P md ops Q S fuel (listed.setIfInBounds i true) (a.put d v) w')) : wpAnyH P md ops Q S (fuel + 1) listed a w := by
 obtain ⟨o, h1o, h2o, h3o, h4o⟩ := op_of ho
 refine wpAnyH_ready hr (by simp) (AllReadyH.cons h1o (fun K hK => ?_) AllReadyH.nil)
 rw [h1o] at hw
 rw [if_pos (by simpa using hw)]
 have hx : (execOp a.eval o).run P w = .ok (.enter F vals) w := by
  unfold execOp
  simp only [h3o, resolve]
  simp [go_sem, hv, hE, Act.eval, invoke, Deferred.ofValue]
 unfold Oper.wp
 rw [hx, Oper.upon_enter]
 refine h.mono ?_
 rintro e w' ⟨v, rfl, hS, hk⟩
 dsimp only
 rw [h2o]
 exact hK.out _ _ hS hk
end
theorem setRow_new (w : World) (cs cs' : Array Value) (t : TypeId) : (w.alloc (.cells cs t)).setRow w.heap.size cs' = w.alloc (.cells cs' t) := by
  have h1 : ((w.alloc (.cells cs t)).setRow w.heap.size cs').heap = (w.alloc (.cells cs' t)).heap := by
    apply Array.ext_getElem?
    intro i
    by_cases h : i = w.heap.size
    · subst h
      exact (setRow_heap _ _ cs cs' t (0, 0) (heap_alloc_new w _)).trans (heap_alloc_new w _).symm
    · rw [setRow_other _ _ _ _ h]
      simp only [World.alloc, Array.getElem?_push]
      split
      · rename_i e; exact absurd e h
      · rfl
  have h2 : ∀ a b : World, a.heap = b.heap → { a with heap := b.heap } = a := fun a b e => by rw [← e]
  have h3 := h2 _ _ h1
  rw [← h3]
  rfl
theorem wpList_run {P : Program} {ops : Array Oper} {rest : List Oper} {o : Oper} {a : Act} {w : World} {Q : Exit → Act → World → Prop} (hg : o.guard = none) (v : Value)
    (hr : (execOp a.eval o).run P w = .ok (.value v) w) (h : wpList P ops Q rest (a.put o.dst v) w) : wpList P ops Q (o :: rest) a w :=
  wpList_plain hg fun K hK => by
    unfold Oper.wp
    rw [hr]
    exact hK _ _ h
section
variable {P : Program} {ops : Array Oper} {Q : Exit → Act → World → Prop} {md : Region.Mode} {S : World → Prop}
def OpStep (P : Program) (md : Region.Mode) (ops : Array Oper) (Q : Exit → Act → World → Prop) (S : World → Prop) (fuel : Nat) (listed : Array Bool) (a : Act) (w : World) (i : Nat) : Prop :=
  wpOp P ops Q i (fun a' w' => S w' ∧ wpAnyH P md ops Q S fuel (listed.setIfInBounds i true) a' w') a w
theorem ready1 {i fuel : Nat} {listed : Array Bool} {a : Act} {w : World} (hr : Region.ready md ops listed = [i]) (h : OpStep P md ops Q S fuel listed a w i) : wpAnyH P md ops Q S (fuel + 1) listed a w :=
  wpAnyH_all hr (by simp) fun j hj => by obtain rfl : j = i := by simpa using hj
                                         exact h
theorem ready2 {i k fuel : Nat} {listed : Array Bool} {a : Act} {w : World} (hr : Region.ready md ops listed = [i, k]) (h : OpStep P md ops Q S fuel listed a w i) (h2 : OpStep P md ops Q S fuel listed a w k) : wpAnyH P md ops Q S (fuel + 1) listed a w :=
  wpAnyH_all hr (by simp) fun j hj => by
    simp only [List.mem_cons, List.not_mem_nil, or_false] at hj
    rcases hj with rfl | rfl
    · exact h
    · exact h2
theorem step_call {i fuel : Nat} {listed : Array Bool} {a : Act} {w : World} (F : Nat) (args : Array Operand) (ats : Array TypeId) (d : Option Tmp) (gd : Option (Nat × Bool))
    (ho : (ops[i]?).map (fun o => (o.dst, o.op, o.guard)) = some (d, Op.call { callee := Callee.value (Operand.func F), args := args, argTypes := ats }, gd))
    (hw : (ops[i]?).map (fun o => Region.wanted o (yielded ops a.tmps)) = some true)
    (vals : Array Value) (hv : args.map a.eval = vals) (hE : ∀ args w, (callFunc F args).run P w = .ok (.enter F args) w)
    (h : Calls P F vals w fun e w' => ∃ v, e = .returned v ∧ S w' ∧ (S w' → wpAnyH P md ops Q S fuel (listed.setIfInBounds i true) (a.put d v) w')) : OpStep P md ops Q S fuel listed a w i := by
  obtain ⟨o, h1o, h2o, h3o, h4o⟩ := op_of ho
  rw [h1o] at hw
  refine wpOp_step h1o fun K hK => ?_
  rw [if_pos (by simpa using hw)]
  have hx : (execOp a.eval o).run P w = .ok (.enter F vals) w := by
    unfold execOp
    simp only [h3o, resolve]
    simp [go_sem, hv, hE, Act.eval, invoke, Deferred.ofValue]
  unfold Oper.wp
  rw [hx, Oper.upon_enter]
  refine h.mono ?_
  rintro e w' ⟨v, rfl, hS, hk⟩
  dsimp only
  rw [h2o]
  exact hK _ _ ⟨hS, hk hS⟩
theorem step_store_row {i fuel : Nat} {listed : Array Bool} {a : Act} {w : World} (T : TypeId) (x y : Operand)
    (ho : (ops[i]?).map (fun o => (o.dst, o.op, o.guard)) = some (none, Op.store T x y, none))
    (g : Nat) (t : TypeId) (Z cs : Array Value) (hx : a.eval x = .pointer (some ⟨g, 0, none⟩)) (hy : a.eval y = .agg cs)
    (ht : RowAt w g Z t) (hsz : Z.size = cs.size) (hi : (P.info? T).map (·.size) = some cs.size) (h1 : cs.all (·.oneCell') = true)
    (hS : S (w.setRow g cs)) (h : S (w.setRow g cs) → wpAnyH P md ops Q S fuel (listed.setIfInBounds i true) a (w.setRow g cs)) : OpStep P md ops Q S fuel listed a w i := by
  obtain ⟨o, h1o, h2o, h3o, h4o⟩ := op_of ho
  refine wpOp_step h1o fun K hK => ?_
  rw [if_pos (by simp [Region.wanted, h4o])]
  refine wp_store_row T x y h3o g t Z cs hx hy ht hsz hi h1 ?_
  rw [h2o]
  exact hK _ _ ⟨hS, h hS⟩
theorem step_run {i fuel : Nat} {listed : Array Bool} {a : Act} {w w' : World} (d : Option Tmp) (v : Value) (ho : (ops[i]?).map (fun o => o.dst) = some d)
    (hw : (ops[i]?).map (fun o => Region.wanted o (yielded ops a.tmps)) = some true) (hr : ((ops[i]?).map fun o => (execOp a.eval o).run P w) = some (.ok (.value v) w'))
    (hS : S w') (h : S w' → wpAnyH P md ops Q S fuel (listed.setIfInBounds i true) (a.put d v) w') : OpStep P md ops Q S fuel listed a w i := by
  cases h1 : ops[i]? with
  | none => rw [h1] at ho; cases ho
  | some o =>
    rw [h1] at ho hw hr
    simp only [Option.map_some, Option.some.injEq] at ho hw hr
    subst ho
    refine wpOp_step h1 fun K hK => ?_
    rw [if_pos hw]
    unfold Oper.wp
    rw [hr]
    exact hK _ _ ⟨hS, h hS⟩
theorem there_row {w : World} {g : Nat} {Z : Array Value} {t : TypeId} (ht : RowAt w g Z t) {o n : Nat} (h : o + n ≤ Z.size) : w.there g o n := by
  intro j hj
  refine ⟨?_, ht.frozen _⟩
  rw [ht.cell, Array.getElem?_eq_getElem (by omega)]
  rfl
theorem step_store_cell {i fuel : Nat} {listed : Array Bool} {a : Act} {w : World} (T : TypeId) (x y : Operand)
    (ho : (ops[i]?).map (fun o => (o.dst, o.op, o.guard)) = some (none, Op.store T x y, none)) (g off : Nat) (v : Value) (hx : a.eval x = .pointer (some ⟨g, off, none⟩)) (hy : a.eval y = v)
    (hv : ∀ u, (Instr.storeAt T (.pointer (some ⟨g, off, none⟩)) v).run P w = .ok u (w.setCell ⟨g, off, none⟩ v))
    (hS : S (w.setCell ⟨g, off, none⟩ v)) (h : S (w.setCell ⟨g, off, none⟩ v) → wpAnyH P md ops Q S fuel (listed.setIfInBounds i true) a (w.setCell ⟨g, off, none⟩ v)) : OpStep P md ops Q S fuel listed a w i := by
  obtain ⟨o, h1o, h2o, h3o, h4o⟩ := op_of ho
  refine wpOp_step h1o fun K hK => ?_
  rw [if_pos (by simp [Region.wanted, h4o])]
  unfold Oper.wp execOp
  simp only [h3o, hx, hy, Sem.run_bind, Sem.run_pure, hv (), Result.andThen_ok, Oper.upon_skip]
  rw [h2o]
  exact hK _ _ ⟨hS, h hS⟩
theorem step_store_mid {i fuel : Nat} {listed : Array Bool} {a : Act} {w : World} (T : TypeId) (x y : Operand)
    (ho : (ops[i]?).map (fun o => (o.dst, o.op, o.guard)) = some (none, Op.store T x y, none))
    (g off : Nat) (cs : Array Value) (hx : a.eval x = .pointer (some ⟨g, off, none⟩)) (hy : a.eval y = .agg cs)
    (ht : w.there g off cs.size) (hi : (P.info? T).map (·.size) = some cs.size) (h1 : cs.all (·.oneCell') = true)
    (hS : S (w.setCells g off cs.toList)) (h : S (w.setCells g off cs.toList) → wpAnyH P md ops Q S fuel (listed.setIfInBounds i true) a (w.setCells g off cs.toList)) : OpStep P md ops Q S fuel listed a w i := by
  obtain ⟨o, h1o, h2o, h3o, h4o⟩ := op_of ho
  refine wpOp_step h1o fun K hK => ?_
  rw [if_pos (by simp [Region.wanted, h4o])]
  refine wp_store_mid T x y h3o g off cs hx hy ht hi h1 ?_
  rw [h2o]
  exact hK _ _ ⟨hS, h hS⟩
end
section
variable {P : Program} {ops : Array Oper} {Q : Exit → Act → World → Prop} {md : Region.Mode} {S : World → Prop}
theorem sA {α : Type _} (l : List α) (i : Nat) (a : α) : l.toArray.setIfInBounds i a = (l.set i a).toArray := List.setIfInBounds_toArray l i a
theorem sZ {α : Type _} (a b : α) (l : List α) : (a :: l).set 0 b = b :: l := rfl
theorem sS {α : Type _} (a b : α) (l : List α) (n : Nat) : (a :: l).set (n + 1) b = a :: l.set n b := rfl
theorem tKg {fuel : Nat} {listed : Array Bool} {a : Act} {w : World} {v : Value} (i : Nat) (d : Nat) (hS : S w)
  (h : wpAnyH P md ops Q S fuel (listed.setIfInBounds i true) (a.put (some d) v) w)
  (hy : ∀ w, S w → ((ops[i]?).map fun o => (execOp a.eval o).run P w) = some (.ok (.value v) w) := by intro w hSw; (try dsimp only at hSw); go_simp; (try with_reducible rfl))
  (ho : (ops[i]?).map (fun o => o.dst) = some (some d) := by kernel_rfl)
  (hs : Region.noSelect ops = true := by kernel_rfl) (hf : Region.free md ops listed i = true := by kernel_rfl) (hr : (Region.ready md ops listed).contains i = true := by kernel_rfl)
  (hQ : ∀ c a w, Q (.panic c) (a.put (some d) v) w → Q (.panic c) a w := by exact fun _ _ _ h => h)
  (hw : (ops[i]?).map (fun o => Region.wanted o (yielded ops a.tmps)) = some true := by kernel_rfl) : wpAnyH P md ops Q S (fuel + 1) listed a w :=
 takeg ho hs hf hr hQ hw hy hS h
theorem tKw {fuel : Nat} {listed : Array Bool} {a : Act} {w : World} {gd : Option (Nat × Bool)} (i : Nat) (d : Nat) (op : Op) (v : Value) (hy : ∀ o : Oper, o.op = op → ∀ w, S w → (execOp a.eval o).run P w = .ok (.value v) w) (hS : S w)
  (h : wpAnyH P md ops Q S fuel (listed.setIfInBounds i true) (a.put (some d) v) w)
  (ho : (ops[i]?).map (fun o => (o.dst, o.op, o.guard)) = some (some d, op, gd) := by kernel_rfl)
  (hs : Region.noSelect ops = true := by kernel_rfl) (hf : Region.free md ops listed i = true := by kernel_rfl) (hr : (Region.ready md ops listed).contains i = true := by kernel_rfl)
  (hQ : ∀ c a w, Q (.panic c) (a.put (some d) v) w → Q (.panic c) a w := by exact fun _ _ _ h => h)
  (hw : (ops[i]?).map (fun o => Region.wanted o (yielded ops a.tmps)) = some true := by kernel_rfl) : wpAnyH P md ops Q S (fuel + 1) listed a w :=
 take_of ho hs hf hr hQ hw hy hS h
theorem sKp {fuel : Nat} {listed : Array Bool} {a : Act} {w : World} (i : Nat) (d : Option Tmp) (hS : S w)
  (h : wpAnyH P md ops Q S fuel (listed.setIfInBounds i true) (a.put d undef) w)
  (ho : (ops[i]?).map (fun o => o.dst) = some d := by kernel_rfl)
  (hs : Region.noSelect ops = true := by kernel_rfl) (hf : Region.free md ops listed i = true := by kernel_rfl) (hr : (Region.ready md ops listed).contains i = true := by kernel_rfl)
  (hQ : ∀ c a w, Q (.panic c) (a.put d undef) w → Q (.panic c) a w := by exact fun _ _ _ h => h)
  (hw : (ops[i]?).map (fun o => Region.wanted o (yielded ops a.tmps)) = some false := by kernel_rfl) : wpAnyH P md ops Q S (fuel + 1) listed a w :=
 skip_of ho hs hf hr hQ hw hS h
theorem rKc {i fuel : Nat} {listed : Array Bool} {a : Act} {w : World} (F : Nat) (args : Array Operand) (ats : Array TypeId) (d : Option Tmp) (gd : Option (Nat × Bool)) (vals : Array Value) (hE : ∀ args w, (callFunc F args).run P w = .ok (.enter F args) w)
  (h : Calls P F vals w fun e w' => ∃ v, e = .returned v ∧ S w' ∧ (S w' → wpAnyH P md ops Q S fuel (listed.setIfInBounds i true) (a.put d v) w'))
  (hr : Region.ready md ops listed = [i] := by kernel_rfl)
  (ho : (ops[i]?).map (fun o => (o.dst, o.op, o.guard)) = some (d, Op.call { callee := Callee.value (Operand.func F), args := args, argTypes := ats }, gd) := by kernel_rfl)
  (hw : (ops[i]?).map (fun o => Region.wanted o (yielded ops a.tmps)) = some true := by kernel_rfl)
  (hv : args.map a.eval = vals := by kernel_rfl) : wpAnyH P md ops Q S (fuel + 1) listed a w :=
 ready_call hr F args ats d gd ho hw vals hv hE h
end
section
variable {P : Program} {ops : Array Oper} {Q : Exit → Act → World → Prop} {rest : List Oper} {o : Oper} {a : Act} {w : World}
theorem gl (v : Value) (h : wpList P ops Q rest (a.put o.dst v) w) (hr : (execOp a.eval o).run P w = .ok (.value v) w := by kernel_rfl) (hw : Region.wanted o (yielded ops a.tmps) = true := by kernel_rfl) : wpList P ops Q (o :: rest) a w := by
 unfold wpList
 rw [if_pos hw]
 exact .inl (by unfold Oper.wp; rw [hr]; exact h)
theorem grow {g : Nat} {t : TypeId} {cs : Array Value} (hg : RowAt w g cs t) (T : TypeId) (x : Operand) {d : TypeDesc} (hu : P.underlying T = some d) (h : wpList P ops Q rest (a.put o.dst (.agg cs)) w)
  (ho : o.op = .load T x := by kernel_rfl) (hx : a.eval x = .pointer (some ⟨g, 0, none⟩) := by kernel_rfl)
  (hd : (match d with | .struct _ | .array _ _ => true | _ => false) = true := by rfl) (hi : (P.info? T).map (·.size) = some cs.size := by kernel_rfl)
  (hw : Region.wanted o (yielded ops a.tmps) = true := by kernel_rfl) : wpList P ops Q (o :: rest) a w :=
 gl (.agg cs) h (run_load_row (P := P) (S := fun w' => w' = w) (a := a) T x g t cs d hx hu hd hi (fun w' e => by rw [e]; exact hg) o ho w rfl) hw
theorem gSt {g : Nat} {t : TypeId} {Z : Array Value} (hg : RowAt w g Z t) (cs : Array Value) (T : TypeId) (x y : Operand) (h : wpList P ops Q rest (a.put o.dst undef) (w.setRow g cs))
  (ho : o.op = .store T x y := by kernel_rfl) (hx : a.eval x = .pointer (some ⟨g, 0, none⟩) := by kernel_rfl) (hy : a.eval y = .agg cs := by kernel_rfl) (hgd : o.guard = none := by kernel_rfl)
  (hsz : Z.size = cs.size := by kernel_rfl) (hi : (P.info? T).map (·.size) = some cs.size := by kernel_rfl) (h1 : cs.all (·.oneCell') = true := by kernel_rfl) : wpList P ops Q (o :: rest) a w :=
 RowL.wpList_store_row hgd T x y ho g t Z cs hx hy hg hsz hi h1 h
end
section
variable {P : Program} {fn : Func} {R : Ending → World → Prop} {a : Act} {w : World} {p q : Tmp} {ty t : TypeId} {cs : Array Value} {d : TypeDesc}
theorem bR1 (g : Nat) (hg : RowAt w g cs t) (hu : P.underlying ty = some d) (hR : R (.returned (.agg cs)) w) (h : fn.results = #[.cell p ty] := by rfl) (hp : a.tmps.getD p undef = .pointer (some ⟨g, 0, none⟩) := by rfl)
  (hd : (match d with | .struct _ | .array _ _ => true | _ => false) = true := by rfl) (hi : (P.info? ty).map (·.size) = some cs.size := by kernel_rfl) (hde : a.defers = [] := by rfl) : bodyPost P fn R .ret a w :=
 bodyPost_ret (results_row h _ _ g t cs d hp hg hu hd hi) hde hR
theorem bR2 (g : Nat) (hg : RowAt w g cs t) (hu : P.underlying ty = some d) (hR : R (.returned (.tuple #[.agg cs, a.tmps.getD q undef])) w) (h : fn.results = #[.cell p ty, .tmp q] := by rfl) (hp : a.tmps.getD p undef = .pointer (some ⟨g, 0, none⟩) := by rfl)
  (hd : (match d with | .struct _ | .array _ _ => true | _ => false) = true := by rfl) (hi : (P.info? ty).map (·.size) = some cs.size := by kernel_rfl) (hde : a.defers = [] := by rfl) : bodyPost P fn R .ret a w :=
 bodyPost_ret (results_row2 h _ _ g t cs d hp hg hu hd hi) hde hR
end
end Go.Proofs.YtpmkgddjgebojaaGreatDoor.RowL
namespace Go.Proofs.YtpmkgddjgebojaaGreatDoor.Life
open Go.RowKit Hp Slot RowL
abbrev cval (s : S) (own more : Int) : Value := .agg (Ae s.state s.own s.streams s.broken s.marked s.uses s.gen s.epoch s.version own more)
theorem is_any (w : World) (s : S) (own more k : Int) : Calls Tryz.prog 138 #[cval s own more, .i k] w fun e w' => e = .returned (.bool (s.state == k)) ∧ Below w.heap.size w w' := by
 obtain ⟨st, ow, sm, br, ma, us, ge, ep, ve⟩ := s
 go_enter Tryz.func138, Tryz.ntmps138
 go_wp2
 go_ret
 exact ⟨rfl, (Below.refl _ _).alloc (Nat.le_refl _) _⟩
theorem mine_any (w : World) (s : S) (own more k : Int) : Calls Tryz.prog 140 #[cval s own more, .i k] w fun e w' => e = .returned (.bool (s.state == k && s.own == own)) ∧ Below w.heap.size w w' := by
 have hi := fun W => is_any W s own more k
 obtain ⟨st, ow, sm, br, ma, us, ge, ep, ve⟩ := s
 simp only [cval] at hi
 go_enter Tryz.func140, Tryz.ntmps140
 go_wp2_with fail
 refine (hi _).mono ?_
 rintro e w5 ⟨rfl, hb5⟩
 have hc1 : w5.cell? ⟨w.heap.size, 1, none⟩ = some (.i ow) := Field.bkeep hb5 (by simp)
 have hc2 : w5.cell? ⟨w.heap.size, 9, none⟩ = some (.i own) := Field.bkeep hb5 (by simp)
 have hB : Below w.heap.size w w5 := ((Below.refl _ _).alloc (Nat.le_refl _) _).trans (hb5.mono (by simp))
 clear hb5 hi
 by_cases h : st = k
 ·have hk : (st == k) = true := by simpa using h
  rw [hk]
  go_wp2_with fail
  go_ret
  exact ⟨Base.ret_bool (by simp [h]), hB⟩
 ·have hk : (st == k) = false := by simpa using h
  rw [hk]
  go_wp2_with fail
  go_ret
  exact ⟨Base.ret_bool (by simp [h]), hB⟩
theorem sound_any (w : World) (s : S) (own more : Int) : Calls Tryz.prog 141 #[cval s own more] w fun e w' => e = .returned (.bool (s.state == 2 && !s.broken)) ∧ Below w.heap.size w w' := by
 have hi := fun W => is_any W s own more 2
 obtain ⟨st, ow, sm, br, ma, us, ge, ep, ve⟩ := s
 simp only [cval] at hi
 go_enter Tryz.func141, Tryz.ntmps141
 go_wp2_with fail
 refine (hi _).mono ?_
 rintro e w5 ⟨rfl, hb5⟩
 have hc1 : w5.cell? ⟨w.heap.size, 3, none⟩ = some (.bool br) := Field.bkeep hb5 (by simp)
 have hB : Below w.heap.size w w5 := ((Below.refl _ _).alloc (Nat.le_refl _) _).trans (hb5.mono (by simp))
 clear hb5 hi
 by_cases h : st = 2
 ·have hk : (st == 2) = true := by simpa using h
  rw [hk]
  go_wp2_with fail
  go_ret
  exact ⟨Base.ret_bool (by simp [h]), hB⟩
 ·have hk : (st == 2) = false := by simpa using h
  rw [hk]
  go_wp2_with fail
  go_ret
  exact ⟨Base.ret_bool (by simp [h]), hB⟩
def to (s : S) (own k : Int) : S :=
 { s with
  state := k
  streams := if k = 3 then s.streams else 0
  marked := if k = 2 then s.marked else false
  broken := if k = 2 ∨ k = 3 ∨ k = 4 then s.broken else false
  uses := if k = 2 ∨ k = 3 ∨ k = 4 then s.uses else 0
  epoch := if k = 6 then s.epoch else 0
  own := if k = 0 ∨ k = 6 then 0 else own }
theorem heap_alloc3_mid (w : World) (A B C : Obj) : (((w.alloc A).alloc B).alloc C).heap[w.heap.size + 1]? = some B := by
 rw [Below.heap_alloc _ _ _ (by simp)]; exact heap_alloc2_new w A B
theorem to_any (w : World) (s : S) (own more k : Int) (hk : k = 0 ∨ k = 1 ∨ k = 2 ∨ k = 3 ∨ k = 4 ∨ k = 5 ∨ k = 6) : Calls Tryz.prog 137 #[cval s own more, .i k] w fun e w' => e = .returned (to s own k).val ∧ Below w.heap.size w w' := by
 obtain ⟨st, ow, sm, br, ma, us, ge, ep, ve⟩ := s
 go_enter Tryz.func137, Tryz.ntmps137
 simp only [cval]
 rcases hk with rfl | rfl | rfl | rfl | rfl | rfl | rfl
 all_goals (
  go_wp2
  go_region
  go_wp2)
 all_goals (
  refine bodyPost_ret (results_cell_row rfl _ _ (w.heap.size + 1) _ _ _ _ rfl (heap_alloc3_mid _ _ _ _) Tryz.underlying59 rfl (by kernel_rfl)) rfl ?_
  exact ⟨by simp [to, S.val, S.cells], ((((Below.refl _ _).alloc (Nat.le_refl _) _).alloc (by simp) _).alloc (by simp; omega) _).drew⟩)
def leased (s : S) (own : Int) : S := { to s own 3 with uses := min (s.uses + 1) 63, gen := (s.gen + 1) % 4096 }
theorem leased_any (w : World) (s : S) (own more : Int) (hu : 0 ≤ s.uses ∧ s.uses ≤ 63) (hg : 0 ≤ s.gen ∧ s.gen ≤ 4095) : Calls Tryz.prog 139 #[cval s own more] w fun e w' => e = .returned (leased s own).val ∧ Below w.heap.size w w' := by
 have ht := fun W => to_any W s own more 3 (by simp)
 have hl : leased s own = { to s own 3 with uses := min (s.uses + 1) 63, gen := (s.gen + 1) % 4096 } := rfl
 have htu : (to s own 3).uses = s.uses := by simp [to]
 have htg : (to s own 3).gen = s.gen := rfl
 rw [← htu] at hu hl
 rw [← htg] at hg hl
 generalize to s own 3 = t at *
 have HL := Lib.hid hl
 clear hl htu htg
 obtain ⟨st, ow, sm, br, ma, us, ge, ep, ve⟩ := s
 obtain ⟨st', ow', sm', br', ma', us', ge', ep', ve'⟩ := t
 simp only [cval, S.val, S.cells] at ht hu hg
 obtain ⟨hu0, hu1⟩ := hu
 obtain ⟨hg0, hg1⟩ := hg
 have hm : IntKind.i64.wrap ((ge' + 1).tmod 4096) = (ge' + 1) % 4096 := by
  rw [Int.tmod_eq_emod_of_nonneg (by omega), IntKind.wrap_i64]; omega
 go_enter Tryz.func139, Tryz.ntmps139
 go_wp2_with fail
 refine (ht _).mono ?_
 rintro e w5 ⟨rfl, hb5⟩
 have hA : Below w.heap.size w ((w.alloc (.cells (Ae st ow sm br ma us ge ep ve own more) 141)).alloc (.cells Zs 59)) := ((Below.refl _ _).alloc (Nat.le_refl _) _).alloc (by simp) _
 have hB : Below w.heap.size w w5 := hA.trans (hb5.mono (by simp; omega))
 have hr : RowAt w5 (w.heap.size + 1) Zs 59 := RowAt.below (heap_alloc2_new w _ _) hb5
 have hr2 := fun o => hr.alloc o
 have q0 : ∀ o, (w5.alloc o).cell? ⟨w.heap.size + 1, 0, none⟩ = some (.i 0) := fun o => (hr.alloc o).cell 0
 have f0 : ∀ o, (w5.alloc o).frozen? ⟨w.heap.size + 1, 0, none⟩ = false := fun o => (hr.alloc o).frozen 0
 have q1 : ∀ o, (w5.alloc o).cell? ⟨w.heap.size + 1, 1, none⟩ = some (.i 0) := fun o => (hr.alloc o).cell 1
 have f1 : ∀ o, (w5.alloc o).frozen? ⟨w.heap.size + 1, 1, none⟩ = false := fun o => (hr.alloc o).frozen 1
 have q2 : ∀ o, (w5.alloc o).cell? ⟨w.heap.size + 1, 2, none⟩ = some (.i 0) := fun o => (hr.alloc o).cell 2
 have f2 : ∀ o, (w5.alloc o).frozen? ⟨w.heap.size + 1, 2, none⟩ = false := fun o => (hr.alloc o).frozen 2
 have q3 : ∀ o, (w5.alloc o).cell? ⟨w.heap.size + 1, 3, none⟩ = some (.bool false) := fun o => (hr.alloc o).cell 3
 have f3 : ∀ o, (w5.alloc o).frozen? ⟨w.heap.size + 1, 3, none⟩ = false := fun o => (hr.alloc o).frozen 3
 have q4 : ∀ o, (w5.alloc o).cell? ⟨w.heap.size + 1, 4, none⟩ = some (.bool false) := fun o => (hr.alloc o).cell 4
 have f4 : ∀ o, (w5.alloc o).frozen? ⟨w.heap.size + 1, 4, none⟩ = false := fun o => (hr.alloc o).frozen 4
 have q5 : ∀ o, (w5.alloc o).cell? ⟨w.heap.size + 1, 5, none⟩ = some (.i 0) := fun o => (hr.alloc o).cell 5
 have f5 : ∀ o, (w5.alloc o).frozen? ⟨w.heap.size + 1, 5, none⟩ = false := fun o => (hr.alloc o).frozen 5
 have q6 : ∀ o, (w5.alloc o).cell? ⟨w.heap.size + 1, 6, none⟩ = some (.i 0) := fun o => (hr.alloc o).cell 6
 have f6 : ∀ o, (w5.alloc o).frozen? ⟨w.heap.size + 1, 6, none⟩ = false := fun o => (hr.alloc o).frozen 6
 have q7 : ∀ o, (w5.alloc o).cell? ⟨w.heap.size + 1, 7, none⟩ = some (.i 0) := fun o => (hr.alloc o).cell 7
 have f7 : ∀ o, (w5.alloc o).frozen? ⟨w.heap.size + 1, 7, none⟩ = false := fun o => (hr.alloc o).frozen 7
 have q8 : ∀ o, (w5.alloc o).cell? ⟨w.heap.size + 1, 8, none⟩ = some (.i 0) := fun o => (hr.alloc o).cell 8
 have f8 : ∀ o, (w5.alloc o).frozen? ⟨w.heap.size + 1, 8, none⟩ = false := fun o => (hr.alloc o).frozen 8
 have Hr := Lib.hid hr
 clear hr2 hr
 have hmin : us' + 1 ≤ 63 ∨ 63 < us' + 1 := by omega
 clear hb5 hA ht
 rcases hmin with hmin | hmin
 all_goals (
  go_wp2_with fail)
 all_goals (
  refine bR1 (w.heap.size + 1) ((((((((((Hr.out.alloc _).setc 0 _).setc 1 _).setc 2 _).setc 3 _).setc 4 _).setc 5 _).setc 6 _).setc 7 _).setc 8 _) Tryz.underlying59 ?_
  refine ⟨?_, ?_⟩
  ·rw [HL.out]
   simp [S.val, S.cells]
   try omega
  ·iterate 9 refine Below.setCell ?_ (by simp) _
   exact hB.alloc hB.size _)
abbrev zero9 : Array Value := Zs
def Kp (wa : World) (rb : Nat) (w' : World) : Prop := Chg (fun k => k = rb) wa w' ∧ ∃ Z : Array Value, Z.size = 9 ∧ RowAt w' rb Z 59
theorem Kp.later {wa w w' : World} {rb : Nat} (h : Kp wa rb w) (hb : Below w.heap.size w w') : Kp wa rb w' := by
 obtain ⟨h1, Z, h2, h3⟩ := h
 exact ⟨h1.trans (Chg.ofBelow (F := fun k => k = rb) hb) (fun _ _ h => h), Z, h2, h3.below hb⟩
theorem Kp.drew {wa w : World} {rb : Nat} (h : Kp wa rb w) : Kp wa rb w.drew := by
 obtain ⟨h1, Z, h2, h3⟩ := h
 exact ⟨h1.drew, Z, h2, h3⟩
theorem Kp.set {wa w : World} {rb : Nat} (h : Kp wa rb w) (r : S) : Kp wa rb (w.setRow rb r.cells) := by
 obtain ⟨h1, Z, h2, h3⟩ := h
 exact ⟨chg_setRow h1 _ _ (fun _ => rfl), _, rfl, h3.set _⟩
theorem Kp.cell {wa w : World} {rb : Nat} (h : Kp wa rb w) {p : Addr} {v : Value} (hp : p.block ≠ rb) (hc : wa.cell? p = some v) : w.cell? p = some v := (h.1.cell (World.block_lt_of_cell? _ _ hc) hp).trans hc
theorem Kp.store {wa w : World} {rb : Nat} (h : Kp wa rb w) (r : S) : (storeCells ⟨rb, 0, none⟩ r.cells.toList 0).run Tryz.prog w = .ok () (w.setRow rb r.cells) := by
 obtain ⟨h1, Z, h2, h3⟩ := h
 have h4 := run_storeCells_from (P := Tryz.prog) rb 59 r.cells.toList 0 Z w h3 (by simp [S.cells, h2]) (fun v hv => by simp [S.cells] at hv; rcases hv with rfl | rfl | rfl | rfl | rfl | rfl | rfl | rfl | rfl <;> rfl)
 simpa using h4
theorem Kp.below {w wa w' : World} {rb : Nat} (h : Kp wa rb w') (hA : Below w.heap.size w wa) (hr : w.heap.size ≤ rb) : Below w.heap.size w w' := hA.trans (h.1.below hA.size fun k e => by omega)
theorem Kp.row {wa w : World} {rb : Nat} (h : Kp wa rb w) (r : S) : RowAt (w.setRow rb r.cells) rb r.cells 59 := by
 obtain ⟨h1, Z, h2, h3⟩ := h
 exact h3.set _
theorem boxes (w : World) (st ow sm : Int) (br ma : Bool) (us ge ep ve own more : Int) (r : S) : Below w.heap.size w ((w.alloc (.cells (Ae st ow sm br ma us ge ep ve own more) 141)).alloc (.cells zero9 59)) ∧ Kp ((w.alloc (.cells (Ae st ow sm br ma us ge ep ve own more) 141)).alloc (.cells zero9 59)) (w.heap.size + 1) ((w.alloc (.cells (Ae st ow sm br ma us ge ep ve own more) 141)).alloc (.cells zero9 59)) ∧
  ∀ w', Kp ((w.alloc (.cells (Ae st ow sm br ma us ge ep ve own more) 141)).alloc (.cells zero9 59)) (w.heap.size + 1) w' → (w'.cell? ⟨w.heap.size, 0, none⟩ = some (.i st) ∧ w'.cell? ⟨w.heap.size, 1, none⟩ = some (.i ow) ∧ w'.cell? ⟨w.heap.size, 2, none⟩ = some (.i sm) ∧ w'.cell? ⟨w.heap.size, 3, none⟩ = some (.bool br) ∧ w'.cell? ⟨w.heap.size, 4, none⟩ = some (.bool ma) ∧ w'.cell? ⟨w.heap.size, 5, none⟩ = some (.i us) ∧ w'.cell? ⟨w.heap.size, 6, none⟩ = some (.i ge) ∧ w'.cell? ⟨w.heap.size, 7, none⟩ = some (.i ep) ∧ w'.cell? ⟨w.heap.size, 8, none⟩ = some (.i ve) ∧ w'.cell? ⟨w.heap.size, 9, none⟩ = some (.i own) ∧ w'.cell? ⟨w.heap.size, 10, none⟩ = some (.i more)) ∧ (storeCells ⟨w.heap.size + 1, 0, none⟩ r.cells.toList 0).run Tryz.prog w' = .ok () (w'.setRow (w.heap.size + 1) r.cells) := by
 refine ⟨((Below.refl _ _).alloc (Nat.le_refl _) _).alloc (by simp) _, ⟨Chg.refl _ _, zero9, rfl, heap_alloc2_new w _ _⟩, fun w' h => ⟨?_, h.store r⟩⟩
 refine ⟨h.cell (by simp) (by simp), h.cell (by simp) (by simp), h.cell (by simp) (by simp), h.cell (by simp) (by simp), h.cell (by simp) (by simp), h.cell (by simp) (by simp), h.cell (by simp) (by simp), h.cell (by simp) (by simp), h.cell (by simp) (by simp), h.cell (by simp) (by simp), h.cell (by simp) (by simp)⟩
theorem dial_any (w : World) (s : S) (own more : Int) : Calls Tryz.prog 111 #[cval s own more] w fun e w' => e = .returned (.tuple #[(to s own 1).val, .bool (s.state == 0)]) ∧ Below w.heap.size w w' := by
 have ht := fun W => to_any W s own more 1 (by simp)
 have hi := fun W => is_any W s own more 0
 generalize hr : to s own 1 = r at *
 generalize hb : (s.state == 0) = b at *
 clear hr hb
 obtain ⟨st, ow, sm, br, ma, us, ge, ep, ve⟩ := s
 simp only [cval] at ht hi
 obtain ⟨hA, hK, hL⟩ := boxes w st ow sm br ma us ge ep ve own more r
 have hsz : r.cells.size = 9 := rfl
 go_enter Tryz.func111, Tryz.ntmps111
 go_wp2_with fail
 generalize ((w.alloc (.cells (Ae st ow sm br ma us ge ep ve own more) 141)).alloc (.cells zero9 59)) = wa at *
 have hKd := hK.drew
 go_region_held3 (fun w' => Kp wa (w.heap.size + 1) w') (first | assumption | exact Kp.set (by assumption) r)
  ((first
  | (go_at_call 137; refine (ht _).mono ?_; rintro e w5 ⟨rfl, hb5⟩; have hK5 := hKd.later hb5)
  | (go_at_call 138; refine (hi _).mono ?_; rintro e w6 ⟨rfl, hb6⟩; have hK6 := hK5.later hb6)))
 clear hL ht hi hsz
 go_wp2_with fail
 refine bR2 (w.heap.size + 1) (hK6.row r) Tryz.underlying59 ?_
 exact ⟨rfl, (hK6.set r).below hA (by omega)⟩
theorem up_any (w : World) (s : S) (own more : Int) (hu : 0 ≤ s.uses ∧ s.uses ≤ 63) (hg : 0 ≤ s.gen ∧ s.gen ≤ 4095) : Calls Tryz.prog 112 #[cval s own more] w fun e w' => e = .returned (.tuple #[(leased s own).val, .bool (s.state == 1 && s.own == own)]) ∧ Below w.heap.size w w' := by
 have ht := fun W => leased_any W s own more hu hg
 have hi := fun W => mine_any W s own more 1
 generalize hr : leased s own = r at *
 generalize hb : (s.state == 1 && s.own == own) = b at *
 clear hr hb hu hg
 obtain ⟨st, ow, sm, br, ma, us, ge, ep, ve⟩ := s
 simp only [cval] at ht hi
 obtain ⟨hA, hK, hL⟩ := boxes w st ow sm br ma us ge ep ve own more r
 have hsz : r.cells.size = 9 := rfl
 go_enter Tryz.func112, Tryz.ntmps112
 go_wp2_with fail
 generalize ((w.alloc (.cells (Ae st ow sm br ma us ge ep ve own more) 141)).alloc (.cells zero9 59)) = wa at *
 have hKd := hK.drew
 go_region_held3 (fun w' => Kp wa (w.heap.size + 1) w') (first | assumption | exact Kp.set (by assumption) r)
  ((first
  | (go_at_call 139; refine (ht _).mono ?_; rintro e w5 ⟨rfl, hb5⟩; have hK5 := hKd.later hb5)
  | (go_at_call 140; refine (hi _).mono ?_; rintro e w6 ⟨rfl, hb6⟩; have hK6 := hK5.later hb6)))
 clear hL ht hi hsz
 go_wp2_with fail
 refine bR2 (w.heap.size + 1) (hK6.row r) Tryz.underlying59 ?_
 exact ⟨rfl, (hK6.set r).below hA (by omega)⟩
theorem fail_any (w : World) (s : S) (own more : Int) : Calls Tryz.prog 113 #[cval s own more] w fun e w' => e = .returned (.tuple #[(to s own 0).val, .bool (s.state == 1 && s.own == own)]) ∧ Below w.heap.size w w' := by
 have ht := fun W => to_any W s own more 0 (by simp)
 have hi := fun W => mine_any W s own more 1
 generalize hr : to s own 0 = r at *
 generalize hb : (s.state == 1 && s.own == own) = b at *
 clear hr hb
 obtain ⟨st, ow, sm, br, ma, us, ge, ep, ve⟩ := s
 simp only [cval] at ht hi
 obtain ⟨hA, hK, hL⟩ := boxes w st ow sm br ma us ge ep ve own more r
 have hsz : r.cells.size = 9 := rfl
 go_enter Tryz.func113, Tryz.ntmps113
 go_wp2_with fail
 generalize ((w.alloc (.cells (Ae st ow sm br ma us ge ep ve own more) 141)).alloc (.cells zero9 59)) = wa at *
 have hKd := hK.drew
 go_region_held3 (fun w' => Kp wa (w.heap.size + 1) w') (first | assumption | exact Kp.set (by assumption) r)
  ((first
  | (go_at_call 137; refine (ht _).mono ?_; rintro e w5 ⟨rfl, hb5⟩; have hK5 := hKd.later hb5)
  | (go_at_call 140; refine (hi _).mono ?_; rintro e w6 ⟨rfl, hb6⟩; have hK6 := hK5.later hb6)))
 clear hL ht hi hsz
 go_wp2_with fail
 refine bR2 (w.heap.size + 1) (hK6.row r) Tryz.underlying59 ?_
 exact ⟨rfl, (hK6.set r).below hA (by omega)⟩
theorem lease_any (w : World) (s : S) (own more : Int) (hu : 0 ≤ s.uses ∧ s.uses ≤ 63) (hg : 0 ≤ s.gen ∧ s.gen ≤ 4095) : Calls Tryz.prog 114 #[cval s own more] w fun e w' => e = .returned (.tuple #[(leased s own).val, .bool (s.state == 2 && !s.broken)]) ∧ Below w.heap.size w w' := by
 have ht := fun W => leased_any W s own more hu hg
 have hi := fun W => sound_any W s own more
 generalize hr : leased s own = r at *
 generalize hb : (s.state == 2 && !s.broken) = b at *
 clear hr hb hu hg
 obtain ⟨st, ow, sm, br, ma, us, ge, ep, ve⟩ := s
 simp only [cval] at ht hi
 obtain ⟨hA, hK, hL⟩ := boxes w st ow sm br ma us ge ep ve own more r
 have hsz : r.cells.size = 9 := rfl
 go_enter Tryz.func114, Tryz.ntmps114
 go_wp2_with fail
 generalize ((w.alloc (.cells (Ae st ow sm br ma us ge ep ve own more) 141)).alloc (.cells zero9 59)) = wa at *
 have hKd := hK.drew
 go_region_held3 (fun w' => Kp wa (w.heap.size + 1) w') (first | assumption | exact Kp.set (by assumption) r)
  ((first
  | (go_at_call 139; refine (ht _).mono ?_; rintro e w5 ⟨rfl, hb5⟩; have hK5 := hKd.later hb5)
  | (go_at_call 141; refine (hi _).mono ?_; rintro e w6 ⟨rfl, hb6⟩; have hK6 := hK5.later hb6)))
 clear hL ht hi hsz
 go_wp2_with fail
 refine bR2 (w.heap.size + 1) (hK6.row r) Tryz.underlying59 ?_
 exact ⟨rfl, (hK6.set r).below hA (by omega)⟩
theorem keep_any (w : World) (s : S) (own more : Int) : Calls Tryz.prog 116 #[cval s own more] w fun e w' => e = .returned (.tuple #[(to s own 4).val, .bool (s.state == 2 && !s.broken)]) ∧ Below w.heap.size w w' := by
 have ht := fun W => to_any W s own more 4 (by simp)
 have hi := fun W => sound_any W s own more
 generalize hr : to s own 4 = r at *
 generalize hb : (s.state == 2 && !s.broken) = b at *
 clear hr hb
 obtain ⟨st, ow, sm, br, ma, us, ge, ep, ve⟩ := s
 simp only [cval] at ht hi
 obtain ⟨hA, hK, hL⟩ := boxes w st ow sm br ma us ge ep ve own more r
 have hsz : r.cells.size = 9 := rfl
 go_enter Tryz.func116, Tryz.ntmps116
 go_wp2_with fail
 generalize ((w.alloc (.cells (Ae st ow sm br ma us ge ep ve own more) 141)).alloc (.cells zero9 59)) = wa at *
 have hKd := hK.drew
 go_region_held3 (fun w' => Kp wa (w.heap.size + 1) w') (first | assumption | exact Kp.set (by assumption) r)
  ((first
  | (go_at_call 137; refine (ht _).mono ?_; rintro e w5 ⟨rfl, hb5⟩; have hK5 := hKd.later hb5)
  | (go_at_call 141; refine (hi _).mono ?_; rintro e w6 ⟨rfl, hb6⟩; have hK6 := hK5.later hb6)))
 clear hL ht hi hsz
 go_wp2_with fail
 refine bR2 (w.heap.size + 1) (hK6.row r) Tryz.underlying59 ?_
 exact ⟨rfl, (hK6.set r).below hA (by omega)⟩
theorem hold_any (w : World) (s : S) (own more : Int) : Calls Tryz.prog 118 #[cval s own more] w fun e w' => e = .returned (.tuple #[(to s own 5).val, .bool (s.state == 0)]) ∧ Below w.heap.size w w' := by
 have ht := fun W => to_any W s own more 5 (by simp)
 have hi := fun W => is_any W s own more 0
 generalize hr : to s own 5 = r at *
 generalize hb : (s.state == 0) = b at *
 clear hr hb
 obtain ⟨st, ow, sm, br, ma, us, ge, ep, ve⟩ := s
 simp only [cval] at ht hi
 obtain ⟨hA, hK, hL⟩ := boxes w st ow sm br ma us ge ep ve own more r
 have hsz : r.cells.size = 9 := rfl
 go_enter Tryz.func118, Tryz.ntmps118
 go_wp2_with fail
 generalize ((w.alloc (.cells (Ae st ow sm br ma us ge ep ve own more) 141)).alloc (.cells zero9 59)) = wa at *
 have hKd := hK.drew
 go_region_held3 (fun w' => Kp wa (w.heap.size + 1) w') (first | assumption | exact Kp.set (by assumption) r)
  ((first
  | (go_at_call 137; refine (ht _).mono ?_; rintro e w5 ⟨rfl, hb5⟩; have hK5 := hKd.later hb5)
  | (go_at_call 138; refine (hi _).mono ?_; rintro e w6 ⟨rfl, hb6⟩; have hK6 := hK5.later hb6)))
 clear hL ht hi hsz
 go_wp2_with fail
 refine bR2 (w.heap.size + 1) (hK6.row r) Tryz.underlying59 ?_
 exact ⟨rfl, (hK6.set r).below hA (by omega)⟩
theorem move_any (w : World) (s : S) (own more : Int) : Calls Tryz.prog 120 #[cval s own more] w fun e w' => e = .returned (.tuple #[(to s own 2).val, .bool (s.state == 2)]) ∧ Below w.heap.size w w' := by
 have ht := fun W => to_any W s own more 2 (by simp)
 have hi := fun W => is_any W s own more 2
 generalize hr : to s own 2 = r at *
 generalize hb : (s.state == 2) = b at *
 clear hr hb
 obtain ⟨st, ow, sm, br, ma, us, ge, ep, ve⟩ := s
 simp only [cval] at ht hi
 obtain ⟨hA, hK, hL⟩ := boxes w st ow sm br ma us ge ep ve own more r
 have hsz : r.cells.size = 9 := rfl
 go_enter Tryz.func120, Tryz.ntmps120
 go_wp2_with fail
 generalize ((w.alloc (.cells (Ae st ow sm br ma us ge ep ve own more) 141)).alloc (.cells zero9 59)) = wa at *
 have hKd := hK.drew
 go_region_held3 (fun w' => Kp wa (w.heap.size + 1) w') (first | assumption | exact Kp.set (by assumption) r)
  ((first
  | (go_at_call 137; refine (ht _).mono ?_; rintro e w5 ⟨rfl, hb5⟩; have hK5 := hKd.later hb5)
  | (go_at_call 138; refine (hi _).mono ?_; rintro e w6 ⟨rfl, hb6⟩; have hK6 := hK5.later hb6)))
 clear hL ht hi hsz
 go_wp2_with fail
 refine bR2 (w.heap.size + 1) (hK6.row r) Tryz.underlying59 ?_
 exact ⟨rfl, (hK6.set r).below hA (by omega)⟩
theorem rest_any (w : World) (s : S) (own more : Int) : Calls Tryz.prog 115 #[cval s own more] w fun e w' => e = .returned (.tuple #[(to s own 2).val, .bool ((s.state == 3 && s.own == own) && s.streams == 0)]) ∧ Below w.heap.size w w' := by
 have ht := fun W => to_any W s own more 2 (by simp)
 have hi := fun W => mine_any W s own more 3
 generalize hr : to s own 2 = r at *
 generalize hb : (s.state == 3 && s.own == own) = b at *
 clear hr hb
 obtain ⟨st, ow, sm, br, ma, us, ge, ep, ve⟩ := s
 simp only [cval] at ht hi
 have hA : Below w.heap.size w ((w.alloc (.cells (Ae st ow sm br ma us ge ep ve own more) 141)).alloc (.cells zero9 59)) := ((Below.refl _ _).alloc (Nat.le_refl _) _).alloc (by simp) _
 have hK : Kp ((w.alloc (.cells (Ae st ow sm br ma us ge ep ve own more) 141)).alloc (.cells zero9 59)) (w.heap.size + 1) ((w.alloc (.cells (Ae st ow sm br ma us ge ep ve own more) 141)).alloc (.cells zero9 59)) := ⟨Chg.refl _ _, zero9, rfl, heap_alloc2_new w _ _⟩
 have l0 : ∀ w', Kp ((w.alloc (.cells (Ae st ow sm br ma us ge ep ve own more) 141)).alloc (.cells zero9 59)) (w.heap.size + 1) w' → w'.cell? ⟨w.heap.size, 0, none⟩ = some (.i st) := fun w' h => h.cell (by simp) (by simp)
 have l1 : ∀ w', Kp ((w.alloc (.cells (Ae st ow sm br ma us ge ep ve own more) 141)).alloc (.cells zero9 59)) (w.heap.size + 1) w' → w'.cell? ⟨w.heap.size, 1, none⟩ = some (.i ow) := fun w' h => h.cell (by simp) (by simp)
 have l2 : ∀ w', Kp ((w.alloc (.cells (Ae st ow sm br ma us ge ep ve own more) 141)).alloc (.cells zero9 59)) (w.heap.size + 1) w' → w'.cell? ⟨w.heap.size, 2, none⟩ = some (.i sm) := fun w' h => h.cell (by simp) (by simp)
 have l3 : ∀ w', Kp ((w.alloc (.cells (Ae st ow sm br ma us ge ep ve own more) 141)).alloc (.cells zero9 59)) (w.heap.size + 1) w' → w'.cell? ⟨w.heap.size, 3, none⟩ = some (.bool br) := fun w' h => h.cell (by simp) (by simp)
 have l4 : ∀ w', Kp ((w.alloc (.cells (Ae st ow sm br ma us ge ep ve own more) 141)).alloc (.cells zero9 59)) (w.heap.size + 1) w' → w'.cell? ⟨w.heap.size, 4, none⟩ = some (.bool ma) := fun w' h => h.cell (by simp) (by simp)
 have l5 : ∀ w', Kp ((w.alloc (.cells (Ae st ow sm br ma us ge ep ve own more) 141)).alloc (.cells zero9 59)) (w.heap.size + 1) w' → w'.cell? ⟨w.heap.size, 5, none⟩ = some (.i us) := fun w' h => h.cell (by simp) (by simp)
 have l6 : ∀ w', Kp ((w.alloc (.cells (Ae st ow sm br ma us ge ep ve own more) 141)).alloc (.cells zero9 59)) (w.heap.size + 1) w' → w'.cell? ⟨w.heap.size, 6, none⟩ = some (.i ge) := fun w' h => h.cell (by simp) (by simp)
 have l7 : ∀ w', Kp ((w.alloc (.cells (Ae st ow sm br ma us ge ep ve own more) 141)).alloc (.cells zero9 59)) (w.heap.size + 1) w' → w'.cell? ⟨w.heap.size, 7, none⟩ = some (.i ep) := fun w' h => h.cell (by simp) (by simp)
 have l8 : ∀ w', Kp ((w.alloc (.cells (Ae st ow sm br ma us ge ep ve own more) 141)).alloc (.cells zero9 59)) (w.heap.size + 1) w' → w'.cell? ⟨w.heap.size, 8, none⟩ = some (.i ve) := fun w' h => h.cell (by simp) (by simp)
 have l9 : ∀ w', Kp ((w.alloc (.cells (Ae st ow sm br ma us ge ep ve own more) 141)).alloc (.cells zero9 59)) (w.heap.size + 1) w' → w'.cell? ⟨w.heap.size, 9, none⟩ = some (.i own) := fun w' h => h.cell (by simp) (by simp)
 have l10 : ∀ w', Kp ((w.alloc (.cells (Ae st ow sm br ma us ge ep ve own more) 141)).alloc (.cells zero9 59)) (w.heap.size + 1) w' → w'.cell? ⟨w.heap.size, 10, none⟩ = some (.i more) := fun w' h => h.cell (by simp) (by simp)
 have hst : ∀ w', Kp ((w.alloc (.cells (Ae st ow sm br ma us ge ep ve own more) 141)).alloc (.cells zero9 59)) (w.heap.size + 1) w' → (storeCells ⟨w.heap.size + 1, 0, none⟩ r.cells.toList 0).run Tryz.prog w' = .ok () (w'.setRow (w.heap.size + 1) r.cells) := fun w' h => h.store r
 have hsz : r.cells.size = 9 := rfl
 go_enter Tryz.func115, Tryz.ntmps115
 go_wp2_with fail
 generalize ((w.alloc (.cells (Ae st ow sm br ma us ge ep ve own more) 141)).alloc (.cells zero9 59)) = wa at *
 have hKd := hK.drew
 cases b
 ·first
  | (go_region_with
   ((first
   | (go_at_call 137; refine (ht _).mono ?_; rintro e w5 ⟨rfl, hb5⟩; have hK5 := hKd.later hb5)
   | (go_at_call 140; refine (hi _).mono ?_; rintro e w6 ⟨rfl, hb6⟩; have hK6 := hK5.later hb6))))
  | fail
  all_goals (
   clear hst l0 l1 l2 l3 l4 l5 l6 l7 l8 l9 l10 ht hi hsz
   go_wp2_with fail
   refine bR2 (w.heap.size + 1) (hK6.row r) Tryz.underlying59 ?_
   exact ⟨rfl, (hK6.set r).below hA (by omega)⟩)
 ·go_region_held3 (fun w' => Kp wa (w.heap.size + 1) w') (first | assumption | exact Kp.set (by assumption) r)
   ((first
   | (go_at_call 137; refine (ht _).mono ?_; rintro e w5 ⟨rfl, hb5⟩; have hK5 := hKd.later hb5)
   | (go_at_call 140; refine (hi _).mono ?_; rintro e w6 ⟨rfl, hb6⟩; have hK6 := hK5.later hb6)))
  clear hst l0 l1 l2 l3 l4 l5 l6 l7 l8 l9 l10 ht hi hsz
  go_wp2_with fail
  refine bR2 (w.heap.size + 1) (hK6.row r) Tryz.underlying59 ?_
  exact ⟨rfl, (hK6.set r).below hA (by omega)⟩
theorem take_any (w : World) (s : S) (own more : Int) (hu : 0 ≤ s.uses ∧ s.uses ≤ 63) (hg : 0 ≤ s.gen ∧ s.gen ≤ 4095) : Calls Tryz.prog 127 #[cval s own more] w fun e w' =>
  e = .returned (if s.state == 5 && s.own == own then .tuple #[(to s own 1).val, .bool true] else .tuple #[(leased s own).val, .bool (s.state == 4 && s.own == own)]) ∧ Below w.heap.size w w' := by
 have ht := fun W => to_any W s own more 1 (by simp)
 have hl := fun W => leased_any W s own more hu hg
 have hi5 := fun W => mine_any W s own more 5
 have hi4 := fun W => mine_any W s own more 4
 generalize hr : to s own 1 = r at *
 generalize hr2 : leased s own = r2 at *
 generalize hb5 : (s.state == 5 && s.own == own) = b5 at *
 generalize hb4 : (s.state == 4 && s.own == own) = b4 at *
 clear hr hb5 hr2 hb4 hu hg
 obtain ⟨st, ow, sm, br, ma, us, ge, ep, ve⟩ := s
 simp only [cval] at ht hl hi5 hi4
 have hA : Below w.heap.size w ((w.alloc (.cells (Ae st ow sm br ma us ge ep ve own more) 141)).alloc (.cells zero9 59)) := ((Below.refl _ _).alloc (Nat.le_refl _) _).alloc (by simp) _
 have hK : Kp ((w.alloc (.cells (Ae st ow sm br ma us ge ep ve own more) 141)).alloc (.cells zero9 59)) (w.heap.size + 1) ((w.alloc (.cells (Ae st ow sm br ma us ge ep ve own more) 141)).alloc (.cells zero9 59)) := ⟨Chg.refl _ _, zero9, rfl, heap_alloc2_new w _ _⟩
 have l0 : ∀ w', Kp ((w.alloc (.cells (Ae st ow sm br ma us ge ep ve own more) 141)).alloc (.cells zero9 59)) (w.heap.size + 1) w' → w'.cell? ⟨w.heap.size, 0, none⟩ = some (.i st) := fun w' h => h.cell (by simp) (by simp)
 have l1 : ∀ w', Kp ((w.alloc (.cells (Ae st ow sm br ma us ge ep ve own more) 141)).alloc (.cells zero9 59)) (w.heap.size + 1) w' → w'.cell? ⟨w.heap.size, 1, none⟩ = some (.i ow) := fun w' h => h.cell (by simp) (by simp)
 have l2 : ∀ w', Kp ((w.alloc (.cells (Ae st ow sm br ma us ge ep ve own more) 141)).alloc (.cells zero9 59)) (w.heap.size + 1) w' → w'.cell? ⟨w.heap.size, 2, none⟩ = some (.i sm) := fun w' h => h.cell (by simp) (by simp)
 have l3 : ∀ w', Kp ((w.alloc (.cells (Ae st ow sm br ma us ge ep ve own more) 141)).alloc (.cells zero9 59)) (w.heap.size + 1) w' → w'.cell? ⟨w.heap.size, 3, none⟩ = some (.bool br) := fun w' h => h.cell (by simp) (by simp)
 have l4 : ∀ w', Kp ((w.alloc (.cells (Ae st ow sm br ma us ge ep ve own more) 141)).alloc (.cells zero9 59)) (w.heap.size + 1) w' → w'.cell? ⟨w.heap.size, 4, none⟩ = some (.bool ma) := fun w' h => h.cell (by simp) (by simp)
 have l5 : ∀ w', Kp ((w.alloc (.cells (Ae st ow sm br ma us ge ep ve own more) 141)).alloc (.cells zero9 59)) (w.heap.size + 1) w' → w'.cell? ⟨w.heap.size, 5, none⟩ = some (.i us) := fun w' h => h.cell (by simp) (by simp)
 have l6 : ∀ w', Kp ((w.alloc (.cells (Ae st ow sm br ma us ge ep ve own more) 141)).alloc (.cells zero9 59)) (w.heap.size + 1) w' → w'.cell? ⟨w.heap.size, 6, none⟩ = some (.i ge) := fun w' h => h.cell (by simp) (by simp)
 have l7 : ∀ w', Kp ((w.alloc (.cells (Ae st ow sm br ma us ge ep ve own more) 141)).alloc (.cells zero9 59)) (w.heap.size + 1) w' → w'.cell? ⟨w.heap.size, 7, none⟩ = some (.i ep) := fun w' h => h.cell (by simp) (by simp)
 have l8 : ∀ w', Kp ((w.alloc (.cells (Ae st ow sm br ma us ge ep ve own more) 141)).alloc (.cells zero9 59)) (w.heap.size + 1) w' → w'.cell? ⟨w.heap.size, 8, none⟩ = some (.i ve) := fun w' h => h.cell (by simp) (by simp)
 have l9 : ∀ w', Kp ((w.alloc (.cells (Ae st ow sm br ma us ge ep ve own more) 141)).alloc (.cells zero9 59)) (w.heap.size + 1) w' → w'.cell? ⟨w.heap.size, 9, none⟩ = some (.i own) := fun w' h => h.cell (by simp) (by simp)
 have l10 : ∀ w', Kp ((w.alloc (.cells (Ae st ow sm br ma us ge ep ve own more) 141)).alloc (.cells zero9 59)) (w.heap.size + 1) w' → w'.cell? ⟨w.heap.size, 10, none⟩ = some (.i more) := fun w' h => h.cell (by simp) (by simp)
 have hst : ∀ w', Kp ((w.alloc (.cells (Ae st ow sm br ma us ge ep ve own more) 141)).alloc (.cells zero9 59)) (w.heap.size + 1) w' → ∀ r, (storeCells ⟨w.heap.size + 1, 0, none⟩ (S.cells r).toList 0).run Tryz.prog w' = .ok () (w'.setRow (w.heap.size + 1) r.cells) := fun w' h r => h.store r
 have hsz : ∀ r, (S.cells r).size = 9 := fun r => rfl
 go_enter Tryz.func127, Tryz.ntmps127
 go_wp2_with fail
 refine (hi5 _).mono ?_
 rintro e wb ⟨rfl, hbb⟩
 have hKb := hK.later hbb
 generalize ((w.alloc (.cells (Ae st ow sm br ma us ge ep ve own more) 141)).alloc (.cells zero9 59)) = wa at *
 have m0 := l0 _ hKb
 have m1 := l1 _ hKb
 have m2 := l2 _ hKb
 have m3 := l3 _ hKb
 have m4 := l4 _ hKb
 have m5 := l5 _ hKb
 have m6 := l6 _ hKb
 have m7 := l7 _ hKb
 have m8 := l8 _ hKb
 have m9 := l9 _ hKb
 have m10 := l10 _ hKb
 cases b5
 ·clear hbb ht hi5
  go_wp2_with fail
  have hKd := hKb.drew
  go_region_held3 (fun w' => Kp wa (w.heap.size + 1) w') (first | assumption | exact Kp.set (by assumption) r2)
   ((first
   | (go_at_call 139; refine (hl _).mono ?_; rintro e w5 ⟨rfl, hb5⟩; have hK5 := hKd.later hb5)
   | (go_at_call 140; refine (hi4 _).mono ?_; rintro e w6 ⟨rfl, hb6⟩; have hK6 := hK5.later hb6)))
  clear hst l0 l1 l2 l3 l4 l5 l6 l7 l8 l9 l10 m0 m1 m2 m3 m4 m5 m6 m7 m8 m9 m10 hl hi4 hsz
  go_wp2_with fail
  refine bR2 (w.heap.size + 1) (hK6.row r2) Tryz.underlying59 ?_
  exact ⟨rfl, (hK6.set r2).below hA (by omega)⟩
 ·clear hbb hl hi5 hi4
  go_wp2_with fail
  refine (ht _).mono ?_
  rintro e wc ⟨rfl, hbc⟩
  have hKc := hKb.later hbc
  have hst' := hst wc hKc
  clear hst l0 l1 l2 l3 l4 l5 l6 l7 l8 l9 l10 m0 m1 m2 m3 m4 m5 m6 m7 m8 m9 m10 hbc ht
  go_wp2_with fail
  refine bR2 (w.heap.size + 1) (hKc.row r) Tryz.underlying59 ?_
  exact ⟨rfl, (hKc.set r).below hA (by omega)⟩
theorem right_bounds {s : S} (h : s.right = true) : (0 ≤ s.state ∧ s.state ≤ 6) ∧ (0 ≤ s.uses ∧ s.uses ≤ 63) ∧ (0 ≤ s.gen ∧ s.gen ≤ 4095) ∧ (0 ≤ s.version ∧ s.version ≤ 32767) ∧ (0 ≤ s.own ∧ s.own ≤ 15) ∧ (0 ≤ s.streams ∧ s.streams ≤ 255) := by
 have m3 : (Field.mx 3 : Int) = 7 := rfl
 have m4 : (Field.mx 4 : Int) = 15 := rfl
 have m8 : (Field.mx 8 : Int) = 255 := rfl
 have m6 : (Field.mx 6 : Int) = 63 := rfl
 have m12 : (Field.mx 12 : Int) = 4095 := rfl
 have m15 : (Field.mx 15 : Int) = 32767 := rfl
 simp only [S.right, Field.packOk, fields9, S.nums, Bool.and_eq_true, decide_eq_true_eq, m3, m4, m8, m6, m12, m15] at h
 omega
def nextOf (s : S) (own : Int) (t : S) (b : Bool) : Option S := if s.right = true ∧ 0 ≤ own ∧ own ≤ 15 ∧ b = true then some { t with version := (s.version + 1) % 32768 } else none
def S.zero : S := ⟨0, 0, 0, false, false, 0, 0, 0, 0⟩
theorem bel_step {wb W W' : World} (h : Below wb.heap.size wb W) (hb : Below W.heap.size W W') : Below wb.heap.size wb W' := h.trans (hb.mono h.size)
theorem bel_set {wb W : World} (h : Below wb.heap.size wb W) (i : Nat) (v : Value) : Below wb.heap.size wb (W.setCell ⟨wb.heap.size, i, none⟩ v) := h.setCell (Nat.le_refl _) v
theorem bel_alloc {wb W : World} (h : Below wb.heap.size wb W) (o : Obj) : Below wb.heap.size wb (W.alloc o) := h.alloc h.size o
theorem setOther {w : World} {g : Nat} {cs : Array Value} {t : TypeId} (h : RowAt w g cs t) {p : Addr} (v : Value) (hp : g ≠ p.block) : RowAt (w.setCell p v) g cs t := (heap_setCell_other w p g v hp).trans h
def acts : Array Value := #[.func (.func 111) #[] #[], .func (.func 112) #[] #[], .func (.func 113) #[] #[], .func (.func 114) #[] #[], .func (.func 115) #[] #[], .func (.func 116) #[] #[], .func (.func 117) #[] #[], .func (.func 118) #[] #[], .func (.func 119) #[] #[], .func (.func 120) #[] #[], .func (.func 121) #[] #[], .func (.func 122) #[] #[], .func (.func 123) #[] #[], .func (.func 124) #[] #[], .func (.func 125) #[] #[], .func (.func 126) #[] #[], .func (.func 127) #[] #[], .func (.func 128) #[] #[]]
theorem changes_any (w : World) : Calls Tryz.prog 102 #[] w fun e w' => e = .returned (.slice (some ⟨w.heap.size, 0, none⟩) 18 18) ∧ w' = w.alloc (.cells acts 139) := by
 go_enter Tryz.func102, Tryz.ntmps102
 go_wp2
 go_ret
 exact ⟨rfl, rfl⟩
theorem next_gen (w : World) (s : S) (own more : Int) (F d : Nat) (t : S) (b : Bool) (hd : d < 18) (hE : ∀ args w, (callFunc F args).run Tryz.prog w = .ok (.enter F args) w) (hF : acts[d]? = some (.func (.func F) #[] #[])) (hL : Laid w) (hw : s.wf)
  (hac : s.right = true → ∀ W, Calls Tryz.prog F #[cval s own more] W fun e W' => e = .returned (.tuple #[t.val, .bool b]) ∧ Below W.heap.size W W') :
  Calls Tryz.prog 94 #[s.val, .i d, .i own, .i more] w fun e w' =>
  e = .returned (.tuple #[((nextOf s own t b).getD S.zero).val, .bool (nextOf s own t b).isSome]) ∧ Below w.heap.size w w' := by
 have hch := changes_any
 have hri := fun W h => right_any W s h hw
 have hrb := @right_bounds s
 have HN : RowKit.Hid (∀ (h : s.right = true ∧ 0 ≤ own ∧ own ≤ 15 ∧ b = true), nextOf s own t b = some { t with version := (s.version + 1) % 32768 }) := fun h => if_pos h
 have HF : RowKit.Hid (∀ (h : ¬ (s.right = true ∧ 0 ≤ own ∧ own ≤ 15 ∧ b = true)), nextOf s own t b = none) := fun h => if_neg h
 generalize nextOf s own t b = r at *
 generalize s.right = rg at *
 have hd0 : (0 : Int) ≤ (d : Int) := by omega
 have hd1 : (d : Int) < 18 := by omega
 have hd2 : (d : Int) ≤ 17 := by omega
 have HFd := Lib.hid hF
 clear hF
 obtain ⟨st, ow, sm, br, ma, us, ge, ep, ve⟩ := s
 obtain ⟨st', ow', sm', br', ma', us', ge', ep', ve'⟩ := t
 simp only [S.val, S.cells, cval] at hri hac hrb HN
 have hA : Below w.heap.size w (((w.alloc (.cells (Ac st ow sm br ma us ge ep ve) 59)).alloc (.cells Zs 59)).alloc (.cells acts 139)) := (((Below.refl _ _).alloc (Nat.le_refl _) _).alloc (by simp) _).alloc (by simp; omega) _
 have hLA : Laid (((w.alloc (.cells (Ac st ow sm br ma us ge ep ve) 59)).alloc (.cells Zs 59)).alloc (.cells acts 139)) := hL.stable (hA.block 0 (hL.lt (by decide)))
 have hr1 : RowAt (((w.alloc (.cells (Ac st ow sm br ma us ge ep ve) 59)).alloc (.cells Zs 59)).alloc (.cells acts 139)) w.heap.size (Ac st ow sm br ma us ge ep ve) 59 := by rw [RowAt, Below.heap_alloc _ _ _ (by simp; omega)]; exact heap_alloc2_old w _ _
 have hr2 : RowAt (((w.alloc (.cells (Ac st ow sm br ma us ge ep ve) 59)).alloc (.cells Zs 59)).alloc (.cells acts 139)) (w.heap.size + 1) Zs 59 := heap_alloc3_mid w _ _ _
 have hr3 : RowAt (((w.alloc (.cells (Ac st ow sm br ma us ge ep ve) 59)).alloc (.cells Zs 59)).alloc (.cells acts 139)) (w.heap.size + 1 + 1) acts 139 := by have := heap_alloc_new ((w.alloc (.cells (Ac st ow sm br ma us ge ep ve) 59)).alloc (.cells Zs 59)) (.cells acts 139); simpa [RowAt] using this
 go_enter Tryz.func94, Tryz.ntmps94
 simp only [S.val, S.cells]
 go_wp2_with fail
 refine (hch _).mono ?_
 rintro e wa ⟨rfl, rfl⟩
 generalize (((w.alloc (.cells (Ac st ow sm br ma us ge ep ve) 59)).alloc (.cells Zs 59)).alloc (.cells acts 139)) = wa at *
 have hx := hri wa hLA
 have u0 : wa.cell? ⟨w.heap.size, 0, none⟩ = some (.i st) := hr1.cell 0
 have u1 : wa.cell? ⟨w.heap.size, 1, none⟩ = some (.i ow) := hr1.cell 1
 have u2 : wa.cell? ⟨w.heap.size, 2, none⟩ = some (.i sm) := hr1.cell 2
 have u3 : wa.cell? ⟨w.heap.size, 3, none⟩ = some (.bool br) := hr1.cell 3
 have u4 : wa.cell? ⟨w.heap.size, 4, none⟩ = some (.bool ma) := hr1.cell 4
 have u5 : wa.cell? ⟨w.heap.size, 5, none⟩ = some (.i us) := hr1.cell 5
 have u6 : wa.cell? ⟨w.heap.size, 6, none⟩ = some (.i ge) := hr1.cell 6
 have u7 : wa.cell? ⟨w.heap.size, 7, none⟩ = some (.i ep) := hr1.cell 7
 have u8 : wa.cell? ⟨w.heap.size, 8, none⟩ = some (.i ve) := hr1.cell 8
 clear hri hch
 go_wp2_with fail
 refine hx.mono ?_
 rintro e wb ⟨rfl, hb⟩
 have hB := hA.trans (hb.mono hA.size)
 have r1 := hr1.below hb
 have r2 := hr2.below hb
 have r3 := hr3.below hb
 clear hb hx u0 u1 u2 u3 u4 u5 u6 u7 u8 hr1 hr2 hr3
 have q0 : wb.cell? ⟨w.heap.size + 1, 0, none⟩ = some (.i 0) := r2.cell 0
 have f0 : wb.frozen? ⟨w.heap.size + 1, 0, none⟩ = false := r2.frozen 0
 have q1 : wb.cell? ⟨w.heap.size + 1, 1, none⟩ = some (.i 0) := r2.cell 1
 have f1 : wb.frozen? ⟨w.heap.size + 1, 1, none⟩ = false := r2.frozen 1
 have q2 : wb.cell? ⟨w.heap.size + 1, 2, none⟩ = some (.i 0) := r2.cell 2
 have f2 : wb.frozen? ⟨w.heap.size + 1, 2, none⟩ = false := r2.frozen 2
 have q3 : wb.cell? ⟨w.heap.size + 1, 3, none⟩ = some (.bool false) := r2.cell 3
 have f3 : wb.frozen? ⟨w.heap.size + 1, 3, none⟩ = false := r2.frozen 3
 have q4 : wb.cell? ⟨w.heap.size + 1, 4, none⟩ = some (.bool false) := r2.cell 4
 have f4 : wb.frozen? ⟨w.heap.size + 1, 4, none⟩ = false := r2.frozen 4
 have q5 : wb.cell? ⟨w.heap.size + 1, 5, none⟩ = some (.i 0) := r2.cell 5
 have f5 : wb.frozen? ⟨w.heap.size + 1, 5, none⟩ = false := r2.frozen 5
 have q6 : wb.cell? ⟨w.heap.size + 1, 6, none⟩ = some (.i 0) := r2.cell 6
 have f6 : wb.frozen? ⟨w.heap.size + 1, 6, none⟩ = false := r2.frozen 6
 have q7 : wb.cell? ⟨w.heap.size + 1, 7, none⟩ = some (.i 0) := r2.cell 7
 have f7 : wb.frozen? ⟨w.heap.size + 1, 7, none⟩ = false := r2.frozen 7
 have q8 : wb.cell? ⟨w.heap.size + 1, 8, none⟩ = some (.i 0) := r2.cell 8
 have f8 : wb.frozen? ⟨w.heap.size + 1, 8, none⟩ = false := r2.frozen 8
 have R2 := Lib.hid r2
 clear r2
 cases rg
 ·have hn : RowKit.Hid (r = none) := HF.out (by simp)
  go_wp2_with fail
  refine bR2 (w.heap.size + 1) (((((((((R2.out.setc 0 _).setc 1 _).setc 2 _).setc 3 _).setc 4 _).setc 5 _).setc 6 _).setc 7 _).setc 8 _) Tryz.underlying59 ?_
  refine ⟨by rw [hn.out]; rfl, ?_⟩
  iterate 9 refine Below.setCell ?_ (by simp) _
  exact hB
 by_cases ho1 : own < 0
 ·have hn : RowKit.Hid (r = none) := HF.out (by omega)
  go_wp2_with fail
  refine bR2 (w.heap.size + 1) (((((((((R2.out.setc 0 _).setc 1 _).setc 2 _).setc 3 _).setc 4 _).setc 5 _).setc 6 _).setc 7 _).setc 8 _) Tryz.underlying59 ?_
  refine ⟨by rw [hn.out]; rfl, ?_⟩
  iterate 9 refine Below.setCell ?_ (by simp) _
  exact hB
 by_cases ho2 : 15 < own
 ·have hn : RowKit.Hid (r = none) := HF.out (by omega)
  go_wp2_with fail
  refine bR2 (w.heap.size + 1) (((((((((R2.out.setc 0 _).setc 1 _).setc 2 _).setc 3 _).setc 4 _).setc 5 _).setc 6 _).setc 7 _).setc 8 _) Tryz.underlying59 ?_
  refine ⟨by rw [hn.out]; rfl, ?_⟩
  iterate 9 refine Below.setCell ?_ (by simp) _
  exact hB
 have hac1 := fun W => hac rfl W
 have hrb1 := hrb rfl
 clear hac hrb q0 f0 q1 f1 q2 f2 q3 f3 q4 f4 q5 f5 q6 f6 q7 f7 q8 f8
 have l0 : ∀ w', Below wb.heap.size wb w' → w'.cell? ⟨w.heap.size, 0, none⟩ = some (.i st) := fun w' h => (r1.below h).cell 0
 have l1 : ∀ w', Below wb.heap.size wb w' → w'.cell? ⟨w.heap.size, 1, none⟩ = some (.i ow) := fun w' h => (r1.below h).cell 1
 have l2 : ∀ w', Below wb.heap.size wb w' → w'.cell? ⟨w.heap.size, 2, none⟩ = some (.i sm) := fun w' h => (r1.below h).cell 2
 have l3 : ∀ w', Below wb.heap.size wb w' → w'.cell? ⟨w.heap.size, 3, none⟩ = some (.bool br) := fun w' h => (r1.below h).cell 3
 have l4 : ∀ w', Below wb.heap.size wb w' → w'.cell? ⟨w.heap.size, 4, none⟩ = some (.bool ma) := fun w' h => (r1.below h).cell 4
 have l5 : ∀ w', Below wb.heap.size wb w' → w'.cell? ⟨w.heap.size, 5, none⟩ = some (.i us) := fun w' h => (r1.below h).cell 5
 have l6 : ∀ w', Below wb.heap.size wb w' → w'.cell? ⟨w.heap.size, 6, none⟩ = some (.i ge) := fun w' h => (r1.below h).cell 6
 have l7 : ∀ w', Below wb.heap.size wb w' → w'.cell? ⟨w.heap.size, 7, none⟩ = some (.i ep) := fun w' h => (r1.below h).cell 7
 have l8 : ∀ w', Below wb.heap.size wb w' → w'.cell? ⟨w.heap.size, 8, none⟩ = some (.i ve) := fun w' h => (r1.below h).cell 8
 have lf : ∀ w', Below wb.heap.size wb w' → w'.cell? ⟨w.heap.size + 1 + 1, d, none⟩ = some (.func (.func F) #[] #[]) := fun w' h => ((r3.below h).cell d).trans HFd.out
 have hS0 : Below wb.heap.size wb wb.drew := (Below.refl _ _).drew
 go_wp2_with fail
 go_region_held3 (fun w' => Below wb.heap.size wb w') (repeat (first | (with_reducible assumption) | (with_reducible exact Below.refl _ _) | (with_reducible refine Below.drew ?_) | (with_reducible refine bel_alloc ?_ _) | (with_reducible refine bel_set ?_ _ _)))
  ((first
  | (refine (hac1 _).mono ?_; rintro e w6 ⟨rfl, hb6⟩; have hzB : RowAt w6 wb.heap.size Zs 59 := RowAt.below (w := (wb.alloc (.cells Zs 59)).drew) (heap_alloc_new wb _) hb6; have hS6 := bel_step (bel_alloc (Below.refl _ _) _).drew hb6; have zq0 : w6.cell? ⟨wb.heap.size, 0, none⟩ = some (.i 0) := hzB.cell 0; have zf0 : w6.frozen? ⟨wb.heap.size, 0, none⟩ = false := hzB.frozen 0; have zq1 : w6.cell? ⟨wb.heap.size, 1, none⟩ = some (.i 0) := hzB.cell 1; have zf1 : w6.frozen? ⟨wb.heap.size, 1, none⟩ = false := hzB.frozen 1; have zq2 : w6.cell? ⟨wb.heap.size, 2, none⟩ = some (.i 0) := hzB.cell 2; have zf2 : w6.frozen? ⟨wb.heap.size, 2, none⟩ = false := hzB.frozen 2; have zq3 : w6.cell? ⟨wb.heap.size, 3, none⟩ = some (.bool false) := hzB.cell 3; have zf3 : w6.frozen? ⟨wb.heap.size, 3, none⟩ = false := hzB.frozen 3; have zq4 : w6.cell? ⟨wb.heap.size, 4, none⟩ = some (.bool false) := hzB.cell 4; have zf4 : w6.frozen? ⟨wb.heap.size, 4, none⟩ = false := hzB.frozen 4; have zq5 : w6.cell? ⟨wb.heap.size, 5, none⟩ = some (.i 0) := hzB.cell 5; have zf5 : w6.frozen? ⟨wb.heap.size, 5, none⟩ = false := hzB.frozen 5; have zq6 : w6.cell? ⟨wb.heap.size, 6, none⟩ = some (.i 0) := hzB.cell 6; have zf6 : w6.frozen? ⟨wb.heap.size, 6, none⟩ = false := hzB.frozen 6; have zq7 : w6.cell? ⟨wb.heap.size, 7, none⟩ = some (.i 0) := hzB.cell 7; have zf7 : w6.frozen? ⟨wb.heap.size, 7, none⟩ = false := hzB.frozen 7; have zq8 : w6.cell? ⟨wb.heap.size, 8, none⟩ = some (.i 0) := hzB.cell 8; have zf8 : w6.frozen? ⟨wb.heap.size, 8, none⟩ = false := hzB.frozen 8)
  | (refine (hac1 _).mono ?_; rintro e w6 ⟨rfl, hb6⟩; have hS6 := bel_step hS0 hb6)))
 ·have gl := R2.out.lt
  have gs := hS6.size
  have gB : Below w.heap.size w (w6.alloc (.cells (Ac st' ow' sm' br' ma' us' ge' ep' ve') 59)) := (hB.trans (hS6.mono (by omega))).alloc (by omega) _
  have hX1 : w.heap.size + 1 ≠ w6.heap.size := by omega
  have hX2 : w6.heap.size ≠ w.heap.size := by omega
  have hX3 : w.heap.size ≤ w6.heap.size := by omega
  have gX : RowAt (w6.alloc (.cells (Ac st' ow' sm' br' ma' us' ge' ep' ve') 59)) w6.heap.size (Ac st' ow' sm' br' ma' us' ge' ep' ve') 59 := heap_alloc_new _ _
  have g2 : RowAt (w6.alloc (.cells (Ac st' ow' sm' br' ma' us' ge' ep' ve') 59)) (w.heap.size + 1) Zs 59 := (R2.out.below hS6).alloc _
  have g1 : (w6.alloc (.cells (Ac st' ow' sm' br' ma' us' ge' ep' ve') 59)).cell? ⟨w.heap.size, 8, none⟩ = some (.i ve) := ((r1.below hS6).alloc _).cell 8
  generalize (w6.alloc (.cells (Ac st' ow' sm' br' ma' us' ge' ep' ve') 59)) = W7 at *
  generalize w6.heap.size = X at *
  clear gl gs
  clear l0 l1 l2 l3 l4 l5 l6 l7 l8 lf hac1 r1 r3 hS0 R2 hS6
  have q0 : W7.cell? ⟨w.heap.size + 1, 0, none⟩ = some (.i 0) := g2.cell 0
  have f0 : W7.frozen? ⟨w.heap.size + 1, 0, none⟩ = false := g2.frozen 0
  have q1 : W7.cell? ⟨w.heap.size + 1, 1, none⟩ = some (.i 0) := g2.cell 1
  have f1 : W7.frozen? ⟨w.heap.size + 1, 1, none⟩ = false := g2.frozen 1
  have q2 : W7.cell? ⟨w.heap.size + 1, 2, none⟩ = some (.i 0) := g2.cell 2
  have f2 : W7.frozen? ⟨w.heap.size + 1, 2, none⟩ = false := g2.frozen 2
  have q3 : W7.cell? ⟨w.heap.size + 1, 3, none⟩ = some (.bool false) := g2.cell 3
  have f3 : W7.frozen? ⟨w.heap.size + 1, 3, none⟩ = false := g2.frozen 3
  have q4 : W7.cell? ⟨w.heap.size + 1, 4, none⟩ = some (.bool false) := g2.cell 4
  have f4 : W7.frozen? ⟨w.heap.size + 1, 4, none⟩ = false := g2.frozen 4
  have q5 : W7.cell? ⟨w.heap.size + 1, 5, none⟩ = some (.i 0) := g2.cell 5
  have f5 : W7.frozen? ⟨w.heap.size + 1, 5, none⟩ = false := g2.frozen 5
  have q6 : W7.cell? ⟨w.heap.size + 1, 6, none⟩ = some (.i 0) := g2.cell 6
  have f6 : W7.frozen? ⟨w.heap.size + 1, 6, none⟩ = false := g2.frozen 6
  have q7 : W7.cell? ⟨w.heap.size + 1, 7, none⟩ = some (.i 0) := g2.cell 7
  have f7 : W7.frozen? ⟨w.heap.size + 1, 7, none⟩ = false := g2.frozen 7
  have q8 : W7.cell? ⟨w.heap.size + 1, 8, none⟩ = some (.i 0) := g2.cell 8
  have f8 : W7.frozen? ⟨w.heap.size + 1, 8, none⟩ = false := g2.frozen 8
  have x0 : W7.cell? ⟨X, 0, none⟩ = some (.i st') := gX.cell 0
  have x1 : W7.cell? ⟨X, 1, none⟩ = some (.i ow') := gX.cell 1
  have x2 : W7.cell? ⟨X, 2, none⟩ = some (.i sm') := gX.cell 2
  have x3 : W7.cell? ⟨X, 3, none⟩ = some (.bool br') := gX.cell 3
  have x4 : W7.cell? ⟨X, 4, none⟩ = some (.bool ma') := gX.cell 4
  have x5 : W7.cell? ⟨X, 5, none⟩ = some (.i us') := gX.cell 5
  have x6 : W7.cell? ⟨X, 6, none⟩ = some (.i ge') := gX.cell 6
  have x7 : W7.cell? ⟨X, 7, none⟩ = some (.i ep') := gX.cell 7
  have x8 : W7.cell? ⟨X, 8, none⟩ = some (.i ve') := gX.cell 8
  have xf : W7.frozen? ⟨X, 8, none⟩ = false := gX.frozen 8
  have G2 := Lib.hid g2
  clear g2 gX
  cases b
  ·have hn : RowKit.Hid (r = none) := HF.out (by simp)
   clear x0 x1 x2 x3 x4 x5 x6 x7 x8 xf
   go_wp2_with fail
   refine bR2 (w.heap.size + 1) (((((((((G2.out.setc 0 _).setc 1 _).setc 2 _).setc 3 _).setc 4 _).setc 5 _).setc 6 _).setc 7 _).setc 8 _) Tryz.underlying59 ?_
   refine ⟨by rw [hn.out]; rfl, ?_⟩
   iterate 9 refine Below.setCell ?_ (by simp) _
   exact gB
  ·have hn := Lib.hid (HN.out ⟨by simp, by omega, by omega, by simp⟩)
   obtain ⟨_, _, _, ⟨hv0, hv1⟩, _⟩ := hrb1
   have hm : IntKind.i64.wrap ((ve + 1).tmod 32768) = (ve + 1) % 32768 := by rw [Int.tmod_eq_emod_of_nonneg (by omega), IntKind.wrap_i64]; omega
   go_wp2_with fail
   refine bR2 (w.heap.size + 1) ((((((((((setOther G2.out _ (by simpa using hX1)).setc 0 _).setc 1 _).setc 2 _).setc 3 _).setc 4 _).setc 5 _).setc 6 _).setc 7 _).setc 8 _) Tryz.underlying59 ?_
   refine ⟨by rw [hn.out]; rfl, ?_⟩
   iterate 9 refine Below.setCell ?_ (by simp) _
   exact gB.setCell hX3 _
 ·have gl := R2.out.lt
  have gs := hS6.size
  have gB : Below w.heap.size w (((((((((w6.setCell ⟨wb.heap.size, 0, none⟩ (.i st')).setCell ⟨wb.heap.size, 1, none⟩ (.i ow')).setCell ⟨wb.heap.size, 2, none⟩ (.i sm')).setCell ⟨wb.heap.size, 3, none⟩ (.bool br')).setCell ⟨wb.heap.size, 4, none⟩ (.bool ma')).setCell ⟨wb.heap.size, 5, none⟩ (.i us')).setCell ⟨wb.heap.size, 6, none⟩ (.i ge')).setCell ⟨wb.heap.size, 7, none⟩ (.i ep')).setCell ⟨wb.heap.size, 8, none⟩ (.i ve')) := ((((((((((hB.trans (hS6.mono (by omega))).setCell (by simp; omega) _).setCell (by simp; omega) _).setCell (by simp; omega) _).setCell (by simp; omega) _).setCell (by simp; omega) _).setCell (by simp; omega) _).setCell (by simp; omega) _).setCell (by simp; omega) _).setCell (by simp; omega) _)
  have hX1 : w.heap.size + 1 ≠ wb.heap.size := by omega
  have hX2 : wb.heap.size ≠ w.heap.size := by omega
  have hX3 : w.heap.size ≤ wb.heap.size := by omega
  have gX : RowAt (((((((((w6.setCell ⟨wb.heap.size, 0, none⟩ (.i st')).setCell ⟨wb.heap.size, 1, none⟩ (.i ow')).setCell ⟨wb.heap.size, 2, none⟩ (.i sm')).setCell ⟨wb.heap.size, 3, none⟩ (.bool br')).setCell ⟨wb.heap.size, 4, none⟩ (.bool ma')).setCell ⟨wb.heap.size, 5, none⟩ (.i us')).setCell ⟨wb.heap.size, 6, none⟩ (.i ge')).setCell ⟨wb.heap.size, 7, none⟩ (.i ep')).setCell ⟨wb.heap.size, 8, none⟩ (.i ve')) wb.heap.size (Ac st' ow' sm' br' ma' us' ge' ep' ve') 59 := (((((((((hzB.setc 0 _).setc 1 _).setc 2 _).setc 3 _).setc 4 _).setc 5 _).setc 6 _).setc 7 _).setc 8 _)
  have g2 : RowAt (((((((((w6.setCell ⟨wb.heap.size, 0, none⟩ (.i st')).setCell ⟨wb.heap.size, 1, none⟩ (.i ow')).setCell ⟨wb.heap.size, 2, none⟩ (.i sm')).setCell ⟨wb.heap.size, 3, none⟩ (.bool br')).setCell ⟨wb.heap.size, 4, none⟩ (.bool ma')).setCell ⟨wb.heap.size, 5, none⟩ (.i us')).setCell ⟨wb.heap.size, 6, none⟩ (.i ge')).setCell ⟨wb.heap.size, 7, none⟩ (.i ep')).setCell ⟨wb.heap.size, 8, none⟩ (.i ve')) (w.heap.size + 1) Zs 59 := (setOther (setOther (setOther (setOther (setOther (setOther (setOther (setOther (setOther (R2.out.below hS6) _ (by simp; omega)) _ (by simp; omega)) _ (by simp; omega)) _ (by simp; omega)) _ (by simp; omega)) _ (by simp; omega)) _ (by simp; omega)) _ (by simp; omega)) _ (by simp; omega))
  have g1 : (((((((((w6.setCell ⟨wb.heap.size, 0, none⟩ (.i st')).setCell ⟨wb.heap.size, 1, none⟩ (.i ow')).setCell ⟨wb.heap.size, 2, none⟩ (.i sm')).setCell ⟨wb.heap.size, 3, none⟩ (.bool br')).setCell ⟨wb.heap.size, 4, none⟩ (.bool ma')).setCell ⟨wb.heap.size, 5, none⟩ (.i us')).setCell ⟨wb.heap.size, 6, none⟩ (.i ge')).setCell ⟨wb.heap.size, 7, none⟩ (.i ep')).setCell ⟨wb.heap.size, 8, none⟩ (.i ve')).cell? ⟨w.heap.size, 8, none⟩ = some (.i ve) := (setOther (setOther (setOther (setOther (setOther (setOther (setOther (setOther (setOther (r1.below hS6) _ (by simp; omega)) _ (by simp; omega)) _ (by simp; omega)) _ (by simp; omega)) _ (by simp; omega)) _ (by simp; omega)) _ (by simp; omega)) _ (by simp; omega)) _ (by simp; omega)).cell 8
  generalize (((((((((w6.setCell ⟨wb.heap.size, 0, none⟩ (.i st')).setCell ⟨wb.heap.size, 1, none⟩ (.i ow')).setCell ⟨wb.heap.size, 2, none⟩ (.i sm')).setCell ⟨wb.heap.size, 3, none⟩ (.bool br')).setCell ⟨wb.heap.size, 4, none⟩ (.bool ma')).setCell ⟨wb.heap.size, 5, none⟩ (.i us')).setCell ⟨wb.heap.size, 6, none⟩ (.i ge')).setCell ⟨wb.heap.size, 7, none⟩ (.i ep')).setCell ⟨wb.heap.size, 8, none⟩ (.i ve')) = W7 at *
  generalize wb.heap.size = X at *
  clear gl gs
  clear zq0 zf0 zq1 zf1 zq2 zf2 zq3 zf3 zq4 zf4 zq5 zf5 zq6 zf6 zq7 zf7 zq8 zf8 hzB l0 l1 l2 l3 l4 l5 l6 l7 l8 lf hac1 r1 r3 hS0 R2 hS6
  have q0 : W7.cell? ⟨w.heap.size + 1, 0, none⟩ = some (.i 0) := g2.cell 0
  have f0 : W7.frozen? ⟨w.heap.size + 1, 0, none⟩ = false := g2.frozen 0
  have q1 : W7.cell? ⟨w.heap.size + 1, 1, none⟩ = some (.i 0) := g2.cell 1
  have f1 : W7.frozen? ⟨w.heap.size + 1, 1, none⟩ = false := g2.frozen 1
  have q2 : W7.cell? ⟨w.heap.size + 1, 2, none⟩ = some (.i 0) := g2.cell 2
  have f2 : W7.frozen? ⟨w.heap.size + 1, 2, none⟩ = false := g2.frozen 2
  have q3 : W7.cell? ⟨w.heap.size + 1, 3, none⟩ = some (.bool false) := g2.cell 3
  have f3 : W7.frozen? ⟨w.heap.size + 1, 3, none⟩ = false := g2.frozen 3
  have q4 : W7.cell? ⟨w.heap.size + 1, 4, none⟩ = some (.bool false) := g2.cell 4
  have f4 : W7.frozen? ⟨w.heap.size + 1, 4, none⟩ = false := g2.frozen 4
  have q5 : W7.cell? ⟨w.heap.size + 1, 5, none⟩ = some (.i 0) := g2.cell 5
  have f5 : W7.frozen? ⟨w.heap.size + 1, 5, none⟩ = false := g2.frozen 5
  have q6 : W7.cell? ⟨w.heap.size + 1, 6, none⟩ = some (.i 0) := g2.cell 6
  have f6 : W7.frozen? ⟨w.heap.size + 1, 6, none⟩ = false := g2.frozen 6
  have q7 : W7.cell? ⟨w.heap.size + 1, 7, none⟩ = some (.i 0) := g2.cell 7
  have f7 : W7.frozen? ⟨w.heap.size + 1, 7, none⟩ = false := g2.frozen 7
  have q8 : W7.cell? ⟨w.heap.size + 1, 8, none⟩ = some (.i 0) := g2.cell 8
  have f8 : W7.frozen? ⟨w.heap.size + 1, 8, none⟩ = false := g2.frozen 8
  have x0 : W7.cell? ⟨X, 0, none⟩ = some (.i st') := gX.cell 0
  have x1 : W7.cell? ⟨X, 1, none⟩ = some (.i ow') := gX.cell 1
  have x2 : W7.cell? ⟨X, 2, none⟩ = some (.i sm') := gX.cell 2
  have x3 : W7.cell? ⟨X, 3, none⟩ = some (.bool br') := gX.cell 3
  have x4 : W7.cell? ⟨X, 4, none⟩ = some (.bool ma') := gX.cell 4
  have x5 : W7.cell? ⟨X, 5, none⟩ = some (.i us') := gX.cell 5
  have x6 : W7.cell? ⟨X, 6, none⟩ = some (.i ge') := gX.cell 6
  have x7 : W7.cell? ⟨X, 7, none⟩ = some (.i ep') := gX.cell 7
  have x8 : W7.cell? ⟨X, 8, none⟩ = some (.i ve') := gX.cell 8
  have xf : W7.frozen? ⟨X, 8, none⟩ = false := gX.frozen 8
  have G2 := Lib.hid g2
  clear g2 gX
  cases b
  ·have hn : RowKit.Hid (r = none) := HF.out (by simp)
   clear x0 x1 x2 x3 x4 x5 x6 x7 x8 xf
   go_wp2_with fail
   refine bR2 (w.heap.size + 1) (((((((((G2.out.setc 0 _).setc 1 _).setc 2 _).setc 3 _).setc 4 _).setc 5 _).setc 6 _).setc 7 _).setc 8 _) Tryz.underlying59 ?_
   refine ⟨by rw [hn.out]; rfl, ?_⟩
   iterate 9 refine Below.setCell ?_ (by simp) _
   exact gB
  ·have hn := Lib.hid (HN.out ⟨by simp, by omega, by omega, by simp⟩)
   obtain ⟨_, _, _, ⟨hv0, hv1⟩, _⟩ := hrb1
   have hm : IntKind.i64.wrap ((ve + 1).tmod 32768) = (ve + 1) % 32768 := by rw [Int.tmod_eq_emod_of_nonneg (by omega), IntKind.wrap_i64]; omega
   go_wp2_with fail
   refine bR2 (w.heap.size + 1) ((((((((((setOther G2.out _ (by simpa using hX1)).setc 0 _).setc 1 _).setc 2 _).setc 3 _).setc 4 _).setc 5 _).setc 6 _).setc 7 _).setc 8 _) Tryz.underlying59 ?_
   refine ⟨by rw [hn.out]; rfl, ?_⟩
   iterate 9 refine Below.setCell ?_ (by simp) _
   exact gB.setCell hX3 _
end Go.Proofs.YtpmkgddjgebojaaGreatDoor.Life
namespace Go.Proofs.YtpmkgddjgebojaaGreatDoor.Find
open Go.RowKit Hp Slot
theorem alloc_set (W : World) (o o' : Obj) : ({ W.alloc o with heap := (W.alloc o).heap.setIfInBounds W.heap.size o' } : World) = W.alloc o' := by
 simp only [World.alloc]
 congr 1
 apply Array.ext_getElem?
 intro i
 simp only [Array.getElem?_setIfInBounds, Array.getElem?_push, Array.size_push]
 by_cases h : W.heap.size = i
 ·subst h; simp
 ·have h' : ¬ i = W.heap.size := fun e => h e.symm
  simp [h, h']
theorem run_insert_new {P : Program} (W : World) (r : Nat) (t kt et : TypeId) (es : Array MapEntry) (clock : Nat) (k : Int) (v : Value) (hu : P.underlying t = some (.map kt et)) (hk : P.underlying kt = some (.int .i64))
  (hr : r = W.heap.size) (hf : Instr.findNow (.int .i64) (.i k) es.toList 0 = some none) :
  (Instr.mapUpdate t (.map (some r)) (.i k) v).run P (W.alloc (.map es clock)) = .ok () (W.alloc (.map (es.push ⟨.i k, v, clock⟩) (clock + 1))) := by
 subst hr
 have hb : (W.alloc (.map es clock)).heap[W.heap.size]? = some (.map es clock) := World.alloc_heap_new W _
 have h1 := MapKept.run_setObj_map (P := P) (.map (es.push ⟨.i k, v, clock⟩) (clock + 1)) hb
 rw [alloc_set] at h1
 simp [Instr.mapUpdate, run_underlying hu, MapKept.run_getObj_map hb, MapKept.run_checkKey (k := .i k) hk rfl, MapKept.run_findKey hk hf, h1, Result.andThen]
theorem run_lookup_is {P : Program} (W : World) (r : Nat) (t kt et : TypeId) (es : Array MapEntry) (clock : Nat) (k : Int) (i : Nat) (v : Value) (hu : P.underlying t = some (.map kt et)) (hk : P.underlying kt = some (.int .i64))
  (hb : W.heap[r]? = some (.map es clock)) (hf : Instr.findNow (.int .i64) (.i k) es.toList 0 = some (some (i, v))) :
  (Instr.lookup t (.map (some r)) (.i k) true).run P W = .ok (.tuple #[v, .bool true]) W := by
 simp [Instr.lookup, run_underlying hu, MapKept.run_getObj_map hb, MapKept.run_checkKey (k := .i k) hk rfl, MapKept.run_findKey hk hf, Result.andThen]
def table (n : Nat) : Array MapEntry := #[⟨.i 0, .func (.func 133) #[] #[.pointer (some ⟨n + 2, 0, none⟩), .pointer (some ⟨n, 0, none⟩)], 0⟩, ⟨.i 1, .func (.func 131) #[] #[.pointer (some ⟨n + 1, 0, none⟩)], 1⟩, ⟨.i 2, .func (.func 132) #[] #[], 2⟩, ⟨.i 3, .func (.func 134) #[] #[.pointer (some ⟨n + 2, 0, none⟩), .pointer (some ⟨n + 3, 0, none⟩)], 3⟩, ⟨.i 4, .func (.func 135) #[] #[.pointer (some ⟨n + 1, 0, none⟩), .pointer (some ⟨n, 0, none⟩)], 4⟩, ⟨.i 5, .func (.func 136) #[] #[], 5⟩, ⟨.i 6, .func (.func 130) #[] #[], 6⟩]
def asksW (w : World) (own : Int) : World :=
 ((((w.alloc (.cells #[.i own] 3)).alloc (.cells #[.func (.func 130) #[] #[]] 136)).alloc (.cells #[.func (.func 131) #[] #[.pointer (some ⟨w.heap.size + 1, 0, none⟩)]] 136)).alloc (.cells #[.func (.func 132) #[] #[]] 136)).alloc (.map (table w.heap.size) 7)
theorem asks_any (w : World) (own : Int) : Calls Tryz.prog 105 #[.i own] w fun e w' => e = .returned (.map (some (w.heap.size + 4))) ∧ w' = asksW w own := by
 have hmk := fun W => run_makeMap (P := Tryz.prog) 145 W
 have h0 := run_insert_new (P := Tryz.prog) ((((w.alloc (.cells #[.i own] 3)).alloc (.cells #[.func (.func 130) #[] #[]] 136)).alloc (.cells #[.func (.func 131) #[] #[.pointer (some ⟨w.heap.size + 1, 0, none⟩)]] 136)).alloc (.cells #[.func (.func 132) #[] #[]] 136)) (w.heap.size + 1 + 1 + 1 + 1) 145 3 136 #[] 0 0 (.func (.func 133) #[] #[.pointer (some ⟨w.heap.size + 2, 0, none⟩), .pointer (some ⟨w.heap.size, 0, none⟩)]) Tryz.underlying145 Tryz.underlying3 (by simp) rfl
 have h1 := run_insert_new (P := Tryz.prog) ((((w.alloc (.cells #[.i own] 3)).alloc (.cells #[.func (.func 130) #[] #[]] 136)).alloc (.cells #[.func (.func 131) #[] #[.pointer (some ⟨w.heap.size + 1, 0, none⟩)]] 136)).alloc (.cells #[.func (.func 132) #[] #[]] 136)) (w.heap.size + 1 + 1 + 1 + 1) 145 3 136 #[⟨.i 0, .func (.func 133) #[] #[.pointer (some ⟨w.heap.size + 2, 0, none⟩), .pointer (some ⟨w.heap.size, 0, none⟩)], 0⟩] 1 1 (.func (.func 131) #[] #[.pointer (some ⟨w.heap.size + 1, 0, none⟩)]) Tryz.underlying145 Tryz.underlying3 (by simp) rfl
 have h2 := run_insert_new (P := Tryz.prog) ((((w.alloc (.cells #[.i own] 3)).alloc (.cells #[.func (.func 130) #[] #[]] 136)).alloc (.cells #[.func (.func 131) #[] #[.pointer (some ⟨w.heap.size + 1, 0, none⟩)]] 136)).alloc (.cells #[.func (.func 132) #[] #[]] 136)) (w.heap.size + 1 + 1 + 1 + 1) 145 3 136 #[⟨.i 0, .func (.func 133) #[] #[.pointer (some ⟨w.heap.size + 2, 0, none⟩), .pointer (some ⟨w.heap.size, 0, none⟩)], 0⟩, ⟨.i 1, .func (.func 131) #[] #[.pointer (some ⟨w.heap.size + 1, 0, none⟩)], 1⟩] 2 2 (.func (.func 132) #[] #[]) Tryz.underlying145 Tryz.underlying3 (by simp) rfl
 have h3 := run_insert_new (P := Tryz.prog) ((((w.alloc (.cells #[.i own] 3)).alloc (.cells #[.func (.func 130) #[] #[]] 136)).alloc (.cells #[.func (.func 131) #[] #[.pointer (some ⟨w.heap.size + 1, 0, none⟩)]] 136)).alloc (.cells #[.func (.func 132) #[] #[]] 136)) (w.heap.size + 1 + 1 + 1 + 1) 145 3 136 #[⟨.i 0, .func (.func 133) #[] #[.pointer (some ⟨w.heap.size + 2, 0, none⟩), .pointer (some ⟨w.heap.size, 0, none⟩)], 0⟩, ⟨.i 1, .func (.func 131) #[] #[.pointer (some ⟨w.heap.size + 1, 0, none⟩)], 1⟩, ⟨.i 2, .func (.func 132) #[] #[], 2⟩] 3 3 (.func (.func 134) #[] #[.pointer (some ⟨w.heap.size + 2, 0, none⟩), .pointer (some ⟨w.heap.size + 3, 0, none⟩)]) Tryz.underlying145 Tryz.underlying3 (by simp) rfl
 have h4 := run_insert_new (P := Tryz.prog) ((((w.alloc (.cells #[.i own] 3)).alloc (.cells #[.func (.func 130) #[] #[]] 136)).alloc (.cells #[.func (.func 131) #[] #[.pointer (some ⟨w.heap.size + 1, 0, none⟩)]] 136)).alloc (.cells #[.func (.func 132) #[] #[]] 136)) (w.heap.size + 1 + 1 + 1 + 1) 145 3 136 #[⟨.i 0, .func (.func 133) #[] #[.pointer (some ⟨w.heap.size + 2, 0, none⟩), .pointer (some ⟨w.heap.size, 0, none⟩)], 0⟩, ⟨.i 1, .func (.func 131) #[] #[.pointer (some ⟨w.heap.size + 1, 0, none⟩)], 1⟩, ⟨.i 2, .func (.func 132) #[] #[], 2⟩, ⟨.i 3, .func (.func 134) #[] #[.pointer (some ⟨w.heap.size + 2, 0, none⟩), .pointer (some ⟨w.heap.size + 3, 0, none⟩)], 3⟩] 4 4 (.func (.func 135) #[] #[.pointer (some ⟨w.heap.size + 1, 0, none⟩), .pointer (some ⟨w.heap.size, 0, none⟩)]) Tryz.underlying145 Tryz.underlying3 (by simp) rfl
 have h5 := run_insert_new (P := Tryz.prog) ((((w.alloc (.cells #[.i own] 3)).alloc (.cells #[.func (.func 130) #[] #[]] 136)).alloc (.cells #[.func (.func 131) #[] #[.pointer (some ⟨w.heap.size + 1, 0, none⟩)]] 136)).alloc (.cells #[.func (.func 132) #[] #[]] 136)) (w.heap.size + 1 + 1 + 1 + 1) 145 3 136 #[⟨.i 0, .func (.func 133) #[] #[.pointer (some ⟨w.heap.size + 2, 0, none⟩), .pointer (some ⟨w.heap.size, 0, none⟩)], 0⟩, ⟨.i 1, .func (.func 131) #[] #[.pointer (some ⟨w.heap.size + 1, 0, none⟩)], 1⟩, ⟨.i 2, .func (.func 132) #[] #[], 2⟩, ⟨.i 3, .func (.func 134) #[] #[.pointer (some ⟨w.heap.size + 2, 0, none⟩), .pointer (some ⟨w.heap.size + 3, 0, none⟩)], 3⟩, ⟨.i 4, .func (.func 135) #[] #[.pointer (some ⟨w.heap.size + 1, 0, none⟩), .pointer (some ⟨w.heap.size, 0, none⟩)], 4⟩] 5 5 (.func (.func 136) #[] #[]) Tryz.underlying145 Tryz.underlying3 (by simp) rfl
 have h6 := run_insert_new (P := Tryz.prog) ((((w.alloc (.cells #[.i own] 3)).alloc (.cells #[.func (.func 130) #[] #[]] 136)).alloc (.cells #[.func (.func 131) #[] #[.pointer (some ⟨w.heap.size + 1, 0, none⟩)]] 136)).alloc (.cells #[.func (.func 132) #[] #[]] 136)) (w.heap.size + 1 + 1 + 1 + 1) 145 3 136 #[⟨.i 0, .func (.func 133) #[] #[.pointer (some ⟨w.heap.size + 2, 0, none⟩), .pointer (some ⟨w.heap.size, 0, none⟩)], 0⟩, ⟨.i 1, .func (.func 131) #[] #[.pointer (some ⟨w.heap.size + 1, 0, none⟩)], 1⟩, ⟨.i 2, .func (.func 132) #[] #[], 2⟩, ⟨.i 3, .func (.func 134) #[] #[.pointer (some ⟨w.heap.size + 2, 0, none⟩), .pointer (some ⟨w.heap.size + 3, 0, none⟩)], 3⟩, ⟨.i 4, .func (.func 135) #[] #[.pointer (some ⟨w.heap.size + 1, 0, none⟩), .pointer (some ⟨w.heap.size, 0, none⟩)], 4⟩, ⟨.i 5, .func (.func 136) #[] #[], 5⟩] 6 6 (.func (.func 130) #[] #[]) Tryz.underlying145 Tryz.underlying3 (by simp) rfl
 simp only [List.push_toArray, List.nil_append, List.cons_append, Nat.zero_add, Nat.reduceAdd] at hmk h0 h1 h2 h3 h4 h5 h6
 go_enter Tryz.func105, Tryz.ntmps105
 go_wp2
 go_ret
 exact ⟨rfl, rfl⟩
def sound (s : S) : Bool := s.state == 2 && !s.broken
theorem idle_any (w : World) (s : S) : Calls Tryz.prog 130 #[s.val] w fun e w' => e = .returned (.bool (s.state == 2)) ∧ Below w.heap.size w w' := by
 obtain ⟨st, ow, sm, br, ma, us, ge, ep, ve⟩ := s
 go_enter Tryz.func130, Tryz.ntmps130
 simp only [S.val, S.cells]
 go_wp2
 go_ret
 exact ⟨rfl, (Below.refl _ _).alloc (Nat.le_refl _) _⟩
theorem empty_any (w : World) (s : S) : Calls Tryz.prog 132 #[s.val] w fun e w' => e = .returned (.bool (s.state == 0)) ∧ Below w.heap.size w w' := by
 obtain ⟨st, ow, sm, br, ma, us, ge, ep, ve⟩ := s
 go_enter Tryz.func132, Tryz.ntmps132
 simp only [S.val, S.cells]
 go_wp2
 go_ret
 exact ⟨rfl, (Below.refl _ _).alloc (Nat.le_refl _) _⟩
theorem sound_any (w : World) (s : S) (p3 : Nat) (h3 : w.cell? ⟨p3, 0, none⟩ = some (.func (.func 130) #[] #[])) : Calls Tryz.prog 131 #[s.val, .pointer (some ⟨p3, 0, none⟩)] w fun e w' => e = .returned (.bool (sound s)) ∧ Below w.heap.size w w' := by
 have hi := fun w => idle_any w s
 obtain ⟨st, ow, sm, br, ma, us, ge, ep, ve⟩ := s
 simp only [S.val, S.cells] at hi
 have h3' : (w.alloc (.cells (Ac st ow sm br ma us ge ep ve) 59)).cell? ⟨p3, 0, none⟩ = some (.func (.func 130) #[] #[]) := (World.cell?_alloc_lt _ _ _ (World.block_lt_of_cell? _ _ h3)).trans h3
 have Hh3 := Lib.hid h3'
 clear h3'
 generalize hq : (st == 2) = b at hi
 have HQ := Lib.hid hq
 clear hq
 have lth3 := World.block_lt_of_cell? _ _ h3
 simp only at lth3
 go_enter Tryz.func131, Tryz.ntmps131
 simp only [S.val, S.cells]
 go_wp2_with (simp only [Hh3.out])
 refine (hi _).mono ?_
 rintro e w5 ⟨rfl, hb5⟩
 have hB : Below w.heap.size w w5 := ((Below.refl _ _).alloc (Nat.le_refl _) _).trans (hb5.mono (by simp))
 have c3_5 : w5.cell? ⟨w.heap.size, 3, none⟩ = some (.bool br) := Field.bkeep hb5 (by simp)
 clear hi hb5
 cases b
 all_goals (
  go_wp2_with fail
  go_ret
  exact ⟨Base.ret_bool (by simp [sound, HQ.out]), hB⟩)
theorem own_any (w : World) (s : S) (own : Int) (p1 p3 p4 : Nat) (h1 : w.cell? ⟨p1, 0, none⟩ = some (.i own)) (h3 : w.cell? ⟨p3, 0, none⟩ = some (.func (.func 130) #[] #[])) (h4 : w.cell? ⟨p4, 0, none⟩ = some (.func (.func 131) #[] #[.pointer (some ⟨p3, 0, none⟩)])) : Calls Tryz.prog 133 #[s.val, .pointer (some ⟨p4, 0, none⟩), .pointer (some ⟨p1, 0, none⟩)] w fun e w' => e = .returned (.bool (sound s && s.own == own)) ∧ Below w.heap.size w w' := by
 have hi := fun w h => sound_any w s p3 h
 obtain ⟨st, ow, sm, br, ma, us, ge, ep, ve⟩ := s
 simp only [S.val, S.cells] at hi
 have h1' : (w.alloc (.cells (Ac st ow sm br ma us ge ep ve) 59)).cell? ⟨p1, 0, none⟩ = some (.i own) := (World.cell?_alloc_lt _ _ _ (World.block_lt_of_cell? _ _ h1)).trans h1
 have h3' : (w.alloc (.cells (Ac st ow sm br ma us ge ep ve) 59)).cell? ⟨p3, 0, none⟩ = some (.func (.func 130) #[] #[]) := (World.cell?_alloc_lt _ _ _ (World.block_lt_of_cell? _ _ h3)).trans h3
 have h4' : (w.alloc (.cells (Ac st ow sm br ma us ge ep ve) 59)).cell? ⟨p4, 0, none⟩ = some (.func (.func 131) #[] #[.pointer (some ⟨p3, 0, none⟩)]) := (World.cell?_alloc_lt _ _ _ (World.block_lt_of_cell? _ _ h4)).trans h4
 have Hh1 := Lib.hid h1'
 have Hh3 := Lib.hid h3'
 have Hh4 := Lib.hid h4'
 clear h1' h3' h4'
 generalize hq : sound ⟨st, ow, sm, br, ma, us, ge, ep, ve⟩ = b at *
 clear hq
 have lth1 := World.block_lt_of_cell? _ _ h1
 have lth3 := World.block_lt_of_cell? _ _ h3
 have lth4 := World.block_lt_of_cell? _ _ h4
 simp only at lth1 lth3 lth4
 go_enter Tryz.func133, Tryz.ntmps133
 simp only [S.val, S.cells]
 go_wp2_with (simp only [Hh4.out])
 refine (hi _ Hh3.out).mono ?_
 rintro e w5 ⟨rfl, hb5⟩
 have hB : Below w.heap.size w w5 := ((Below.refl _ _).alloc (Nat.le_refl _) _).trans (hb5.mono (by simp))
 have c1_5 : w5.cell? ⟨w.heap.size, 1, none⟩ = some (.i ow) := Field.bkeep hb5 (by simp)
 have h15 : w5.cell? ⟨p1, 0, none⟩ = some (.i own) := Field.bkeep hb5 Hh1.out
 clear hi hb5
 cases b
 all_goals (
  go_wp2_with fail
  go_ret
  exact ⟨Base.ret_bool (by simp), hB⟩)
theorem some_any (w : World) (s : S) (p3 p4 p5 : Nat) (h3 : w.cell? ⟨p3, 0, none⟩ = some (.func (.func 130) #[] #[])) (h4 : w.cell? ⟨p4, 0, none⟩ = some (.func (.func 131) #[] #[.pointer (some ⟨p3, 0, none⟩)])) (h5 : w.cell? ⟨p5, 0, none⟩ = some (.func (.func 132) #[] #[])) : Calls Tryz.prog 134 #[s.val, .pointer (some ⟨p4, 0, none⟩), .pointer (some ⟨p5, 0, none⟩)] w fun e w' => e = .returned (.bool (sound s || s.state == 0)) ∧ Below w.heap.size w w' := by
 have hi := fun w h => sound_any w s p3 h
 have he := fun w => empty_any w s
 obtain ⟨st, ow, sm, br, ma, us, ge, ep, ve⟩ := s
 simp only [S.val, S.cells] at hi he
 have h3' : (w.alloc (.cells (Ac st ow sm br ma us ge ep ve) 59)).cell? ⟨p3, 0, none⟩ = some (.func (.func 130) #[] #[]) := (World.cell?_alloc_lt _ _ _ (World.block_lt_of_cell? _ _ h3)).trans h3
 have h4' : (w.alloc (.cells (Ac st ow sm br ma us ge ep ve) 59)).cell? ⟨p4, 0, none⟩ = some (.func (.func 131) #[] #[.pointer (some ⟨p3, 0, none⟩)]) := (World.cell?_alloc_lt _ _ _ (World.block_lt_of_cell? _ _ h4)).trans h4
 have h5' : (w.alloc (.cells (Ac st ow sm br ma us ge ep ve) 59)).cell? ⟨p5, 0, none⟩ = some (.func (.func 132) #[] #[]) := (World.cell?_alloc_lt _ _ _ (World.block_lt_of_cell? _ _ h5)).trans h5
 have Hh3 := Lib.hid h3'
 have Hh4 := Lib.hid h4'
 have Hh5 := Lib.hid h5'
 clear h3' h4' h5'
 generalize hq : sound ⟨st, ow, sm, br, ma, us, ge, ep, ve⟩ = b at *
 clear hq
 have lth3 := World.block_lt_of_cell? _ _ h3
 have lth4 := World.block_lt_of_cell? _ _ h4
 have lth5 := World.block_lt_of_cell? _ _ h5
 simp only at lth3 lth4 lth5
 go_enter Tryz.func134, Tryz.ntmps134
 simp only [S.val, S.cells]
 go_wp2_with (simp only [Hh4.out])
 refine (hi _ Hh3.out).mono ?_
 rintro e w5 ⟨rfl, hb5⟩
 have hB : Below w.heap.size w w5 := ((Below.refl _ _).alloc (Nat.le_refl _) _).trans (hb5.mono (by simp))
 have c0_5 : w5.cell? ⟨w.heap.size, 0, none⟩ = some (.i st) := Field.bkeep hb5 (by simp)
 have c1_5 : w5.cell? ⟨w.heap.size, 1, none⟩ = some (.i ow) := Field.bkeep hb5 (by simp)
 have c2_5 : w5.cell? ⟨w.heap.size, 2, none⟩ = some (.i sm) := Field.bkeep hb5 (by simp)
 have c3_5 : w5.cell? ⟨w.heap.size, 3, none⟩ = some (.bool br) := Field.bkeep hb5 (by simp)
 have c4_5 : w5.cell? ⟨w.heap.size, 4, none⟩ = some (.bool ma) := Field.bkeep hb5 (by simp)
 have c5_5 : w5.cell? ⟨w.heap.size, 5, none⟩ = some (.i us) := Field.bkeep hb5 (by simp)
 have c6_5 : w5.cell? ⟨w.heap.size, 6, none⟩ = some (.i ge) := Field.bkeep hb5 (by simp)
 have c7_5 : w5.cell? ⟨w.heap.size, 7, none⟩ = some (.i ep) := Field.bkeep hb5 (by simp)
 have c8_5 : w5.cell? ⟨w.heap.size, 8, none⟩ = some (.i ve) := Field.bkeep hb5 (by simp)
 have h55 : w5.cell? ⟨p5, 0, none⟩ = some (.func (.func 132) #[] #[]) := Field.bkeep hb5 Hh5.out
 clear hi hb5
 cases b
 ·go_wp2_with fail
  refine (he _).mono ?_
  rintro e w6 ⟨rfl, hb6⟩
  have hB6 := hB.trans (hb6.mono hB.size)
  go_wp2_with fail
  go_ret
  exact ⟨Base.ret_bool (by simp), hB6⟩
 ·go_wp2_with fail
  go_ret
  exact ⟨Base.ret_bool (by simp), hB⟩
theorem swept_any (w : World) (s : S) (own : Int) (p1 p3 : Nat) (h1 : w.cell? ⟨p1, 0, none⟩ = some (.i own)) (h3 : w.cell? ⟨p3, 0, none⟩ = some (.func (.func 130) #[] #[])) : Calls Tryz.prog 135 #[s.val, .pointer (some ⟨p3, 0, none⟩), .pointer (some ⟨p1, 0, none⟩)] w fun e w' => e = .returned (.bool (if s.state == 2 then s.broken || (own == 1 || own == 2) else s.state == 3 && own == 2)) ∧ Below w.heap.size w w' := by
 have hi := fun w => idle_any w s
 obtain ⟨st, ow, sm, br, ma, us, ge, ep, ve⟩ := s
 simp only [S.val, S.cells] at hi
 have h1' : (w.alloc (.cells (Ac st ow sm br ma us ge ep ve) 59)).cell? ⟨p1, 0, none⟩ = some (.i own) := (World.cell?_alloc_lt _ _ _ (World.block_lt_of_cell? _ _ h1)).trans h1
 have h3' : (w.alloc (.cells (Ac st ow sm br ma us ge ep ve) 59)).cell? ⟨p3, 0, none⟩ = some (.func (.func 130) #[] #[]) := (World.cell?_alloc_lt _ _ _ (World.block_lt_of_cell? _ _ h3)).trans h3
 have Hh1 := Lib.hid h1'
 have Hh3 := Lib.hid h3'
 clear h1' h3'
 generalize hq : (st == 2) = b at *
 clear hq
 have lth1 := World.block_lt_of_cell? _ _ h1
 have lth3 := World.block_lt_of_cell? _ _ h3
 simp only at lth1 lth3
 go_enter Tryz.func135, Tryz.ntmps135
 simp only [S.val, S.cells]
 go_wp2_with (simp only [Hh3.out])
 refine (hi _).mono ?_
 rintro e w5 ⟨rfl, hb5⟩
 have hB : Below w.heap.size w w5 := ((Below.refl _ _).alloc (Nat.le_refl _) _).trans (hb5.mono (by simp))
 have c0_5 : w5.cell? ⟨w.heap.size, 0, none⟩ = some (.i st) := Field.bkeep hb5 (by simp)
 have c3_5 : w5.cell? ⟨w.heap.size, 3, none⟩ = some (.bool br) := Field.bkeep hb5 (by simp)
 have h15 : w5.cell? ⟨p1, 0, none⟩ = some (.i own) := Field.bkeep hb5 Hh1.out
 clear hi hb5
 cases b
 ·by_cases h : st = 3
  ·subst h
   go_wp2_with fail
   go_ret
   exact ⟨Base.ret_bool (by simp), hB⟩
  ·have hk : (st == 3) = false := by simpa using h
   go_wp2_with fail
   go_ret
   exact ⟨Base.ret_bool (by simp [h]), hB⟩
 ·cases br
  ·by_cases h : own = 1
   ·subst h
    go_wp2_with fail
    go_ret
    exact ⟨Base.ret_bool (by simp), hB⟩
   ·have hk : (own == 1) = false := by simpa using h
    go_wp2_with fail
    go_ret
    exact ⟨Base.ret_bool (by simp [h]), hB⟩
  ·go_wp2_with fail
   go_ret
   exact ⟨Base.ret_bool (by simp), hB⟩
def swept (s : S) (own : Int) : Bool := if s.state == 2 then s.broken || (own == 1 || own == 2) else s.state == 3 && own == 2
def fits (s : S) (kind own : Int) : Bool :=
 if kind = 0 then sound s && s.own == own else if kind = 1 then sound s else if kind = 2 then s.state == 0 else if kind = 3 then sound s || s.state == 0
 else if kind = 4 then swept s own else if kind = 5 then s.state == 6 else if kind = 6 then s.state == 2 else false
structure Asked (w : World) (n : Nat) (own : Int) : Prop where
 h1 : w.cell? ⟨n, 0, none⟩ = some (.i own)
 h3 : w.cell? ⟨n + 1, 0, none⟩ = some (.func (.func 130) #[] #[])
 h4 : w.cell? ⟨n + 2, 0, none⟩ = some (.func (.func 131) #[] #[.pointer (some ⟨n + 1, 0, none⟩)])
 h5 : w.cell? ⟨n + 3, 0, none⟩ = some (.func (.func 132) #[] #[])
 tab : w.heap[n + 4]? = some (.map (table n) 7)
theorem asked (w : World) (own : Int) : Asked (asksW w own) w.heap.size own := by
 unfold asksW
 refine ⟨by go_simp, by go_simp, by go_simp, by go_simp, ?_⟩
 have h : ∀ (W : World) (o : Obj), W.heap.size = w.heap.size + 4 → (W.alloc o).heap[w.heap.size + 4]? = some o := fun W o e => by rw [← e]; exact World.alloc_heap_new W o
 exact h _ _ (by simp)
theorem asks_below (w : World) (own : Int) : Below w.heap.size w (asksW w own) := by
 unfold asksW
 exact (((((Below.refl _ _).alloc (Nat.le_refl _) _).alloc (by simp) _).alloc (by simp; omega) _).alloc (by simp; omega) _).alloc (by simp; omega) _
theorem fits_any (w : World) (s : S) (kind own : Int) (hk : kind = 0 ∨ kind = 1 ∨ kind = 2 ∨ kind = 3 ∨ kind = 4 ∨ kind = 6) : Calls Tryz.prog 99 #[s.val, .i kind, .i own] w fun e w' =>
  e = .returned (.bool (fits s kind own)) ∧ Below w.heap.size w w' := by
 have ha := asks_any (w.alloc (.cells s.cells 59)) own
 have hA := asked (w.alloc (.cells s.cells 59)) own
 have hB := ((Below.refl w.heap.size w).alloc (Nat.le_refl _) (.cells s.cells 59)).trans ((asks_below (w.alloc (.cells s.cells 59)) own).mono (by simp))
 have hcc : ∀ (i : Nat) (v : Value), s.cells[i]? = some v → (asksW (w.alloc (.cells s.cells 59)) own).cell? ⟨w.heap.size, i, none⟩ = some v := fun i v hv => ((asks_below _ own).cell (p := ⟨w.heap.size, i, none⟩) (by simp)).trans (by rw [World.cell?, World.alloc_heap_new]; exact hv)
 have c0 := hcc 0 (.i s.state) rfl
 have c1 := hcc 1 (.i s.own) rfl
 have c2 := hcc 2 (.i s.streams) rfl
 have c3 := hcc 3 (.bool s.broken) rfl
 have c4 := hcc 4 (.bool s.marked) rfl
 have c5 := hcc 5 (.i s.uses) rfl
 have c6 := hcc 6 (.i s.gen) rfl
 have c7 := hcc 7 (.i s.epoch) rfl
 have c8 := hcc 8 (.i s.version) rfl
 have hi0 := fun h1 h3 h4 => own_any (asksW (w.alloc (.cells s.cells 59)) own) s own (w.alloc (.cells s.cells 59)).heap.size ((w.alloc (.cells s.cells 59)).heap.size + 1) ((w.alloc (.cells s.cells 59)).heap.size + 2) h1 h3 h4
 have hi0' := hi0 hA.h1 hA.h3 hA.h4
 clear hi0
 have hi1 := sound_any _ s _ hA.h3
 have hi2 := empty_any (asksW (w.alloc (.cells s.cells 59)) own) s
 have hi3 := some_any _ s _ _ _ hA.h3 hA.h4 hA.h5
 have hi4' := swept_any _ s own _ _ hA.h1 hA.h3
 have hi4 : Calls Tryz.prog 135 _ _ fun e w' => e = .returned (.bool (swept s own)) ∧ Below _ _ w' := hi4'
 clear hi4'
 have hi6 := idle_any (asksW (w.alloc (.cells s.cells 59)) own) s
 have hl0 := run_lookup_is (P := Tryz.prog) _ _ 145 3 136 _ 7 0 0 _ Tryz.underlying145 Tryz.underlying3 hA.tab (by rfl)
 have hl1 := run_lookup_is (P := Tryz.prog) _ _ 145 3 136 _ 7 1 1 _ Tryz.underlying145 Tryz.underlying3 hA.tab (by rfl)
 have hl2 := run_lookup_is (P := Tryz.prog) _ _ 145 3 136 _ 7 2 2 _ Tryz.underlying145 Tryz.underlying3 hA.tab (by rfl)
 have hl3 := run_lookup_is (P := Tryz.prog) _ _ 145 3 136 _ 7 3 3 _ Tryz.underlying145 Tryz.underlying3 hA.tab (by rfl)
 have hl4 := run_lookup_is (P := Tryz.prog) _ _ 145 3 136 _ 7 4 4 _ Tryz.underlying145 Tryz.underlying3 hA.tab (by rfl)
 have hl6 := run_lookup_is (P := Tryz.prog) _ _ 145 3 136 _ 7 6 6 _ Tryz.underlying145 Tryz.underlying3 hA.tab (by rfl)
 have hfs : ∀ k : Int, fits s k own = (if k = 0 then sound s && s.own == own else if k = 1 then sound s else if k = 2 then s.state == 0 else if k = 3 then sound s || s.state == 0 else if k = 4 then swept s own else if k = 5 then s.state == 6 else if k = 6 then s.state == 2 else false) := fun k => rfl
 have HFS := Lib.hid hfs
 have hsz : (w.alloc (.cells s.cells 59)).heap.size = w.heap.size + 1 := by simp
 rw [hsz] at ha hi0' hi1 hi3 hi4 hl0 hl1 hl2 hl3 hl4 hl6
 clear hA hcc hfs
 have hi0 := hi0'
 clear hi0'
 generalize hsw : swept s own = bsw at hi4
 have HSW := Lib.hid hsw
 clear hsw
 obtain ⟨st, ow, sm, br, ma, us, ge, ep, ve⟩ := s
 simp only [S.val, S.cells, World.size_alloc] at ha hi0 hi1 hi2 hi3 hi4 hi6 hl0 hl1 hl2 hl3 hl4 hl6 hB c0 c1 c2 c3 c4 c5 c6 c7 c8
 go_enter Tryz.func99, Tryz.ntmps99
 simp only [S.val, S.cells]
 go_wp2_with fail
 refine ha.mono ?_
 rintro e wa ⟨rfl, rfl⟩
 generalize asksW (w.alloc (.cells (Ac st ow sm br ma us ge ep ve) 59)) own = wa at *
 clear ha hsz
 rcases hk with rfl | rfl | rfl | rfl | rfl | rfl
 ·clear hi1 hl1 hi2 hl2 hi3 hl3 hi4 hl4 hi6 hl6
  go_wp2_with fail
  refine hi0.mono ?_
  rintro e w6 ⟨rfl, hb6⟩
  have hB6 := hB.trans (hb6.mono hB.size)
  clear hi0 hl0 c0 c1 c2 c3 c4 c5 c6 c7 c8 hb6
  go_wp2_with fail
  go_ret
  exact ⟨Base.ret_bool (by rw [HFS.out]; simp [HSW.out]), hB6⟩
 ·clear hi0 hl0 hi2 hl2 hi3 hl3 hi4 hl4 hi6 hl6
  go_wp2_with fail
  refine hi1.mono ?_
  rintro e w6 ⟨rfl, hb6⟩
  have hB6 := hB.trans (hb6.mono hB.size)
  clear hi1 hl1 c0 c1 c2 c3 c4 c5 c6 c7 c8 hb6
  go_wp2_with fail
  go_ret
  exact ⟨Base.ret_bool (by rw [HFS.out]; simp [HSW.out]), hB6⟩
 ·clear hi0 hl0 hi1 hl1 hi3 hl3 hi4 hl4 hi6 hl6
  go_wp2_with fail
  refine hi2.mono ?_
  rintro e w6 ⟨rfl, hb6⟩
  have hB6 := hB.trans (hb6.mono hB.size)
  clear hi2 hl2 c0 c1 c2 c3 c4 c5 c6 c7 c8 hb6
  go_wp2_with fail
  go_ret
  exact ⟨Base.ret_bool (by rw [HFS.out]; simp [HSW.out]), hB6⟩
 ·clear hi0 hl0 hi1 hl1 hi2 hl2 hi4 hl4 hi6 hl6
  go_wp2_with fail
  refine hi3.mono ?_
  rintro e w6 ⟨rfl, hb6⟩
  have hB6 := hB.trans (hb6.mono hB.size)
  clear hi3 hl3 c0 c1 c2 c3 c4 c5 c6 c7 c8 hb6
  go_wp2_with fail
  go_ret
  exact ⟨Base.ret_bool (by rw [HFS.out]; simp [HSW.out]), hB6⟩
 ·clear hi0 hl0 hi1 hl1 hi2 hl2 hi3 hl3 hi6 hl6
  go_wp2_with fail
  refine hi4.mono ?_
  rintro e w6 ⟨rfl, hb6⟩
  have hB6 := hB.trans (hb6.mono hB.size)
  clear hi4 hl4 c0 c1 c2 c3 c4 c5 c6 c7 c8 hb6
  go_wp2_with fail
  go_ret
  exact ⟨Base.ret_bool (by rw [HFS.out]; simp [HSW.out]), hB6⟩
 ·clear hi0 hl0 hi1 hl1 hi2 hl2 hi3 hl3 hi4 hl4
  go_wp2_with fail
  refine hi6.mono ?_
  rintro e w6 ⟨rfl, hb6⟩
  have hB6 := hB.trans (hb6.mono hB.size)
  clear hi6 hl6 c0 c1 c2 c3 c4 c5 c6 c7 c8 hb6
  go_wp2_with fail
  go_ret
  exact ⟨Base.ret_bool (by rw [HFS.out]; simp [HSW.out]), hB6⟩
end Go.Proofs.YtpmkgddjgebojaaGreatDoor.Find
namespace Go.Proofs.YtpmkgddjgebojaaGreatDoor.Mod
open Go.RowKit Hp Slot RowL Life
def SlotsAt (W : World) (sb : Nat) (ss : List S) : Prop :=
 (∀ (i : Nat) (s : S), ss[i]? = some s → ∀ (j : Nat) (v : Value), s.cells[j]? = some v → W.cell? ⟨sb, i * 9 + j, none⟩ = some v) ∧ (∀ i j : Nat, i < ss.length → j < 9 → W.frozen? ⟨sb, i * 9 + j, none⟩ = false)
def Hdr (W : World) (mb sb n : Nat) : Prop := W.cell? ⟨mb, 5, none⟩ = some (.slice (some ⟨sb, 0, none⟩) n n)
section
variable {W W' : World} {sb mb n : Nat} {ss : List S}
theorem SlotsAt.stable (h : SlotsAt W sb ss) (hb : W'.heap[sb]? = W.heap[sb]?) : SlotsAt W' sb ss :=
 ⟨fun i s hs j v hv => (World.cell?_of_block (w := W) hb).trans (h.1 i s hs j v hv), fun i j hi hj => (World.frozen?_of_block (w := W) hb).trans (h.2 i j hi hj)⟩
theorem SlotsAt.drew (h : SlotsAt W sb ss) : SlotsAt W.drew sb ss := h.stable rfl
theorem SlotsAt.get (h : SlotsAt W sb ss) {i : Nat} {s : S} (hs : ss[i]? = some s) : W.cell? ⟨sb, i * 9, none⟩ = some (.i s.state) ∧ W.cell? ⟨sb, i * 9 + 1, none⟩ = some (.i s.own) ∧ W.cell? ⟨sb, i * 9 + 2, none⟩ = some (.i s.streams) ∧ W.cell? ⟨sb, i * 9 + 3, none⟩ = some (.bool s.broken) ∧ W.cell? ⟨sb, i * 9 + 4, none⟩ = some (.bool s.marked) ∧ W.cell? ⟨sb, i * 9 + 5, none⟩ = some (.i s.uses) ∧ W.cell? ⟨sb, i * 9 + 6, none⟩ = some (.i s.gen) ∧ W.cell? ⟨sb, i * 9 + 7, none⟩ = some (.i s.epoch) ∧ W.cell? ⟨sb, i * 9 + 8, none⟩ = some (.i s.version) :=
 ⟨h.1 i s hs 0 _ rfl, h.1 i s hs 1 _ rfl, h.1 i s hs 2 _ rfl, h.1 i s hs 3 _ rfl, h.1 i s hs 4 _ rfl, h.1 i s hs 5 _ rfl, h.1 i s hs 6 _ rfl, h.1 i s hs 7 _ rfl, h.1 i s hs 8 _ rfl⟩
theorem SlotsAt.free (h : SlotsAt W sb ss) {i : Nat} (hi : i < ss.length) : W.frozen? ⟨sb, i * 9, none⟩ = false ∧ W.frozen? ⟨sb, i * 9 + 1, none⟩ = false ∧ W.frozen? ⟨sb, i * 9 + 2, none⟩ = false ∧ W.frozen? ⟨sb, i * 9 + 3, none⟩ = false ∧ W.frozen? ⟨sb, i * 9 + 4, none⟩ = false ∧ W.frozen? ⟨sb, i * 9 + 5, none⟩ = false ∧ W.frozen? ⟨sb, i * 9 + 6, none⟩ = false ∧ W.frozen? ⟨sb, i * 9 + 7, none⟩ = false ∧ W.frozen? ⟨sb, i * 9 + 8, none⟩ = false :=
 ⟨h.2 i 0 hi (by omega), h.2 i 1 hi (by omega), h.2 i 2 hi (by omega), h.2 i 3 hi (by omega), h.2 i 4 hi (by omega), h.2 i 5 hi (by omega), h.2 i 6 hi (by omega), h.2 i 7 hi (by omega), h.2 i 8 hi (by omega)⟩
theorem SlotsAt.lt (h : SlotsAt W sb ss) (hn : 0 < ss.length) : sb < W.heap.size := World.block_lt_of_cell? _ _ (h.1 0 ss[0] (List.getElem?_eq_getElem hn) 0 _ rfl)
theorem SlotsAt.setL (h : SlotsAt W sb ss) {i : Nat} (hi : i < ss.length) (s : S) : SlotsAt (W.setCells sb (i * 9) s.cells.toList) sb (ss.set i s) := by
 obtain ⟨h1, h2⟩ := h
 have hl : s.cells.toList.length = 9 := rfl
 have hlen : ∀ j : Nat, j < s.cells.toList.length → (W.cell? ⟨sb, i * 9 + j, none⟩).isSome = true := fun j hj => by
  rw [h1 i ss[i] (List.getElem?_eq_getElem hi) j _ (Array.getElem?_eq_getElem (by simpa [S.cells] using hj))]; rfl
 refine ⟨fun k t ht j v hv => ?_, fun k j hk hj => ?_⟩
 ·have hj : j < 9 := by have := (Array.getElem?_eq_some_iff.1 hv).1; simpa [S.cells] using this
  rw [List.getElem?_set] at ht
  by_cases hki : i = k
  ·subst hki
   simp [hi] at ht
   subst ht
   rw [World.cell?_setCells_in sb _ _ _ hlen j (by omega)]
   rw [← hv]
   simp
  ·rw [if_neg hki] at ht
   rw [World.cell?_setCells_out sb _ _ _ _ (fun _ _ => by simp only [hl]; omega)]
   exact h1 k t ht j v hv
 ·simp at hk
  rw [World.frozen?_setCells]
  exact h2 k j hk hj
theorem SlotsAt.set (h : SlotsAt W sb ss) {i : Nat} (hi : i < ss.length) (s : S) : SlotsAt ((((((((((W.setCell ⟨sb, i * 9, none⟩ (.i s.state)).setCell ⟨sb, i * 9 + 1, none⟩ (.i s.own)).setCell ⟨sb, i * 9 + 2, none⟩ (.i s.streams)).setCell ⟨sb, i * 9 + 3, none⟩ (.bool s.broken)).setCell ⟨sb, i * 9 + 4, none⟩ (.bool s.marked)).setCell ⟨sb, i * 9 + 5, none⟩ (.i s.uses)).setCell ⟨sb, i * 9 + 6, none⟩ (.i s.gen)).setCell ⟨sb, i * 9 + 7, none⟩ (.i s.epoch)).setCell ⟨sb, i * 9 + 8, none⟩ (.i s.version))) sb (ss.set i s) := h.setL hi s
theorem chg_set {i : Nat} {W0 : World} (h : Chg (fun k => k = sb) W0 W) (a0 a1 a2 a3 a4 a5 a6 a7 a8 : Value) : Chg (fun k => k = sb) W0 ((((((((((W.setCell ⟨sb, i * 9, none⟩ a0).setCell ⟨sb, i * 9 + 1, none⟩ a1).setCell ⟨sb, i * 9 + 2, none⟩ a2).setCell ⟨sb, i * 9 + 3, none⟩ a3).setCell ⟨sb, i * 9 + 4, none⟩ a4).setCell ⟨sb, i * 9 + 5, none⟩ a5).setCell ⟨sb, i * 9 + 6, none⟩ a6).setCell ⟨sb, i * 9 + 7, none⟩ a7).setCell ⟨sb, i * 9 + 8, none⟩ a8)) := by
 iterate 9 refine Chg.setCell ?_ _ _ (fun _ => rfl)
 exact h
end
def emptied (s : S) : S := { S.zero with gen := s.gen }
theorem empty_any (W : World) (mb sb : Nat) (ss : List S) (i : Nat) (s : S) (hm : Hdr W mb sb ss.length) (hs : SlotsAt W sb ss) (hi : ss[i]? = some s) (hn : ss.length ≤ 1000) :
  Calls Tryz.prog 82 #[.pointer (some ⟨mb, 0, none⟩), .i i] W fun e W' => (∃ v, e = .returned v) ∧ SlotsAt W' sb (ss.set i (emptied s)) ∧ Chg (fun k => k = sb) W W' := by
 have hlt : i < ss.length := (List.getElem?_eq_some_iff.1 hi).1
 obtain ⟨c0, c1, c2, c3, c4, c5, c6, c7, c8⟩ := hs.get hi
 obtain ⟨f0, f1, f2, f3, f4, f5, f6, f7, f8⟩ := hs.free hlt
 unfold Hdr at hm
 have hb0 : (0 : Int) ≤ (i : Int) := by omega
 have hb1 : (i : Int) < (ss.length : Int) := by omega
 have hb2 : (i : Int) ≤ (ss.length : Int) - 1 := by omega
 have Hi := Lib.hid hi
 clear hi
 go_enter Tryz.func82, Tryz.ntmps82
 go_wp2
 go_region
 go_wp2
 go_end0
 have h1 := hs.set hlt (emptied s)
 have h2 := chg_set (Chg.refl (fun k => k = sb) W) (i := i) (.i 0) (.i 0) (.i 0) (.bool false) (.bool false) (.i 0) (.i s.gen) (.i 0) (.i 0)
 exact ⟨⟨_, rfl⟩, h1.drew, h2.drew⟩
def turned (ss : List S) (i : Nat) (r : Option S) : List S := match r with | some t => ss.set i { t with version := 0 } | none => ss
theorem turn_any (W : World) (mb sb : Nat) (ss : List S) (i : Nat) (s : S) (own more : Int) (F d : Nat) (t : S) (b : Bool) (hm : Hdr W mb sb ss.length) (hs : SlotsAt W sb ss) (hi : ss[i]? = some s) (hn : ss.length ≤ 1000) (hne : mb ≠ sb)
  (hd : d < 18) (hE : ∀ args w, (callFunc F args).run Tryz.prog w = .ok (.enter F args) w) (hF : acts[d]? = some (.func (.func F) #[] #[])) (hL : Laid W) (hw : s.wf)
  (hac : s.right = true → ∀ W, Calls Tryz.prog F #[cval s own more] W fun e W' => e = .returned (.tuple #[t.val, .bool b]) ∧ Below W.heap.size W W') :
  Calls Tryz.prog 63 #[.pointer (some ⟨mb, 0, none⟩), .i i, .i d, .i own, .i more] W fun e W' =>
   e = .returned (.bool (nextOf s own t b).isSome) ∧ SlotsAt W' sb (turned ss i (nextOf s own t b)) ∧ Chg (fun k => k = sb) W W' := by
 have hx := next_gen W s own more F d t b hd hE hF hL hw hac
 generalize nextOf s own t b = r at *
 have hlt : i < ss.length := (List.getElem?_eq_some_iff.1 hi).1
 obtain ⟨c0, c1, c2, c3, c4, c5, c6, c7, c8⟩ := hs.get hi
 unfold Hdr at hm
 have hb0 : (0 : Int) ≤ (i : Int) := by omega
 have hb1 : (i : Int) < (ss.length : Int) := by omega
 have hb2 : (i : Int) ≤ (ss.length : Int) - 1 := by omega
 have Hi := Lib.hid hi
 have hlw : sb < W.heap.size := hs.lt (by omega)
 have hlm : mb < W.heap.size := World.block_lt_of_cell? _ _ hm
 clear hi hE hF hac hd
 obtain ⟨q, hq⟩ : ∃ q, q = r.getD S.zero := ⟨_, rfl⟩
 rw [← hq] at hx
 have HQ := Lib.hid hq
 clear hq
 obtain ⟨st', ow', sm', br', ma', us', ge', ep', ve'⟩ := q
 simp only [S.val, S.cells] at hx
 go_enter Tryz.func63, Tryz.ntmps63
 go_wp2_with fail
 refine hx.mono ?_
 rintro e w5 ⟨rfl, hb5⟩
 have hs5 := hs.stable (hb5.block sb hlw)
 have hm5 : ∀ o, (w5.alloc o).cell? ⟨mb, 5, none⟩ = some (.slice (some ⟨sb, 0, none⟩) ss.length ss.length) := fun o => (World.cell?_alloc_lt _ _ _ (Nat.lt_of_lt_of_le hlm hb5.size)).trans (Field.bkeep hb5 hm)
 have hsA : ∀ o, SlotsAt (w5.alloc o) sb ss := fun o => hs5.stable (Below.heap_alloc _ _ _ (Nat.lt_of_lt_of_le hlw hb5.size))
 have d0 : ∀ o, (w5.alloc o).cell? ⟨sb, i * 9, none⟩ = some (.i s.state) := fun o => ((hsA o).get Hi.out).1
 have f0 : ∀ o, (w5.alloc o).frozen? ⟨sb, i * 9, none⟩ = false := fun o => ((hsA o).free hlt).1
 have d1 : ∀ o, (w5.alloc o).cell? ⟨sb, i * 9 + 1, none⟩ = some (.i s.own) := fun o => ((hsA o).get Hi.out).2.1
 have f1 : ∀ o, (w5.alloc o).frozen? ⟨sb, i * 9 + 1, none⟩ = false := fun o => ((hsA o).free hlt).2.1
 have d2 : ∀ o, (w5.alloc o).cell? ⟨sb, i * 9 + 2, none⟩ = some (.i s.streams) := fun o => ((hsA o).get Hi.out).2.2.1
 have f2 : ∀ o, (w5.alloc o).frozen? ⟨sb, i * 9 + 2, none⟩ = false := fun o => ((hsA o).free hlt).2.2.1
 have d3 : ∀ o, (w5.alloc o).cell? ⟨sb, i * 9 + 3, none⟩ = some (.bool s.broken) := fun o => ((hsA o).get Hi.out).2.2.2.1
 have f3 : ∀ o, (w5.alloc o).frozen? ⟨sb, i * 9 + 3, none⟩ = false := fun o => ((hsA o).free hlt).2.2.2.1
 have d4 : ∀ o, (w5.alloc o).cell? ⟨sb, i * 9 + 4, none⟩ = some (.bool s.marked) := fun o => ((hsA o).get Hi.out).2.2.2.2.1
 have f4 : ∀ o, (w5.alloc o).frozen? ⟨sb, i * 9 + 4, none⟩ = false := fun o => ((hsA o).free hlt).2.2.2.2.1
 have d5 : ∀ o, (w5.alloc o).cell? ⟨sb, i * 9 + 5, none⟩ = some (.i s.uses) := fun o => ((hsA o).get Hi.out).2.2.2.2.2.1
 have f5 : ∀ o, (w5.alloc o).frozen? ⟨sb, i * 9 + 5, none⟩ = false := fun o => ((hsA o).free hlt).2.2.2.2.2.1
 have d6 : ∀ o, (w5.alloc o).cell? ⟨sb, i * 9 + 6, none⟩ = some (.i s.gen) := fun o => ((hsA o).get Hi.out).2.2.2.2.2.2.1
 have f6 : ∀ o, (w5.alloc o).frozen? ⟨sb, i * 9 + 6, none⟩ = false := fun o => ((hsA o).free hlt).2.2.2.2.2.2.1
 have d7 : ∀ o, (w5.alloc o).cell? ⟨sb, i * 9 + 7, none⟩ = some (.i s.epoch) := fun o => ((hsA o).get Hi.out).2.2.2.2.2.2.2.1
 have f7 : ∀ o, (w5.alloc o).frozen? ⟨sb, i * 9 + 7, none⟩ = false := fun o => ((hsA o).free hlt).2.2.2.2.2.2.2.1
 have d8 : ∀ o, (w5.alloc o).cell? ⟨sb, i * 9 + 8, none⟩ = some (.i s.version) := fun o => ((hsA o).get Hi.out).2.2.2.2.2.2.2.2
 have f8 : ∀ o, (w5.alloc o).frozen? ⟨sb, i * 9 + 8, none⟩ = false := fun o => ((hsA o).free hlt).2.2.2.2.2.2.2.2
 have hC5 : ∀ o, Chg (fun k => k = sb) W (w5.alloc o) := fun o => (Chg.ofBelow hb5).alloc o
 clear hm c0 c1 c2 c3 c4 c5 c6 c7 c8 hx hs hs5 hb5
 rcases r with _ | t'
 ·go_wp2_with fail
  go_ret
  exact ⟨rfl, hsA _, hC5 _⟩
 ·go_wp2_with fail
  go_region
  go_wp2_with fail
  go_ret
  have eq := HQ.out
  simp only [Option.getD_some] at eq
  subst eq
  have k1 := (hsA (.cells (Ac st' ow' sm' br' ma' us' ge' ep' 0) 59)).set hlt ⟨st', ow', sm', br', ma', us', ge', ep', 0⟩
  have k2 := chg_set (hC5 (.cells (Ac st' ow' sm' br' ma' us' ge' ep' 0) 59)) (i := i) (.i st') (.i ow') (.i sm') (.bool br') (.bool ma') (.i us') (.i ge') (.i ep') (.i 0)
  exact ⟨rfl, k1.drew, k2.drew⟩
structure Ask where
 op : Int
 deadline : Int
 wait : Bool
 force : Bool
 slot : Int
 gen : Int
 stream : Int
 deriving DecidableEq
structure Ev where
 ended : Bool
 who : Int
 at' : Int
 ask : Ask
 e : Int
 slot : Int
 gen : Int
 stream : Int
 idle : Int
 leased : Int
 empty : Int
 other : Int
 deriving DecidableEq
def Ask.zero : Ask := ⟨0, 0, false, false, 0, 0, 0⟩
def Ev.zero : Ev := ⟨false, 0, 0, Ask.zero, 0, 0, 0, 0, 0, 0, 0, 0⟩
def Ask.cells (a : Ask) : Array Value := (Ad a.op a.deadline a.wait a.force a.slot a.gen a.stream)
def Ev.cells (x : Ev) : Array Value := #[.bool x.ended, .i x.who, .i x.at', .i x.ask.op, .i x.ask.deadline, .bool x.ask.wait, .bool x.ask.force, .i x.ask.slot, .i x.ask.gen, .i x.ask.stream,
 .i x.e, .i x.slot, .i x.gen, .i x.stream, .i x.idle, .i x.leased, .i x.empty, .i x.other]
abbrev Ask.val (a : Ask) : Value := .agg a.cells
abbrev Ev.val (x : Ev) : Value := .agg x.cells
theorem failed_any (W : World) (n : Int) : Calls Tryz.prog 48 #[.i n] W fun e W' => e = .returned ({ Ev.zero with e := n } : Ev).val ∧ Below W.heap.size W W' := by
 go_enter Tryz.func48, Tryz.ntmps48
 go_wp2
 refine bR1 W.heap.size (heap_alloc_new _ _) Tryz.underlying36 ?_
 exact ⟨rfl, (Below.refl _ _).alloc (Nat.le_refl _) _⟩
theorem model_leased (W : World) (mb sb : Nat) (ss : List S) (i : Nat) (s : S) (hm : Hdr W mb sb ss.length) (hs : SlotsAt W sb ss) (hi : ss[i]? = some s) (hn : ss.length ≤ 1000) :
  Calls Tryz.prog 88 #[.pointer (some ⟨mb, 0, none⟩), .i i] W fun e W' => e = .returned ({ Ev.zero with slot := i, gen := s.gen } : Ev).val ∧ Below W.heap.size W W' := by
 have hlt : i < ss.length := (List.getElem?_eq_some_iff.1 hi).1
 have c6 := (hs.get hi).2.2.2.2.2.2.1
 have hb0 : (0 : Int) ≤ (i : Int) := by omega
 have hb1 : (i : Int) < (ss.length : Int) := by omega
 have hb2 : (i : Int) ≤ (ss.length : Int) - 1 := by omega
 have hlm : mb < W.heap.size := World.block_lt_of_cell? _ _ hm
 have hls : sb < W.heap.size := World.block_lt_of_cell? _ _ c6
 unfold Hdr at hm
 clear hi hs
 go_enter Tryz.func88, Tryz.ntmps88
 go_wp2
 refine bR1 W.heap.size (heap_alloc_new _ _) Tryz.underlying36 ?_
 exact ⟨rfl, (Below.refl _ _).alloc (Nat.le_refl _) _⟩
def WHdr (W : World) (mb kb n : Nat) : Prop := W.cell? ⟨mb, 6, none⟩ = some (.slice (some ⟨kb, 0, none⟩) n n)
theorem has_any (W : World) (mb kb n : Nat) (who : Int) (hm : WHdr W mb kb n) :
  Calls Tryz.prog 39 #[.pointer (some ⟨mb, 0, none⟩), .i who] W fun e W' => e = .returned (.bool (decide (0 ≤ who ∧ who < n))) ∧ W = W' := by
 unfold WHdr at hm
 go_enter Tryz.func39, Tryz.ntmps39
 by_cases h : 0 ≤ who
 ·go_wp2
  go_ret
  exact ⟨Base.ret_bool (by simp [h]), rfl⟩
 ·go_wp2
  go_ret
  exact ⟨Base.ret_bool (by simp; omega), rfl⟩
end Go.Proofs.YtpmkgddjgebojaaGreatDoor.Mod
namespace Go.Proofs.YtpmkgddjgebojaaGreatDoor.Conf
open Go.RowKit Hp
structure Cf where
 workers : Int
 slots : Int
 streams : Int
 waiters : Int
 uses : Int
def Cf.cells (c : Cf) : Array Value := (Aa c.workers c.slots c.streams c.waiters c.uses)
abbrev Cf.val (c : Cf) : Value := .agg c.cells
def btw (l n m : Int) : Bool := decide (l ≤ n ∧ n ≤ m)
def Cf.right (c : Cf) : Bool := btw 1 c.workers 8 && (btw 1 c.slots 16 && (btw 0 c.streams 8 && (btw 0 c.waiters 8 && btw 1 c.uses 60)))
theorem between_any (w : World) (l n m : Int) : Calls Tryz.prog 64 #[.i l, .i n, .i m] w fun e w' => e = .returned (.bool (btw l n m)) ∧ w = w' := by
 go_enter Tryz.func64, Tryz.ntmps64
 by_cases h : l ≤ n
 ·go_wp2
  go_ret
  exact ⟨Base.ret_bool (by simp [btw, h]), rfl⟩
 ·go_wp2
  go_ret
  exact ⟨Base.ret_bool (by simp [btw]; omega), rfl⟩
theorem right_any (w : World) (c : Cf) : Calls Tryz.prog 34 #[c.val] w fun e w' => e = .returned (.bool c.right) ∧ Below w.heap.size w w' := by
 have hb := fun w l n m => between_any w l n m
 have hr : RowKit.Hid (c.right = (btw 1 c.workers 8 && (btw 1 c.slots 16 && (btw 0 c.streams 8 && (btw 0 c.waiters 8 && btw 1 c.uses 60))))) := rfl
 have h1 := fun w => hb w 1 c.workers 8
 have h2 := fun w => hb w 1 c.slots 16
 have h3 := fun w => hb w 0 c.streams 8
 have h4 := fun w => hb w 0 c.waiters 8
 have h5 := fun w => hb w 1 c.uses 60
 clear hb
 generalize btw 1 c.workers 8 = b1 at *
 generalize btw 1 c.slots 16 = b2 at *
 generalize btw 0 c.streams 8 = b3 at *
 generalize btw 0 c.waiters 8 = b4 at *
 generalize btw 1 c.uses 60 = b5 at *
 generalize c.right = r at *
 obtain ⟨c1, c2, c3, c4, c5⟩ := c
 simp only [Cf.val, Cf.cells] at *
 have hB : Below w.heap.size w (w.alloc (.cells (Aa c1 c2 c3 c4 c5) 23)) := (Below.refl _ _).alloc (Nat.le_refl _) _
 go_enter Tryz.func34, Tryz.ntmps34
 go_wp2_with fail
 refine (h1 _).mono ?_
 rintro e w1 ⟨rfl, rfl⟩
 cases b1
 ·go_wp2_with fail
  go_ret
  exact ⟨Base.ret_bool (by rw [hr.out]; rfl), hB⟩
 go_wp2_with fail
 refine (h2 _).mono ?_
 rintro e w1 ⟨rfl, rfl⟩
 cases b2
 ·go_wp2_with fail
  go_ret
  exact ⟨Base.ret_bool (by rw [hr.out]; rfl), hB⟩
 go_wp2_with fail
 refine (h3 _).mono ?_
 rintro e w1 ⟨rfl, rfl⟩
 cases b3
 ·go_wp2_with fail
  go_ret
  exact ⟨Base.ret_bool (by rw [hr.out]; rfl), hB⟩
 go_wp2_with fail
 refine (h4 _).mono ?_
 rintro e w1 ⟨rfl, rfl⟩
 cases b4
 ·go_wp2_with fail
  go_ret
  exact ⟨Base.ret_bool (by rw [hr.out]; rfl), hB⟩
 go_wp2_with fail
 refine (h5 _).mono ?_
 rintro e w1 ⟨rfl, rfl⟩
 cases b5
 all_goals (
  go_wp2_with fail
  go_ret
  exact ⟨Base.ret_bool (by rw [hr.out]; rfl), hB⟩)
end Go.Proofs.YtpmkgddjgebojaaGreatDoor.Conf
namespace Go.Proofs.YtpmkgddjgebojaaGreatDoor.Clock
open Go.RowKit
theorem new_any (w : World) : Calls Tryz.prog 35 #[] w fun e w' => e = .returned (.pointer (some ⟨w.heap.size, 0, none⟩)) ∧ w' = w.alloc (.cells #[.i 0] 114) := by
 go_enter Tryz.func35, Tryz.ntmps35
 go_wp2
 go_ret
 exact ⟨rfl, rfl⟩
def tick (now n : Int) : Int := now + min (max n 0) (1099511627776 - now)
theorem tick_any (w : World) (p : Addr) (now n : Int) (hc : w.cell? p = some (.i now)) (hf : w.frozen? p = false) (h0 : 0 ≤ now) (h1 : now ≤ 1099511627776)
  (hn : -9223372036854775808 ≤ n) (hn' : n ≤ 9223372036854775807) :
  Calls Tryz.prog 60 #[.pointer (some p), .i n] w fun e w' => e = .returned (.i (tick now n)) ∧ w' = (w.setCell p (.i (tick now n))).drew := by
 go_enter Tryz.func60, Tryz.ntmps60
 go_wp2
 go_region
 all_goals go_wp2
 all_goals go_ret
 all_goals (refine ⟨congrArg (fun k => Ending.returned (.i k)) ?_, congrArg (fun k => (w.setCell p (.i k)).drew) ?_⟩ <;> (unfold tick; omega))
theorem past_any (w : World) (p : Addr) (now d : Int) (hc : w.cell? p = some (.i now)) :
  Calls Tryz.prog 50 #[.pointer (some p), .i d] w fun e w' => e = .returned (.bool (decide (d ≤ now))) ∧ w = w' := by
 go_enter Tryz.func50, Tryz.ntmps50
 go_wp2
 go_ret
 exact ⟨rfl, rfl⟩
end Go.Proofs.YtpmkgddjgebojaaGreatDoor.Clock
namespace Go.Proofs.YtpmkgddjgebojaaGreatDoor.Mod
open Go.RowKit Hp Slot RowL Life
structure Wk where
 at' : Int
 ask : Ask
 slot : Int
 deriving DecidableEq
def Wk.zero : Wk := ⟨0, Ask.zero, 0⟩
def Wk.cells (k : Wk) : Array Value := (Ac k.at' k.ask.op k.ask.deadline k.ask.wait k.ask.force k.ask.slot k.ask.gen k.ask.stream k.slot)
structure M where
 cf : Conf.Cf
 ss : List S
 ks : List Wk
 line : List Int
 closed : Int
 now : Int
 ahead : List Bool
def hasBit (n : Int) (i : Nat) : Bool := n.toNat.testBit i
def lowFree (n : Int) (most : Int) : Option Nat := (List.range (min most 8).toNat).find? fun i => !hasBit n i
def setBit (n : Int) (i : Nat) : Int := ((n.toNat ||| 2 ^ i : Nat) : Int)
def dropBit (n : Int) (i : Nat) : Int := n - 2 ^ i
def act (d : Nat) (s : S) (own more : Int) : S × Bool :=
 match d with
 | 0 => (to s own 1, s.state == 0)
 | 1 => (leased s own, s.state == 1 && s.own == own)
 | 2 => (to s own 0, s.state == 1 && s.own == own)
 | 3 => (leased s own, s.state == 2 && !s.broken)
 | 4 => (to s own 2, (s.state == 3 && s.own == own) && s.streams == 0)
 | 5 => (to s own 4, s.state == 2 && !s.broken)
 | 7 => (to s own 5, s.state == 0)
 | 9 => (to s own 2, s.state == 2)
 | 10 => ({ s with marked := true }, s.state == 2 && !s.marked)
 | 13 => ({ s with broken := true }, !s.broken && (s.state == 2 || (s.state == 3 || s.state == 4)))
 | 14 => if (s.state == 3 && s.own == own) && !s.broken then (match lowFree s.streams more with | some i => ({ s with streams := setBit s.streams i }, true) | none => (s, false)) else (s, false)
 | 15 => if (s.state == 3 && s.own == own) && decide (0 ≤ more ∧ more < 8) && hasBit s.streams more.toNat then ({ s with streams := dropBit s.streams more.toNat }, true) else (s, false)
 | 16 => if s.state == 5 && s.own == own then (to s own 1, true) else (leased s own, s.state == 4 && s.own == own)
 | _ => (s, false)
def next (s : S) (d : Nat) (own more : Int) : Option S := nextOf s own (act d s own more).1 (act d s own more).2
def step (s : S) (d : Nat) (own more : Int) : S := match next s d own more with | some t => { t with version := 0 } | none => s
def turnL (ss : List S) (i : Nat) (d : Nat) (own more : Int) : List S := match ss[i]? with | some s => ss.set i (step s d own more) | none => ss
def firstAt (kind own : Int) : List S → Option Nat
 | [] => none
 | s :: l => if Find.fits s kind own then some 0 else (firstAt kind own l).map (· + 1)
namespace M
def slot (m : M) (i : Nat) : S := m.ss[i]?.getD S.zero
def turn (m : M) (i d : Nat) (own more : Int) : M := { m with ss := turnL m.ss i d own more }
def empty (m : M) (i : Nat) : M := { m with ss := m.ss.set i (emptied (m.slot i)) }
def first (m : M) (kind own : Int) : Option Nat := firstAt kind own m.ss
def leased (m : M) (i : Nat) : Ev := { Ev.zero with slot := i, gen := (m.slot i).gen }
def failed (n : Int) : Ev := { Ev.zero with e := n }
def next (m : M) : M := { m with ahead := m.ahead.tail }
def good (m : M) : Bool := m.ahead.headD true
def dial (m : M) (i : Nat) (who : Int) : Ev × M :=
 if m.good then ((m.next.turn i 1 who 0).leased i, m.next.turn i 1 who 0) else (failed 6, m.next.turn i 2 who 0)
def moveL (victim who : Int) : Bool → List S → List S
 | _, [] => []
 | b, s :: l => if Find.fits s 0 victim then (if b then step s 9 who 0 else s) :: moveL victim who (!b) l else s :: moveL victim who b l
def move (m : M) (victim who : Int) : M := { m with ss := moveL victim who true m.ss }
def take (m : M) (who : Int) (i : Nat) : Ev × M :=
 let m1 := m.turn i 16 who 0
 let r := if (m1.slot i).state = 1 then m1.dial i who else (m1.leased i, m1)
 if r.1.e = 0 ∧ m.closed ≠ 0 then (failed 5, r.2.empty i) else r
def owns (m : M) (who : Int) (a : Ask) : Int :=
 if m.closed = 2 then 5 else if a.slot < 0 ∨ (m.ss.length : Int) ≤ a.slot then 2
 else if (m.slot a.slot.toNat).state ≠ 3 ∨ (m.slot a.slot.toNat).own ≠ who ∨ (m.slot a.slot.toNat).gen ≠ a.gen then 2 else 0
def get (m : M) (who : Int) (a : Ask) : (Ev × Bool) × M :=
 if m.closed ≠ 0 then ((failed 5, true), m) else
 match m.first 0 who with
 | some i => (((m.turn i 3 who 0).leased i, true), m.turn i 3 who 0)
 | none => match m.first 1 who with
  | some i => let m1 := (m.turn i 3 who 0).move (m.slot i).own who; ((m1.leased i, true), m1)
  | none => match m.first 2 who with
   | some i => let r := (m.turn i 0 who 0).dial i who; ((r.1, true), r.2)
   | none => if !a.wait then ((failed 3, true), m) else if m.cf.waiters ≤ m.line.length then ((failed 7, true), m)
    else ((Ev.zero, false), { m with line := m.line ++ [who], ks := m.ks.set who.toNat ⟨1, a, 0⟩ })
def give (m : M) (who : Int) (a : Ask) (discard : Bool) : Ev × M :=
 if m.owns who a ≠ 0 then (failed (m.owns who a), m)
 else if (m.slot a.slot.toNat).streams ≠ 0 ∧ discard = false then (failed 8, m)
 else (Ev.zero, if discard = true ∨ (m.slot a.slot.toNat).broken = true ∨ m.cf.uses ≤ (m.slot a.slot.toNat).uses ∨ m.closed ≠ 0 then m.empty a.slot.toNat else m.turn a.slot.toNat 4 who 0)
def openS (m : M) (who : Int) (a : Ask) : Ev × M :=
 if m.owns who a ≠ 0 then (failed (m.owns who a), m)
 else if (m.slot a.slot.toNat).broken = true then (failed 9, m)
 else match lowFree (m.slot a.slot.toNat).streams m.cf.streams with
 | some n => ({ Ev.zero with stream := n }, m.turn a.slot.toNat 14 who m.cf.streams)
 | none => (failed 10, m)
def shutS (m : M) (who : Int) (a : Ask) : Ev × M :=
 if m.owns who a ≠ 0 then (failed (m.owns who a), m)
 else if (Mod.next (m.slot a.slot.toNat) 15 who a.stream).isSome then ({ Ev.zero with stream := a.stream }, m.turn a.slot.toNat 15 who a.stream) else (failed 11, m)
def reapL (who : Int) : List Bool → Int → List S → List S × List Bool × Int
 | a, n, [] => ([], a, n)
 | a, n, s :: l => if Find.fits s 6 who then
   (if a.headD true && (!s.marked && !s.broken) then (let r := reapL who a.tail n l; (step s 10 who 0 :: r.1, r.2)) else (let r := reapL who a.tail (n + 1) l; (emptied s :: r.1, r.2)))
  else (let r := reapL who a n l; (s :: r.1, r.2))
def reap (m : M) (who : Int) : Ev × M :=
 let r := reapL who m.ahead 0 m.ss
 ({ Ev.zero with slot := r.2.2 }, { m with ss := r.1, ahead := r.2.1 })
def close (m : M) (force : Bool) : M :=
 { m with closed := if force then 2 else if m.closed = 0 then 1 else m.closed, ks := m.line.foldl (fun ks who => ks.set who.toNat { ks[who.toNat]?.getD Wk.zero with at' := 3 }) m.ks, line := [] }
def countL (p : S → Bool) (l : List S) : Int := (l.filter p).length
def stats (m : M) : Ev :=
 { Ev.zero with
  idle := countL (fun s => s.state == 2) m.ss
  leased := countL (fun s => s.state == 3) m.ss
  empty := countL (fun s => s.state == 0) m.ss
  other := countL (fun s => s.state != 2 && (s.state != 3 && s.state != 0)) m.ss }
def sweep (m : M) : M := { m with ss := m.ss.map fun s => if Find.fits s 4 m.closed then emptied s else s }
def grantL : List Int → List S → List Wk → List S × List Wk × List Int
 | [], ss, ks => (ss, ks, [])
 | who :: l, ss, ks => match firstAt 3 0 ss with
  | none => (ss, ks, who :: l)
  | some i => grantL l (turnL ss i (if (ss[i]?.getD S.zero).state = 2 then 5 else 7) who 0) (ks.set who.toNat { ks[who.toNat]?.getD Wk.zero with at' := 2, slot := i })
def grant (m : M) : M := if m.closed = 0 then (let r := grantL m.line m.ss m.ks; { m with ss := r.1, ks := r.2.1, line := r.2.2 }) else m
def tidy (m : M) : M := m.sweep.grant
def has (m : M) (who : Int) : Bool := decide (0 ≤ who ∧ who < m.ks.length)
def worker (m : M) (who : Int) : Wk := m.ks[who.toNat]?.getD Wk.zero
def answered (x : Ev) (who : Int) (a : Ask) : Ev := { x with ended := true, who := who, at' := 0, ask := a }
def does (m : M) (who : Int) (a : Ask) : (Ev × Bool) × M :=
 if a.op = 0 then m.get who a
 else if a.op = 1 then (((m.give who a false).1, true), (m.give who a false).2)
 else if a.op = 2 then (((m.give who a true).1, true), (m.give who a true).2)
 else if a.op = 3 then (((m.openS who a).1, true), (m.openS who a).2)
 else if a.op = 4 then (((m.shutS who a).1, true), (m.shutS who a).2)
 else if a.op = 5 then (((m.reap who).1, true), (m.reap who).2)
 else if a.op = 6 then ((Ev.zero, true), m.close a.force)
 else ((m.stats, true), m)
def can (m : M) (who : Int) (a : Ask) : Bool := decide (0 ≤ a.op ∧ a.op ≤ 7) && m.has who && decide ((m.worker who).at' = 0)
def ask (m : M) (who : Int) (a : Ask) : (Ev × Bool × Bool) × M :=
 if m.can who a then
  let r := m.does who a
  if r.1.2 then ((answered r.1.1 who a, true, true), r.2.tidy) else ((Ev.zero, false, true), r.2.tidy)
 else ((Ev.zero, false, false), m)
def rest (m : M) (who : Int) : M := { m with ks := m.ks.set who.toNat Wk.zero }
def wake (m : M) (who : Int) : (Ev × Bool) × M :=
 if !m.has who then ((Ev.zero, false), m) else
 let k := m.worker who
 if k.at' = 3 then ((answered (failed 5) who k.ask, true), (m.rest who).tidy)
 else if k.at' = 2 then (let r := m.take who k.slot.toNat; ((answered r.1 who k.ask, true), (r.2.rest who).tidy))
 else if k.at' = 1 ∧ k.ask.deadline ≤ m.now then ((answered (failed 4) who k.ask, true), ({ m with line := m.line.filter (fun o => o != who) }.rest who).tidy)
 else ((Ev.zero, false), m)
def tick (m : M) (n : Int) : M := { m with now := Clock.tick m.now n }
def feed (m : M) (b : Bool) : Bool × M := if m.ahead.length < 1000 then (true, { m with ahead := m.ahead ++ [b] }) else (false, m)
def break' (m : M) (i : Int) : Bool × M :=
 if 0 ≤ i ∧ i < m.ss.length then ((Mod.next (m.slot i.toNat) 13 0 0).isSome, m.turn i.toNat 13 0 0) else (false, m)
def new (c : Conf.Cf) : M := ⟨c, List.replicate c.slots.toNat S.zero, List.replicate c.workers.toNat Wk.zero, [], 0, 0, []⟩
end M
end Go.Proofs.YtpmkgddjgebojaaGreatDoor.Mod
namespace Go.Proofs.YtpmkgddjgebojaaGreatDoor.Rng
open Go.RowKit Hp
def SeqC {σ α : Type} (P : Program) (gf : Nat) (lb : Array Value) (encs : α → Array Value) (I : σ → World → Prop) (Ww Wr : Nat → Prop) (Skips : σ → World → σ → Prop) (Yields : σ → World → α → σ → Prop) (Done : σ → World → Prop) (s0 : σ) (W : World) : Prop :=
 ∀ (l : Nat) (J : σ → World → Prop) (Jx : World → Prop),
  (∀ s W, J s W → I s W) → (∀ s W W', J s W → Chg Wr W W' → J s W') → (∀ s s' W, J s W → Skips s W s' → J s' W) →
  (∀ s x s' W, J s W → Yields s W x s' → YieldAt Fence.wide 7 P l (encs x) W fun e W' =>
   (e = .returned (.bool true) ∧ J s' W' ∧ KeepsB Ww W W') ∨ (e = .returned (.bool false) ∧ Jx W')) →
  J s0 W →
  CallsIn Fence.wide 8 P gf (#[.func (.yield l) #[] #[]] ++ lb) W fun e W' => (∃ v, e = .returned v) ∧ ((∃ s, Done s W' ∧ J s W') ∨ Jx W')
theorem wpIn_rangeC {σ α : Type} {P : Program} {g : Operand} {ps : Array Tmp} {assign body : Code} {Q : Exit → Act → World → Prop} {a : Act} {w : World}
  {gf : Nat} {lb : Array Value} (hg : a.eval g = .func (.func gf) #[] lb) (eg : ∀ args w, (callFunc gf args).run P w = .ok (.enter gf args) w)
  {encs : α → Array Value} {I : σ → World → Prop} {Ww Wr : Nat → Prop} {Skips : σ → World → σ → Prop} {Yields : σ → World → α → σ → Prop} {Done : σ → World → Prop} {s0 : σ}
  (hps : ∀ x, (encs x).size = ps.size) (hRd : ∀ k, Ww k ∨ Wr k → k < w.heap.size)
  (hseq : ∀ W1, Turn w.heap.size w W1 → SeqC P gf lb encs I Ww Wr Skips Yields Done s0 W1)
  (K : σ → World → Prop) (Kx : Code → World → Prop)
  (hKI : ∀ s W, K s W → I s W) (hKs : ∀ s W W', K s W → Chg Wr W W' → K s W') (hKk : ∀ s s' W, K s W → Skips s W s' → K s' W)
  (hKt : ∀ s W W', K s W → Turn w.heap.size W W' → K s W') (hKxt : ∀ c W W', Kx c W → Turn w.heap.size W W' → Kx c W') (hYt : ∀ s x s' W W', Yields s W x s' → Turn w.heap.size W W' → Yields s W' x s')
  (hDt : ∀ s W W', Done s W → Turn w.heap.size W W' → Done s W')
  (hYc : ∀ s x s' W W', Yields s W x s' → Chg (fun _ => False) W W' → Yields s W' x s')
  (h0 : K s0 w)
  (hround : ∀ (l : Nat) (s : σ) (x : α) (s' : σ) (W : World), w.heap.size < l → l < W.heap.size → K s W → Yields s W x s' →
   assign.wpIn (Fence.wide.inRound l) 7 P (Exit.then (fun a' W' => Chg (fun _ => False) W W' ∧ ∀ W2 : World, Turn w.heap.size W' W2 → (∃ r, W2.heap[l]? = some (.loop r)) → K s W2 → Yields s W2 x s' →
    body.wpIn (Fence.wide.inRound l) 7 P (roundOutB Ww (K s') Kx W2) a' W2) (fun _ _ _ => False)) { tmps := (ps.zip (encs x)).foldl (fun t (p, v) => t.setIfInBounds p v) a.tmps, defers := [] } W)
  (hdone : ∀ (D : Nat) (s : σ) (W : World), w.heap.size ≤ D → Done s W → K s W → W.heap[D]? = some (.deferred (some [])) → Q .normal { a with defers := { target := .collected D, args := #[] } :: a.defers } W)
  (hstop : ∀ (D : Nat) (c : Code) (W : World), w.heap.size ≤ D → Kx c W → W.heap[D]? = some (.deferred (some [])) → c.wpIn Fence.wide 9 P Q { a with defers := { target := .collected D, args := #[] } :: a.defers } W) :
  (Code.rangeFunc g ps assign body).wpIn Fence.wide 9 P Q a w := by
 refine wpIn_rangeFunc ?_
 intro fn hfn
 obtain ⟨rec, hrec⟩ : ∃ rec : LoopState → Option Code → Loop, rec = fun st pe => { state := st, pending := pe, fn, tmps := a.tmps, params := ps, assign, body, defers := w.heap.size } := ⟨_, rfl⟩
 obtain ⟨W1, hW1⟩ : ∃ W1, (w.alloc (.deferred (some []))).alloc (.loop (rec .ready none)) = W1 := ⟨_, rfl⟩
 have hL1 : W1.heap[w.heap.size + 1]? = some (.loop (rec .ready none)) := by
  rw [← hW1]; have := World.alloc_heap_new (w.alloc (.deferred (some []))) (.loop (rec .ready none)); rwa [World.size_alloc] at this
 have hK1 : W1.heap[w.heap.size]? = some (.deferred (some [])) := by
  rw [← hW1]; exact (Below.heap_alloc _ _ _ (by simp)).trans (World.alloc_heap_new w _)
 have hT1 : Turn w.heap.size w W1 := by rw [← hW1]; exact ((Turn.refl _ _).alloc _).alloc _
 refine ⟨w.heap.size + 1, [{ target := .collected w.heap.size, args := #[] }], W1, { target := .fn (.func gf) lb, args := #[.func (.yield (w.heap.size + 1)) #[] #[]] }, W1, gf,
  #[.func (.yield (w.heap.size + 1)) #[] #[]] ++ lb, W1, ?_, ?_, ?_, ?_, fun h => by simp [Fence.wide] at h, ?_⟩
 ·rw [← hW1, hrec]; exact run_enterLoop_outer _ _ _ _ _
 ·simp only [resolve, hg]
  simp [go_sem]
 ·intro f' hf'; exact trivial
 ·simp [invoke, go_sem, eg]
 ·refine ((hseq W1 hT1) (w.heap.size + 1)
   (fun s W => K s W ∧ W.heap[w.heap.size + 1]? = some (.loop (rec .ready none)) ∧ W.heap[w.heap.size]? = some (.deferred (some [])))
   (fun W => ∃ c, Kx c W ∧ W.heap[w.heap.size + 1]? = some (.loop (rec .done (some c))) ∧ W.heap[w.heap.size]? = some (.deferred (some [])))
   (fun s W h => hKI s W h.1)
   (fun s W W' h hc => ⟨hKs s W W' h.1 hc, (hc.block _ (Array.getElem?_eq_some_iff.1 h.2.1).1 (fun hw => by have := hRd _ (.inr hw); omega)).trans h.2.1, (hc.block _ (Array.getElem?_eq_some_iff.1 h.2.2).1 (fun hw => by have := hRd _ (.inr hw); omega)).trans h.2.2⟩)
   (fun s s' W h hs => ⟨hKk s s' W h.1 hs, h.2⟩)
   ?_ ⟨hKt _ _ _ h0 hT1, hL1, hK1⟩).mono ?_
  ·rintro s x s' W ⟨hi, hl, hk⟩ hyl
   have hlt : w.heap.size + 1 < W.heap.size := (Array.getElem?_eq_some_iff.1 hl).1
   have hy := run_yield (P := P) (args := encs x) hl (by rw [hrec]; exact hps x)
   rw [hrec] at hy
   refine ⟨fn, _, assign, body, hy, roundIn_of_wpIn hfn (wpIn_mono (hround _ s x s' W (by omega) hlt hi hyl) ?_)⟩
   clear hy
   rintro e a' W' he
   cases e with
   | normal => ?_
   | ret => exact he
   | exit id => exact he
   | goto t => exact he
   | panic ch => exact he
   | outgrown => exact he
   obtain ⟨hch, hbody⟩ := he
   have hl0 := hl
   have hl : W'.heap[w.heap.size + 1]? = some (.loop (rec .ready none)) := (hch.block _ hlt id).trans hl0
   have hk : W'.heap[w.heap.size]? = some (.deferred (some [])) := (hch.block _ (by omega) id).trans hk
   have hi : K s W' := hKs s W W' hi (hch.mono fun _ _ h => h.elim)
   have hyl : Yields s W' x s' := hYc _ _ _ _ _ hyl hch
   have hlt0 := hlt
   have hlt : w.heap.size + 1 < W'.heap.size := Nat.lt_of_lt_of_le hlt0 hch.size
   refine ⟨_, run_beginRound hl (by rw [hrec]), ?_⟩
   have hl2 : (W'.putObj (w.heap.size + 1) (.loop { rec .ready none with state := .busy })).heap[w.heap.size + 1]? = some (.loop { rec .ready none with state := .busy }) := World.putObj_heap_same hlt
   have hk2 : (W'.putObj (w.heap.size + 1) (.loop { rec .ready none with state := .busy })).heap[w.heap.size]? = some (.deferred (some [])) := (World.putObj_heap_other (by omega)).trans hk
   have hT2 : Turn w.heap.size W' (W'.putObj (w.heap.size + 1) (.loop { rec .ready none with state := .busy })) := (Turn.refl _ _).putObj _ (by omega) hl rfl
   refine wpIn_mono (hbody _ hT2 ⟨_, hl2⟩ (hKt _ _ _ hi hT2) (hYt _ _ _ _ _ hyl hT2)) ?_
   have fin : ∀ (jump : Option Code) (W3 : World), KeepsB Ww (W'.putObj (w.heap.size + 1) (.loop { rec .ready none with state := .busy })) W3 →
     (Instr.endRound (w.heap.size + 1) jump).run P W3 = .ok (.bool jump.isNone) (W3.putObj (w.heap.size + 1) (.loop (rec (if jump.isNone then .ready else .done) jump))) ∧
     W3.heap[w.heap.size + 1]? = some (.loop { rec .ready none with state := .busy }) ∧
     (W3.putObj (w.heap.size + 1) (.loop (rec (if jump.isNone then .ready else .done) jump))).heap[w.heap.size + 1]? = some (.loop (rec (if jump.isNone then .ready else .done) jump)) ∧
     (W3.putObj (w.heap.size + 1) (.loop (rec (if jump.isNone then .ready else .done) jump))).heap[w.heap.size]? = some (.deferred (some [])) := fun jump W3 hk3 => by
    have hl3 := (hk3.same _ (Array.getElem?_eq_some_iff.1 hl2).1 (fun hw => by have := hRd _ (.inl hw); omega)).trans hl2
    have := run_endRound (P := P) jump hl3
    rw [hrec] at this ⊢
    exact ⟨this, by rw [hrec] at hl3; exact hl3, World.putObj_heap_same (Array.getElem?_eq_some_iff.1 hl3).1, (World.putObj_heap_other (by omega)).trans ((hk3.same _ (Array.getElem?_eq_some_iff.1 hk2).1 (fun hw => by have := hRd _ (.inl hw); omega)).trans hk2)⟩
   rintro e a3 W3 hp
   cases e with
   | normal =>
    obtain ⟨hk3, hi3⟩ := hp
    obtain ⟨hr, hl3, hl4, hk4⟩ := fin none W3 hk3
    refine ⟨_, _, hr, .inl ⟨rfl, ⟨hKt _ _ _ hi3 ((Turn.refl _ _).putObj _ (by omega) hl3 rfl), hl4, hk4⟩, ?_, fun k hkk hn => ?_⟩⟩
    ·have := hk3.size; have := hch.size; simp at *; omega
    ·by_cases hkl : k = w.heap.size + 1
     ·subst hkl
      exact hl4.trans hl0.symm
     ·have hkW : k < W'.heap.size := Nat.lt_of_lt_of_le hkk hch.size
      exact (World.putObj_heap_other (by omega)).trans ((hk3.same k (by simpa using hkW) hn).trans ((World.putObj_heap_other (by omega)).trans (hch.block k hkk id)))
   | ret =>
    obtain ⟨hk3, hi3⟩ := hp
    obtain ⟨hr, hl3, hl4, hk4⟩ := fin (some .ret) W3 hk3
    exact ⟨_, _, hr, .inr ⟨rfl, .ret, hKxt _ _ _ hi3 ((Turn.refl _ _).putObj _ (by omega) hl3 rfl), hl4, hk4⟩⟩
   | exit id =>
    obtain ⟨hk3, hi3⟩ := hp
    obtain ⟨hr, hl3, hl4, hk4⟩ := fin (some (.exit id)) W3 hk3
    exact ⟨_, _, hr, .inr ⟨rfl, .exit id, hKxt _ _ _ hi3 ((Turn.refl _ _).putObj _ (by omega) hl3 rfl), hl4, hk4⟩⟩
   | goto t =>
    obtain ⟨hk3, hi3⟩ := hp
    obtain ⟨hr, hl3, hl4, hk4⟩ := fin (some (.goto t)) W3 hk3
    exact ⟨_, _, hr, .inr ⟨rfl, .goto t, hKxt _ _ _ hi3 ((Turn.refl _ _).putObj _ (by omega) hl3 rfl), hl4, hk4⟩⟩
   | panic ch => exact hp.elim
   | outgrown => exact hp.elim
  ·rintro e W2 ⟨⟨v, rfl⟩, (⟨s, hD, hi, hl, hk⟩ | ⟨c, hi, hl, hk⟩)⟩
   ·have hT : Turn w.heap.size W2 (W2.putObj (w.heap.size + 1) (.loop { rec .ready none with state := .exhausted })) := (Turn.refl _ _).putObj _ (by omega) hl rfl
    exact ⟨none, _, by have := run_endLoop (P := P) hl (by rw [hrec]; simp); rw [hrec] at this; exact this, hdone _ s _ (Nat.le_refl _) (by rw [hrec] at hT; exact hDt _ _ _ hD hT) (by rw [hrec] at hT; exact hKt _ _ _ hi hT) ((World.putObj_heap_other (by omega)).trans hk)⟩
   ·have hT : Turn w.heap.size W2 (W2.putObj (w.heap.size + 1) (.loop { rec .done (some c) with state := .exhausted })) := (Turn.refl _ _).putObj _ (by omega) hl rfl
    exact ⟨some c, _, by have := run_endLoop (P := P) hl (by rw [hrec]; simp); rw [hrec] at this; exact this, hstop _ c _ (Nat.le_refl _) (by rw [hrec] at hT; exact hKxt _ _ _ hi hT) ((World.putObj_heap_other (by omega)).trans hk)⟩
end Go.Proofs.YtpmkgddjgebojaaGreatDoor.Rng
