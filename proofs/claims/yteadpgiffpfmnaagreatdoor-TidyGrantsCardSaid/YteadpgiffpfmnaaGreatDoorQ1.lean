/- Part 1 of the walks and plain laws that the last text joins. -/
import Derived.Test.YteadpgiffpfmnaaGreatDoorProg
import Derived.WalkKit
import Derived.ProofKit
import Derived.ArgAppend
import Derived.OwnWalkIn
import Derived.RangeFuncOwn
import Derived.Below
import Derived.OpenShut
import Derived.SliceStrings
import Derived.Deep.Grids
import Derived.Lib.Hide
import Derived.Deep.RegionHeld3
import Derived.RangeFuncNested
import Derived.RangeFuncBound
import Derived.RangeFuncCalls
import Derived.RangeFuncLeaves
import Derived.Shelf.Abstract
import Derived.Shelf.RegionOpen
import Derived.TacticsInMore
import Derived.LoopNIn
import Derived.LoopIn
import Derived.Laws.Rows
import Derived.Laws.Tables
import Derived.Laws.ResultCell
import Derived.Laws.CopyOwn
import Derived.Deep.MidRow
import Derived.Laws.BitsLemmas
import Derived.Deep.QuietTactic
import Derived.BigQuiet
set_option maxRecDepth 100000
set_option maxHeartbeats 16000000
set_option linter.unusedVariables false
set_option linter.unusedSimpArgs false
namespace Go.Proofs.YteadpgiffpfmnaaGreatDoor
open Go.RowKit
abbrev _root_.Go.Value.i (n : Int) : Value := .int .i64 n
abbrev Zv : Array Value := #[.bool false, .i 0, .i 0, .i 0, .i 0, .bool false, .bool false, .i 0, .i 0, .i 0, .i 0, .i 0, .i 0, .i 0, .i 0, .i 0, .i 0, .i 0]
abbrev Zw : Array Value := #[.bool false, .bool false, .i 0, .i 0, .i 0, .bool false, .bool false, .i 0, .i 0, .i 0]
abbrev Zs : Array Value := #[.i 0, .i 0, .i 0, .bool false, .bool false, .i 0, .i 0, .i 0, .i 0]
abbrev Zf : Array Value := #[.bool false, .i 0, .i 0, .i 0, .i 0, .bool false, .bool false, .i 0, .i 0, .i 0, .i 4, .i 0, .i 0, .i 0, .i 0, .i 0, .i 0, .i 0]
abbrev Zg : Array Value := #[.bool false, .i 0, .i 0, .i 0, .i 0, .bool false, .bool false, .i 0, .i 0, .i 0, .i 5, .i 0, .i 0, .i 0, .i 0, .i 0, .i 0, .i 0]
abbrev Aa (x0 : Int) (x1 : Int) (x2 : Int) (x3 : Bool) (x4 : Bool) (x5 : Int) (x6 : Int) (x7 : Int) (x8 : Int) : Array Value := #[.i x0, .i x1, .i x2, .bool x3, .bool x4, .i x5, .i x6, .i x7, .i x8]
abbrev Ab (x0 : Int) (x1 : Int) (x2 : Int) (x3 : Bool) (x4 : Bool) (x5 : Int) (x6 : Int) (x7 : Int) (x8 : Int) (x9 : Int) (x10 : Int) : Array Value := #[.i x0, .i x1, .i x2, .bool x3, .bool x4, .i x5, .i x6, .i x7, .i x8, .i x9, .i x10]
abbrev Ac (x0 : Int) (x1 : Int) (x2 : Int) (x3 : Int) (x4 : Int) (x5 : Int) (x6 : Int) (x7 : Int) (x8 : Int) (x9 : Int) (x10 : Int) (x11 : Int) (x12 : Int) (x13 : Int) (x14 : Int) (x15 : Int) (x16 : Int) (x17 : Int) : Array Value := #[.i x0, .i x1, .i x2, .i x3, .i x4, .i x5, .i x6, .i x7, .i x8, .i x9, .i x10, .i x11, .i x12, .i x13, .i x14, .i x15, .i x16, .i x17]
abbrev Ad (x0 : Int) (x1 : Int) (x2 : Int) (x3 : Int) (x4 : Int) (x5 : Int) (x6 : Int) (x7 : Int) (x8 : Int) : Array Value := #[.i x0, .i x1, .i x2, .i x3, .i x4, .i x5, .i x6, .i x7, .i x8]
abbrev Ae (x0 : Int) (x1 : Int) (x2 : Int) (x3 : Int) (x4 : Int) : Array Value := #[.i x0, .i x1, .i x2, .i x3, .i x4]
abbrev Af (x0 : Int) (x1 : Int) (x2 : Int) (x3 : Int) (x4 : Int) (x5 : Int) (x6 : Int) (x7 : Int) (x8 : Int) (x9 : Bool) : Array Value := #[.i x0, .i x1, .i x2, .i x3, .i x4, .i x5, .i x6, .i x7, .i x8, .bool x9]
end Go.Proofs.YteadpgiffpfmnaaGreatDoor
namespace Go.Proofs.YteadpgiffpfmnaaGreatDoor.Hp
open Go.RowKit
def Fp (v : Value) (k : Nat) : Prop:=∃ a n c, v = .slice (some a) n c ∧ a.block = k
theorem fp_nil (k : Nat) : ¬ Fp (.slice none 0 0) k:=by rintro ⟨a, n, c, h, _⟩; cases h
theorem fp_some (a : Addr) (n c k : Nat) : Fp (.slice (some a) n c) k ↔ a.block = k :=
 ⟨by rintro ⟨a', n', c', h, e⟩; cases h; exact e, fun h => ⟨a, n, c, rfl, h⟩⟩
structure Chg (F : Nat → Prop) (w w' : World) : Prop where
 os : w'.os = w.os
 tape : w'.tape = w.tape
 output : w'.output = w.output
 size : w.heap.size ≤ w'.heap.size
 block : ∀ k, k < w.heap.size → ¬ F k → w'.heap[k]? = w.heap[k]?
section
variable {F G : Nat → Prop} {w w' a b c : World}
theorem Chg.refl (F : Nat → Prop) (w : World) : Chg F w w:=⟨rfl, rfl, rfl, Nat.le_refl _, fun _ _ _ => rfl⟩
theorem Chg.trans (h : Chg F a b) (k : Chg G b c) (hg : ∀ i, i < a.heap.size → G i → F i) : Chg F a c :=
 ⟨k.os.trans h.os, k.tape.trans h.tape, k.output.trans h.output, Nat.le_trans h.size k.size, fun i hi hf =>
  (k.block i (Nat.lt_of_lt_of_le hi h.size) (fun hh => hf (hg i hi hh))).trans (h.block i hi hf)⟩
theorem Chg.mono (h : Chg F a b) (hg : ∀ i, i < a.heap.size → F i → G i) : Chg G a b :=
 ⟨h.os, h.tape, h.output, h.size, fun i hi hf => h.block i hi (fun hh => hf (hg i hi hh))⟩
theorem Chg.drew (h : Chg F a b) : Chg F a b.drew:=⟨h.os, h.tape, h.output, h.size, h.block⟩
theorem Chg.alloc (h : Chg F a b) (o : Obj) : Chg F a (b.alloc o) :=
 ⟨h.os, h.tape, h.output, by have:=h.size; simp; omega, fun k hk hf => (Below.heap_alloc _ _ _ (Nat.lt_of_lt_of_le hk h.size)).trans (h.block k hk hf)⟩
theorem Chg.setCell (h : Chg F a b) (p : Addr) (u : Value) (hp : p.block < a.heap.size → F p.block) : Chg F a (b.setCell p u) :=
 ⟨h.os, h.tape, h.output, by have:=h.size; simpa [World.setCell] using this, fun k hk hf =>
  (Below.heap_setCell _ _ _ _ (fun e => hf (by rw [e]; exact hp (by rw [← e]; exact hk)))).trans (h.block k hk hf)⟩
theorem Chg.ofBelow (h : Below w.heap.size w w') : Chg F w w':=⟨h.os, h.tape, h.output, h.size, fun k hk _ => h.block k hk⟩
theorem Chg.below {B : Nat} (h : Chg F w w') (hB : B ≤ w.heap.size) (hF : ∀ k, F k → B ≤ k) : Below B w w' :=
 ⟨h.os, h.tape, h.output, h.size, fun k hk => h.block k (Nat.lt_of_lt_of_le hk hB) (fun hh => by have:=hF k hh; omega)⟩
theorem Chg.cell (h : Chg F w w') {p : Addr} (hp : p.block < w.heap.size) (hf : ¬ F p.block) : w'.cell? p = w.cell? p:=World.cell?_of_block (w:=w) (h.block _ hp hf)
theorem Chg.frozen (h : Chg F w w') {p : Addr} (hp : p.block < w.heap.size) (hf : ¬ F p.block) : w'.frozen? p = w.frozen? p:=World.frozen?_of_block (w:=w) (h.block _ hp hf)
end
def IsC (w : World) (g : Nat) : Prop:=∃ o : Obj, w.heap[g]? = some o ∧ o.isCells = true
theorem IsC.lt {w : World} {g : Nat} (h : IsC w g) : g < w.heap.size:=by obtain ⟨o, h, _⟩:=h; exact (Array.getElem?_eq_some_iff.1 h).1
theorem IsC.same {w w' : World} {g : Nat} (h : IsC w g) (e : w'.heap[g]? = w.heap[g]?) : IsC w' g:=by obtain ⟨o, h1, h2⟩:=h; exact ⟨o, e.trans h1, h2⟩
theorem IsC.setCell {w : World} {g : Nat} (h : IsC w g) (p : Addr) (v : Value) : IsC (w.setCell p v) g:=by
 obtain ⟨o, h1, h2⟩:=h
 by_cases e : g = p.block
 ·subst e
  refine ⟨_, by simp only [World.setCell, Array.getElem?_modify, if_true, h1]; rfl, ?_⟩
  cases o <;> simp_all [Obj.isCells]
 ·exact ⟨o, (Below.heap_setCell w p v g e).trans h1, h2⟩
theorem IsC.setCells {g : Nat} (b : Nat) : ∀ (vs : List Value) (o : Nat) {w : World} (h : IsC w g), IsC (w.setCells b o vs) g
 | [], _, _, h => h
 | v :: r, o, _, h => IsC.setCells b r (o + 1) (h.setCell _ _)
theorem one_new (w : World) (x : Value) (T : TypeId) : ∀ j u, [x][j]? = some u → (w.alloc (.cells #[x] T)).cell? ((⟨w.heap.size, 0, none⟩ : Addr).add j) = some u:=by
 intro j u hu
 cases j with
 | zero => simp at hu; subst hu; simp [Addr.add]
 | succ j => simp at hu
def OwnS (w : World) (v : Value) (n size : Nat) (xs : List Value) : Prop :=
 xs.length = n * size ∧ ((v = .slice none 0 0 ∧ n = 0) ∨ ∃ g off cap, v = .slice (some ⟨g, off, none⟩) n cap ∧ n ≤ cap ∧ cap ≤ maxLen ∧ IsC w g ∧
  (∀ j, j < cap * size → (w.cell? ⟨g, off + j, none⟩).isSome = true) ∧ (∀ j, j < cap * size → w.frozen? ⟨g, off + j, none⟩ = false) ∧ ∀ j u, xs[j]? = some u → w.cell? ⟨g, off + j, none⟩ = some u)
section
variable {w w' : World} {v : Value} {n size : Nat} {xs : List Value}
theorem ownS_nil (w : World) (size : Nat) : OwnS w (.slice none 0 0) 0 size []:=⟨by simp, .inl ⟨rfl, rfl⟩⟩
theorem OwnS.lt (h : OwnS w v n size xs) {k : Nat} (hk : Fp v k) : k < w.heap.size:=by
 rcases h.2 with ⟨rfl, _⟩ | ⟨g, off, cap, rfl, _, _, hg, _⟩
 ·exact (fp_nil _ hk).elim
 ·rw [fp_some] at hk; subst hk; exact hg.lt
theorem OwnS.isC (h : OwnS w v n size xs) {k : Nat} (hk : Fp v k) : IsC w k:=by
 rcases h.2 with ⟨rfl, _⟩ | ⟨g, off, cap, rfl, _, _, hg, _⟩
 ·exact (fp_nil _ hk).elim
 ·rw [fp_some] at hk; subst hk; exact hg
theorem OwnS.stable (h : OwnS w v n size xs) (hs : w.heap.size ≤ w'.heap.size) (hb : ∀ k, Fp v k → w'.heap[k]? = w.heap[k]?) : OwnS w' v n size xs:=by
 refine ⟨h.1, ?_⟩
 rcases h.2 with h2 | ⟨g, off, cap, rfl, h1, h2, hg, h3, h4, h5⟩
 ·exact .inl h2
 ·have e : ∀ j, w'.cell? ⟨g, off + j, none⟩ = w.cell? ⟨g, off + j, none⟩:=fun j => World.cell?_of_block (hb g ((fp_some _ _ _ _).2 rfl))
  have f : ∀ j, w'.frozen? ⟨g, off + j, none⟩ = w.frozen? ⟨g, off + j, none⟩:=fun j => World.frozen?_of_block (hb g ((fp_some _ _ _ _).2 rfl))
  exact .inr ⟨g, off, cap, rfl, h1, h2, hg.same (hb g ((fp_some _ _ _ _).2 rfl)), fun j hj => by rw [e]; exact h3 j hj, fun j hj => by rw [f]; exact h4 j hj, fun j u hu => by rw [e]; exact h5 j u hu⟩
theorem OwnS.chg {F : Nat → Prop} (h : OwnS w v n size xs) (hc : Chg F w w') (hf : ∀ k, Fp v k → ¬ F k) : OwnS w' v n size xs :=
 h.stable hc.size fun k hk => hc.block k (h.lt hk) (hf k hk)
theorem OwnS.alloc (h : OwnS w v n size xs) (o : Obj) : OwnS (w.alloc o) v n size xs :=
 h.chg (F:=fun _ => False) ((Chg.refl _ _).alloc o) (fun _ _ => id)
theorem OwnS.drew (h : OwnS w v n size xs) : OwnS w.drew v n size xs:=h.stable (Nat.le_refl _) fun _ _ => rfl
theorem OwnS.len (h : OwnS w v n size xs) : n ≤ 9223372036854775807:=by
 rcases h.2 with ⟨_, rfl⟩ | ⟨g, off, cap, rfl, h1, h2, _⟩
 ·omega
 ·unfold maxLen at h2; omega
theorem OwnS.form (h : OwnS w v n size xs) : ∃ a c, v = .slice a n c:=by
 rcases h.2 with ⟨rfl, rfl⟩ | ⟨g, off, cap, rfl, _⟩
 ·exact ⟨_, _, rfl⟩
 ·exact ⟨_, _, rfl⟩
theorem OwnS.some (h : OwnS w v n size xs) (h0 : 0 < n) : ∃ g off cap, v = .slice (some ⟨g, off, none⟩) n cap ∧ n ≤ cap ∧ cap ≤ maxLen ∧ IsC w g ∧
  (∀ j, j < cap * size → (w.cell? ⟨g, off + j, none⟩).isSome = true) ∧ (∀ j, j < cap * size → w.frozen? ⟨g, off + j, none⟩ = false) ∧ ∀ j u, xs[j]? = some u → w.cell? ⟨g, off + j, none⟩ = some u:=by
 rcases h.2 with ⟨_, rfl⟩ | r
 ·omega
 ·exact r
end
theorem ownS_of_row {w : World} {base : Nat} {e : TypeId} {size : Nat} {v : Value} {n : Nat} {xs : List Value} (h : w.ownsRow base e size v n xs) : OwnS w v n size xs:=by
 refine ⟨h.1, ?_⟩
 rcases h.2 with h2 | ⟨g, cap, cur, rfl, hb, hg, h1, h2, h3, h4⟩
 ·exact .inl h2
 ·have hc : ∀ j, w.cell? ⟨g, 0 + j, none⟩ = cur[j]?:=fun j => by rw [Nat.zero_add]; exact cell_of_row w g j cur e (0, 0) hg
  refine .inr ⟨g, 0, cap, rfl, h1, h2, ⟨_, hg, rfl⟩, fun j hj => ?_, fun j hj => ?_, fun j u hu => ?_⟩
  ·rw [hc, Array.getElem?_eq_getElem (by omega)]; rfl
  ·simp [World.frozen?, hg]
  ·rw [hc]
   rw [← h4, List.getElem?_take] at hu
   split at hu
   ·simpa using hu
   ·cases hu
theorem chg_of_grownBy {w w' : World} {r : Option Nat} (h : w.grownBy w' r) : Chg (fun k => r = some k) w w' :=
 ⟨h.os, h.tape, h.output, h.size, fun k hk hf => h.block k hk (fun e => hf e.symm)⟩
theorem chg_setCells (b : Nat) : ∀ (vs : List Value) (o : Nat) (w : World), Chg (fun k => k = b) w (w.setCells b o vs)
 | [], _, w => Chg.refl _ w
 | v :: r, o, w => Chg.trans (G:=fun k => k = b) ((Chg.refl _ w).setCell ⟨b, o, none⟩ v (fun _ => rfl)) (chg_setCells b r (o + 1) _) (fun _ _ h => h)
theorem run_append {P : Program} (w : World) (t ty e : TypeId) (i : TypeInfo) (z : Value) (size bytes : Nat) (h1 : P.underlying t = some (.slice e)) (h2 : P.info? e = some i) (h3 : i.zero = some z) (h4 : i.size = size) (h5 : i.bytes = bytes) (h6 : z.cells.size = size) (h7 : 0 < size)
  (v : Value) (n : Nat) (xs : List Value) (hown : OwnS w v n size xs)
  (ad : Addr) (m c : Nat) (news : List Value) (hn : news.length = m * size) (hc : ∀ j u, news[j]? = some u → w.cell? (ad.add j) = some u) (h1c : ∀ u ∈ news, u.oneCell' = true)
  (b1 : n + m ≤ maxLen) (b2 : (n + m) * bytes ≤ 140737488355328) :
  ∃ a' c' w', (Builtin.append_ #[t, t] ty #[v, .slice (some ad) m c]).run P w = .ok (.slice a' (n + m) c') w' ∧ OwnS w' (.slice a' (n + m) c') (n + m) size (xs ++ news) ∧
   (∀ k, Fp (.slice a' (n + m) c') k → Fp v k ∨ w.heap.size ≤ k) ∧ Chg (Fp v) w w':=by
 have fin : ∀ (v' : Value) (w' : World), w'.ownsRow w.heap.size e size v' (n + m) (xs ++ news) → w.grownBy w' none → ∃ a' c', v' = .slice a' (n + m) c' ∧ OwnS w' (.slice a' (n + m) c') (n + m) size (xs ++ news) ∧
   (∀ k, Fp (.slice a' (n + m) c') k → Fp v k ∨ w.heap.size ≤ k) ∧ Chg (Fp v) w w':=by
  intro v' w' ho hgr
  have hO:=ownS_of_row ho
  obtain ⟨a', c', rfl⟩:=hO.form
  refine ⟨a', c', rfl, hO, fun k hk => .inr ?_, (chg_of_grownBy hgr).mono (fun k _ h => by cases h)⟩
  rcases hk with ⟨aa, n1, c1, hv, he⟩
  cases hv
  exact (ho.lt k (by simp [Value.ownBlock, he])).1
 rcases hown.2 with ⟨rfl, rfl⟩ | ⟨g, off, cap, rfl, hn1, hc1, hgs, h8, h9, h10⟩
 ·obtain rfl : xs = []:=List.eq_nil_of_length_eq_zero (by simpa using hown.1)
  obtain ⟨v', w', hrun, r1, r2, _⟩:=run_append_own (P:=P) w w.heap.size t ty e i z size bytes h1 h2 h3 h4 h5 h6 h7 (.slice none 0 0) 0 [] (World.ownsRow_nil w _ e size) ad m c news hn hc h1c b1 b2 (Nat.le_refl _)
  obtain ⟨a', c', rfl, q⟩:=fin v' w' r1 r2
  exact ⟨a', c', w', hrun, q⟩
 ·by_cases hr : n + m ≤ cap
  ·subst h4
   have hle : n * i.size + m * i.size ≤ cap * i.size:=by rw [← Nat.add_mul]; exact Nat.mul_le_mul_right _ hr
   have hsp : ∀ j, j < news.length → (w.cell? ⟨g, off + n * i.size + j, none⟩).isSome = true ∧ w.frozen? ⟨g, off + n * i.size + j, none⟩ = false:=by
    intro j hj
    have q1:=h8 (n * i.size + j) (by omega)
    have q2:=h9 (n * i.size + j) (by omega)
    rw [← Nat.add_assoc] at q1 q2
    exact ⟨q1, q2⟩
   have hrun:=run_append_room_cells (P:=P) w t ty e i h1 h2 g off n cap ad m c news hn hc h1c hr (fun j hj => (hsp j hj).1) (fun j hj => (hsp j hj).2)
   have hch:=chg_setCells g news (off + n * i.size) w
   refine ⟨_, _, _, hrun, ⟨by rw [List.length_append, hown.1, hn, Nat.add_mul], .inr ⟨g, off, cap, rfl, hr, hc1, hgs.setCells g news _, fun j hj => ?_, fun j hj => ?_, fun j u hu => ?_⟩⟩, fun k hk => .inl ?_, hch.mono fun k _ h => (fp_some _ _ _ _).2 h.symm⟩
   ·by_cases hin : n * i.size ≤ j ∧ j < n * i.size + news.length
    ·have hh:=World.cell?_setCells_in g news (off + n * i.size) w (fun q hq => by
      have:=h8 (n * i.size + q) (by omega)
      rw [← Nat.add_assoc] at this
      exact this) (j - n * i.size) (by omega)
     rw [show off + n * i.size + (j - n * i.size) = off + j by omega] at hh
     rw [hh]; rfl
    ·rw [World.cell?_setCells_out g news (off + n * i.size) w ⟨g, off + j, none⟩ (fun _ _ => by simp only; omega)]
     exact h8 j hj
   ·rw [World.frozen?_setCells]; exact h9 j hj
   ·rw [List.getElem?_append] at hu
    have hxl:=hown.1
    split at hu
    ·rename_i hlt
     rw [World.cell?_setCells_out g news (off + n * i.size) w ⟨g, off + j, none⟩ (fun _ _ => by simp only; omega)]
     exact h10 j u hu
    ·rename_i hlt
     have hj2 : j - xs.length < news.length:=(List.getElem?_eq_some_iff.1 hu).1
     have hh:=World.cell?_setCells_in g news (off + n * i.size) w (fun q hq => by
      have:=h8 (n * i.size + q) (by omega)
      rw [← Nat.add_assoc] at this
      exact this) (j - xs.length) hj2
     rw [show off + n * i.size + (j - xs.length) = off + j by omega] at hh
     rw [hh, ← hu, List.getElem?_eq_getElem hj2]
   ·rw [fp_some] at hk ⊢; exact hk
  ·obtain ⟨v', w', hrun, r1, r2⟩:=run_append_arg_grows (P:=P) w t ty e i z size bytes h1 h2 h3 h4 h5 h6 h7 ⟨g, off, none⟩ n cap xs hown.1 (fun j u hj => by rw [Addr.add_lit]; exact h10 j u hj) ad m c news hn hc (by omega) b1 b2
   obtain ⟨a', c', rfl, q⟩:=fin v' w' r1 r2
   exact ⟨a', c', w', hrun, q⟩
theorem wpList_append {P : Program} (w : World) {ops : Array Oper} {rest : List Oper} {o : Oper} {a : Act} {Q : Exit → Act → World → Prop}
  (hg : o.guard = none) (s x : Operand) (t : TypeId) (hop : o.op = Op.call { callee:=Callee.builtin Builtin.append, args:=#[s, x], argTypes:=#[t, t] })
  (e : TypeId) (i : TypeInfo) (z : Value) (size bytes : Nat) (h1 : P.underlying t = some (.slice e)) (h2 : P.info? e = some i) (h3 : i.zero = some z) (h4 : i.size = size) (h5 : i.bytes = bytes) (h6 : z.cells.size = size) (h7 : 0 < size)
  (v : Value) (n : Nat) (xs : List Value) (hs : a.eval s = v) (hown : OwnS w v n size xs)
  (ad : Addr) (m c : Nat) (news : List Value) (hx : a.eval x = .slice (some ad) m c) (hn : news.length = m * size) (hc : ∀ j u, news[j]? = some u → w.cell? (ad.add j) = some u) (h1c : ∀ u ∈ news, u.oneCell' = true)
  (b1 : n + m ≤ maxLen) (b2 : (n + m) * bytes ≤ 140737488355328)
  (hK : ∀ a' c' w', OwnS w' (.slice a' (n + m) c') (n + m) size (xs ++ news) → (∀ k, Fp (.slice a' (n + m) c') k → Fp v k ∨ w.heap.size ≤ k) → Chg (Fp v) w w' → wpList P ops Q rest (a.put o.dst (.slice a' (n + m) c')) w') :
  wpList P ops Q (o :: rest) a w:=by
 refine wpList_plain hg fun K hK' => ?_
 obtain ⟨a', c', w', hrun, r1, r2, r3⟩:=run_append (P:=P) w t o.type e i z size bytes h1 h2 h3 h4 h5 h6 h7 v n xs hown ad m c news hn hc h1c b1 b2
 unfold Oper.wp
 simp [execOp, hop, resolve, invoke, builtin, hs, hx, hrun, Result.andThen]
 exact hK' _ _ (hK a' c' w' r1 r2 r3)
def SliceAt (w : World) (v : Value) (xs : List Value) : Prop :=
 ∃ a c, v = .slice a xs.length c ∧ xs.length ≤ maxLen ∧ (xs = [] ∨ ∃ g off, a = some ⟨g, off, none⟩ ∧ ∀ j u, xs[j]? = some u → w.cell? ⟨g, off + j, none⟩ = some u)
theorem OwnS.at {w : World} {v : Value} {n : Nat} {xs : List Value} (h : OwnS w v n 1 xs) : SliceAt w v xs:=by
 obtain ⟨h1, h2⟩:=h
 obtain rfl : xs.length = n:=by omega
 rcases h2 with ⟨rfl, h0⟩ | ⟨g, off, cap, rfl, a1, a2, a3, a4, a5, a6⟩
 ·obtain rfl : xs = []:=List.eq_nil_of_length_eq_zero h0
  exact ⟨none, 0, rfl, by simp, .inl rfl⟩
 ·exact ⟨_, cap, rfl, Nat.le_trans a1 a2, .inr ⟨g, off, rfl, a6⟩⟩
theorem SliceAt.stable {w w' : World} {v : Value} {xs : List Value} (h : SliceAt w v xs) (hb : ∀ p u, w.cell? p = some u → w'.cell? p = some u) : SliceAt w' v xs:=by
 obtain ⟨a, c, rfl, h1, h2⟩:=h
 refine ⟨a, c, rfl, h1, h2.imp id ?_⟩
 rintro ⟨g, off, rfl, h3⟩
 exact ⟨g, off, rfl, fun j u hu => hb _ _ (h3 j u hu)⟩
theorem SliceAt.below {w w' : World} {v : Value} {xs : List Value} (h : SliceAt w v xs) (hb : Below w.heap.size w w') : SliceAt w' v xs:=h.stable fun p u hp => (hb.cell (World.block_lt_of_cell? _ _ hp)).trans hp
theorem SliceAt.take {w : World} {a : Option Addr} {n c c' m : Nat} {xs : List Value} (h : SliceAt w (.slice a n c) xs) (hm : m ≤ n) : SliceAt w (.slice a m c') (xs.take m):=by
 obtain ⟨a', c', he, h1, h2⟩:=h
 cases he
 refine ⟨a, _, by rw [List.length_take, Nat.min_eq_left hm], by simp; omega, ?_⟩
 rcases h2 with rfl | ⟨g, off, rfl, h3⟩
 ·exact .inl (by simp)
 ·exact .inr ⟨g, off, rfl, fun j u hu => h3 j u (by rw [List.getElem?_take] at hu; split at hu <;> simp_all)⟩
end Go.Proofs.YteadpgiffpfmnaaGreatDoor.Hp
namespace Go.Proofs.YteadpgiffpfmnaaGreatDoor.Base
open Go.RowKit Go.ChangeShapes Go.WideShapes Go.ChangeAt
structure IntsAt (k : IntKind) (w : World) (a : Option Addr) (len cap b off : Nat) (l : List Int) : Prop where
 len_eq : len = l.length
 len_cap : len ≤ cap
 cap_max : cap ≤ maxLen
 addr : 0 < len → a = some ⟨b, off, none⟩ ∧ b < w.heap.size
 cell : ∀ j, j < len → w.cell? ⟨b, off + j, none⟩ = some (.int k (l.getD j 0))
 wf : ∀ n ∈ l, (Lit.int k n).wf = true
theorem intsAt_nil (k : IntKind) (w : World) : IntsAt k w none 0 0 0 0 [] :=
 ⟨rfl, Nat.le_refl _, by unfold maxLen; omega, fun h => by omega, fun j h => by omega, fun n h => by simp at h⟩
theorem intsAt_some {k : IntKind} {w : World} {x : Addr} {len cap : Nat} {zs : List Int} (hl : len ≤ cap) (hm : cap ≤ maxLen) (hz : zs.length = cap)
  (hcell : ∀ i, i < zs.length → w.cell? (x.add i) = some (.int k (zs.getD i 0))) (hwf : ∀ n ∈ zs, (Lit.int k n).wf = true) :
  ∃ b off, IntsAt k w (some x) len cap b off (zs.take len):=by
 by_cases h0 : len = 0
 ·subst h0
  exact ⟨0, 0, by simp, hl, hm, fun h => by omega, fun j h => by omega, fun n h => by simp at h⟩
 ·obtain ⟨b, off, rfl, hc⟩:=ints_at hcell (by omega)
  refine ⟨b, off, by simp; omega, hl, hm, fun _ => ⟨rfl, World.block_lt_of_cell? _ _ (hc 0 (by omega))⟩, fun j h => ?_, fun n h => hwf n (List.mem_of_mem_take h)⟩
  rw [hc j (by omega)]
  simp [List.getD_eq_getElem?_getD, List.getElem?_take, h]
theorem wf_i64_bounds {n : Int} (h : (Lit.int .i64 n).wf = true) : -9223372036854775808 ≤ n ∧ n ≤ 9223372036854775807:=bounds_i64 h
theorem wf_u8_bounds {n : Int} (h : (Lit.int .u8 n).wf = true) : 0 ≤ n ∧ n ≤ 255:=bounds_u8 h
theorem IntsAt.get {k : IntKind} {w : World} {a : Option Addr} {len cap b off : Nat} {l : List Int} (h : IntsAt k w a len cap b off l) {j : Nat} (hj : j < len) :
  ∃ x, l[j]? = some x ∧ (Lit.int k x).wf = true ∧ w.cell? ⟨b, off + j, none⟩ = some (.int k x) ∧ a = some ⟨b, off, none⟩ ∧ b < w.heap.size:=by
 have hj' : j < l.length:=by have:=h.len_eq; omega
 obtain ⟨ha, hb⟩:=h.addr (by omega)
 refine ⟨l[j], List.getElem?_eq_getElem hj', h.wf _ (List.getElem_mem hj'), ?_, ha, hb⟩
 rw [h.cell j hj]
 simp [List.getD_eq_getElem?_getD, List.getElem?_eq_getElem hj']
theorem IntsAt.small {k : IntKind} {w : World} {a : Option Addr} {len cap b off : Nat} {l : List Int} (h : IntsAt k w a len cap b off l) : len ≤ 9223372036854775807:=by
 have h1:=h.len_cap
 have h2:=h.cap_max
 unfold maxLen at h2
 omega
theorem IntsAt.later {k : IntKind} {w w' : World} {a : Option Addr} {len cap b off : Nat} {l : List Int} {B : Nat} (h : IntsAt k w a len cap b off l) (hb : Below B w w') (hB : w.heap.size ≤ B) : IntsAt k w' a len cap b off l :=
 ⟨h.len_eq, h.len_cap, h.cap_max, fun h0 => ⟨(h.addr h0).1, Nat.lt_of_lt_of_le (h.addr h0).2 hb.size⟩, fun j hj => by
  rw [hb.cell (p:=⟨b, off + j, none⟩) (Nat.lt_of_lt_of_le (h.addr (by omega)).2 hB)]; exact h.cell j hj, h.wf⟩
structure BoolsAt (w : World) (a : Option Addr) (len cap b off : Nat) (l : List Bool) : Prop where
 len_eq : len = l.length
 len_cap : len ≤ cap
 cap_max : cap ≤ maxLen
 addr : 0 < len → a = some ⟨b, off, none⟩ ∧ b < w.heap.size
 cell : ∀ (j : Nat) (x : Bool), l[j]? = some x → w.cell? ⟨b, off + j, none⟩ = some (.bool x)
structure StrsAt (w : World) (a : Option Addr) (len cap b off : Nat) (l : List ByteArray) : Prop where
 len_eq : len = l.length
 len_cap : len ≤ cap
 cap_max : cap ≤ maxLen
 addr : 0 < len → a = some ⟨b, off, none⟩ ∧ b < w.heap.size
 cell : ∀ (j : Nat) (x : ByteArray), l[j]? = some x → w.cell? ⟨b, off + j, none⟩ = some (.string x)
 small : ∀ x ∈ l, x.size ≤ maxLen
theorem boolsAt_nil (w : World) : BoolsAt w none 0 0 0 0 [] :=
 ⟨rfl, Nat.le_refl _, by unfold maxLen; omega, fun h => by omega, fun j x h => by simp at h⟩
theorem strsAt_nil (w : World) : StrsAt w none 0 0 0 0 [] :=
 ⟨rfl, Nat.le_refl _, by unfold maxLen; omega, fun h => by omega, fun j x h => by simp at h, fun x h => by simp at h⟩
theorem addr_plain {w : World} {x : Addr} {v : Value} (h : w.cell? (x.add 0) = some v) : ∃ b off, x = ⟨b, off, none⟩:=by
 obtain ⟨b, off, spot⟩:=x
 have hspot : spot = none:=by simpa [Addr.add] using World.cell?_spot h
 subst hspot
 exact ⟨b, off, rfl⟩
theorem boolsAt_some {w : World} {x : Addr} {len cap : Nat} {B : Nat → Bool} (hl : len ≤ cap) (hm : cap ≤ maxLen) (hcell : ∀ i, i < cap → w.cell? (x.add i) = some (.bool (B i))) :
  ∃ b off, BoolsAt w (some x) len cap b off ((List.range len).map B):=by
 by_cases h0 : len = 0
 ·subst h0
  exact ⟨0, 0, by simp, hl, hm, fun h => by omega, fun j x h => by simp at h⟩
 ·obtain ⟨b, off, rfl⟩:=addr_plain (hcell 0 (by omega))
  refine ⟨b, off, by simp, hl, hm, fun _ => ⟨rfl, World.block_lt_of_cell? _ _ (hcell 0 (by omega))⟩, fun j x h => ?_⟩
  have hj : j < len:=by have:=(List.getElem?_eq_some_iff.1 h).1; simpa using this
  have:=hcell j (by omega)
  rw [Addr.add_lit] at this
  rw [this]
  simp [hj] at h
  rw [h]
theorem strsAt_some {w : World} {x : Addr} {len cap : Nat} {ss : List ByteArray} (hl : len ≤ cap) (hm : cap ≤ maxLen) (hz : ss.length = cap)
  (hcell : ∀ i, i < ss.length → w.cell? (x.add i) = some (.string (ss.getD i ByteArray.empty))) (hws : ∀ s ∈ ss, s.size ≤ maxLen) :
  ∃ b off, StrsAt w (some x) len cap b off (ss.take len):=by
 by_cases h0 : len = 0
 ·subst h0
  exact ⟨0, 0, by simp, hl, hm, fun h => by omega, fun j x h => by simp at h, fun x h => by simp at h⟩
 ·obtain ⟨b, off, rfl⟩:=addr_plain (hcell 0 (by omega))
  refine ⟨b, off, by simp; omega, hl, hm, fun _ => ⟨rfl, World.block_lt_of_cell? _ _ (hcell 0 (by omega))⟩, fun j x h => ?_, fun x h => hws x (List.mem_of_mem_take h)⟩
  have hj : j < len:=by have:=(List.getElem?_eq_some_iff.1 h).1; simp at this; omega
  have:=hcell j (by omega)
  rw [Addr.add_lit] at this
  rw [this]
  rw [List.getElem?_take] at h
  simp [hj] at h
  simp [List.getD_eq_getElem?_getD, h]
theorem BoolsAt.get {w : World} {a : Option Addr} {len cap b off : Nat} {l : List Bool} (h : BoolsAt w a len cap b off l) {j : Nat} (hj : j < len) :
  ∃ x, l[j]? = some x ∧ w.cell? ⟨b, off + j, none⟩ = some (.bool x) ∧ a = some ⟨b, off, none⟩ ∧ b < w.heap.size:=by
 obtain ⟨ha, hb⟩:=h.addr (by omega)
 have hj' : j < l.length:=by have:=h.len_eq; omega
 have hx : l[j]? = some l[j]:=List.getElem?_eq_getElem hj'
 exact ⟨_, hx, h.cell j _ hx, ha, hb⟩
theorem StrsAt.get {w : World} {a : Option Addr} {len cap b off : Nat} {l : List ByteArray} (h : StrsAt w a len cap b off l) {j : Nat} (hj : j < len) :
  ∃ x, l[j]? = some x ∧ x.size ≤ maxLen ∧ w.cell? ⟨b, off + j, none⟩ = some (.string x) ∧ a = some ⟨b, off, none⟩ ∧ b < w.heap.size:=by
 obtain ⟨ha, hb⟩:=h.addr (by omega)
 have hj' : j < l.length:=by have:=h.len_eq; omega
 have hx : l[j]? = some l[j]:=List.getElem?_eq_getElem hj'
 exact ⟨_, hx, h.small _ (List.getElem_mem _), h.cell j _ hx, ha, hb⟩
theorem ret_int {k : IntKind} {a b : Int} (h : a = b) : Ending.returned (.int k a) = .returned (.int k b):=by rw [h]
theorem ret_bool {a b : Bool} (h : a = b) : Ending.returned (.bool a) = .returned (.bool b):=by rw [h]
theorem val_int {k : IntKind} {a b : Int} (h : a = b) : Value.int k a = .int k b:=by rw [h]
theorem IntsAt.at {k : IntKind} {w : World} {a : Option Addr} {len cap b off : Nat} {l : List Int} (h : IntsAt k w a len cap b off l) : Hp.SliceAt w (.slice a len cap) (l.map (Value.int k)):=by
 have h1:=h.len_eq
 have h2:=h.len_cap
 have h3:=h.cap_max
 refine ⟨a, cap, by simp [h1], by simp; omega, ?_⟩
 by_cases h0 : len = 0
 ·left
  have : l = []:=List.eq_nil_of_length_eq_zero (by omega)
  simp [this]
 ·right
  refine ⟨b, off, (h.addr (by omega)).1, fun j u hu => ?_⟩
  rw [List.getElem?_map] at hu
  cases hl : l[j]? with
  | none => simp [hl] at hu
  | some x =>
   simp [hl] at hu
   subst hu
   have hj : j < l.length:=(List.getElem?_eq_some_iff.1 hl).1
   rw [h.cell j (by omega)]
   simp [List.getD_eq_getElem?_getD, hl]
end Go.Proofs.YteadpgiffpfmnaaGreatDoor.Base
namespace Go.Proofs.YteadpgiffpfmnaaGreatDoor.Field
open Go.RowKit Hp
abbrev fval (a b : Nat) : Value:=.agg #[.i a, .i b]
def R (a b : Nat) : Prop:=1 ≤ b ∧ a + b ≤ 62
theorem right_any (w : World) (a b : Nat) (h : R a b) : Calls Tryz.prog 131 #[fval a b] w fun e w' => e = .returned (.bool true) ∧ Below w.heap.size w w':=by
 obtain ⟨h1, h2⟩:=h
 go_enter Tryz.func131, Tryz.ntmps131
 go_wp2
 go_ret
 exact ⟨Base.ret_bool (by simp; omega), (Below.refl _ _).alloc (Nat.le_refl _) _⟩
def mx (b : Nat) : Nat:=2 ^ b - 1
theorem mx_lt {b : Nat} (h : b ≤ 62) : mx b + 1 ≤ 4611686018427387904:=by
 have h1 : 2 ^ b ≤ 2 ^ 62:=Nat.pow_le_pow_right (by decide) h
 have h2 : 1 ≤ 2 ^ b:=Nat.one_le_two_pow
 unfold mx; omega
theorem wrap64_small {n : Int} (h : -9223372036854775808 ≤ n) (h2 : n ≤ 9223372036854775807) : wrap64 n = n:=by
 unfold wrap64; omega
theorem max_any (w : World) (a b : Nat) (h : R a b) : Calls Tryz.prog 145 #[fval a b] w fun e w' => e = .returned (.i (mx b)) ∧ Below w.heap.size w w':=by
 have hr:=fun w => right_any w a b h
 obtain ⟨h3, h4⟩:=h
 have hm:=mx_lt (show b ≤ 62 by omega)
 have hp : ((2 : Int) ^ b) = (mx b : Int) + 1:=by
  have h2 : 1 ≤ 2 ^ b:=Nat.one_le_two_pow
  have : ((2 ^ b : Nat) : Int) = (2 : Int) ^ b:=by push_cast; rfl
  rw [← this]; unfold mx; omega
 have Hp:=Lib.hid hp
 clear hp
 go_enter Tryz.func145, Tryz.ntmps145
 go_wp2_with fail
 refine (hr _).mono ?_
 rintro e w' ⟨rfl, hb⟩
 have hc : w'.cell? ⟨w.heap.size, 1, none⟩ = some (.i b):=by rw [hb.cell (by simp)]; simp
 have hB : Below w.heap.size w w':=((Below.refl _ _).alloc (Nat.le_refl _) _).trans (hb.mono (by simp))
 clear hb
 go_wp2_with fail
 go_ret
 refine ⟨Base.ret_int ?_, hB⟩
 rw [Hp.out, wrap64_small (n:=(mx b : Int) + 1) (by omega) (by omega), wrap64_small (by omega) (by omega)]; omega
theorem mask_any (w : World) (a b : Nat) (h : R a b) : Calls Tryz.prog 175 #[fval a b] w fun e w' => e = .returned (.i (mx b * 2 ^ a)) ∧ Below w.heap.size w w':=by
 have hr:=fun w => max_any w a b h
 obtain ⟨h3, h4⟩:=h
 have hm : (mx b : Int) * 2 ^ a ≤ 9223372036854775807:=by
  have h1 : 2 ^ b * 2 ^ a ≤ 2 ^ 62:=by rw [← Nat.pow_add]; exact Nat.pow_le_pow_right (by decide) (by omega)
  have h2 : mx b * 2 ^ a ≤ 2 ^ b * 2 ^ a:=Nat.mul_le_mul_right _ (by unfold mx; exact Nat.sub_le _ _)
  have h3 : ((mx b * 2 ^ a : Nat) : Int) = (mx b : Int) * 2 ^ a:=by push_cast; rfl
  rw [← h3]; exact Int.le_trans (Int.ofNat_le.2 (Nat.le_trans h2 h1)) (by decide)
 have hm0 : 0 ≤ (mx b : Int) * 2 ^ a:=Int.mul_nonneg (by omega) (Int.pow_nonneg (by decide))
 have Hm:=Lib.hid hm
 have Hm0:=Lib.hid hm0
 clear hm hm0
 go_enter Tryz.func175, Tryz.ntmps175
 go_wp2_with fail
 have hr1:=hr (w.alloc (.cells #[.i a, .i b] 131)).drew
 go_region_held3 (fun w' => w'.cell? ⟨w.heap.size, 0, none⟩ = some (.i a) ∧ w'.cell? ⟨w.heap.size, 1, none⟩ = some (.i b)) (first | go_keep | assumption | exact ⟨by assumption, by assumption⟩)
  ((first
  | (go_at_call 145; refine (hr _).mono ?_; rintro e w6 ⟨rfl, hb6⟩; have hc0 : w6.cell? ⟨w.heap.size, 0, none⟩ = some (.i a):=(by rw [hb6.cell (by simp)]; simp); have hc1 : w6.cell? ⟨w.heap.size, 1, none⟩ = some (.i b):=(by rw [hb6.cell (by simp)]; simp))))
 have hB : Below w.heap.size w w6:=(((Below.refl _ _).alloc (Nat.le_refl _) _).drew).trans (hb6.mono (by simp))
 have hm0':=Hm0.out
 have hm1':=Hm.out
 have hwr : IntKind.i64.wrap ((mx b : Int) * 2 ^ a) = (mx b : Int) * 2 ^ a:=by
  generalize (mx b : Int) * 2 ^ a = z at *
  rw [IntKind.wrap_i64]; omega
 clear hm0' hm1'
 clear hc0 hc1 hb6
 go_wp2_with fail
 go_ret
 exact ⟨Base.ret_int hwr, hB⟩
theorem put_any (w : World) (n : Int) (a b : Nat) (x : Int) (h : R a b) : Calls Tryz.prog 147 #[.i n, fval a b, .i x] w fun e w' => (∃ z, e = .returned (.i z)) ∧ Below w.heap.size w w':=by
 have hr:=fun w => right_any w a b h
 have hm:=fun w => max_any w a b h
 have hk:=fun w => mask_any w a b h
 go_enter Tryz.func147, Tryz.ntmps147
 go_wp2_with fail
 refine (hr _).mono ?_
 rintro e w5 ⟨rfl, hb5⟩
 have hc0 : w5.cell? ⟨w.heap.size, 0, none⟩ = some (.i a):=by rw [hb5.cell (by simp)]; simp
 have hc1 : w5.cell? ⟨w.heap.size, 1, none⟩ = some (.i b):=by rw [hb5.cell (by simp)]; simp
 have hB : Below w.heap.size w w5:=((Below.refl _ _).alloc (Nat.le_refl _) _).trans (hb5.mono (by simp))
 have hlt : w.heap.size < w5.heap.size:=World.block_lt_of_cell? _ _ hc0
 clear hb5
 go_wp2_with fail
 go_region_held3 (fun w' => w'.cell? ⟨w.heap.size, 0, none⟩ = some (.i a) ∧ w'.cell? ⟨w.heap.size, 1, none⟩ = some (.i b)) (first | go_keep | assumption | exact ⟨by assumption, by assumption⟩)
  ((first
  | (go_at_call 175; refine (hk _).mono ?_; rintro e w6 ⟨rfl, hb6⟩; have hc2:=(hb6.cell hlt).trans hc0; have hc3:=(hb6.cell hlt).trans hc1; have hB6:=hB.drew.trans (hb6.mono (Nat.le_of_lt hlt)))
  | (go_at_call 145; refine (hm _).mono ?_; rintro e w7 ⟨rfl, hb7⟩; have hlt6:=Nat.lt_of_lt_of_le hlt hb6.size; have hc4:=(hb7.cell (p:=⟨w.heap.size, 0, none⟩) hlt6).trans hc2; have hc5:=(hb7.cell (p:=⟨w.heap.size, 1, none⟩) hlt6).trans hc3; have hB7:=hB6.trans (hb7.mono (Nat.le_of_lt hlt6)))))
 go_wp2_with fail
 go_ret
 exact ⟨⟨_, rfl⟩, hB7⟩
end Go.Proofs.YteadpgiffpfmnaaGreatDoor.Field
namespace Go.Proofs.YteadpgiffpfmnaaGreatDoor.Rng
open Go.RowKit Hp
structure Turn (B : Nat) (W W' : World) : Prop where
 os : W'.os = W.os
 tape : W'.tape = W.tape
 output : W'.output = W.output
 size : W.heap.size ≤ W'.heap.size
 block : ∀ k, k < B → k < W.heap.size → W'.heap[k]? = W.heap[k]?
 cells : ∀ (k : Nat) (o : Obj), W.heap[k]? = some o → o.isCells = true → W'.heap[k]? = some o
theorem Turn.refl (B : Nat) (W : World) : Turn B W W:=⟨rfl, rfl, rfl, Nat.le_refl _, fun _ _ _ => rfl, fun _ _ h _ => h⟩
theorem Turn.alloc {B : Nat} {W W' : World} (h : Turn B W W') (o : Obj) : Turn B W (W'.alloc o) :=
 ⟨h.os, h.tape, h.output, by have:=h.size; simp; omega, fun k hk hs => (Below.heap_alloc _ _ _ (Nat.lt_of_lt_of_le hs h.size)).trans (h.block k hk hs),
  fun k o hk hc => (Below.heap_alloc _ _ _ (Array.getElem?_eq_some_iff.1 (h.cells k o hk hc)).1).trans (h.cells k o hk hc)⟩
theorem Turn.putObj {B : Nat} {W W' : World} (h : Turn B W W') {l : Nat} {o : Obj} (o' : Obj) (hl : B ≤ l) (ho : W'.heap[l]? = some o) (hc : o.isCells = false) : Turn B W (W'.putObj l o') :=
 ⟨h.os, h.tape, h.output, by have:=h.size; simpa using this, fun k hk hs => (World.putObj_heap_other (by omega)).trans (h.block k hk hs),
  fun k o2 hk hc2 => by
   have h1:=h.cells k o2 hk hc2
   refine (World.putObj_heap_other (fun e => ?_)).trans h1
   subst e
   rw [ho] at h1; cases h1; rw [hc] at hc2; cases hc2⟩
theorem Turn.below {B A : Nat} {w W W' : World} (h : Turn B W W') (hb : Below A w W) (hA : A ≤ B) (hw : A ≤ w.heap.size) : Below A w W' :=
 hb.trans ⟨h.os, h.tape, h.output, h.size, fun k hk => h.block k (by omega) (by have:=hb.size; omega)⟩
theorem Turn.chg {B : Nat} {F : Nat → Prop} {w W W' : World} (h : Turn B W W') (hb : Chg F w W) (hw : w.heap.size ≤ B) : Chg F w W' :=
 ⟨h.os.trans hb.os, h.tape.trans hb.tape, h.output.trans hb.output, Nat.le_trans hb.size h.size, fun k hk hf => (h.block k (by omega) (Nat.lt_of_lt_of_le hk hb.size)).trans (hb.block k hk hf)⟩
theorem Turn.cell {B : Nat} {W W' : World} (h : Turn B W W') {p : Addr} {v : Value} (hc : W.cell? p = some v) : W'.cell? p = some v:=by
 obtain ⟨o, ho, hoc⟩:=cells_of_cell hc
 exact (World.cell?_of_block ((h.cells _ _ ho hoc).trans ho.symm)).trans hc
theorem Turn.frozen {B : Nat} {W W' : World} (h : Turn B W W') {p : Addr} {v : Value} (hc : W.cell? p = some v) : W'.frozen? p = W.frozen? p:=by
 obtain ⟨o, ho, hoc⟩:=cells_of_cell hc
 exact World.frozen?_of_block ((h.cells _ _ ho hoc).trans ho.symm)
theorem Turn.isC {B : Nat} {W W' : World} (h : Turn B W W') {g : Nat} (hg : IsC W g) : IsC W' g:=by
 obtain ⟨o, h1, h2⟩:=hg; exact ⟨o, h.cells g o h1 h2, h2⟩
theorem Turn.own {B : Nat} {W W' : World} (ht : Turn B W W') {v : Value} {n size : Nat} {xs : List Value} (h : OwnS W v n size xs) : OwnS W' v n size xs:=by
 obtain ⟨h1, h2⟩:=h
 refine ⟨h1, h2.imp id ?_⟩
 rintro ⟨g, off, cap, hv, a1, a2, a3, a4, a5, a6⟩
 refine ⟨g, off, cap, hv, a1, a2, ht.isC a3, fun j hj => ?_, fun j hj => ?_, fun j u hu => ht.cell (a6 j u hu)⟩
 ·obtain ⟨u, hu⟩:=Option.isSome_iff_exists.1 (a4 j hj)
  rw [ht.cell hu]; rfl
 ·obtain ⟨u, hu⟩:=Option.isSome_iff_exists.1 (a4 j hj)
  rw [ht.frozen hu]; exact a5 j hj
theorem _root_.Go.Proofs.YteadpgiffpfmnaaGreatDoor.Hp.SliceAt.turn {B : Nat} {w w' : World} {v : Value} {xs : List Value} (h : SliceAt w v xs) (ht : Turn B w w') : SliceAt w' v xs:=h.stable fun p u hp => ht.cell hp
structure KeepsB (Ww : Nat → Prop) (W W' : World) : Prop where
 size : W.heap.size ≤ W'.heap.size
 same : ∀ k, k < W.heap.size → ¬ Ww k → W'.heap[k]? = W.heap[k]?
theorem KeepsB.of_chg {Ww F : Nat → Prop} {W W' : World} (h : Chg F W W') (hF : ∀ k, k < W.heap.size → F k → Ww k) : KeepsB Ww W W' :=
 ⟨h.size, fun k hk hn => h.block k hk fun hf => hn (hF k hk hf)⟩
def SeqB {σ α : Type} (P : Program) (gf : Nat) (lb : Array Value) (encs : α → Array Value) (Ww Wr : Nat → Prop) (Skips : σ → World → σ → Prop) (Yields : σ → World → α → σ → Prop) (Done : σ → World → Prop) (s0 : σ) (W : World) : Prop :=
 ∀ (l : Nat) (J : σ → World → Prop) (Jx : World → Prop),
  (∀ s W W', J s W → Chg Wr W W' → J s W') → (∀ s s' W, J s W → Skips s W s' → J s' W) →
  (∀ s x s' W, J s W → Yields s W x s' → YieldAt Fence.wide 7 P l (encs x) W fun e W' =>
   (e = .returned (.bool true) ∧ J s' W' ∧ KeepsB Ww W W') ∨ (e = .returned (.bool false) ∧ Jx W')) →
  J s0 W →
  CallsIn Fence.wide 8 P gf (#[.func (.yield l) #[] #[]] ++ lb) W fun e W' => (∃ v, e = .returned v) ∧ ((∃ s, Done s W' ∧ J s W') ∨ Jx W')
def roundOutB (Ww : Nat → Prop) (K : World → Prop) (Kx : Code → World → Prop) (W : World) : Exit → Act → World → Prop
 | .normal, _, W' => KeepsB Ww W W' ∧ K W'
 | .ret, _, W' => KeepsB Ww W W' ∧ Kx .ret W'
 | .exit id, _, W' => KeepsB Ww W W' ∧ Kx (.exit id) W'
 | .goto t, _, W' => KeepsB Ww W W' ∧ Kx (.goto t) W'
 | .panic _, _, _ => False
 | .outgrown, _, _ => False
theorem wpIn_rangeB {σ α : Type} {P : Program} {g : Operand} {ps : Array Tmp} {assign body : Code} {Q : Exit → Act → World → Prop} {a : Act} {w : World}
  {gf : Nat} {lb : Array Value} (hg : a.eval g = .func (.func gf) #[] lb) (eg : ∀ args w, (callFunc gf args).run P w = .ok (.enter gf args) w)
  {encs : α → Array Value} {Ww Wr : Nat → Prop} {Skips : σ → World → σ → Prop} {Yields : σ → World → α → σ → Prop} {Done : σ → World → Prop} {s0 : σ}
  (hps : ∀ x, (encs x).size = ps.size) (hRd : ∀ k, Ww k ∨ Wr k → k < w.heap.size)
  (hseq : ∀ W1, Turn w.heap.size w W1 → SeqB P gf lb encs Ww Wr Skips Yields Done s0 W1)
  (K : σ → World → Prop) (Kx : Code → World → Prop)
  (hKs : ∀ s W W', K s W → Chg Wr W W' → K s W') (hKk : ∀ s s' W, K s W → Skips s W s' → K s' W)
  (hKt : ∀ s W W', K s W → Turn w.heap.size W W' → K s W') (hKxt : ∀ c W W', Kx c W → Turn w.heap.size W W' → Kx c W') (hYt : ∀ s x s' W W', Yields s W x s' → Turn w.heap.size W W' → Yields s W' x s')
  (hDt : ∀ s W W', Done s W → Turn w.heap.size W W' → Done s W')
  (hYc : ∀ s x s' W W', Yields s W x s' → Chg (fun _ => False) W W' → Yields s W' x s')
  (h0 : K s0 w)
  (hround : ∀ (l : Nat) (s : σ) (x : α) (s' : σ) (W : World), w.heap.size < l → l < W.heap.size → K s W → Yields s W x s' →
   assign.wpIn (Fence.wide.inRound l) 7 P (Exit.then (fun a' W' => Chg (fun _ => False) W W' ∧ ∀ W2 : World, Turn w.heap.size W' W2 → (∃ r, W2.heap[l]? = some (.loop r)) → K s W2 → Yields s W2 x s' →
    body.wpIn (Fence.wide.inRound l) 7 P (roundOutB Ww (K s') Kx W2) a' W2) (fun _ _ _ => False)) { tmps:=(ps.zip (encs x)).foldl (fun t (p, v) => t.setIfInBounds p v) a.tmps, defers:=[] } W)
  (hdone : ∀ (D : Nat) (s : σ) (W : World), w.heap.size ≤ D → Done s W → K s W → W.heap[D]? = some (.deferred (some [])) → Q .normal { a with defers:={ target:=.collected D, args:=#[] } :: a.defers } W)
  (hstop : ∀ (D : Nat) (c : Code) (W : World), w.heap.size ≤ D → Kx c W → W.heap[D]? = some (.deferred (some [])) → c.wpIn Fence.wide 9 P Q { a with defers:={ target:=.collected D, args:=#[] } :: a.defers } W) :
  (Code.rangeFunc g ps assign body).wpIn Fence.wide 9 P Q a w:=by
 refine wpIn_rangeFunc ?_
 intro fn hfn
 obtain ⟨rec, hrec⟩ : ∃ rec : LoopState → Option Code → Loop, rec = fun st pe => { state:=st, pending:=pe, fn, tmps:=a.tmps, params:=ps, assign, body, defers:=w.heap.size }:=⟨_, rfl⟩
 obtain ⟨W1, hW1⟩ : ∃ W1, (w.alloc (.deferred (some []))).alloc (.loop (rec .ready none)) = W1:=⟨_, rfl⟩
 have hL1 : W1.heap[w.heap.size + 1]? = some (.loop (rec .ready none)):=by
  rw [← hW1]; have:=World.alloc_heap_new (w.alloc (.deferred (some []))) (.loop (rec .ready none)); rwa [World.size_alloc] at this
 have hK1 : W1.heap[w.heap.size]? = some (.deferred (some [])):=by
  rw [← hW1]; exact (Below.heap_alloc _ _ _ (by simp)).trans (World.alloc_heap_new w _)
 have hT1 : Turn w.heap.size w W1:=by rw [← hW1]; exact ((Turn.refl _ _).alloc _).alloc _
 refine ⟨w.heap.size + 1, [{ target:=.collected w.heap.size, args:=#[] }], W1, { target:=.fn (.func gf) lb, args:=#[.func (.yield (w.heap.size + 1)) #[] #[]] }, W1, gf,
  #[.func (.yield (w.heap.size + 1)) #[] #[]] ++ lb, W1, ?_, ?_, ?_, ?_, fun h => by simp [Fence.wide] at h, ?_⟩
 ·rw [← hW1, hrec]; exact run_enterLoop_outer _ _ _ _ _
 ·simp only [resolve, hg]
  simp [go_sem]
 ·intro f' hf'; exact trivial
 ·simp [invoke, go_sem, eg]
 ·refine ((hseq W1 hT1) (w.heap.size + 1)
   (fun s W => K s W ∧ W.heap[w.heap.size + 1]? = some (.loop (rec .ready none)) ∧ W.heap[w.heap.size]? = some (.deferred (some [])))
   (fun W => ∃ c, Kx c W ∧ W.heap[w.heap.size + 1]? = some (.loop (rec .done (some c))) ∧ W.heap[w.heap.size]? = some (.deferred (some [])))
   (fun s W W' h hc => ⟨hKs s W W' h.1 hc, (hc.block _ (Array.getElem?_eq_some_iff.1 h.2.1).1 (fun hw => by have:=hRd _ (.inr hw); omega)).trans h.2.1, (hc.block _ (Array.getElem?_eq_some_iff.1 h.2.2).1 (fun hw => by have:=hRd _ (.inr hw); omega)).trans h.2.2⟩)
   (fun s s' W h hs => ⟨hKk s s' W h.1 hs, h.2⟩)
   ?_ ⟨hKt _ _ _ h0 hT1, hL1, hK1⟩).mono ?_
  ·rintro s x s' W ⟨hi, hl, hk⟩ hyl
   have hlt : w.heap.size + 1 < W.heap.size:=(Array.getElem?_eq_some_iff.1 hl).1
   have hy:=run_yield (P:=P) (args:=encs x) hl (by rw [hrec]; exact hps x)
   rw [hrec] at hy
   refine ⟨fn, _, assign, body, hy, roundIn_of_wpIn hfn (wpIn_mono (hround _ s x s' W (by omega) hlt hi hyl) ?_)⟩
   clear hy
   rintro e a' W' he
   cases e with
   | normal => ?_
   | ret => exact he
   | exit id => exact he
   | goto t => exact he
   | panic ch => exact he
   | outgrown => exact he
   obtain ⟨hch, hbody⟩:=he
   have hl0:=hl
   have hl : W'.heap[w.heap.size + 1]? = some (.loop (rec .ready none)):=(hch.block _ hlt id).trans hl0
   have hk : W'.heap[w.heap.size]? = some (.deferred (some [])):=(hch.block _ (by omega) id).trans hk
   have hi : K s W':=hKs s W W' hi (hch.mono fun _ _ h => h.elim)
   have hyl : Yields s W' x s':=hYc _ _ _ _ _ hyl hch
   have hlt0:=hlt
   have hlt : w.heap.size + 1 < W'.heap.size:=Nat.lt_of_lt_of_le hlt0 hch.size
   refine ⟨_, run_beginRound hl (by rw [hrec]), ?_⟩
   have hl2 : (W'.putObj (w.heap.size + 1) (.loop { rec .ready none with state:=.busy })).heap[w.heap.size + 1]? = some (.loop { rec .ready none with state:=.busy }):=World.putObj_heap_same hlt
   have hk2 : (W'.putObj (w.heap.size + 1) (.loop { rec .ready none with state:=.busy })).heap[w.heap.size]? = some (.deferred (some [])):=(World.putObj_heap_other (by omega)).trans hk
   have hT2 : Turn w.heap.size W' (W'.putObj (w.heap.size + 1) (.loop { rec .ready none with state:=.busy })):=(Turn.refl _ _).putObj _ (by omega) hl rfl
   refine wpIn_mono (hbody _ hT2 ⟨_, hl2⟩ (hKt _ _ _ hi hT2) (hYt _ _ _ _ _ hyl hT2)) ?_
   have fin : ∀ (jump : Option Code) (W3 : World), KeepsB Ww (W'.putObj (w.heap.size + 1) (.loop { rec .ready none with state:=.busy })) W3 →
     (Instr.endRound (w.heap.size + 1) jump).run P W3 = .ok (.bool jump.isNone) (W3.putObj (w.heap.size + 1) (.loop (rec (if jump.isNone then .ready else .done) jump))) ∧
     W3.heap[w.heap.size + 1]? = some (.loop { rec .ready none with state:=.busy }) ∧
     (W3.putObj (w.heap.size + 1) (.loop (rec (if jump.isNone then .ready else .done) jump))).heap[w.heap.size + 1]? = some (.loop (rec (if jump.isNone then .ready else .done) jump)) ∧
     (W3.putObj (w.heap.size + 1) (.loop (rec (if jump.isNone then .ready else .done) jump))).heap[w.heap.size]? = some (.deferred (some [])):=fun jump W3 hk3 => by
    have hl3:=(hk3.same _ (Array.getElem?_eq_some_iff.1 hl2).1 (fun hw => by have:=hRd _ (.inl hw); omega)).trans hl2
    have:=run_endRound (P:=P) jump hl3
    rw [hrec] at this ⊢
    exact ⟨this, by rw [hrec] at hl3; exact hl3, World.putObj_heap_same (Array.getElem?_eq_some_iff.1 hl3).1, (World.putObj_heap_other (by omega)).trans ((hk3.same _ (Array.getElem?_eq_some_iff.1 hk2).1 (fun hw => by have:=hRd _ (.inl hw); omega)).trans hk2)⟩
   rintro e a3 W3 hp
   cases e with
   | normal =>
    obtain ⟨hk3, hi3⟩:=hp
    obtain ⟨hr, hl3, hl4, hk4⟩:=fin none W3 hk3
    refine ⟨_, _, hr, .inl ⟨rfl, ⟨hKt _ _ _ hi3 ((Turn.refl _ _).putObj _ (by omega) hl3 rfl), hl4, hk4⟩, ?_, fun k hkk hn => ?_⟩⟩
    ·have:=hk3.size; have:=hch.size; simp at *; omega
    ·by_cases hkl : k = w.heap.size + 1
     ·subst hkl
      exact hl4.trans hl0.symm
     ·have hkW : k < W'.heap.size:=Nat.lt_of_lt_of_le hkk hch.size
      exact (World.putObj_heap_other (by omega)).trans ((hk3.same k (by simpa using hkW) hn).trans ((World.putObj_heap_other (by omega)).trans (hch.block k hkk id)))
   | ret =>
    obtain ⟨hk3, hi3⟩:=hp
    obtain ⟨hr, hl3, hl4, hk4⟩:=fin (some .ret) W3 hk3
    exact ⟨_, _, hr, .inr ⟨rfl, .ret, hKxt _ _ _ hi3 ((Turn.refl _ _).putObj _ (by omega) hl3 rfl), hl4, hk4⟩⟩
   | exit id =>
    obtain ⟨hk3, hi3⟩:=hp
    obtain ⟨hr, hl3, hl4, hk4⟩:=fin (some (.exit id)) W3 hk3
    exact ⟨_, _, hr, .inr ⟨rfl, .exit id, hKxt _ _ _ hi3 ((Turn.refl _ _).putObj _ (by omega) hl3 rfl), hl4, hk4⟩⟩
   | goto t =>
    obtain ⟨hk3, hi3⟩:=hp
    obtain ⟨hr, hl3, hl4, hk4⟩:=fin (some (.goto t)) W3 hk3
    exact ⟨_, _, hr, .inr ⟨rfl, .goto t, hKxt _ _ _ hi3 ((Turn.refl _ _).putObj _ (by omega) hl3 rfl), hl4, hk4⟩⟩
   | panic ch => exact hp.elim
   | outgrown => exact hp.elim
  ·rintro e W2 ⟨⟨v, rfl⟩, (⟨s, hD, hi, hl, hk⟩ | ⟨c, hi, hl, hk⟩)⟩
   ·have hT : Turn w.heap.size W2 (W2.putObj (w.heap.size + 1) (.loop { rec .ready none with state:=.exhausted })):=(Turn.refl _ _).putObj _ (by omega) hl rfl
    exact ⟨none, _, by have:=run_endLoop (P:=P) hl (by rw [hrec]; simp); rw [hrec] at this; exact this, hdone _ s _ (Nat.le_refl _) (by rw [hrec] at hT; exact hDt _ _ _ hD hT) (by rw [hrec] at hT; exact hKt _ _ _ hi hT) ((World.putObj_heap_other (by omega)).trans hk)⟩
   ·have hT : Turn w.heap.size W2 (W2.putObj (w.heap.size + 1) (.loop { rec .done (some c) with state:=.exhausted })):=(Turn.refl _ _).putObj _ (by omega) hl rfl
    exact ⟨some c, _, by have:=run_endLoop (P:=P) hl (by rw [hrec]; simp); rw [hrec] at this; exact this, hstop _ c _ (Nat.le_refl _) (by rw [hrec] at hT; exact hKxt _ _ _ hi hT) ((World.putObj_heap_other (by omega)).trans hk)⟩
end Go.Proofs.YteadpgiffpfmnaaGreatDoor.Rng
namespace Go.Proofs.YteadpgiffpfmnaaGreatDoor.Field
open Go.RowKit Go.Shelf Hp Rng
attribute [local go_sem] Oper.semAt_some
def FAt (w : World) (g : Nat) (l : List (Nat × Nat)) : Prop :=
 ∀ i x, l[i]? = some x → w.cell? ⟨g, i * 2, none⟩ = some (.i x.1) ∧ w.cell? ⟨g, i * 2 + 1, none⟩ = some (.i x.2)
theorem FAt.stable {w w' : World} {g : Nat} {l : List (Nat × Nat)} (h : FAt w g l) (hb : w'.heap[g]? = w.heap[g]?) : FAt w' g l:=fun i x hx =>
 ⟨(World.cell?_of_block (w:=w) hb).trans (h i x hx).1, (World.cell?_of_block (w:=w) hb).trans (h i x hx).2⟩
theorem FAt.turn {B : Nat} {w w' : World} {g : Nat} {l : List (Nat × Nat)} (h : FAt w g l) (ht : Turn B w w') : FAt w' g l:=fun i x hx =>
 ⟨ht.cell (h i x hx).1, ht.cell (h i x hx).2⟩
theorem FAt.lt {w : World} {g : Nat} {l : List (Nat × Nat)} (h : FAt w g l) (hl : 0 < l.length) : g < w.heap.size:=World.block_lt_of_cell? _ _ (h 0 l[0] (List.getElem?_eq_getElem hl)).1
theorem pairs_any (w : World) (g n : Nat) : Calls Tryz.prog 174 #[.slice (some ⟨g, 0, none⟩) n n] w fun e w' =>
  e = .returned (.func (.func 183) #[] #[.pointer (some ⟨w.heap.size, 0, none⟩)]) ∧ w' = w.alloc (.cells #[.slice (some ⟨g, 0, none⟩) n n] 134):=by
 go_enter Tryz.func174, Tryz.ntmps174
 go_wp2
 go_ret
 exact ⟨rfl, rfl⟩
def pEnc (x : (Nat × Nat) × (Nat × Nat)) : Array Value:=#[fval x.1.1 x.1.2, fval x.2.1 x.2.2]
def pSkips (l : List (Nat × Nat)) (s : Nat × Nat) (_ : World) (s' : Nat × Nat) : Prop:=s.1 < l.length ∧ l.length ≤ s.1 + 1 + s.2 ∧ s' = (s.1 + 1, 0)
def pYields (l : List (Nat × Nat)) (s : Nat × Nat) (_ : World) (x : (Nat × Nat) × (Nat × Nat)) (s' : Nat × Nat) : Prop:=l[s.1]? = some x.1 ∧ l[s.1 + 1 + s.2]? = some x.2 ∧ s' = (s.1, s.2 + 1)
theorem pairs_seq (bx g : Nat) (l : List (Nat × Nat)) (Ww : Nat → Prop) (W : World) (hl : l.length ≤ 1000) (h : FAt W g l) (hb : W.cell? ⟨bx, 0, none⟩ = some (.slice (some ⟨g, 0, none⟩) l.length l.length))
  (hg : g < W.heap.size) (h1 : ¬ Ww g) (h2 : ¬ Ww bx) (h3 : ∀ k, Ww k → k < W.heap.size) :
  SeqB Tryz.prog 183 #[.pointer (some ⟨bx, 0, none⟩)] pEnc Ww (fun _ => False) (pSkips l)
   (pYields l) (fun s _ => s.1 = l.length) (0, 0) W:=by
 intro L J Jx hJs hJk hY h0
 refine callsIn_of_wp Tryz.func183 rfl trivial ?_ rfl
 simp only [Tryz.ntmps183, List.size_toArray, List.length_cons, List.length_nil, Nat.reduceAdd, Nat.reduceSub, Array.replicate_succ, Array.replicate_zero, List.push_toArray, List.append_toArray, List.nil_append, List.cons_append]
 have hbs : bx < W.heap.size:=World.block_lt_of_cell? _ _ hb
 gi_wp2
 gi_loopw [9] (fun i wr => ∃ k : Nat, k ≤ l.length ∧ i = .i k ∧ FAt wr g l ∧ wr.cell? ⟨bx, 0, none⟩ = some (.slice (some ⟨g, 0, none⟩) l.length l.length) ∧ J (k, 0) wr ∧ W.heap.size ≤ wr.heap.size) (fun i _ => l.length - (intOf i).toNat)
 case atStart => exact ⟨0, by omega, rfl, h, hb, h0, Nat.le_refl _⟩
 case round =>
  obtain ⟨k, hk, rfl, hat, hbx, hj, hsz⟩:=hrel
  by_cases hlt : k < l.length
  ·obtain ⟨x, hx⟩ : ∃ x, l[k]? = some x:=⟨_, List.getElem?_eq_getElem hlt⟩
   obtain ⟨hc0, hc1⟩:=hat k x hx
   have Hx:=Lib.hid hx
   clear hx
   have hbl : bx < wr.heap.size:=World.block_lt_of_cell? _ _ hbx
   obtain ⟨fb, hfb⟩ : ∃ fb, fb = wr.heap.size:=⟨_, rfl⟩
   have hA:=(Chg.refl (fun _ => False) wr).alloc (.cells #[.i x.1, .i x.2] 131)
   have hjA:=hJs _ _ _ hj hA
   have hatA:=hat.stable (hA.block g (by omega) id)
   have hbxA:=(hA.cell (p:=⟨bx, 0, none⟩) hbl id).trans hbx
   by_cases hlast : l.length = k + 1
   ·have hj2:=hJk (k, 0) (k + 1, 0) _ hjA ⟨hlt, by omega, rfl⟩
    gi_wp2
    gi_loopw [19] (fun i wr2 => i = .i 0 ∧ wr2 = wr.alloc (.cells #[.i x.1, .i x.2] 131)) (fun i _ => 0)
    case atStart => exact ⟨rfl, rfl⟩
    case round =>
     obtain ⟨rfl, rfl⟩:=hrel
     gi_wp2
     go_roundw
     case rel => exact ⟨k + 1, by omega, by go_num, hatA, hbxA, hj2, by simp; omega⟩
     case measure => simp [intOf]; omega
   ·have hf0 : (wr.alloc (.cells #[.i x.1, .i x.2] 131)).cell? ⟨fb, 0, none⟩ = some (.i x.1):=by rw [hfb]; simp
    have hf1 : (wr.alloc (.cells #[.i x.1, .i x.2] 131)).cell? ⟨fb, 1, none⟩ = some (.i x.2):=by rw [hfb]; simp
    have hsA : W.heap.size ≤ (wr.alloc (.cells #[.i x.1, .i x.2] 131)).heap.size:=by simp; omega
    have hfW : W.heap.size ≤ fb:=by omega
    gi_wp2
    rw [← hfb]
    generalize wr.alloc (.cells #[.i x.1, .i x.2] 131) = wa at *
    clear hfb hA hbl hsz hc0 hc1 hat hbx hj
    gi_loopw [19] (fun i wr2 => ∃ j : Nat, i = .i j ∧ j ≤ l.length - (k + 1) ∧ FAt wr2 g l ∧ wr2.cell? ⟨bx, 0, none⟩ = some (.slice (some ⟨g, 0, none⟩) l.length l.length) ∧ J (k, j) wr2 ∧ W.heap.size ≤ wr2.heap.size ∧
     wr2.cell? ⟨fb, 0, none⟩ = some (.i x.1) ∧ wr2.cell? ⟨fb, 1, none⟩ = some (.i x.2)) (fun i _ => l.length - (intOf i).toNat)
    case atStart => exact ⟨0, rfl, by omega, hatA, hbxA, hjA, hsA, hf0, hf1⟩
    case round =>
     obtain ⟨j, rfl, hj, hat2, hbx2, hj2, hsz2, hq0, hq1⟩:=hrel
     by_cases hlt2 : j < l.length - (k + 1)
     ·obtain ⟨y, hy⟩ : ∃ y, l[k + 1 + j]? = some y:=⟨_, List.getElem?_eq_getElem (by omega)⟩
      obtain ⟨hd0, hd1⟩:=hat2 _ y hy
      rw [Nat.add_mul] at hd0 hd1
      have Hy:=Lib.hid hy
      clear hy
      have hA2:=(Chg.refl (fun _ => False) wr).alloc (.cells #[.i y.1, .i y.2] 131)
      have hfl : fb < wr.heap.size:=World.block_lt_of_cell? _ _ hq0
      have hbl2 : bx < wr.heap.size:=World.block_lt_of_cell? _ _ hbx2
      have hr0 : (wr.alloc (.cells #[.i y.1, .i y.2] 131)).cell? ⟨fb, 0, none⟩ = some (.i x.1):=(hA2.cell (p:=⟨fb, 0, none⟩) hfl id).trans hq0
      have hr1 : (wr.alloc (.cells #[.i y.1, .i y.2] 131)).cell? ⟨fb, 1, none⟩ = some (.i x.2):=(hA2.cell (p:=⟨fb, 1, none⟩) hfl id).trans hq1
      have hjA2:=hJs _ _ _ hj2 hA2
      have hatA2:=hat2.stable (hA2.block g (by omega) id)
      have hbxA2:=(hA2.cell (p:=⟨bx, 0, none⟩) hbl2 id).trans hbx2
      obtain ⟨fn, tmps, assign, body, hy, hR⟩:=hY (k, j) (x, y) (k, j + 1) _ hjA2 ⟨Hx.out, Hy.out, rfl⟩
      simp only [pEnc] at hy
      have Hr0:=Lib.hid hr0
      have Hr1:=Lib.hid hr1
      clear hr0 hr1
      gi_wp2_with (simp only [Hr0.out, Hr1.out])
      have hszA : W.heap.size ≤ (wr.alloc (.cells #[.i y.1, .i y.2] 131)).heap.size:=by simp; omega
      have hflA : fb < (wr.alloc (.cells #[.i y.1, .i y.2] 131)).heap.size:=by simp; omega
      generalize wr.alloc (.cells #[.i y.1, .i y.2] 131) = wc at *
      clear hd0 hd1 hq0 hq1 hA2 hat2 hbx2 hj2 hfl
      refine hR.mono ?_
      rintro e W3 (⟨rfl, hJ3, hs3, hk3⟩ | ⟨rfl, hJx3⟩)
      ·have hat3:=hatA2.stable (hk3 g (by omega) h1)
       have hbx3 : W3.cell? ⟨bx, 0, none⟩ = some (.slice (some ⟨g, 0, none⟩) l.length l.length):=(World.cell?_of_block (w:=wc) (hk3 bx (by omega) h2)).trans hbxA2
       have hfb3:=hk3 fb hflA (fun hw => by have:=h3 fb hw; omega)
       have hq0 : W3.cell? ⟨fb, 0, none⟩ = some (.i x.1):=(World.cell?_of_block (w:=wc) hfb3).trans Hr0.out
       have hq1 : W3.cell? ⟨fb, 1, none⟩ = some (.i x.2):=(World.cell?_of_block (w:=wc) hfb3).trans Hr1.out
       clear Hr0 Hr1 hk3 hfb3
       gi_wp2
       go_roundw
       case rel => exact ⟨j + 1, by go_num, by omega, hat3, hbx3, hJ3, by omega, hq0, hq1⟩
       case measure => simp [intOf]; omega
      ·gi_wp2
       refine bodyPost_ret (results_none rfl _ _ _) rfl ?_
       exact ⟨⟨_, rfl⟩, .inr hJx3⟩
     ·have hj3:=hJk (k, j) (k + 1, 0) _ hj2 ⟨hlt, by omega, rfl⟩
      clear hq0 hq1 hj2
      gi_wp2
      go_roundw
      case rel => exact ⟨k + 1, by omega, by go_num, hat2, hbx2, hj3, hsz2⟩
      case measure => simp [intOf]; omega
  ·gi_wp2
   go_end0
   exact ⟨⟨_, rfl⟩, .inl ⟨(k, 0), by omega, hj⟩⟩
attribute [local go_sem] Oper.semAt_some
def mk (x : Nat × Nat) : Int := mx x.2 * 2 ^ x.1
def Disj (l : List (Nat × Nat)) : Prop := ∀ (i j : Nat) (x y : Nat × Nat), l[i]? = some x → l[j]? = some y → i < j → bits .and .i64 (mk x) (mk y) = 0
def AllR (l : List (Nat × Nat)) : Prop := ∀ x ∈ l, R x.1 x.2
theorem bkeep {W W' : World} {p : Addr} {v : Value} (h : Below W.heap.size W W') (hc : W.cell? p = some v) : W'.cell? p = some v := (h.cell (World.block_lt_of_cell? _ _ hc)).trans hc
theorem bkeepz {W W' : World} {p : Addr} {v : Value} {b : Bool} (h : Below W.heap.size W W') (hc : W.cell? p = some v) (hz : W.frozen? p = b) : W'.frozen? p = b := (h.frozen (World.block_lt_of_cell? _ _ hc)).trans hz
def ApK (w : World) (g : Nat) (l : List (Nat × Nat)) (W : World) : Prop :=
  FAt W g l ∧ Below w.heap.size w W ∧ W.cell? ⟨w.heap.size, 0, none⟩ = some (.bool false) ∧ W.frozen? ⟨w.heap.size, 0, none⟩ = false
theorem ApK.later {w : World} {g : Nat} {l : List (Nat × Nat)} {W W' : World} (h : ApK w g l W) (hg : g < w.heap.size) (hb : Below W.heap.size W W') : ApK w g l W' := by
  obtain ⟨h1, h2, h3, h4⟩ := h
  exact ⟨h1.stable (hb.block g (Nat.lt_of_lt_of_le hg h2.size)), h2.trans (hb.mono h2.size), bkeep hb h3, bkeepz hb h3 h4⟩
theorem below_chg {W W' : World} (hc : Chg (fun _ => False) W W') : Below W.heap.size W W' := hc.below (Nat.le_refl _) fun _ h => h.elim
theorem apart_any (w : World) (g : Nat) (l : List (Nat × Nat)) (hl : l.length ≤ 1000) (h : FAt w g l) (hg : g < w.heap.size) (hR : AllR l) (hD : Disj l) :
    Calls Tryz.prog 146 #[.slice (some ⟨g, 0, none⟩) l.length l.length] w fun e w' => e = .returned (.bool true) ∧ Below w.heap.size w w' := by
  refine (callsIn_wide (n := 9)).1 ?_
  refine callsIn_of_wp_marks Tryz.func146 rfl trivial ?_
  simp only [Tryz.ntmps146, List.size_toArray, List.length_cons, List.length_nil, Nat.reduceAdd, Nat.reduceSub, Array.replicate_succ, Array.replicate_zero, List.push_toArray, List.append_toArray, List.nil_append, List.cons_append]
  gi_wp2
  have hB0 : Below w.heap.size w (w.alloc (.cells #[.bool false] 4)) := (Below.refl _ _).alloc (Nat.le_refl _) _
  have hF0 : FAt (w.alloc (.cells #[.bool false] 4)) g l := h.stable (hB0.block g hg)
  have hc0 : (w.alloc (.cells #[.bool false] 4)).cell? ⟨w.heap.size, 0, none⟩ = some (.bool false) := by simp
  have hz0 : (w.alloc (.cells #[.bool false] 4)).frozen? ⟨w.heap.size, 0, none⟩ = false := by simp
  have HR := Lib.hid hR
  have HD := Lib.hid hD
  clear hR hD
  gi_loopw [9] (fun i wr => ∃ k : Nat, k ≤ l.length ∧ i = .i k ∧ FAt wr g l ∧ Below w.heap.size w wr ∧ wr.cell? ⟨w.heap.size, 0, none⟩ = some (.bool false) ∧ wr.frozen? ⟨w.heap.size, 0, none⟩ = false) (fun i _ => l.length - (intOf i).toNat)
  case atStart => exact ⟨0, by omega, rfl, hF0, hB0, hc0, hz0⟩
  case round =>
    obtain ⟨k, hk, rfl, hat, hB, hc, hz⟩ := hrel
    have hlr : w.heap.size < wr.heap.size := World.block_lt_of_cell? _ _ hc
    by_cases hlt : k < l.length
    · obtain ⟨x, hx⟩ : ∃ x, l[k]? = some x := ⟨_, List.getElem?_eq_getElem hlt⟩
      obtain ⟨hd0, hd1⟩ := hat k x hx
      have hr := HR.out x (List.mem_of_getElem? hx)
      clear hx
      gi_wp2_with fail
      refine ⟨trivial, (callsIn_wide.2 (right_any _ _ _ hr)).mono ?_⟩
      rintro e w5 ⟨rfl, hb5⟩
      have hb6 : Below wr.heap.size wr w5 := ((Below.refl _ _).alloc (Nat.le_refl _) _).trans (hb5.mono (by simp))
      have hat5 := hat.stable (hb6.block g (by omega))
      have hc5 := (hb6.cell (p := ⟨w.heap.size, 0, none⟩) hlr).trans hc
      have hz5 := (hb6.frozen (p := ⟨w.heap.size, 0, none⟩) hlr).trans hz
      have hB5 := hB.trans (hb6.mono (Nat.le_of_lt hlr))
      clear hb5 hb6 hd0 hd1
      gi_wp2
      go_roundw
      case rel => exact ⟨k + 1, by omega, by go_num, hat5, hB5, hc5, hz5⟩
      case measure => simp [intOf]; omega
    · clear hF0 hB0 hc0 hz0
      gi_wp2_with (refine ⟨trivial, ?_⟩; gi_at_call 174; refine (callsIn_wide.2 (pairs_any _ _ _)).mono ?_; rintro e w' ⟨rfl, rfl⟩)
      have hK0 : ApK w g l (wr.alloc (.cells #[.slice (some ⟨g, 0, none⟩) l.length l.length] 134)) := ApK.later ⟨hat, hB, hc, hz⟩ hg ((Below.refl _ _).alloc (Nat.le_refl _) _)
      have hbx : (wr.alloc (.cells #[.slice (some ⟨g, 0, none⟩) l.length l.length] 134)).cell? ⟨wr.heap.size, 0, none⟩ = some (.slice (some ⟨g, 0, none⟩) l.length l.length) := by simp
      generalize wr.alloc (.cells #[.slice (some ⟨g, 0, none⟩) l.length l.length] 134) = wq at *
      generalize wr.heap.size = bx at *
      clear hat hB hc hz hlr
      have hmo : Tryz.prog.follows .mixedOrders = true := by kernel_rfl
      refine wpIn_rangeB (gf := 183) (lb := #[.pointer (some ⟨bx, 0, none⟩)]) rfl (enters_of Tryz.func183 (by kernel_rfl) rfl) (encs := pEnc)
        (Ww := fun _ => False) (Wr := fun _ => False) (Skips := pSkips l) (Yields := pYields l) (Done := fun s _ => s.1 = l.length) (s0 := (0, 0))
        ?hps ?hRd ?hseq (fun _ => ApK w g l) (fun c W => False) ?hKs (fun _ _ _ h _ => h) ?hKt (fun _ _ _ h _ => h) (fun _ _ _ _ _ h _ => h) (fun _ _ _ h _ => h) (fun _ _ _ _ _ h _ => h) ?h0
        ?round ?done ?stop
      case round =>
        intro L s x s' W hL hLW hk hy
        simp only [pEnc]
        gi_wp2
        refine ⟨((Chg.refl _ _).alloc _).alloc _, ?_⟩
        intro W2 hT2 _ hk2 hy2
        have hx0 : W2.cell? ⟨W.heap.size, 0, none⟩ = some (.i x.1.1) := hT2.cell (by go_simp)
        have hx1 : W2.cell? ⟨W.heap.size, 1, none⟩ = some (.i x.1.2) := hT2.cell (by go_simp)
        have hy0 : W2.cell? ⟨W.heap.size + 1, 0, none⟩ = some (.i x.2.1) := hT2.cell (by go_simp)
        have hy1 : W2.cell? ⟨W.heap.size + 1, 1, none⟩ = some (.i x.2.2) := hT2.cell (by go_simp)
        obtain ⟨q1, q2, rfl⟩ := hy2
        have hRx := HR.out x.1 (List.mem_of_getElem? q1)
        have hRy := HR.out x.2 (List.mem_of_getElem? q2)
        have hxy : bits .and .i64 ((mx x.1.2 : Int) * 2 ^ x.1.1) ((mx x.2.2 : Int) * 2 ^ x.2.1) = 0 := HD.out _ _ _ _ q1 q2 (by omega)
        have Bb : Below W2.heap.size W2 W2.drew := (Below.refl _ _).drew
        clear q1 q2 hT2 hy hk hLW hL
        generalize W.heap.size = p0 at *
        gi_wp2_with fail
        gi_region_with_o (first
          | (refine ⟨trivial, ?_⟩; gi_at_call 175; first
             | (refine (CallsIn.inRound L (callsIn_wide.2 (mask_any _ _ _ hRx))).mono ?_; rintro e w6 ⟨rfl, hb6⟩; have hx0 := bkeep hb6 hx0; have hx1 := bkeep hb6 hx1; have hy0 := bkeep hb6 hy0; have hy1 := bkeep hb6 hy1; have Bb := Bb.trans (hb6.mono Bb.size))
             | (refine (CallsIn.inRound L (callsIn_wide.2 (mask_any _ _ _ hRy))).mono ?_; rintro e w6 ⟨rfl, hb6⟩; have hx0 := bkeep hb6 hx0; have hx1 := bkeep hb6 hx1; have hy0 := bkeep hb6 hy0; have hy1 := bkeep hb6 hy1; have Bb := Bb.trans (hb6.mono Bb.size))))
        all_goals gi_wp2
        all_goals exact ⟨KeepsB.of_chg (Chg.ofBelow Bb) (fun _ _ h => h), hk2.later hg Bb⟩
      case hps => intro x; rfl
      case hRd => rintro k (hk | hk) <;> exact hk.elim
      case hseq =>
        intro W1 hT
        exact pairs_seq bx g l _ W1 hl (hK0.1.turn hT) (hT.cell hbx) (Nat.lt_of_lt_of_le (Nat.lt_of_lt_of_le hg hK0.2.1.size) hT.size) id id (fun _ h => h.elim)
      case hKs => exact fun s W W' h hc => h.later hg (below_chg hc)
      case hKt => exact fun s W W' h ht => ⟨h.1.turn ht, ht.below h.2.1 hK0.2.1.size (Nat.le_refl _), ht.cell h.2.2.1, (ht.frozen h.2.2.1).trans h.2.2.2⟩
      case h0 => exact hK0
      case done =>
        rintro D s W hD _ ⟨k1, k2, k3, k4⟩ hKD
        gi_wp2
        have hsz : D ≠ w.heap.size := fun e => by have := hK0.2.1.size; have := World.block_lt_of_cell? _ _ hK0.2.2.1; simp at this; omega
        have hK2 : (W.setCell ⟨w.heap.size, 0, none⟩ (.bool true)).heap[D]? = some (.deferred (some [])) := (Below.heap_setCell _ _ _ _ (by simpa using hsz)).trans hKD
        have h7 := k2.setCell (p := ⟨w.heap.size, 0, none⟩) (by simp) (.bool true)
        have h8 := World.cell?_setCell_same _ _ (.bool true) k3
        generalize W.setCell ⟨w.heap.size, 0, none⟩ (.bool true) = W3 at *
        have hT : Turn wq.heap.size W3 (W3.putObj D (.deferred none)) := (Turn.refl _ _).putObj _ hD hK2 rfl
        have hc := hT.cell h8
        refine ⟨by simp, .inl ⟨_, _, rfl, run_takeDeferred hK2, ?_⟩⟩
        exact ⟨.bool true, by simp [results, Tryz.results146, go_sem, hc], rfl, hT.below h7 hK0.2.1.size (Nat.le_refl _)⟩
      case stop => exact fun D c W hD h hK => h.elim
end Go.Proofs.YteadpgiffpfmnaaGreatDoor.Field
namespace Go.Proofs.YteadpgiffpfmnaaGreatDoor.RowL
open Go.RowKit Hp
variable {P : Program}
def RowAt (w : World) (g : Nat) (cs : Array Value) (t : TypeId) : Prop:=w.heap[g]? = some (.cells cs t (0, 0))
theorem RowAt.lt {w : World} {g : Nat} {cs : Array Value} {t : TypeId} (h : RowAt w g cs t) : g < w.heap.size:=(Array.getElem?_eq_some_iff.1 h).1
theorem RowAt.below {w w' : World} {g : Nat} {cs : Array Value} {t : TypeId} (h : RowAt w g cs t) (hb : Below w.heap.size w w') : RowAt w' g cs t:=(hb.block g h.lt).trans h
theorem RowAt.alloc {w : World} {g : Nat} {cs : Array Value} {t : TypeId} (h : RowAt w g cs t) (o : Obj) : RowAt (w.alloc o) g cs t:=(Below.heap_alloc _ _ _ h.lt).trans h
theorem RowAt.new (w : World) (cs : Array Value) (t : TypeId) : RowAt (w.alloc (.cells cs t)) w.heap.size cs t:=heap_alloc_new w _
theorem RowAt.cell {w : World} {g : Nat} {cs : Array Value} {t : TypeId} (h : RowAt w g cs t) (j : Nat) : w.cell? ⟨g, j, none⟩ = cs[j]?:=cell_of_row w g j cs t _ h
theorem RowAt.chg {F : Nat → Prop} {w w' : World} {g : Nat} {cs : Array Value} {t : TypeId} (h : RowAt w g cs t) (hb : Chg F w w') (hf : ¬ F g) : RowAt w' g cs t:=(hb.block g h.lt hf).trans h
theorem RowAt.frozen {w : World} {g : Nat} {cs : Array Value} {t : TypeId} (h : RowAt w g cs t) (j : Nat) : w.frozen? ⟨g, j, none⟩ = false:=frozen_of_row w g j cs t h
theorem RowAt.setc {w : World} {g : Nat} {cs : Array Value} {t : TypeId} (h : RowAt w g cs t) (i : Nat) (v : Value) : RowAt (w.setCell ⟨g, i, none⟩ v) g (cs.setIfInBounds i v) t:=heap_setCell_same w g i cs t v h
theorem RowAt.drew {w : World} {g : Nat} {cs : Array Value} {t : TypeId} (h : RowAt w g cs t) : RowAt w.drew g cs t:=h
theorem run_storeAt_row (w : World) (g : Nat) (ty t : TypeId) (Z cs : Array Value) (h : RowAt w g Z t) (hsz : Z.size = cs.size) (hi : (P.info? ty).map (·.size) = some cs.size) (h1 : cs.all (·.oneCell') = true) :
  (Instr.storeAt ty (.pointer (some ⟨g, 0, none⟩)) (.agg cs)).run P w = .ok () (w.setRow g cs):=by
 simp only [Instr.storeAt, Instr.sureAddr, Sem.run_bind, Sem.run_pure, Result.andThen_ok, run_storeVar_row w g t ty Z cs h hi hsz h1]
theorem wp_store_row {op : Oper} {a : Act} {w : World} {K : Act → World → Prop} {Q : Exit → Act → World → Prop} (ty : TypeId) (x y : Operand) (ho : op.op = .store ty x y)
  (g : Nat) (t : TypeId) (Z cs : Array Value) (hx : a.eval x = .pointer (some ⟨g, 0, none⟩)) (hy : a.eval y = .agg cs)
  (ht : RowAt w g Z t) (hsz : Z.size = cs.size) (hi : (P.info? ty).map (·.size) = some cs.size) (h1 : cs.all (·.oneCell') = true)
  (h : K (a.put op.dst undef) (w.setRow g cs)) : op.wp P a w K Q:=by
 unfold Oper.wp execOp
 simp only [ho, hx, hy, Sem.run_bind, Sem.run_pure, run_storeAt_row w g ty t Z cs ht hsz hi h1, Result.andThen_ok]
 exact h
theorem wpList_store_row {ops : Array Oper} {rest : List Oper} {op : Oper} {a : Act} {w : World} {Q : Exit → Act → World → Prop} (hgd : op.guard = none) (ty : TypeId) (x y : Operand) (ho : op.op = .store ty x y)
  (g : Nat) (t : TypeId) (Z cs : Array Value) (hx : a.eval x = .pointer (some ⟨g, 0, none⟩)) (hy : a.eval y = .agg cs)
  (ht : RowAt w g Z t) (hsz : Z.size = cs.size) (hi : (P.info? ty).map (·.size) = some cs.size) (h1 : cs.all (·.oneCell') = true)
  (h : wpList P ops Q rest (a.put op.dst undef) (w.setRow g cs)) : wpList P ops Q (op :: rest) a w :=
 wpList_plain hgd fun _ hK => wp_store_row ty x y ho g t Z cs hx hy ht hsz hi h1 (hK _ _ h)
theorem RowAt.set {w : World} {g : Nat} {Z : Array Value} {t : TypeId} (h : RowAt w g Z t) (cs : Array Value) : RowAt (w.setRow g cs) g cs t:=setRow_heap w g Z cs t _ h
theorem chg_setRow {F : Nat → Prop} {w w' : World} (h : Chg F w w') (g : Nat) (cs : Array Value) (hg : g < w.heap.size → F g) : Chg F w (w'.setRow g cs) :=
 ⟨h.os, h.tape, h.output, by simpa using h.size, fun k hk hf => by
  by_cases e : k = g
  ·subst e; exact absurd (hg hk) hf
  ·exact (setRow_other w' g k cs e).trans (h.block k hk hf)⟩
theorem results_row {fn : Func} {p : Tmp} {ty : TypeId} (h : fn.results = #[.cell p ty]) (tmps : Array Value) (w : World) (g : Nat) (t : TypeId) (cs : Array Value) (d : TypeDesc)
  (hp : tmps.getD p undef = .pointer (some ⟨g, 0, none⟩)) (hg : RowAt w g cs t)
  (hu : P.underlying ty = some d) (hd : (match d with | .struct _ | .array _ _ => true | _ => false) = true) (hi : (P.info? ty).map (·.size) = some cs.size) :
  (results fn tmps).run P w = .ok (.agg cs) w:=results_cell_row h tmps w g t cs (0, 0) d hp hg hu hd hi
theorem results_row2 {fn : Func} {p u : Tmp} {ty : TypeId} (h : fn.results = #[.cell p ty, .tmp u]) (tmps : Array Value) (w : World) (g : Nat) (t : TypeId) (cs : Array Value) (d : TypeDesc)
  (hp : tmps.getD p undef = .pointer (some ⟨g, 0, none⟩)) (hg : RowAt w g cs t)
  (hu : P.underlying ty = some d) (hd : (match d with | .struct _ | .array _ _ => true | _ => false) = true) (hi : (P.info? ty).map (·.size) = some cs.size) :
  (results fn tmps).run P w = .ok (.tuple #[.agg cs, tmps.getD u undef]) w:=by
 rw [results_cell_tmp h tmps P w, hp]
 simp [asAddr, run_loadVar_row w g t ty cs (0, 0) d hg hu hd hi]
section
variable {P : Program} {ops : Array Oper} {Q : Exit → Act → World → Prop} {md : Region.Mode} {S : World → Prop}
theorem op_of {i : Nat} {d : Option Tmp} {op : Op} {g : Option (Nat × Bool)} (ho : (ops[i]?).map (fun o => (o.dst, o.op, o.guard)) = some (d, op, g)) : ∃ o, ops[i]? = some o ∧ o.dst = d ∧ o.op = op ∧ o.guard = g:=by
 cases h : ops[i]? with
 | none => rw [h] at ho; cases ho
 | some o =>
  rw [h] at ho
  simp only [Option.map_some, Option.some.injEq, Prod.mk.injEq] at ho
  exact ⟨o, rfl, ho.1, ho.2.1, ho.2.2⟩
theorem ready_store_row {i fuel : Nat} {listed : Array Bool} {a : Act} {w : World} (hr : Region.ready md ops listed = [i]) (T : TypeId) (x y : Operand)
  (ho : (ops[i]?).map (fun o => (o.dst, o.op, o.guard)) = some (none, Op.store T x y, none))
  (g : Nat) (t : TypeId) (Z cs : Array Value) (hx : a.eval x = .pointer (some ⟨g, 0, none⟩)) (hy : a.eval y = .agg cs)
  (ht : RowAt w g Z t) (hsz : Z.size = cs.size) (hi : (P.info? T).map (·.size) = some cs.size) (h1 : cs.all (·.oneCell') = true)
  (hS : S (w.setRow g cs)) (h : S (w.setRow g cs) → wpAnyH P md ops Q S fuel (listed.setIfInBounds i true) a (w.setRow g cs)) : wpAnyH P md ops Q S (fuel + 1) listed a w:=by
 obtain ⟨o, h1o, h2o, h3o, h4o⟩:=op_of ho
 refine wpAnyH_ready hr (by simp) (AllReadyH.cons h1o (fun K hK => ?_) AllReadyH.nil)
 rw [if_pos (by simp [Region.wanted, h4o])]
 refine wp_store_row T x y h3o g t Z cs hx hy ht hsz hi h1 ?_
 rw [h2o]
 exact hK.out _ _ hS h
theorem take_of {i fuel : Nat} {listed : Array Bool} {a : Act} {w : World} {d : Option Tmp} {op : Op} {gd : Option (Nat × Bool)} {v : Value} (ho : (ops[i]?).map (fun o => (o.dst, o.op, o.guard)) = some (d, op, gd))
  (hs : Region.noSelect ops = true) (hf : Region.free md ops listed i = true) (hr : (Region.ready md ops listed).contains i = true)
  (hQ : ∀ c a w, Q (.panic c) (a.put d v) w → Q (.panic c) a w)
  (hw : (ops[i]?).map (fun o => Region.wanted o (yielded ops a.tmps)) = some true) (hy : ∀ o : Oper, o.op = op → ∀ w, S w → (execOp a.eval o).run P w = .ok (.value v) w) (hS : S w)
  (h : wpAnyH P md ops Q S fuel (listed.setIfInBounds i true) (a.put d v) w) : wpAnyH P md ops Q S (fuel + 1) listed a w:=by
 obtain ⟨o, h1o, h2o, h3o, h4o⟩:=op_of ho
 subst h2o
 rw [h1o] at hw
 exact wpAnyH_take h1o hs hf hr hQ (Or.inl ⟨by simpa using hw, hy o h3o⟩) hS h
theorem takeg {i fuel : Nat} {listed : Array Bool} {a : Act} {w : World} {d : Option Tmp} {v : Value} (ho : (ops[i]?).map (fun o => o.dst) = some d)
  (hs : Region.noSelect ops = true) (hf : Region.free md ops listed i = true) (hr : (Region.ready md ops listed).contains i = true)
  (hQ : ∀ c a w, Q (.panic c) (a.put d v) w → Q (.panic c) a w)
  (hw : (ops[i]?).map (fun o => Region.wanted o (yielded ops a.tmps)) = some true) (hy : ∀ w, S w → ((ops[i]?).map fun o => (execOp a.eval o).run P w) = some (.ok (.value v) w)) (hS : S w)
  (h : wpAnyH P md ops Q S fuel (listed.setIfInBounds i true) (a.put d v) w) : wpAnyH P md ops Q S (fuel + 1) listed a w:=by
 cases h1 : ops[i]? with
 | none => rw [h1] at ho; cases ho
 | some o =>
  rw [h1] at ho hw
  simp only [Option.map_some, Option.some.injEq] at ho hw
  subst ho
  exact wpAnyH_take h1 hs hf hr hQ (Or.inl ⟨hw, fun w h => by have:=hy w h; rw [h1] at this; simpa using this⟩) hS h
theorem skip_of {i fuel : Nat} {listed : Array Bool} {a : Act} {w : World} {d : Option Tmp} (ho : (ops[i]?).map (fun o => o.dst) = some d)
  (hs : Region.noSelect ops = true) (hf : Region.free md ops listed i = true) (hr : (Region.ready md ops listed).contains i = true)
  (hQ : ∀ c a w, Q (.panic c) (a.put d undef) w → Q (.panic c) a w)
  (hw : (ops[i]?).map (fun o => Region.wanted o (yielded ops a.tmps)) = some false) (hS : S w)
  (h : wpAnyH P md ops Q S fuel (listed.setIfInBounds i true) (a.put d undef) w) : wpAnyH P md ops Q S (fuel + 1) listed a w:=by
 cases h1 : ops[i]? with
 | none => rw [h1] at ho; cases ho
 | some o =>
  rw [h1] at ho hw
  simp only [Option.map_some, Option.some.injEq] at ho hw
  subst ho
  exact wpAnyH_take h1 hs hf hr hQ (Or.inr ⟨hw, rfl⟩) hS h
theorem run_load_row {a : Act} (T : TypeId) (x : Operand) (g : Nat) (t : TypeId) (cs : Array Value) (d : TypeDesc) (hx : a.eval x = .pointer (some ⟨g, 0, none⟩)) (hu : P.underlying T = some d)
  (hd : (match d with | .struct _ | .array _ _ => true | _ => false) = true) (hi : (P.info? T).map (·.size) = some cs.size) (hg : ∀ w, S w → RowAt w g cs t) :
  ∀ o : Oper, o.op = Op.load T x → ∀ w, S w → (execOp a.eval o).run P w = .ok (.value (.agg cs)) w:=by
 intro o ho w hS
 have hl:=run_loadVar_row (P:=P) w g t T cs (0, 0) d (hg w hS) hu hd hi
 unfold execOp
 simp only [ho, hx]
 simp only [Instr.loadAt, Instr.sureAddr, Sem.run_bind, Sem.run_pure, Result.andThen_ok, hl]
theorem ready_call {i fuel : Nat} {listed : Array Bool} {a : Act} {w : World} (hr : Region.ready md ops listed = [i]) (F : Nat) (args : Array Operand) (ats : Array TypeId) (d : Option Tmp) (gd : Option (Nat × Bool))
  (ho : (ops[i]?).map (fun o => (o.dst, o.op, o.guard)) = some (d, Op.call { callee:=Callee.value (Operand.func F), args:=args, argTypes:=ats }, gd))
  (hw : (ops[i]?).map (fun o => Region.wanted o (yielded ops a.tmps)) = some true)
  (vals : Array Value) (hv : args.map a.eval = vals) (hE : ∀ args w, (callFunc F args).run P w = .ok (.enter F args) w)
  (h : Calls P F vals w fun e w' => ∃ v, e = .returned v ∧ S w' ∧ (S w' → wpAnyH P md ops Q S fuel (listed.setIfInBounds i true) (a.put d v) w')) : wpAnyH P md ops Q S (fuel + 1) listed a w:=by
 obtain ⟨o, h1o, h2o, h3o, h4o⟩:=op_of ho
 refine wpAnyH_ready hr (by simp) (AllReadyH.cons h1o (fun K hK => ?_) AllReadyH.nil)
 rw [h1o] at hw
 rw [if_pos (by simpa using hw)]
 have hx : (execOp a.eval o).run P w = .ok (.enter F vals) w:=by
  unfold execOp
  simp only [h3o, resolve]
  simp [go_sem, hv, hE, Act.eval, invoke, Deferred.ofValue]
 unfold Oper.wp
 rw [hx, Oper.upon_enter]
 refine h.mono ?_
 rintro e w' ⟨v, rfl, hS, hk⟩
 dsimp only
 rw [h2o]
 exact hK.out _ _ hS hk
end
theorem setRow_new (w : World) (cs cs' : Array Value) (t : TypeId) : (w.alloc (.cells cs t)).setRow w.heap.size cs' = w.alloc (.cells cs' t):=by
 have h1 : ((w.alloc (.cells cs t)).setRow w.heap.size cs').heap = (w.alloc (.cells cs' t)).heap:=by
  apply Array.ext_getElem?
  intro i
  by_cases h : i = w.heap.size
  ·subst h
   exact (setRow_heap _ _ cs cs' t (0, 0) (heap_alloc_new w _)).trans (heap_alloc_new w _).symm
  ·rw [setRow_other _ _ _ _ h]
   simp only [World.alloc, Array.getElem?_push]
   split
   ·rename_i e; exact absurd e h
   ·rfl
 have h2 : ∀ a b : World, a.heap = b.heap → { a with heap:=b.heap } = a:=fun a b e => by rw [← e]
 have h3:=h2 _ _ h1
 rw [← h3]
 rfl
theorem wpList_run {P : Program} {ops : Array Oper} {rest : List Oper} {o : Oper} {a : Act} {w : World} {Q : Exit → Act → World → Prop} (hg : o.guard = none) (v : Value)
  (hr : (execOp a.eval o).run P w = .ok (.value v) w) (h : wpList P ops Q rest (a.put o.dst v) w) : wpList P ops Q (o :: rest) a w :=
 wpList_plain hg fun K hK => by
  unfold Oper.wp
  rw [hr]
  exact hK _ _ h
section
variable {P : Program} {ops : Array Oper} {Q : Exit → Act → World → Prop} {md : Region.Mode} {S : World → Prop}
def OpStep (P : Program) (md : Region.Mode) (ops : Array Oper) (Q : Exit → Act → World → Prop) (S : World → Prop) (fuel : Nat) (listed : Array Bool) (a : Act) (w : World) (i : Nat) : Prop :=
 wpOp P ops Q i (fun a' w' => S w' ∧ wpAnyH P md ops Q S fuel (listed.setIfInBounds i true) a' w') a w
theorem ready1 {i fuel : Nat} {listed : Array Bool} {a : Act} {w : World} (hr : Region.ready md ops listed = [i]) (h : OpStep P md ops Q S fuel listed a w i) : wpAnyH P md ops Q S (fuel + 1) listed a w :=
 wpAnyH_all hr (by simp) fun j hj => by
  obtain rfl : j = i:=by simpa using hj
  exact h
theorem ready2 {i k fuel : Nat} {listed : Array Bool} {a : Act} {w : World} (hr : Region.ready md ops listed = [i, k]) (h : OpStep P md ops Q S fuel listed a w i) (h2 : OpStep P md ops Q S fuel listed a w k) : wpAnyH P md ops Q S (fuel + 1) listed a w :=
 wpAnyH_all hr (by simp) fun j hj => by
  simp only [List.mem_cons, List.not_mem_nil, or_false] at hj
  rcases hj with rfl | rfl
  ·exact h
  ·exact h2
theorem step_call {i fuel : Nat} {listed : Array Bool} {a : Act} {w : World} (F : Nat) (args : Array Operand) (ats : Array TypeId) (d : Option Tmp) (gd : Option (Nat × Bool))
  (ho : (ops[i]?).map (fun o => (o.dst, o.op, o.guard)) = some (d, Op.call { callee:=Callee.value (Operand.func F), args:=args, argTypes:=ats }, gd))
  (hw : (ops[i]?).map (fun o => Region.wanted o (yielded ops a.tmps)) = some true)
  (vals : Array Value) (hv : args.map a.eval = vals) (hE : ∀ args w, (callFunc F args).run P w = .ok (.enter F args) w)
  (h : Calls P F vals w fun e w' => ∃ v, e = .returned v ∧ S w' ∧ (S w' → wpAnyH P md ops Q S fuel (listed.setIfInBounds i true) (a.put d v) w')) : OpStep P md ops Q S fuel listed a w i:=by
 obtain ⟨o, h1o, h2o, h3o, h4o⟩:=op_of ho
 rw [h1o] at hw
 refine wpOp_step h1o fun K hK => ?_
 rw [if_pos (by simpa using hw)]
 have hx : (execOp a.eval o).run P w = .ok (.enter F vals) w:=by
  unfold execOp
  simp only [h3o, resolve]
  simp [go_sem, hv, hE, Act.eval, invoke, Deferred.ofValue]
 unfold Oper.wp
 rw [hx, Oper.upon_enter]
 refine h.mono ?_
 rintro e w' ⟨v, rfl, hS, hk⟩
 dsimp only
 rw [h2o]
 exact hK _ _ ⟨hS, hk hS⟩
theorem step_store_row {i fuel : Nat} {listed : Array Bool} {a : Act} {w : World} (T : TypeId) (x y : Operand)
  (ho : (ops[i]?).map (fun o => (o.dst, o.op, o.guard)) = some (none, Op.store T x y, none))
  (g : Nat) (t : TypeId) (Z cs : Array Value) (hx : a.eval x = .pointer (some ⟨g, 0, none⟩)) (hy : a.eval y = .agg cs)
  (ht : RowAt w g Z t) (hsz : Z.size = cs.size) (hi : (P.info? T).map (·.size) = some cs.size) (h1 : cs.all (·.oneCell') = true)
  (hS : S (w.setRow g cs)) (h : S (w.setRow g cs) → wpAnyH P md ops Q S fuel (listed.setIfInBounds i true) a (w.setRow g cs)) : OpStep P md ops Q S fuel listed a w i:=by
 obtain ⟨o, h1o, h2o, h3o, h4o⟩:=op_of ho
 refine wpOp_step h1o fun K hK => ?_
 rw [if_pos (by simp [Region.wanted, h4o])]
 refine wp_store_row T x y h3o g t Z cs hx hy ht hsz hi h1 ?_
 rw [h2o]
 exact hK _ _ ⟨hS, h hS⟩
theorem step_run {i fuel : Nat} {listed : Array Bool} {a : Act} {w w' : World} (d : Option Tmp) (v : Value) (ho : (ops[i]?).map (fun o => o.dst) = some d)
  (hw : (ops[i]?).map (fun o => Region.wanted o (yielded ops a.tmps)) = some true) (hr : ((ops[i]?).map fun o => (execOp a.eval o).run P w) = some (.ok (.value v) w'))
  (hS : S w') (h : S w' → wpAnyH P md ops Q S fuel (listed.setIfInBounds i true) (a.put d v) w') : OpStep P md ops Q S fuel listed a w i:=by
 cases h1 : ops[i]? with
 | none => rw [h1] at ho; cases ho
 | some o =>
  rw [h1] at ho hw hr
  simp only [Option.map_some, Option.some.injEq] at ho hw hr
  subst ho
  refine wpOp_step h1 fun K hK => ?_
  rw [if_pos hw]
  unfold Oper.wp
  rw [hr]
  exact hK _ _ ⟨hS, h hS⟩
theorem step_store {i fuel : Nat} {listed : Array Bool} {a : Act} {w w' : World} (ho : (ops[i]?).map (fun o => o.dst) = some none)
  (hw : (ops[i]?).map (fun o => Region.wanted o (yielded ops a.tmps)) = some true) (hr : ((ops[i]?).map fun o => (execOp a.eval o).run P w) = some (.ok .skip w'))
  (hS : S w') (h : S w' → wpAnyH P md ops Q S fuel (listed.setIfInBounds i true) a w') : OpStep P md ops Q S fuel listed a w i:=by
 cases h1 : ops[i]? with
 | none => rw [h1] at ho; cases ho
 | some o =>
  rw [h1] at ho hw hr
  simp only [Option.map_some, Option.some.injEq] at ho hw hr
  refine wpOp_step h1 fun K hK => ?_
  rw [if_pos hw]
  unfold Oper.wp
  rw [hr, Oper.upon_skip, ho]
  exact hK _ _ ⟨hS, h hS⟩
theorem ready3 {i j k fuel : Nat} {listed : Array Bool} {a : Act} {w : World} (hr : Region.ready md ops listed = [i, j, k]) (h : OpStep P md ops Q S fuel listed a w i) (h2 : OpStep P md ops Q S fuel listed a w j) (h3 : OpStep P md ops Q S fuel listed a w k) : wpAnyH P md ops Q S (fuel + 1) listed a w :=
 wpAnyH_all hr (by simp) fun n hn => by
  simp only [List.mem_cons, List.not_mem_nil, or_false] at hn
  rcases hn with rfl | rfl | rfl
  ·exact h
  ·exact h2
  ·exact h3
theorem ready4 {i j k l fuel : Nat} {listed : Array Bool} {a : Act} {w : World} (hr : Region.ready md ops listed = [i, j, k, l]) (h : OpStep P md ops Q S fuel listed a w i) (h2 : OpStep P md ops Q S fuel listed a w j) (h3 : OpStep P md ops Q S fuel listed a w k) (h4 : OpStep P md ops Q S fuel listed a w l) : wpAnyH P md ops Q S (fuel + 1) listed a w :=
 wpAnyH_all hr (by simp) fun n hn => by
  simp only [List.mem_cons, List.not_mem_nil, or_false] at hn
  rcases hn with rfl | rfl | rfl | rfl
  ·exact h
  ·exact h2
  ·exact h3
  ·exact h4
theorem there_row {w : World} {g : Nat} {Z : Array Value} {t : TypeId} (ht : RowAt w g Z t) {o n : Nat} (h : o + n ≤ Z.size) : w.there g o n:=by
 intro j hj
 refine ⟨?_, ht.frozen _⟩
 rw [ht.cell, Array.getElem?_eq_getElem (by omega)]
 rfl
theorem step_store_cell {i fuel : Nat} {listed : Array Bool} {a : Act} {w : World} (T : TypeId) (x y : Operand)
  (ho : (ops[i]?).map (fun o => (o.dst, o.op, o.guard)) = some (none, Op.store T x y, none)) (g off : Nat) (v : Value) (hx : a.eval x = .pointer (some ⟨g, off, none⟩)) (hy : a.eval y = v)
  (hv : ∀ u, (Instr.storeAt T (.pointer (some ⟨g, off, none⟩)) v).run P w = .ok u (w.setCell ⟨g, off, none⟩ v))
  (hS : S (w.setCell ⟨g, off, none⟩ v)) (h : S (w.setCell ⟨g, off, none⟩ v) → wpAnyH P md ops Q S fuel (listed.setIfInBounds i true) a (w.setCell ⟨g, off, none⟩ v)) : OpStep P md ops Q S fuel listed a w i:=by
 obtain ⟨o, h1o, h2o, h3o, h4o⟩:=op_of ho
 refine wpOp_step h1o fun K hK => ?_
 rw [if_pos (by simp [Region.wanted, h4o])]
 unfold Oper.wp execOp
 simp only [h3o, hx, hy, Sem.run_bind, Sem.run_pure, hv (), Result.andThen_ok, Oper.upon_skip]
 rw [h2o]
 exact hK _ _ ⟨hS, h hS⟩
theorem step_store_mid {i fuel : Nat} {listed : Array Bool} {a : Act} {w : World} (T : TypeId) (x y : Operand)
  (ho : (ops[i]?).map (fun o => (o.dst, o.op, o.guard)) = some (none, Op.store T x y, none))
  (g off : Nat) (cs : Array Value) (hx : a.eval x = .pointer (some ⟨g, off, none⟩)) (hy : a.eval y = .agg cs)
  (ht : w.there g off cs.size) (hi : (P.info? T).map (·.size) = some cs.size) (h1 : cs.all (·.oneCell') = true)
  (hS : S (w.setCells g off cs.toList)) (h : S (w.setCells g off cs.toList) → wpAnyH P md ops Q S fuel (listed.setIfInBounds i true) a (w.setCells g off cs.toList)) : OpStep P md ops Q S fuel listed a w i:=by
 obtain ⟨o, h1o, h2o, h3o, h4o⟩:=op_of ho
 refine wpOp_step h1o fun K hK => ?_
 rw [if_pos (by simp [Region.wanted, h4o])]
 refine wp_store_mid T x y h3o g off cs hx hy ht hi h1 ?_
 rw [h2o]
 exact hK _ _ ⟨hS, h hS⟩
end
section
variable {P : Program} {ops : Array Oper} {Q : Exit → Act → World → Prop} {md : Region.Mode} {S : World → Prop}
theorem sA {α : Type _} (l : List α) (i : Nat) (a : α) : l.toArray.setIfInBounds i a = (l.set i a).toArray:=List.setIfInBounds_toArray l i a
theorem sZ {α : Type _} (a b : α) (l : List α) : (a :: l).set 0 b = b :: l:=rfl
theorem sS {α : Type _} (a b : α) (l : List α) (n : Nat) : (a :: l).set (n + 1) b = a :: l.set n b:=rfl
theorem tKg {fuel : Nat} {listed : Array Bool} {a : Act} {w : World} {v : Value} (i : Nat) (d : Nat) (hS : S w)
  (h : wpAnyH P md ops Q S fuel (listed.setIfInBounds i true) (a.put (some d) v) w)
  (hy : ∀ w, S w → ((ops[i]?).map fun o => (execOp a.eval o).run P w) = some (.ok (.value v) w):=by intro w hSw; (try dsimp only at hSw); go_simp; (try with_reducible rfl))
  (ho : (ops[i]?).map (fun o => o.dst) = some (some d):=by kernel_rfl)
  (hs : Region.noSelect ops = true:=by kernel_rfl) (hf : Region.free md ops listed i = true:=by kernel_rfl) (hr : (Region.ready md ops listed).contains i = true:=by kernel_rfl)
  (hQ : ∀ c a w, Q (.panic c) (a.put (some d) v) w → Q (.panic c) a w:=by exact fun _ _ _ h => h)
  (hw : (ops[i]?).map (fun o => Region.wanted o (yielded ops a.tmps)) = some true:=by kernel_rfl) : wpAnyH P md ops Q S (fuel + 1) listed a w :=
 takeg ho hs hf hr hQ hw hy hS h
theorem tKw {fuel : Nat} {listed : Array Bool} {a : Act} {w : World} {gd : Option (Nat × Bool)} (i : Nat) (d : Nat) (op : Op) (v : Value) (hy : ∀ o : Oper, o.op = op → ∀ w, S w → (execOp a.eval o).run P w = .ok (.value v) w) (hS : S w)
  (h : wpAnyH P md ops Q S fuel (listed.setIfInBounds i true) (a.put (some d) v) w)
  (ho : (ops[i]?).map (fun o => (o.dst, o.op, o.guard)) = some (some d, op, gd):=by kernel_rfl)
  (hs : Region.noSelect ops = true:=by kernel_rfl) (hf : Region.free md ops listed i = true:=by kernel_rfl) (hr : (Region.ready md ops listed).contains i = true:=by kernel_rfl)
  (hQ : ∀ c a w, Q (.panic c) (a.put (some d) v) w → Q (.panic c) a w:=by exact fun _ _ _ h => h)
  (hw : (ops[i]?).map (fun o => Region.wanted o (yielded ops a.tmps)) = some true:=by kernel_rfl) : wpAnyH P md ops Q S (fuel + 1) listed a w :=
 take_of ho hs hf hr hQ hw hy hS h
theorem sKp {fuel : Nat} {listed : Array Bool} {a : Act} {w : World} (i : Nat) (d : Option Tmp) (hS : S w)
  (h : wpAnyH P md ops Q S fuel (listed.setIfInBounds i true) (a.put d undef) w)
  (ho : (ops[i]?).map (fun o => o.dst) = some d:=by kernel_rfl)
  (hs : Region.noSelect ops = true:=by kernel_rfl) (hf : Region.free md ops listed i = true:=by kernel_rfl) (hr : (Region.ready md ops listed).contains i = true:=by kernel_rfl)
  (hQ : ∀ c a w, Q (.panic c) (a.put d undef) w → Q (.panic c) a w:=by exact fun _ _ _ h => h)
  (hw : (ops[i]?).map (fun o => Region.wanted o (yielded ops a.tmps)) = some false:=by kernel_rfl) : wpAnyH P md ops Q S (fuel + 1) listed a w :=
 skip_of ho hs hf hr hQ hw hS h
theorem rKc {i fuel : Nat} {listed : Array Bool} {a : Act} {w : World} (F : Nat) (args : Array Operand) (ats : Array TypeId) (d : Option Tmp) (gd : Option (Nat × Bool)) (vals : Array Value) (hE : ∀ args w, (callFunc F args).run P w = .ok (.enter F args) w)
  (h : Calls P F vals w fun e w' => ∃ v, e = .returned v ∧ S w' ∧ (S w' → wpAnyH P md ops Q S fuel (listed.setIfInBounds i true) (a.put d v) w'))
  (hr : Region.ready md ops listed = [i]:=by kernel_rfl)
  (ho : (ops[i]?).map (fun o => (o.dst, o.op, o.guard)) = some (d, Op.call { callee:=Callee.value (Operand.func F), args:=args, argTypes:=ats }, gd):=by kernel_rfl)
  (hw : (ops[i]?).map (fun o => Region.wanted o (yielded ops a.tmps)) = some true:=by kernel_rfl)
  (hv : args.map a.eval = vals:=by kernel_rfl) : wpAnyH P md ops Q S (fuel + 1) listed a w :=
 ready_call hr F args ats d gd ho hw vals hv hE h
end
section
variable {P : Program} {ops : Array Oper} {Q : Exit → Act → World → Prop} {rest : List Oper} {o : Oper} {a : Act} {w : World}
theorem gl (v : Value) (h : wpList P ops Q rest (a.put o.dst v) w) (hr : (execOp a.eval o).run P w = .ok (.value v) w:=by kernel_rfl) (hw : Region.wanted o (yielded ops a.tmps) = true:=by kernel_rfl) : wpList P ops Q (o :: rest) a w:=by
 unfold wpList
 rw [if_pos hw]
 exact .inl (by unfold Oper.wp; rw [hr]; exact h)
theorem gno (h : wpList P ops Q rest (a.put o.dst undef) w) (hw : Region.wanted o (yielded ops a.tmps) = false:=by kernel_rfl) : wpList P ops Q (o :: rest) a w:=by
 unfold wpList
 rw [if_neg (by simp [hw])]
 exact h
theorem grow {g : Nat} {t : TypeId} {cs : Array Value} (hg : RowAt w g cs t) (T : TypeId) (x : Operand) {d : TypeDesc} (hu : P.underlying T = some d) (h : wpList P ops Q rest (a.put o.dst (.agg cs)) w)
  (ho : o.op = .load T x:=by kernel_rfl) (hx : a.eval x = .pointer (some ⟨g, 0, none⟩):=by kernel_rfl)
  (hd : (match d with | .struct _ | .array _ _ => true | _ => false) = true:=by rfl) (hi : (P.info? T).map (·.size) = some cs.size:=by kernel_rfl)
  (hw : Region.wanted o (yielded ops a.tmps) = true:=by kernel_rfl) : wpList P ops Q (o :: rest) a w :=
 gl (.agg cs) h (run_load_row (P:=P) (S:=fun w' => w' = w) (a:=a) T x g t cs d hx hu hd hi (fun w' e => by rw [e]; exact hg) o ho w rfl) hw
theorem gSt {g : Nat} {t : TypeId} {Z : Array Value} (hg : RowAt w g Z t) (cs : Array Value) (T : TypeId) (x y : Operand) (h : wpList P ops Q rest (a.put o.dst undef) (w.setRow g cs))
  (ho : o.op = .store T x y:=by kernel_rfl) (hx : a.eval x = .pointer (some ⟨g, 0, none⟩):=by kernel_rfl) (hy : a.eval y = .agg cs:=by kernel_rfl) (hgd : o.guard = none:=by kernel_rfl)
  (hsz : Z.size = cs.size:=by kernel_rfl) (hi : (P.info? T).map (·.size) = some cs.size:=by kernel_rfl) (h1 : cs.all (·.oneCell') = true:=by kernel_rfl) : wpList P ops Q (o :: rest) a w :=
 RowL.wpList_store_row hgd T x y ho g t Z cs hx hy hg hsz hi h1 h
theorem gbox {ob : Obj} {o2 : Oper} {Z cs : Array Value} {t : TypeId} (T : TypeId) (x y : Operand) (hob : ob = .cells Z t) (h : wpList P ops Q rest ((a.put o.dst (.pointer (some ⟨w.heap.size, 0, none⟩))).put o2.dst undef) ((w.alloc ob).setRow w.heap.size cs))
  (hr : (execOp a.eval o).run P w = .ok (.value (.pointer (some ⟨w.heap.size, 0, none⟩))) (w.alloc ob):=by kernel_rfl) (hg : o.guard = none:=by kernel_rfl) (hg2 : o2.guard = none:=by kernel_rfl)
  (ho : o2.op = .store T x y:=by kernel_rfl) (hx : (a.put o.dst (.pointer (some ⟨w.heap.size, 0, none⟩))).eval x = .pointer (some ⟨w.heap.size, 0, none⟩):=by kernel_rfl) (hy : (a.put o.dst (.pointer (some ⟨w.heap.size, 0, none⟩))).eval y = .agg cs:=by kernel_rfl)
  (hsz : Z.size = cs.size:=by kernel_rfl) (hi : (P.info? T).map (·.size) = some cs.size:=by kernel_rfl) (h1 : cs.all (·.oneCell') = true:=by kernel_rfl) : wpList P ops Q (o :: o2 :: rest) a w:=by
 subst hob
 refine wpList_plain hg fun K hK => ?_
 unfold Oper.wp
 rw [hr]
 exact hK _ _ (RowL.wpList_store_row hg2 T x y ho w.heap.size t Z cs hx hy (RowAt.new w Z t) hsz hi h1 h)
end
section
variable {P : Program} {fn : Func} {R : Ending → World → Prop} {a : Act} {w : World} {p q : Tmp} {ty t : TypeId} {cs : Array Value} {d : TypeDesc}
theorem bR1 (g : Nat) (hg : RowAt w g cs t) (hu : P.underlying ty = some d) (hR : R (.returned (.agg cs)) w) (h : fn.results = #[.cell p ty]:=by rfl) (hp : a.tmps.getD p undef = .pointer (some ⟨g, 0, none⟩):=by rfl)
  (hd : (match d with | .struct _ | .array _ _ => true | _ => false) = true:=by rfl) (hi : (P.info? ty).map (·.size) = some cs.size:=by kernel_rfl) (hde : a.defers = []:=by rfl) : bodyPost P fn R .ret a w :=
 bodyPost_ret (results_row h _ _ g t cs d hp hg hu hd hi) hde hR
theorem bR2 (g : Nat) (hg : RowAt w g cs t) (hu : P.underlying ty = some d) (hR : R (.returned (.tuple #[.agg cs, a.tmps.getD q undef])) w) (h : fn.results = #[.cell p ty, .tmp q]:=by rfl) (hp : a.tmps.getD p undef = .pointer (some ⟨g, 0, none⟩):=by rfl)
  (hd : (match d with | .struct _ | .array _ _ => true | _ => false) = true:=by rfl) (hi : (P.info? ty).map (·.size) = some cs.size:=by kernel_rfl) (hde : a.defers = []:=by rfl) : bodyPost P fn R .ret a w :=
 bodyPost_ret (results_row2 h _ _ g t cs d hp hg hu hd hi) hde hR
end
end Go.Proofs.YteadpgiffpfmnaaGreatDoor.RowL
namespace Go.Proofs.YteadpgiffpfmnaaGreatDoor.Bt
open Go.RowKit Hp
theorem wraps62 (n : Int) (h₀ : 0 ≤ n) (h₁ : n < 2 ^ 62) : IntKind.i64.wrap n = n:=by
 rw [IntKind.wrap_i64]; omega
theorem lt62 {n : Nat} (h : n < 2 ^ 62) : (n : Int) < 2 ^ 62:=by omega
theorem and_mask (x : Int) (b : Nat) (hb : b ≤ 62) : bits .and .i64 x ((2 ^ b - 1 : Nat) : Int) = x % 2 ^ b:=by
 have hp : 2 ^ b ≤ 2 ^ 62:=Nat.pow_le_pow_right (by decide) hb
 have hpos : 0 < 2 ^ b:=Nat.two_pow_pos b
 have e0 : bits .and .i64 x ((2 ^ b - 1 : Nat) : Int) = IntKind.i64.wrap (((BitVec.ofInt 64 x &&& BitVec.ofInt 64 ((2 ^ b - 1 : Nat) : Int)).toNat : Nat) : Int):=rfl
 have hm : (2 ^ b - 1) % 2 ^ 64 = 2 ^ b - 1:=Nat.mod_eq_of_lt (by
  have : (2 : Nat) ^ 62 ≤ 2 ^ 64:=by decide
  omega)
 have e : bits .and .i64 x ((2 ^ b - 1 : Nat) : Int) = IntKind.i64.wrap (((x % 18446744073709551616).toNat % 2 ^ b : Nat) : Int):=by
  rw [e0, BitVec.toNat_and, BitVec.toNat_ofInt, BitVec.ofInt_natCast, BitVec.toNat_ofNat, hm, Nat.and_two_pow_sub_one_eq_mod]
  rfl
 have hlt : (x % 18446744073709551616).toNat % 2 ^ b < 2 ^ b:=Nat.mod_lt _ hpos
 rw [e, wraps62 _ (Int.natCast_nonneg _) (lt62 (Nat.lt_of_lt_of_le hlt hp))]
 have h0 : 0 ≤ x % 18446744073709551616:=Int.emod_nonneg _ (by decide)
 rw [Int.natCast_emod, Int.toNat_of_nonneg h0, Int.natCast_pow]
 exact Int.emod_emod_of_dvd x (by
  have : (18446744073709551616 : Int) = 2 ^ b * 2 ^ (64 - b):=by rw [← Int.pow_add]; rw [show b + (64 - b) = 64 by omega]; rfl
  exact ⟨_, this⟩)
theorem andNot_low (x : Int) (a b : Nat) (h0 : 0 ≤ x) (h1 : x < 2 ^ a) (hab : a + b ≤ 62) : bits .andNot .i64 x (((2 ^ b - 1) * 2 ^ a : Nat) : Int) = x:=by
 obtain ⟨n, rfl⟩:=Int.eq_ofNat_of_zero_le h0
 have hn : n < 2 ^ a:=by exact_mod_cast h1
 have hpa : 2 ^ a ≤ 2 ^ 62:=Nat.pow_le_pow_right (by decide) (by omega)
 have hm : (2 ^ b - 1) * 2 ^ a < 2 ^ 62:=by
  have h2 : 2 ^ b * 2 ^ a ≤ 2 ^ 62:=by rw [← Nat.pow_add]; exact Nat.pow_le_pow_right (by decide) (by omega)
  have h3 : (2 ^ b - 1) * 2 ^ a + 2 ^ a = 2 ^ b * 2 ^ a:=by
   have : 0 < 2 ^ b:=Nat.two_pow_pos b
   rw [← Nat.succ_mul]
   congr 1
   omega
  have : 0 < 2 ^ a:=Nat.two_pow_pos a
  omega
 have key : ∀ N : Nat, N < 2 ^ a → ∀ i, (N &&& (2 ^ 64 - 1 - (2 ^ b - 1) * 2 ^ a)).testBit i = N.testBit i:=by
  intro N hN i
  rw [Nat.testBit_and]
  by_cases hi : i < a
  ·have : (2 ^ 64 - 1 - (2 ^ b - 1) * 2 ^ a).testBit i = true:=by
    rw [show 2 ^ 64 - 1 - (2 ^ b - 1) * 2 ^ a = 2 ^ 64 - ((2 ^ b - 1) * 2 ^ a + 1) by omega, Nat.testBit_two_pow_sub_succ (by omega)]
    have : ((2 ^ b - 1) * 2 ^ a).testBit i = false:=by
     rw [Nat.mul_comm, Nat.testBit_two_pow_mul]
     simp
     omega
    simp [this]
    omega
   rw [this, Bool.and_true]
  ·rw [Nat.testBit_lt_two_pow (Nat.lt_of_lt_of_le hN (Nat.pow_le_pow_right (by decide) (by omega)))]
   rfl
 have e0 : bits .andNot .i64 (n : Int) (((2 ^ b - 1) * 2 ^ a : Nat) : Int) = IntKind.i64.wrap (((BitVec.ofInt 64 (n : Int) &&& ~~~ BitVec.ofInt 64 (((2 ^ b - 1) * 2 ^ a : Nat) : Int)).toNat : Nat) : Int):=rfl
 have h64 : (2 : Nat) ^ 62 ≤ 2 ^ 64:=by decide
 have e : bits .andNot .i64 (n : Int) (((2 ^ b - 1) * 2 ^ a : Nat) : Int) = IntKind.i64.wrap ((n &&& (2 ^ 64 - 1 - (2 ^ b - 1) * 2 ^ a) : Nat) : Int):=by
  rw [e0, BitVec.toNat_and, BitVec.toNat_not, BitVec.ofInt_natCast, BitVec.ofInt_natCast, BitVec.toNat_ofNat, BitVec.toNat_ofNat, Nat.mod_eq_of_lt (by omega), Nat.mod_eq_of_lt (by omega)]
 rw [e, Nat.eq_of_testBit_eq (key n hn)]
 exact wraps62 _ (Int.natCast_nonneg _) (lt62 (by omega))
theorem or_above (x v : Int) (a b : Nat) (h0 : 0 ≤ x) (h1 : x < 2 ^ a) (hv : 0 ≤ v) (hvb : v < 2 ^ b) (hab : a + b ≤ 62) : bits .or .i64 x (v * 2 ^ a) = x + v * 2 ^ a:=by
 have hpa : (2 : Int) ^ a ≤ 2 ^ 62:=by exact_mod_cast Nat.pow_le_pow_right (by decide : 1 ≤ 2) (by omega : a ≤ 62)
 have h2 : v * 2 ^ a < 2 ^ 62:=by
  have h3 : (2 : Int) ^ b * 2 ^ a ≤ 2 ^ 62:=by rw [← Int.pow_add]; exact_mod_cast Nat.pow_le_pow_right (by decide : 1 ≤ 2) (by omega : b + a ≤ 62)
  have h4 : (0 : Int) < 2 ^ a:=Int.pow_pos (by decide)
  have h5 : v * 2 ^ a < 2 ^ b * 2 ^ a:=Int.mul_lt_mul_of_pos_right hvb h4
  omega
 have h6 : 0 ≤ v * 2 ^ a:=Int.mul_nonneg hv (Int.pow_nonneg (by decide))
 have hc : bits .or .i64 x (v * 2 ^ a) = bits .or .i64 (v * 2 ^ a) x:=by
  simp only [bits]
  rw [BitVec.or_comm]
 rw [hc, bits_join .i64 62 (by decide) wraps62 a (v * 2 ^ a) x h6 (Int.mul_emod_left v _) h2 h0 h1 (by omega)]
 omega
end Go.Proofs.YteadpgiffpfmnaaGreatDoor.Bt
namespace Go.Proofs.YteadpgiffpfmnaaGreatDoor.Field
open Go.RowKit Hp
theorem mx_cast (b : Nat) : (mx b : Int) = ((2 ^ b - 1 : Nat) : Int):=rfl
theorem put_word (n x : Int) (a b : Nat) (h : R a b) (h0 : 0 ≤ n) (h1 : n < 2 ^ a) (x0 : 0 ≤ x) (x1 : x < 2 ^ b) :
  bits BinOp.or IntKind.i64 (bits BinOp.andNot IntKind.i64 n ((mx b : Int) * 2 ^ a)) (IntKind.i64.wrap (bits BinOp.and IntKind.i64 x (mx b : Int) * 2 ^ min a 64)) = n + x * 2 ^ a:=by
 obtain ⟨h3, h4⟩:=h
 have e1 : min a 64 = a:=by omega
 have e2 : bits BinOp.and IntKind.i64 x (mx b : Int) = x:=by
  rw [mx_cast, Bt.and_mask x b (by omega)]
  exact Int.emod_eq_of_lt x0 x1
 have e3 : bits BinOp.andNot IntKind.i64 n ((mx b : Int) * 2 ^ a) = n:=by
  have:=Bt.andNot_low n a b h0 h1 h4
  rw [Int.natCast_mul, Int.natCast_pow] at this
  exact this
 have h5 : (2 : Int) ^ b * 2 ^ a ≤ 2 ^ 62:=by
  rw [← Int.pow_add]
  exact_mod_cast Nat.pow_le_pow_right (by decide : 1 ≤ 2) (by omega : b + a ≤ 62)
 have h6 : (0 : Int) < 2 ^ a:=Int.pow_pos (by decide)
 have h7 : x * 2 ^ a < 2 ^ b * 2 ^ a:=Int.mul_lt_mul_of_pos_right x1 h6
 have h8 : 0 ≤ x * 2 ^ a:=Int.mul_nonneg x0 (by omega)
 rw [e1, e2, e3, Bt.wraps62 _ h8 (by omega), Bt.or_above n x a b h0 h1 x0 x1 h4]
theorem put_val (w : World) (n : Int) (a b : Nat) (x : Int) (h : R a b) (h0 : 0 ≤ n) (h1 : n < 2 ^ a) (x0 : 0 ≤ x) (x1 : x < 2 ^ b) : Calls Tryz.prog 147 #[.i n, fval a b, .i x] w fun e w' => e = .returned (.i (n + x * 2 ^ a)) ∧ Below w.heap.size w w':=by
 have H0:=Lib.hid h0
 have H1:=Lib.hid h1
 have X0:=Lib.hid x0
 have X1:=Lib.hid x1
 have HR:=Lib.hid h
 clear h0 h1 x0 x1
 have hr:=fun w => right_any w a b h
 have hm:=fun w => max_any w a b h
 have hk:=fun w => mask_any w a b h
 go_enter Tryz.func147, Tryz.ntmps147
 go_wp2_with fail
 refine (hr _).mono ?_
 rintro e w5 ⟨rfl, hb5⟩
 have hc0 : w5.cell? ⟨w.heap.size, 0, none⟩ = some (.i a):=by rw [hb5.cell (by simp)]; simp
 have hc1 : w5.cell? ⟨w.heap.size, 1, none⟩ = some (.i b):=by rw [hb5.cell (by simp)]; simp
 have hB : Below w.heap.size w w5:=((Below.refl _ _).alloc (Nat.le_refl _) _).trans (hb5.mono (by simp))
 have hlt : w.heap.size < w5.heap.size:=World.block_lt_of_cell? _ _ hc0
 clear hb5
 go_wp2_with fail
 go_region_held3 (fun w' => w'.cell? ⟨w.heap.size, 0, none⟩ = some (.i a) ∧ w'.cell? ⟨w.heap.size, 1, none⟩ = some (.i b)) (first | go_keep | assumption | exact ⟨by assumption, by assumption⟩)
  ((first
  | (go_at_call 175; refine (hk _).mono ?_; rintro e w6 ⟨rfl, hb6⟩; have hc2:=(hb6.cell hlt).trans hc0; have hc3:=(hb6.cell hlt).trans hc1; have hB6:=hB.drew.trans (hb6.mono (Nat.le_of_lt hlt)))
  | (go_at_call 145; refine (hm _).mono ?_; rintro e w7 ⟨rfl, hb7⟩; have hlt6:=Nat.lt_of_lt_of_le hlt hb6.size; have hc4:=(hb7.cell (p:=⟨w.heap.size, 0, none⟩) hlt6).trans hc2; have hc5:=(hb7.cell (p:=⟨w.heap.size, 1, none⟩) hlt6).trans hc3; have hB7:=hB6.trans (hb7.mono (Nat.le_of_lt hlt6)))))
 go_wp2_with fail
 go_ret
 refine ⟨Base.ret_int ?_, hB7⟩
 exact put_word n x a b h H0.out H1.out X0.out X1.out
theorem get_val (w : World) (n : Int) (a b : Nat) (h : R a b) : Calls Tryz.prog 132 #[.i n, fval a b] w fun e w' => e = .returned (.i (n / 2 ^ a % 2 ^ b)) ∧ Below w.heap.size w w':=by
 have HR:=Lib.hid h
 have hr:=fun w => right_any w a b h
 have hm:=fun w => max_any w a b h
 have ha : (a : Int) < 64:=by have:=h.2; omega
 have ha0 : (0 : Int) ≤ a:=by omega
 go_enter Tryz.func132, Tryz.ntmps132
 go_wp2_with fail
 refine (hr _).mono ?_
 rintro e w5 ⟨rfl, hb5⟩
 have hc0 : w5.cell? ⟨w.heap.size, 0, none⟩ = some (.i a):=by rw [hb5.cell (by simp)]; simp
 have hc1 : w5.cell? ⟨w.heap.size, 1, none⟩ = some (.i b):=by rw [hb5.cell (by simp)]; simp
 have hB : Below w.heap.size w w5:=((Below.refl _ _).alloc (Nat.le_refl _) _).trans (hb5.mono (by simp))
 have hlt : w.heap.size < w5.heap.size:=World.block_lt_of_cell? _ _ hc0
 clear hb5
 go_wp2_with fail
 go_region_held3 (fun w' => w'.cell? ⟨w.heap.size, 0, none⟩ = some (.i a) ∧ w'.cell? ⟨w.heap.size, 1, none⟩ = some (.i b)) (first | go_keep | assumption | exact ⟨by assumption, by assumption⟩)
  ((go_at_call 145; refine (hm _).mono ?_; rintro e w6 ⟨rfl, hb6⟩; have hc2:=(hb6.cell (p:=⟨w.heap.size, 0, none⟩) hlt).trans hc0; have hc3:=(hb6.cell (p:=⟨w.heap.size, 1, none⟩) hlt).trans hc1; have hB6:=hB.drew.trans (hb6.mono (Nat.le_of_lt hlt))))
 go_wp2_with fail
 go_ret
 refine ⟨Base.ret_int ?_, hB6⟩
 rw [mx_cast, Bt.and_mask _ b (by have:=HR.out.2; omega)]
end Go.Proofs.YteadpgiffpfmnaaGreatDoor.Field
namespace Go.Proofs.YteadpgiffpfmnaaGreatDoor.Line
open Go.RowKit Go.Shelf Hp Rng
attribute [local go_sem] Oper.semAt_some
def dig (q : Int) : Nat → Int
 | 0 => q
 | k + 1 => dig q k / 16
theorem dig_step (q : Int) (k : Nat) : dig q (k + 1) = dig q k / 16:=rfl
theorem dig_le (q : Int) (h : q ≤ 9223372036854775807) : ∀ k, dig q k ≤ 9223372036854775807:=by
 intro k
 induction k with
 | zero => exact h
 | succ k ih => rw [dig_step]; omega
theorem dig_bound (q : Int) (h : q ≤ 9223372036854775807) : dig q 16 ≤ 0:=by
 simp only [dig]
 omega
theorem dig_neg (q : Int) : ∀ (d k : Nat), dig q k ≤ 0 → dig q (k + d) ≤ 0:=by
 intro d
 induction d with
 | zero => intro k h; exact h
 | succ d ih =>
  intro k h
  have:=ih k h
  show dig q (k + d) / 16 ≤ 0
  omega
theorem dig_lt {q : Int} (h : q ≤ 9223372036854775807) {k : Nat} (hk : 0 < dig q k) : k < 16:=by
 by_cases hh : k < 16
 ·exact hh
 ·have:=dig_neg q (k - 16) 16 (dig_bound q h)
  rw [show 16 + (k - 16) = k by omega] at this
  omega
theorem pop_any (w : World) (q : Int) : Calls Tryz.prog 106 #[.i q] w fun e w' => e = .returned (.i (q / 16)) ∧ w = w':=by
 go_enter Tryz.func106, Tryz.ntmps106
 go_wp2
 go_ret
 exact ⟨rfl, rfl⟩
theorem digits_any (w : World) (q : Int) : Calls Tryz.prog 122 #[.i q] w fun r w' =>
  r = .returned (.func (.func 138) #[] #[.pointer (some ⟨w.heap.size, 0, none⟩)]) ∧ w' = w.alloc (.cells #[.i q] 3):=by
 go_enter Tryz.func122, Tryz.ntmps122
 go_wp2
 go_ret
 exact ⟨rfl, rfl⟩
def dEnc (x : Nat × Int) : Array Value:=#[.i (x.1 : Int), .i x.2]
def dYields (q : Int) (s : Nat) (_ : World) (x : Nat × Int) (s' : Nat) : Prop:=s' = s + 1 ∧ x.1 = s ∧ x.2 = dig q s % 16 - 1 ∧ 0 < dig q s
theorem digits_seq (bx : Nat) (q : Int) (hq : q ≤ 9223372036854775807) (Ww : Nat → Prop) (W : World) (hb : W.cell? ⟨bx, 0, none⟩ = some (.i q)) (hf : W.frozen? ⟨bx, 0, none⟩ = false) (hW : ¬ Ww bx) :
  SeqB Tryz.prog 138 #[.pointer (some ⟨bx, 0, none⟩)] dEnc Ww (fun k => k = bx) (fun _ _ _ => False) (dYields q) (fun s _ => dig q s ≤ 0) 0 W:=by
 intro L J Jx hJs hJk hY h0
 refine callsIn_of_wp Tryz.func138 rfl trivial ?_ rfl
 simp only [Tryz.ntmps138, List.size_toArray, List.length_cons, List.length_nil, Nat.reduceAdd, Nat.reduceSub, Array.replicate_succ, Array.replicate_zero, List.push_toArray, List.append_toArray, List.nil_append, List.cons_append]
 gi_wp2
 gi_loopw [3] (fun i wr => ∃ k : Nat, k ≤ 16 ∧ i = .i k ∧ wr.cell? ⟨bx, 0, none⟩ = some (.i (dig q k)) ∧ wr.frozen? ⟨bx, 0, none⟩ = false ∧ J k wr) (fun i _ => 16 - (intOf i).toNat)
 case atStart => exact ⟨0, by omega, rfl, hb, hf, h0⟩
 case round =>
  obtain ⟨k, hk, rfl, hc, hz, hj⟩:=hrel
  by_cases hlt : 0 < dig q k
  ·have hk16:=dig_lt hq hlt
   have hle:=dig_le q hq k
   obtain ⟨fn, tmps, assign, body, hy, hR⟩:=hY k (k, dig q k % 16 - 1) (k + 1) wr hj ⟨rfl, rfl, rfl, hlt⟩
   simp only [dEnc] at hy
   have hdn:=dig_step q k
   have Hlt:=Lib.hid hlt
   generalize dig q k = g at *
   gi_wp2_with fail
   refine hR.mono ?_
   rintro e W3 (⟨rfl, hJ3, hk3⟩ | ⟨rfl, hJx3⟩)
   ·have hc3:=(World.cell?_of_block (hk3.same bx (World.block_lt_of_cell? _ _ hc) hW)).trans hc
    have hz3:=(World.frozen?_of_block (hk3.same bx (World.block_lt_of_cell? _ _ hc) hW)).trans hz
    gi_wp2_with fail
    go_roundw
    case rel =>
     refine ⟨k + 1, by omega, by go_num, ?_, ?_, hJs _ _ _ hJ3 ((Chg.refl _ _).setCell _ _ (fun _ => rfl))⟩
     ·rw [World.cell?_setCell_same _ _ _ hc3, hdn]
     ·rw [World.frozen?_setCell]; exact hz3
    case measure => simp [intOf]; omega
   ·gi_wp2
    refine bodyPost_ret (results_none rfl _ _ _) rfl ?_
    exact ⟨⟨_, rfl⟩, .inr hJx3⟩
  ·gi_wp2
   go_end0
   exact ⟨⟨_, rfl⟩, .inl ⟨k, by omega, hj⟩⟩
def hK (w : World) (W : World) : Prop:=Below w.heap.size w W ∧ W.cell? ⟨w.heap.size, 0, none⟩ = some (.i 0) ∧ W.frozen? ⟨w.heap.size, 0, none⟩ = false ∧ W.cell? ⟨w.heap.size + 1, 0, none⟩ = some (.bool false) ∧ W.frozen? ⟨w.heap.size + 1, 0, none⟩ = false
theorem hK.chg {w W W' : World} {F : Nat → Prop} (h : hK w W) (hc : Chg F W W') (hF : ∀ k, F k → w.heap.size + 2 ≤ k) : hK w W':=by
 obtain ⟨h1, h2, h3, h4, h5⟩:=h
 have b1:=World.block_lt_of_cell? _ _ h2
 have b2:=World.block_lt_of_cell? _ _ h4
 have n1 : ¬ F w.heap.size:=fun e => by have:=hF _ e; omega
 have n2 : ¬ F (w.heap.size + 1):=fun e => by have:=hF _ e; omega
 refine ⟨h1.trans (hc.below h1.size fun k e => ?_), (hc.cell b1 n1).trans h2, (hc.frozen (p:=⟨w.heap.size, 0, none⟩) b1 n1).trans h3, (hc.cell b2 n2).trans h4, (hc.frozen (p:=⟨w.heap.size + 1, 0, none⟩) b2 n2).trans h5⟩
 have:=hF k e
 omega
theorem head_any (w : World) (q : Int) (hq : q ≤ 9223372036854775807) : Calls Tryz.prog 103 #[.i q] w fun e w' => e = .returned (if 0 < q then .tuple #[.i (q % 16 - 1), .bool true] else .tuple #[.i 0, .bool false]) ∧ Below w.heap.size w w':=by
 generalize hR : (if 0 < q then Value.tuple #[.i (q % 16 - 1), .bool true] else .tuple #[.i 0, .bool false]) = R
 refine (callsIn_wide (n:=9)).1 ?_
 refine callsIn_of_wp_marks Tryz.func103 rfl trivial ?_
 simp only [Tryz.ntmps103, List.size_toArray, List.length_cons, List.length_nil, Nat.reduceAdd, Nat.reduceSub, Array.replicate_succ, Array.replicate_zero, List.push_toArray, List.append_toArray, List.nil_append, List.cons_append]
 gi_wp2_with (refine ⟨trivial, ?_⟩; gi_at_call 122; refine (callsIn_wide.2 (digits_any _ _)).mono ?_; rintro e w' ⟨rfl, rfl⟩)
 have hb0 : Below w.heap.size w (((w.alloc (.cells #[.i 0] 3)).alloc (.cells #[.bool false] 4)).alloc (.cells #[.i q] 3)):=(((Below.refl _ _).alloc (Nat.le_refl _) _).alloc (by simp) _).alloc (by simp; omega) _
 have hK0 : hK w (((w.alloc (.cells #[.i 0] 3)).alloc (.cells #[.bool false] 4)).alloc (.cells #[.i q] 3)):=⟨hb0, by go_simp, by go_simp, by go_simp, by go_simp⟩
 have hbx : (((w.alloc (.cells #[.i 0] 3)).alloc (.cells #[.bool false] 4)).alloc (.cells #[.i q] 3)).cell? ⟨w.heap.size + 2, 0, none⟩ = some (.i q):=by go_simp
 have hbz : (((w.alloc (.cells #[.i 0] 3)).alloc (.cells #[.bool false] 4)).alloc (.cells #[.i q] 3)).frozen? ⟨w.heap.size + 2, 0, none⟩ = false:=by go_simp
 clear hb0
 generalize (((w.alloc (.cells #[.i 0] 3)).alloc (.cells #[.bool false] 4)).alloc (.cells #[.i q] 3)) = wq at *
 have hsq:=World.block_lt_of_cell? _ _ hbx
 refine wpIn_rangeB (gf:=138) (lb:=#[.pointer (some ⟨w.heap.size + 2, 0, none⟩)]) (by first | rfl | kernel_rfl) (enters_of Tryz.func138 (by kernel_rfl) rfl) (encs:=dEnc)
  (Ww:=fun k => k = w.heap.size ∨ k = w.heap.size + 1) (Wr:=fun k => k = w.heap.size + 2) (Skips:=fun _ _ _ => False) (Yields:=dYields q) (Done:=fun s _ => dig q s ≤ 0) (s0:=0)
  ?hps ?hRd ?hseq (fun s W => s = 0 ∧ hK w W) (fun c W => c = .ret ∧ 0 < q ∧ Below w.heap.size w W ∧ W.cell? ⟨w.heap.size, 0, none⟩ = some (.i (q % 16 - 1)) ∧ W.cell? ⟨w.heap.size + 1, 0, none⟩ = some (.bool true)) ?hKs (fun _ _ _ _ h => h.elim) ?hKt ?hKxt (fun _ _ _ _ _ h _ => h) (fun _ _ _ h _ => h) (fun _ _ _ _ _ h _ => h) ?h0
  ?round ?done ?stop
 case hps => intro x; rfl
 case hRd => rintro k ((hk | hk) | hk) <;> simp only at hsq <;> omega
 case hseq =>
  intro W1 hT
  exact digits_seq _ q hq _ W1 (hT.cell hbx) ((hT.frozen hbx).trans hbz) (by omega)
 case hKs => exact fun s W W' h hc => ⟨h.1, h.2.chg hc (fun k e => by omega)⟩
 case hKt => exact fun s W W' h ht => ⟨h.1, ht.below h.2.1 hK0.1.size (Nat.le_refl _), ht.cell h.2.2.1, (ht.frozen h.2.2.1).trans h.2.2.2.1, ht.cell h.2.2.2.2.1, (ht.frozen h.2.2.2.2.1).trans h.2.2.2.2.2⟩
 case hKxt => exact fun c W W' h ht => ⟨h.1, h.2.1, ht.below h.2.2.1 hK0.1.size (Nat.le_refl _), ht.cell h.2.2.2.1, ht.cell h.2.2.2.2⟩
 case h0 => exact ⟨rfl, hK0⟩
 case round =>
  rintro L s ⟨j, y⟩ s' W hL hLW ⟨rfl, hk⟩ ⟨hs', hj, hy, h0⟩
  simp only [dEnc]
  gi_wp2
  refine ⟨Chg.refl _ _, ?_⟩
  have hd0 : dig q 0 = q:=rfl
  simp only [hd0] at h0 ⊢
  intro W2 hT2 rr hlp hk2 hy2
  obtain ⟨k1, k2, k3, k4, k5⟩:=hk2
  have hlt : w.heap.size + 1 < W2.heap.size:=World.block_lt_of_cell? _ _ k4
  have HQ:=Lib.hid h0
  clear hT2 hk hL hLW h0 hlp hy2
  gi_wp2_with fail
  have e1 : Chg (fun k => k = w.heap.size ∨ k = w.heap.size + 1) W2 ((W2.setCell ⟨w.heap.size, 0, none⟩ (.i (q % 16 - 1))).setCell ⟨w.heap.size + 1, 0, none⟩ (.bool true)):=((Chg.refl _ _).setCell _ _ (fun _ => .inl rfl)).setCell _ _ (fun _ => .inr rfl)
  exact ⟨KeepsB.of_chg e1 (fun _ _ h => h), rfl, HQ.out, (k1.setCell (by simp) _).setCell (by simp) _, by rw [World.cell?_setCell_other _ _ _ _ (by simp)]; exact World.cell?_setCell_same _ _ _ k2, World.cell?_setCell_same _ _ _ (by rw [World.cell?_setCell_other _ _ _ _ (by simp)]; exact k4)⟩
 case done =>
  rintro D s W hD hdn ⟨rfl, k1, k2, k3, k4, k5⟩ hKD
  simp only [dig] at hdn
  have hn : ¬ 0 < q:=by omega
  rw [if_neg hn] at hR
  subst hR
  gi_wp2
  have hsq1 : w.heap.size + 2 < D:=by omega
  have hK2 : ((W.setCell ⟨w.heap.size, 0, none⟩ (.i 0)).setCell ⟨w.heap.size + 1, 0, none⟩ (.bool false)).heap[D]? = some (.deferred (some [])):=(Below.heap_setCell _ _ _ _ (by simp; omega)).trans ((Below.heap_setCell _ _ _ _ (by simp; omega)).trans hKD)
  have h7 : Below w.heap.size w ((W.setCell ⟨w.heap.size, 0, none⟩ (.i 0)).setCell ⟨w.heap.size + 1, 0, none⟩ (.bool false)):=(k1.setCell (by simp) _).setCell (by simp) _
  have c0 : ((W.setCell ⟨w.heap.size, 0, none⟩ (.i 0)).setCell ⟨w.heap.size + 1, 0, none⟩ (.bool false)).cell? ⟨w.heap.size, 0, none⟩ = some (.i 0):=by rw [World.cell?_setCell_other _ _ _ _ (by simp)]; exact World.cell?_setCell_same _ _ _ k2
  have c1 : ((W.setCell ⟨w.heap.size, 0, none⟩ (.i 0)).setCell ⟨w.heap.size + 1, 0, none⟩ (.bool false)).cell? ⟨w.heap.size + 1, 0, none⟩ = some (.bool false):=World.cell?_setCell_same _ _ _ (by rw [World.cell?_setCell_other _ _ _ _ (by simp)]; exact k4)
  generalize ((W.setCell ⟨w.heap.size, 0, none⟩ (.i 0)).setCell ⟨w.heap.size + 1, 0, none⟩ (.bool false)) = W3 at *
  have hT : Turn wq.heap.size W3 (W3.putObj D (.deferred none)):=(Turn.refl _ _).putObj _ hD hK2 rfl
  have d0:=hT.cell c0
  have d1:=hT.cell c1
  refine ⟨by simp, .inl ⟨_, _, rfl, run_takeDeferred hK2, ?_⟩⟩
  exact ⟨_, by simp [results, Tryz.results103, go_sem, d0, d1], rfl, hT.below h7 hK0.1.size (Nat.le_refl _)⟩
 case stop =>
  rintro D c W hD ⟨rfl, h0, k1, k2, k3⟩ hKD
  rw [if_pos h0] at hR
  subst hR
  gi_wp2
  have hsq1 : w.heap.size + 2 < D:=by omega
  have hK2 : W.heap[D]? = some (.deferred (some [])):=hKD
  have h7 : Below w.heap.size w W:=k1
  have c0 : W.cell? ⟨w.heap.size, 0, none⟩ = some (.i (q % 16 - 1)):=k2
  have c1 : W.cell? ⟨w.heap.size + 1, 0, none⟩ = some (.bool true):=k3
  generalize W = W3 at *
  have hT : Turn wq.heap.size W3 (W3.putObj D (.deferred none)):=(Turn.refl _ _).putObj _ hD hK2 rfl
  have d0:=hT.cell c0
  have d1:=hT.cell c1
  refine ⟨by simp, .inl ⟨_, _, rfl, run_takeDeferred hK2, ?_⟩⟩
  exact ⟨_, by simp [results, Tryz.results103, go_sem, d0, d1], rfl, hT.below h7 hK0.1.size (Nat.le_refl _)⟩
end Go.Proofs.YteadpgiffpfmnaaGreatDoor.Line
namespace Go.Proofs.YteadpgiffpfmnaaGreatDoor.Ref01
open Go.RowKit Hp
theorem ints_any (w : World) (v1 v2 : Value) (l1 l2 : List Int) (h1 : SliceAt w v1 (l1.map (Value.int .i64))) (h2 : SliceAt w v2 (l2.map (Value.int .i64))) :
  Calls Tryz.prog 18 #[v1, v2] w fun e w' => e = .returned (.bool (decide (l1 = l2))) ∧ ∃ n, w' = w.drewN n:=by
 obtain ⟨a1, c1, rfl, m1, q1⟩:=h1
 obtain ⟨a2, c2, rfl, m2, q2⟩:=h2
 simp only [List.length_map] at m1 m2 ⊢
 unfold maxLen at m1 m2
 by_cases hl : l1.length = l2.length
 ·have hl' : ((l1.length : Int) != (l2.length : Int)) = false:=by simp [hl]
  have Hl:=Lib.hid hl
  clear hl
  go_enter Tryz.func18, Tryz.ntmps18
  go_wp2
  go_loopw [5] (fun i wr => ∃ k : Nat, k ≤ l1.length ∧ i = .i k ∧ l1.take k = l2.take k ∧ ∃ n, wr = w.drewN n) (fun i _ => l1.length - (intOf i).toNat)
  case atStart => exact ⟨0, by omega, rfl, by simp, 0, rfl⟩
  case round =>
   obtain ⟨k, hk, rfl, ht, n, rfl⟩:=hrel
   by_cases hlt : k < l1.length
   ·have hlt2 : k < l2.length:=by have:=Hl.out; omega
    obtain ⟨x, hx⟩ : ∃ x, l1[k]? = some x:=⟨_, List.getElem?_eq_getElem hlt⟩
    obtain ⟨y, hy⟩ : ∃ y, l2[k]? = some y:=⟨_, List.getElem?_eq_getElem hlt2⟩
    rcases q1 with q1 | ⟨g1, o1, rfl, q1⟩
    ·simp at q1; subst q1; simp at hlt
    rcases q2 with q2 | ⟨g2, o2, rfl, q2⟩
    ·simp at q2; subst q2; simp at hlt2
    have e1 : w.cell? ⟨g1, o1 + k, none⟩ = some (.i x):=q1 k _ (by simp [hx])
    have e2 : w.cell? ⟨g2, o2 + k, none⟩ = some (.i y):=q2 k _ (by simp [hy])
    have Ht:=Lib.hid ht
    have Hx:=Lib.hid hx
    have Hy:=Lib.hid hy
    clear ht hx hy q1 q2
    by_cases hxy : x = y
    ·subst hxy
     have hne : (x != x) = false:=by simp
     go_wp2
     go_region
     go_wp2
     go_roundw
     case rel => exact ⟨k + 1, by omega, by go_num, by rw [List.take_add_one, List.take_add_one, Ht.out, Hx.out, Hy.out], n + 1, rfl⟩
     case measure => simp [intOf]; omega
    ·have hne : (x != y) = true:=by simp [hxy]
     have Hxy:=Lib.hid hxy
     clear hxy
     go_wp2
     go_region
     go_wp2
     go_ret
     refine ⟨Base.ret_bool ?_, n + 1, rfl⟩
     symm
     rw [decide_eq_false_iff_not]
     intro h
     have h3:=Hx.out
     rw [h, Hy.out] at h3
     exact Hxy.out (by simpa using h3.symm)
   ·go_wp2
    go_ret
    refine ⟨Base.ret_bool ?_, n, rfl⟩
    symm
    rw [decide_eq_true_eq]
    rwa [List.take_of_length_le (by omega), List.take_of_length_le (by have:=Hl.out; omega)] at ht
 ·have hl' : ((l1.length : Int) != (l2.length : Int)) = true:=by simp; omega
  go_enter Tryz.func18, Tryz.ntmps18
  go_wp2
  go_ret
  refine ⟨Base.ret_bool ?_, 0, rfl⟩
  symm
  rw [decide_eq_false_iff_not]
  intro h; exact hl (by rw [h])
end Go.Proofs.YteadpgiffpfmnaaGreatDoor.Ref01
