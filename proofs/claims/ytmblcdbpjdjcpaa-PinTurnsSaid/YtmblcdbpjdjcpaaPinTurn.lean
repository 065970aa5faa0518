/- A list of the law's own that grows one by one; a turn of a list. -/
import Derived.Test.YtmblcdbpjdjcpaaPinMore
namespace Go.Proofs.Ytmblcdbpjdjcpaa.Pin
set_option linter.unusedVariables false
set_option linter.unusedSimpArgs false
open Go.RowKit Hp

/-- A list that lies in memory newer than w. -/
structure Mine (w : World) (v : Value) (xs : List Int) (W : World) : Prop where
  below : Below w.heap.size w W
  own : OwnS W v xs.length 1 (xs.map (Value.int .i64))
  fresh : ∀ k, Fp v k → w.heap.size ≤ k
theorem Mine.cur {w W : World} {v : Value} {xs : List Int} (h : Mine w v xs W) : Cur w v xs W := ⟨h.below, h.own.at⟩
theorem Mine.nil {w W : World} (h : Below w.heap.size w W) : Mine w (.slice none 0 0) [] W := ⟨h, ownS_nil _ _, fun k hk => absurd hk (fp_nil _)⟩
theorem Mine.push {w W : World} {a : Option Addr} {c : Nat} {xs : List Int} (h : Mine w (.slice a xs.length c) xs W) (o : Obj) {x : Int} {a' : Option Addr} {c' : Nat} {w' : World}
    (hown : OwnS w' (.slice a' (xs.length + 1) c') (xs.length + 1) 1 (xs.map (Value.int .i64) ++ [.int .i64 x]))
    (hfp : ∀ k, Fp (.slice a' (xs.length + 1) c') k → Fp (.slice a xs.length c) k ∨ W.heap.size + 1 ≤ k)
    (hch : Chg (Fp (.slice a xs.length c)) (W.alloc o) w') : Mine w (.slice a' (xs ++ [x]).length c') (xs ++ [x]) w' := by
  have hs := h.below.size
  refine ⟨?_, by simpa using hown, fun k hk => ?_⟩
  · have b1 : Chg (fun i => w.heap.size ≤ i) W w' := Chg.trans ((Chg.refl _ W).alloc o) hch (fun i hi hF => h.fresh i hF)
    exact h.below.trans (Chg.below b1 hs fun i hi => hi)
  · rcases hfp k (by simpa using hk) with h' | h'
    · exact h.fresh k h'
    · omega
theorem Mine.copied {w W : World} {v : Value} {xs : List Int} (h : Cur w v xs W) (T : TypeId) {a' : Option Addr} {c' : Nat} {w' : World} {l : List Int}
    (hown : OwnS w' (.slice a' l.length c') l.length 1 (l.map (Value.int .i64))) (hfp : ∀ k, Fp (.slice a' l.length c') k → Fp (.slice (some ⟨W.heap.size, 0, none⟩) 0 0) k ∨ W.heap.size + 1 ≤ k)
    (hch : Chg (Fp (.slice (some ⟨W.heap.size, 0, none⟩) 0 0)) (W.alloc (.cells #[] T)) w') : Mine w (.slice a' l.length c') l w' := by
  have hs := h.1.size
  refine ⟨?_, hown, fun k hk => ?_⟩
  · have b1 : Chg (fun i => W.heap.size ≤ i) W w' := Chg.trans ((Chg.refl _ W).alloc (.cells #[] T)) hch (fun i hi hF => by
      have := (fp_some _ _ _ _).1 hF
      simp at this; omega)
    exact h.1.trans ((Chg.below b1 (Nat.le_refl _) fun i hi => hi).mono hs)
  · rcases hfp k hk with h' | h'
    · have := (fp_some _ _ _ _).1 h'; simp at this; omega
    · omega

def Turn (l : List Int) (b : Nat) (xs : List Int) : Prop := xs.length ≤ l.length ∧ ∀ j, j < xs.length → xs[j]? = l[(j + b) % l.length]?
theorem Turn.nil (l : List Int) (b : Nat) : Turn l b [] := ⟨by simp, fun j hj => by simp at hj⟩
theorem Turn.push {l xs : List Int} {b : Nat} {x : Int} (h : Turn l b xs) (hlt : xs.length < l.length) (hx : l[(xs.length + b) % l.length]? = some x) : Turn l b (xs ++ [x]) := by
  refine ⟨by simp; omega, fun j hj => ?_⟩
  by_cases e : j < xs.length
  · rw [List.getElem?_append_left e]; exact h.2 j e
  · obtain rfl : j = xs.length := by simp at hj; omega
    rw [hx]; simp
theorem Turn.mem {l xs : List Int} {b : Nat} (h : Turn l b xs) {x : Int} (hx : x ∈ xs) : x ∈ l := by
  obtain ⟨j, hj, rfl⟩ := List.getElem_of_mem hx
  have h1 := h.2 j hj
  rw [List.getElem?_eq_getElem hj] at h1
  exact List.mem_of_getElem? h1.symm
theorem Turn.all {l xs : List Int} {b : Nat} (h : Turn l b xs) (hn : l.length ≤ xs.length) (x : Int) : x ∈ xs ↔ x ∈ l := by
  refine ⟨h.mem, fun hx => ?_⟩
  obtain ⟨m, hm, rfl⟩ := List.getElem_of_mem hx
  have hp : 0 < l.length := by omega
  have hb := Nat.mod_lt b hp
  have hj := Nat.mod_lt (m + (l.length - b % l.length)) hp
  have h1 := h.2 ((m + (l.length - b % l.length)) % l.length) (by omega)
  have e : ((m + (l.length - b % l.length)) % l.length + b) % l.length = m := by
    rw [Nat.mod_add_mod, Nat.add_assoc]
    have : l.length - b % l.length + b = l.length * (b / l.length + 1) := by
      have := Nat.div_add_mod b l.length
      rw [Nat.mul_add, Nat.mul_one]; omega
    rw [this, Nat.add_mul_mod_self_left, Nat.mod_eq_of_lt hm]
  rw [e, List.getElem?_eq_getElem hm] at h1
  exact List.mem_of_getElem? h1
theorem tmod_nat (k : Nat) {d : Int} (hd : 0 ≤ d) (n : Nat) : Int.tmod ((k : Int) + d) (n : Int) = (((k + d.toNat) % n : Nat) : Int) := by
  obtain ⟨m, rfl⟩ := Int.eq_ofNat_of_zero_le hd
  simp only [Int.ofNat_eq_natCast, Int.toNat_natCast]
  rw [Int.tmod_eq_emod_of_nonneg (by omega)]
  simp
theorem lst_nonneg (l : List Int) (hw : ∀ x ∈ l, W64 x) : 0 ≤ (lst l).1 := (lst_bd hw).1
end Go.Proofs.Ytmblcdbpjdjcpaa.Pin
