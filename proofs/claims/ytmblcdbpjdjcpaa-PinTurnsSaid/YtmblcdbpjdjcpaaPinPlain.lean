/- Pins in plain Lean: what blocks, what is free, the least epoch. No program is named. -/
import Derived.Test.YtmblcdbpjdjcpaaBase
namespace Go.Proofs.Ytmblcdbpjdjcpaa.Pin
set_option linter.unusedVariables false
set_option linter.unusedSimpArgs false

/-- A word blocks an epoch. -/
def blk (word epoch : Int) : Bool := decide (1 ≤ word ∧ word - 1 ≤ epoch)
theorem blk_iff (x e : Int) : blk x e = true ↔ 1 ≤ x ∧ x - 1 ≤ e := by unfold blk; simp
theorem blk_false (x e : Int) : blk x e = false ↔ ¬ (1 ≤ x ∧ x - 1 ≤ e) := by unfold blk; simp

/-- Of the first i words, but the one at self, one blocks. -/
def Blocked (l : List Int) (self e : Int) (i : Nat) : Prop := ∃ j x, j < i ∧ l[j]? = some x ∧ (j : Int) ≠ self ∧ blk x e = true
noncomputable def blockedB (l : List Int) (self e : Int) : Bool := @decide (Blocked l self e l.length) (Classical.propDecidable _)
theorem blockedB_iff {l : List Int} {self e : Int} : blockedB l self e = true ↔ Blocked l self e l.length := by
  unfold blockedB; exact @decide_eq_true_iff _ (Classical.propDecidable _)
theorem blockedB_true {l : List Int} {self e : Int} {i : Nat} (h : Blocked l self e i) : blockedB l self e = true := by
  rw [blockedB_iff]
  obtain ⟨j, x, hj, hx, r⟩ := h
  exact ⟨j, x, (List.getElem?_eq_some_iff.1 hx).1, hx, r⟩
theorem blockedB_false {l : List Int} {self e : Int} (h : ¬ Blocked l self e l.length) : blockedB l self e = false := by
  rw [← Bool.not_eq_true, blockedB_iff]; exact h
theorem blockedB_out {l : List Int} {self e : Int} (hs : ∀ j : Nat, j < l.length → (j : Int) ≠ self) : blockedB l self e = true ↔ ∃ x ∈ l, blk x e = true := by
  rw [blockedB_iff]
  constructor
  · rintro ⟨j, x, hj, hx, _, h⟩
    exact ⟨x, List.mem_of_getElem? hx, h⟩
  · rintro ⟨x, hx, h⟩
    obtain ⟨j, hj⟩ := List.getElem?_of_mem hx
    have := (List.getElem?_eq_some_iff.1 hj).1
    exact ⟨j, x, this, hj, hs j this, h⟩
theorem Blocked.step {l : List Int} {self e : Int} {i : Nat} {x : Int} (hx : l[i]? = some x) : Blocked l self e (i + 1) ↔ Blocked l self e i ∨ ((i : Int) ≠ self ∧ blk x e = true) := by
  constructor
  · rintro ⟨j, y, hj, hy, r⟩
    by_cases h : j = i
    · subst h; rw [hx] at hy; cases hy; exact .inr r
    · exact .inl ⟨j, y, by omega, hy, r⟩
  · rintro (⟨j, y, hj, hy, r⟩ | r)
    · exact ⟨j, y, by omega, hy, r⟩
    · exact ⟨i, x, by omega, hx, r⟩

/-- The least epoch, and whether there is one. -/
def lstStep (a : Int × Bool) (x : Int) : Int × Bool := if x < 1 then a else if !a.2 || decide (x - 1 < a.1) then (x - 1, true) else a
def lst (l : List Int) : Int × Bool := l.foldl lstStep (0, false)
theorem lst_take_succ {l : List Int} {i : Nat} {x : Int} (hx : l[i]? = some x) : lst (l.take (i + 1)) = lstStep (lst (l.take i)) x := by
  unfold lst; rw [List.take_add_one, hx]; simp [List.foldl_append]

def IsLeast (l : List Int) (r : Int × Bool) : Prop :=
  (r = (0, false) ∧ ∀ x ∈ l, x < 1) ∨ ∃ m, r = (m - 1, true) ∧ m ∈ l ∧ 1 ≤ m ∧ ∀ x ∈ l, 1 ≤ x → m ≤ x
theorem IsLeast.unique {l : List Int} {r r' : Int × Bool} (h : IsLeast l r) (h' : IsLeast l r') : r = r' := by
  rcases h with ⟨rfl, h⟩ | ⟨m, rfl, h1, h2, h3⟩
  · rcases h' with ⟨rfl, _⟩ | ⟨m, rfl, h1, h2, _⟩
    · rfl
    · have := h m h1; omega
  · rcases h' with ⟨rfl, h⟩ | ⟨m', rfl, h1', h2', h3'⟩
    · have := h m h1; omega
    · have e1 := h3 m' h1' h2'
      have e2 := h3' m h1 h2
      have : m = m' := by omega
      rw [this]
theorem lst_append (l : List Int) (x : Int) : lst (l ++ [x]) = lstStep (lst l) x := by unfold lst; simp [List.foldl_append]
theorem isLeast_step {l : List Int} {r : Int × Bool} (h : IsLeast l r) (x : Int) : IsLeast (l ++ [x]) (lstStep r x) := by
  unfold lstStep
  rcases h with ⟨rfl, h⟩ | ⟨m, rfl, h1, h2, h3⟩
  · by_cases hx : x < 1
    · rw [if_pos hx]
      exact .inl ⟨rfl, fun y hy => by
        rcases List.mem_append.1 hy with hy | hy
        · exact h y hy
        · simp at hy; omega⟩
    · rw [if_neg hx, if_pos (by simp)]
      exact .inr ⟨x, rfl, by simp, by omega, fun y hy h1 => by
        rcases List.mem_append.1 hy with hy | hy
        · have := h y hy; omega
        · simp at hy; omega⟩
  · by_cases hx : x < 1
    · rw [if_pos hx]
      exact .inr ⟨m, rfl, by simp [h1], h2, fun y hy h4 => by
        rcases List.mem_append.1 hy with hy | hy
        · exact h3 y hy h4
        · simp at hy; omega⟩
    · rw [if_neg hx]
      by_cases hlt : x - 1 < m - 1
      · rw [if_pos (by simp; omega)]
        exact .inr ⟨x, rfl, by simp, by omega, fun y hy h4 => by
          rcases List.mem_append.1 hy with hy | hy
          · have := h3 y hy h4; omega
          · simp at hy; omega⟩
      · rw [if_neg (by simp; omega)]
        exact .inr ⟨m, rfl, by simp [h1], h2, fun y hy h4 => by
          rcases List.mem_append.1 hy with hy | hy
          · exact h3 y hy h4
          · simp at hy; omega⟩
theorem lst_take_isLeast (l : List Int) : ∀ n, n ≤ l.length → IsLeast (l.take n) (lst (l.take n))
  | 0, _ => .inl ⟨rfl, fun x h => by simp at h⟩
  | n + 1, h => by
    have hx : l[n]? = some l[n] := List.getElem?_eq_getElem (by omega)
    rw [lst_take_succ hx, List.take_add_one, hx]
    exact isLeast_step (lst_take_isLeast l n (by omega)) _
theorem lst_isLeast (l : List Int) : IsLeast l (lst l) := by
  have := lst_take_isLeast l l.length (Nat.le_refl _)
  rwa [List.take_length] at this
theorem lst_bd {l : List Int} (hw : ∀ x ∈ l, -9223372036854775808 ≤ x ∧ x ≤ 9223372036854775807) : 0 ≤ (lst l).1 ∧ (lst l).1 ≤ 9223372036854775806 := by
  rcases lst_isLeast l with ⟨h, _⟩ | ⟨m, h, h1, h2, _⟩
  · rw [h]; decide
  · have := hw m h1
    rw [h]; simp only; omega
end Go.Proofs.Ytmblcdbpjdjcpaa.Pin
