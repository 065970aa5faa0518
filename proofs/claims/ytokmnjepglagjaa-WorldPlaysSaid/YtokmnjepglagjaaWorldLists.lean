/- Lists that the world's laws speak of. -/
import Derived.Test.YtokmnjepglagjaaWorldTold
import Derived.Test.YtokmnjepglagjaaRef01Bools
namespace Go.Proofs.Ytokmnjepglagjaa.World11
set_option linter.unusedVariables false
set_option linter.unusedSimpArgs false
open Go.RowKit Hp

theorem drop_take_append (l : List Bool) (H N : Nat) : (l.take H).drop N ++ l.drop H = l.drop (min N H) := by
  by_cases h : N ≤ H
  · rw [Nat.min_eq_left h, List.drop_take]
    have : l.drop H = (l.drop N).drop (H - N) := by rw [List.drop_drop]; congr 1; omega
    rw [this, List.take_append_drop]
  · rw [Nat.min_eq_right (by omega), List.drop_eq_nil_of_le (by simp; omega), List.nil_append]
theorem take_drop_cons {l : List Bool} {H j : Nat} {x : Bool} (hx : l[j]? = some x) (hj : j < H) : (l.take H).drop j = x :: (l.take H).drop (j + 1) := by
  have hlt := (List.getElem?_eq_some_iff.1 hx).1
  have h2 : j < (l.take H).length := by simp; omega
  rw [List.drop_eq_getElem_cons h2]
  congr 1
  have := (List.getElem?_eq_some_iff.1 hx).2
  simpa using this
theorem take_drop_nil (l : List Bool) {H j : Nat} (hj : H ≤ j) : (l.take H).drop j = [] := List.drop_eq_nil_of_le (by simp; omega)
theorem take_push {l : List Bool} {j : Nat} {x : Bool} (hx : l[j]? = some x) : l.take j ++ [x] = l.take (j + 1) := by rw [List.take_add_one, hx]; rfl
end Go.Proofs.Ytokmnjepglagjaa.World11
