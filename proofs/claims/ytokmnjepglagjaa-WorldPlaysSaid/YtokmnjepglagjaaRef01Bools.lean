/- Walks of the references' Bools: whether two lists are one. -/
import Derived.Test.YtokmnjepglagjaaBase
import Derived.Deep.QuietTactic
import Derived.BigQuiet
import Derived.Lib.Hide
namespace Go.Proofs.Ytokmnjepglagjaa.Ref01
set_option linter.unusedVariables false
set_option linter.unusedSimpArgs false
open Go.RowKit Hp

set_option maxHeartbeats 1000000 in
theorem bools_any (w : World) (v1 v2 : Value) (l1 l2 : List Bool) (h1 : SliceAt w v1 (l1.map Value.bool)) (h2 : SliceAt w v2 (l2.map Value.bool)) :
    Calls Try.prog 12 #[v1, v2] w fun e w' => e = .returned (.bool (decide (l1 = l2))) ∧ ∃ n, w' = w.drewN n := by
  obtain ⟨a1, c1, rfl, m1, q1⟩ := h1
  obtain ⟨a2, c2, rfl, m2, q2⟩ := h2
  simp only [List.length_map] at m1 m2 ⊢
  unfold maxLen at m1 m2
  by_cases hl : l1.length = l2.length
  · have hl' : ((l1.length : Int) != (l2.length : Int)) = false := by simp [hl]
    have Hl := Lib.hid hl
    clear hl
    go_enter Try.func12, Try.ntmps12
    go_wp2
    go_loopw [5] (fun i wr => ∃ k : Nat, k ≤ l1.length ∧ i = .int .i64 k ∧ l1.take k = l2.take k ∧ ∃ n, wr = w.drewN n) (fun i _ => l1.length - (intOf i).toNat)
    case atStart => exact ⟨0, by omega, rfl, by simp, 0, rfl⟩
    case round =>
      obtain ⟨k, hk, rfl, ht, n, rfl⟩ := hrel
      by_cases hlt : k < l1.length
      · have hlt2 : k < l2.length := by have := Hl.out; omega
        obtain ⟨x, hx⟩ : ∃ x, l1[k]? = some x := ⟨_, List.getElem?_eq_getElem hlt⟩
        obtain ⟨y, hy⟩ : ∃ y, l2[k]? = some y := ⟨_, List.getElem?_eq_getElem hlt2⟩
        rcases q1 with q1 | ⟨g1, o1, rfl, q1⟩
        · simp at q1; subst q1; simp at hlt
        rcases q2 with q2 | ⟨g2, o2, rfl, q2⟩
        · simp at q2; subst q2; simp at hlt2
        have e1 : w.cell? ⟨g1, o1 + k, none⟩ = some (.bool x) := q1 k _ (by simp [hx])
        have e2 : w.cell? ⟨g2, o2 + k, none⟩ = some (.bool y) := q2 k _ (by simp [hy])
        have Ht := Lib.hid ht
        have Hx := Lib.hid hx
        have Hy := Lib.hid hy
        clear ht hx hy q1 q2
        by_cases hxy : x = y
        · subst hxy
          have HT : l1.take (k + 1) = l2.take (k + 1) := by rw [List.take_add_one, List.take_add_one, Ht.out, Hx.out, Hy.out]
          have HT' := Lib.hid HT
          clear HT
          cases x
          · go_wp2
            go_region
            go_wp2
            go_roundw
            case rel => exact ⟨k + 1, by omega, by go_num, HT'.out, n + 1, rfl⟩
            case measure => simp [intOf]; omega
          · go_wp2
            go_region
            go_wp2
            go_roundw
            case rel => exact ⟨k + 1, by omega, by go_num, HT'.out, n + 1, rfl⟩
            case measure => simp [intOf]; omega
        · have hd : decide (l1 = l2) = false := by
            rw [decide_eq_false_iff_not]
            intro h
            have h3 := Hx.out
            rw [h, Hy.out] at h3
            exact hxy (by simpa using h3.symm)
          have Hd := Lib.hid hd
          clear hd
          cases x <;> cases y
          · exact absurd rfl hxy
          · clear hxy
            go_wp2
            go_region
            go_wp2
            go_ret
            exact ⟨Base.ret_bool Hd.out.symm, n + 1, rfl⟩
          · clear hxy
            go_wp2
            go_region
            go_wp2
            go_ret
            exact ⟨Base.ret_bool Hd.out.symm, n + 1, rfl⟩
          · exact absurd rfl hxy
      · go_wp2
        go_ret
        refine ⟨Base.ret_bool ?_, n, rfl⟩
        symm
        rw [decide_eq_true_eq]
        rwa [List.take_of_length_le (by omega), List.take_of_length_le (by have := Hl.out; omega)] at ht
  · have hl' : ((l1.length : Int) != (l2.length : Int)) = true := by simp; omega
    go_enter Try.func12, Try.ntmps12
    go_wp2
    go_ret
    refine ⟨Base.ret_bool ?_, 0, rfl⟩
    symm
    rw [decide_eq_false_iff_not]
    intro h; exact hl (by rw [h])

theorem boolsAt_at {w : World} {a : Option Addr} {len cap b off : Nat} {l : List Bool} (h : Base.BoolsAt w a len cap b off l) : SliceAt w (.slice a len cap) (l.map Value.bool) := by
  have h1 := h.len_eq
  have h2 := h.len_cap
  have h3 := h.cap_max
  refine ⟨a, cap, by simp [h1], by simp; omega, ?_⟩
  by_cases h0 : len = 0
  · left
    have : l = [] := List.eq_nil_of_length_eq_zero (by omega)
    simp [this]
  · right
    refine ⟨b, off, (h.addr (by omega)).1, fun j u hu => ?_⟩
    rw [List.getElem?_map] at hu
    cases hl : l[j]? with
    | none => simp [hl] at hu
    | some x =>
      simp [hl] at hu
      subst hu
      exact h.cell j x hl
end Go.Proofs.Ytokmnjepglagjaa.Ref01
