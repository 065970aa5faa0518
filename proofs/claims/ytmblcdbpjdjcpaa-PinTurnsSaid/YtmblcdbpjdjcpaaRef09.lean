/- Walks of the reference for pins. -/
import Derived.Test.YtmblcdbpjdjcpaaPinLeast
import Derived.Deep.QuietTactic
import Derived.BigQuiet
namespace Go.Proofs.Ytmblcdbpjdjcpaa.Ref09
set_option linter.unusedVariables false
set_option linter.unusedSimpArgs false
open Go.RowKit Hp Pin

set_option maxHeartbeats 400000 in
theorem blocks_any (w : World) (x e : Int) (hx : x ≤ 9223372036854775807) : Calls Try.prog 11 #[.int .i64 x, .int .i64 e] w fun r w' => r = .returned (.bool (blk x e)) ∧ w = w' := by
  by_cases h : 0 < x
  · by_cases h2 : x - 1 ≤ e
    · go_enter Try.func11, Try.ntmps11
      go_wp2
      go_ret
      exact ⟨Base.ret_bool (by rw [(blk_iff x e).2 ⟨by omega, h2⟩]), rfl⟩
    · go_enter Try.func11, Try.ntmps11
      go_wp2
      go_ret
      exact ⟨Base.ret_bool (by rw [(blk_false x e).2 (by omega)]), rfl⟩
  · go_enter Try.func11, Try.ntmps11
    go_wp2
    go_ret
    exact ⟨Base.ret_bool (by rw [(blk_false x e).2 (by omega)]), rfl⟩

theorem at_cell {w : World} {a : Option Addr} {c : Nat} {l : List Int} (h : SliceAt w (.slice a l.length c) (l.map (Value.int .i64))) {k : Nat} (hk : k < l.length) :
    ∃ g off, a = some ⟨g, off, none⟩ ∧ w.cell? ⟨g, off + k, none⟩ = some (.int .i64 l[k]) := by
  obtain ⟨a', c', he, h1, h2⟩ := h
  injection he with e1 e2 e3
  subst e1
  rcases h2 with h2 | ⟨g, off, rfl, h3⟩
  · simp at h2; subst h2; simp at hk
  · exact ⟨g, off, rfl, h3 k _ (by rw [List.getElem?_map, List.getElem?_eq_getElem hk]; rfl)⟩
theorem at_len {w : World} {a : Option Addr} {c : Nat} {l : List Int} (h : SliceAt w (.slice a l.length c) (l.map (Value.int .i64))) : l.length ≤ 9223372036854775807 := by
  obtain ⟨_, _, _, h1, _⟩ := h
  unfold maxLen at h1; simp at h1; omega

set_option maxHeartbeats 1000000 in
theorem free_any (w : World) (a : Option Addr) (c : Nat) (l : List Int) (self e : Int) (h : SliceAt w (.slice a l.length c) (l.map (Value.int .i64))) (hw : ∀ x ∈ l, W64 x) :
    Calls Try.prog 15 #[.slice a l.length c, .int .i64 self, .int .i64 e] w fun r w' => r = .returned (.bool (!blockedB l self e)) ∧ w = w' := by
  have hlen := at_len h
  go_enter Try.func15, Try.ntmps15
  go_wp2_with fail
  go_loop [7] (fun i => ∃ k : Nat, k ≤ l.length ∧ i = .int .i64 k ∧ ¬ Blocked l self e k) (fun i => l.length - (intOf i).toNat)
  case atStart => exact ⟨0, by omega, rfl, by rintro ⟨j, x, hj, _⟩; omega⟩
  case round =>
    obtain ⟨k, hk, rfl, hnb⟩ := hrel
    by_cases hlt : k < l.length
    · obtain ⟨g, off, rfl, hx⟩ := at_cell h hlt
      have hlk : l[k]? = some l[k] := List.getElem?_eq_getElem hlt
      have hwk := hw _ (List.getElem_mem hlt)
      generalize l[k] = x at hx hlk hwk
      obtain ⟨hw0, hw1⟩ := hwk
      have Hst := Lib.hid (Blocked.step (self := self) (e := e) hlk)
      have Hnb := Lib.hid hnb
      clear hlk hnb
      cases hbk : blk x e
      · go_wp2_with fail
        refine (blocks_any _ _ _ hw1).mono ?_
        rintro r w' ⟨rfl, rfl⟩
        rw [hbk]
        go_wp2_with fail
        go_round
        case rel => exact ⟨k + 1, by omega, by go_num, by
          rw [Hst.out]
          rintro (h | ⟨_, h⟩)
          · exact Hnb.out h
          · rw [hbk] at h; cases h⟩
        case measure => simp [intOf]; omega
      · by_cases hse : (k : Int) = self
        · have hne : ((k : Int) != self) = false := by simp [hse]
          have Hse := Lib.hid hse
          clear hse
          go_wp2_with fail
          refine (blocks_any _ _ _ hw1).mono ?_
          rintro r w' ⟨rfl, rfl⟩
          rw [hbk]
          go_wp2_with fail
          go_round
          case rel => exact ⟨k + 1, by omega, by go_num, by
            rw [Hst.out]
            rintro (h | ⟨h, _⟩)
            · exact Hnb.out h
            · exact h Hse.out⟩
          case measure => simp [intOf]; omega
        · have hne : ((k : Int) != self) = true := by simp [hse]
          have hres := blockedB_true (Hst.out.2 (.inr ⟨hse, hbk⟩))
          have Hres := Lib.hid hres
          clear hres hse
          go_wp2_with fail
          refine (blocks_any _ _ _ hw1).mono ?_
          rintro r w' ⟨rfl, rfl⟩
          rw [hbk]
          go_wp2_with fail
          go_ret
          exact ⟨Base.ret_bool (by rw [Hres.out]; rfl), rfl⟩
    · obtain rfl : k = l.length := by omega
      have Hres := Lib.hid (blockedB_false hnb)
      clear hnb
      go_wp2_with fail
      go_ret
      exact ⟨Base.ret_bool (by rw [Hres.out]; rfl), rfl⟩

def Few (l : List Int) : Prop := (∀ x ∈ l, 0 ≤ x ∧ x ≤ 1099511627777) ∧ l.length ≤ 20

/-- Whether the words may be, and are few: the answer is true just where 'Few' holds. -/
def FewSaid (l : List Int) (w : World) (r : Ending) (w' : World) : Prop := w = w' ∧ ((r = .returned (.bool true) ∧ Few l) ∨ (r = .returned (.bool false) ∧ ¬ Few l))

set_option maxHeartbeats 1000000 in
theorem few_any (w : World) (a : Option Addr) (c : Nat) (l : List Int) (h : SliceAt w (.slice a l.length c) (l.map (Value.int .i64))) :
    Calls Try.prog 8 #[.slice a l.length c] w (FewSaid l w) := by
  have hlen := at_len h
  go_enter Try.func8, Try.ntmps8
  go_wp2_with fail
  go_loop [3] (fun i => ∃ k : Nat, k ≤ l.length ∧ i = .int .i64 k ∧ ∀ j x, j < k → l[j]? = some x → 0 ≤ x ∧ x ≤ 1099511627777) (fun i => l.length - (intOf i).toNat)
  case atStart => exact ⟨0, by omega, rfl, fun j x hj => by omega⟩
  case round =>
    obtain ⟨k, hk, rfl, hall⟩ := hrel
    have Hall := Lib.hid hall
    clear hall
    by_cases hlt : k < l.length
    · obtain ⟨g, off, rfl, hx⟩ := at_cell h hlt
      have hlk : l[k]? = some l[k] := List.getElem?_eq_getElem hlt
      generalize l[k] = x at hx hlk
      have Hlk := Lib.hid hlk
      clear hlk
      by_cases h1 : x < 0
      · go_wp2_with fail
        go_ret
        exact ⟨rfl, .inr ⟨rfl, fun hf => by have := hf.1 x (List.mem_of_getElem? Hlk.out); omega⟩⟩
      · by_cases h2 : 1099511627777 < x
        · go_wp2_with fail
          go_ret
          exact ⟨rfl, .inr ⟨rfl, fun hf => by have := hf.1 x (List.mem_of_getElem? Hlk.out); omega⟩⟩
        · go_wp2_with fail
          go_round
          case rel => exact ⟨k + 1, by omega, by go_num, fun j y hj hy => by
            by_cases hjk : j = k
            · subst hjk; rw [Hlk.out] at hy; cases hy; omega
            · exact Hall.out j y (by omega) hy⟩
          case measure => simp [intOf]; omega
    · have hall' : ∀ x ∈ l, 0 ≤ x ∧ x ≤ 1099511627777 := fun x hx => by
        obtain ⟨j, hj⟩ := List.getElem?_of_mem hx
        exact Hall.out j x (by have := (List.getElem?_eq_some_iff.1 hj).1; omega) hj
      have Ha := Lib.hid hall'
      clear hall'
      by_cases h20 : l.length ≤ 20
      · go_wp2_with fail
        go_ret
        exact ⟨rfl, .inl ⟨Base.ret_bool (by simp; omega), Ha.out, h20⟩⟩
      · go_wp2_with fail
        go_ret
        exact ⟨rfl, .inr ⟨Base.ret_bool (by simp; omega), fun hf => h20 hf.2⟩⟩


/-- Of the first k words none is one that may be and less than x. -/
def noLess (l : List Int) (x : Int) (k : Nat) : Bool := decide (0 < x) && (l.take k).all fun y => !(decide (0 < y) && decide (y < x))
theorem noLess_succ {l : List Int} {x y : Int} {k : Nat} (hy : l[k]? = some y) : noLess l x (k + 1) = (noLess l x k && !(decide (0 < y) && decide (y < x))) := by
  unfold noLess; rw [List.take_add_one, hy]; simp [List.all_append, Bool.and_assoc]
theorem noLess_least {l : List Int} {x : Int} (hx : x ∈ l) (h : noLess l x l.length = true) : IsLeast l (x - 1, true) := by
  unfold noLess at h
  rw [List.take_length] at h
  simp at h
  exact .inr ⟨x, rfl, hx, by omega, fun y hy h1 => by have := h.2 y hy; omega⟩
theorem noLess_none {l : List Int} (h : ∀ (j : Nat) (x : Int), l[j]? = some x → noLess l x l.length = false) : IsLeast l (0, false) := by
  rcases lst_isLeast l with ⟨h1, h2⟩ | ⟨m, h1, h2, h3, h4⟩
  · exact .inl ⟨rfl, h2⟩
  · exfalso
    obtain ⟨j, hj⟩ := List.getElem?_of_mem h2
    have h5 := h j m hj
    have h6 : noLess l m l.length = true := by
      unfold noLess
      rw [List.take_length]
      simp only [Bool.and_eq_true, decide_eq_true_eq, List.all_eq_true, Bool.not_eq_true', Bool.and_eq_false_iff, decide_eq_false_iff_not]
      refine ⟨by omega, fun y hy => ?_⟩
      by_cases hy0 : 0 < y
      · have := h4 y hy (by omega); right; omega
      · exact .inl hy0
    rw [h5] at h6; cases h6

set_option maxHeartbeats 2000000 in
theorem least_any (w : World) (a : Option Addr) (c : Nat) (l : List Int) (h : SliceAt w (.slice a l.length c) (l.map (Value.int .i64))) (hw : ∀ x ∈ l, W64 x) :
    Calls Try.prog 13 #[.slice a l.length c] w fun r w' => r = .returned (.tuple #[.int .i64 (lst l).1, .bool (lst l).2]) ∧ ∃ n, w' = w.drewN n := by
  have hlen := at_len h
  go_enter Try.func13, Try.ntmps13
  go_wp2_with fail
  go_loopw [4] (fun i wr => ∃ k : Nat, k ≤ l.length ∧ i = .int .i64 k ∧ (∀ (j : Nat) (x : Int), j < k → l[j]? = some x → noLess l x l.length = false) ∧ ∃ n, wr = w.drewN n) (fun i _ => l.length - (intOf i).toNat)
  case atStart => exact ⟨0, by omega, rfl, fun j x hj => by omega, 0, rfl⟩
  case round =>
    obtain ⟨k, hk, rfl, hall, n, rfl⟩ := hrel
    have Hall := Lib.hid hall
    clear hall
    by_cases hlt : k < l.length
    · obtain ⟨g, off, rfl, hx⟩ := at_cell h hlt
      have hlk : l[k]? = some l[k] := List.getElem?_eq_getElem hlt
      have hwk := hw _ (List.getElem_mem hlt)
      generalize l[k] = x at hx hlk hwk
      obtain ⟨hw0, hw1⟩ := hwk
      have Hlk := Lib.hid hlk
      clear hlk
      go_wp2_with fail
      go_loopw [5, 6] (fun b i wr => ∃ j : Nat, j ≤ l.length ∧ i = .int .i64 j ∧ b = .bool (noLess l x j) ∧ ∃ n, wr = w.drewN n) (fun _ i _ => l.length - (intOf i).toNat)
      case atStart => exact ⟨0, by omega, rfl, by simp [noLess], n, rfl⟩
      case round =>
        obtain ⟨j, hj, rfl, rfl, n, rfl⟩ := hrel
        by_cases hjl : j < l.length
        · obtain ⟨g2, off2, he2, hy⟩ := at_cell h hjl
          cases he2
          have hlj : l[j]? = some l[j] := List.getElem?_eq_getElem hjl
          generalize l[j] = y at hy hlj
          have Hst := Lib.hid (noLess_succ (x := x) hlj)
          clear hlj
          generalize hB : noLess l x j = B
          rw [hB] at Hst
          clear hB
          have hj1 : (0 : Int) ≤ (j : Int) := by omega
          have hj2 : (j : Int) < (l.length : Int) := by omega
          have hk1 : (0 : Int) ≤ (k : Int) := by omega
          have hk2 : (k : Int) < (l.length : Int) := by omega
          by_cases h1 : 0 < y
          · by_cases h2 : y < x
            · have hB2 : (B && !(decide (0 < y) && decide (y < x))) = false := by simp [h1, h2]
              rw [hB2] at Hst
              clear hB2
              go_wp2_with fail
              go_quiet (fail)
              go_wp2_with fail
              go_roundw
              case rel => exact ⟨j + 1, by omega, by go_num, by rw [Hst.out], _, rfl⟩
              case measure => simp [intOf]; omega
            · have hB2 : (B && !(decide (0 < y) && decide (y < x))) = B := by simp [h2]
              rw [hB2] at Hst
              clear hB2
              go_wp2_with fail
              go_quiet (fail)
              go_wp2_with fail
              go_roundw
              case rel => exact ⟨j + 1, by omega, by go_num, by rw [Hst.out], _, rfl⟩
              case measure => simp [intOf]; omega
          · have hB2 : (B && !(decide (0 < y) && decide (y < x))) = B := by simp [h1]
            have hd : decide (0 < y) = false := by simpa using h1
            rw [hB2] at Hst
            clear hB2
            go_wp2_with fail
            go_quiet (fail)
            go_wp2_with fail
            go_roundw
            case rel => exact ⟨j + 1, by omega, by go_num, by rw [Hst.out], _, rfl⟩
            case measure => simp [intOf]; omega
        · obtain rfl : j = l.length := by omega
          cases hN : noLess l x l.length
          · go_wp2_with fail
            go_roundw
            case rel => exact ⟨k + 1, by omega, by go_num, fun j y hj hy => by
              by_cases hjk : j = k
              · subst hjk; rw [Hlk.out] at hy; cases hy; exact hN
              · exact Hall.out j y (by omega) hy, _, rfl⟩
            case measure => simp [intOf]; omega
          · have hle := (lst_isLeast l).unique (noLess_least (List.mem_of_getElem? Hlk.out) hN)
            have h1 : 1 ≤ x := by unfold noLess at hN; simp at hN; omega
            have Hle := Lib.hid hle
            clear hle
            go_wp2_with fail
            go_ret2
            exact ⟨by rw [Hle.out]; rfl, _, rfl⟩
    · have hle := (lst_isLeast l).unique (noLess_none fun j x hj => Hall.out j x (by have := (List.getElem?_eq_some_iff.1 hj).1; omega) hj)
      have Hle := Lib.hid hle
      clear hle
      go_wp2_with fail
      go_ret2
      exact ⟨by rw [Hle.out]; rfl, _, rfl⟩

end Go.Proofs.Ytmblcdbpjdjcpaa.Ref09
