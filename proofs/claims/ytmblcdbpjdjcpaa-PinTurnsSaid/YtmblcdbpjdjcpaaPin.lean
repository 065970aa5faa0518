/- Walks of package pin. -/
import Derived.Test.YtmblcdbpjdjcpaaPinPlain
import Derived.Test.YtmblcdbpjdjcpaaRange
import Derived.Lib.Hide
namespace Go.Proofs.Ytmblcdbpjdjcpaa.Pin
set_option linter.unusedVariables false
set_option linter.unusedSimpArgs false
open Go.RowKit Go.Shelf Hp Rng
attribute [local go_sem] Oper.semAt_some

def W64 (x : Int) : Prop := -9223372036854775808 ≤ x ∧ x ≤ 9223372036854775807

set_option maxHeartbeats 400000 in
theorem word_any (w : World) (e : Int) (h0 : 0 ≤ e) (h1 : e ≤ 4611686018427387904) : Calls Try.prog 16 #[.int .i64 e] w fun r w' => r = .returned (.int .i64 (e + 1)) ∧ w = w' := by
  go_enter Try.func16, Try.ntmps16
  go_wp2
  go_ret
  exact ⟨rfl, rfl⟩

set_option maxHeartbeats 400000 in
theorem epoch_yes (w : World) (x : Int) (h : 1 ≤ x) (hx : x ≤ 9223372036854775807) : Calls Try.prog 9 #[.int .i64 x] w fun r w' => r = .returned (.tuple #[.int .i64 (x - 1), .bool true]) ∧ w = w' := by
  go_enter Try.func9, Try.ntmps9
  go_wp2
  go_ret2
  exact ⟨rfl, rfl⟩
set_option maxHeartbeats 400000 in
theorem epoch_no (w : World) (x : Int) (h : x < 1) : Calls Try.prog 9 #[.int .i64 x] w fun r w' => r = .returned (.tuple #[.int .i64 0, .bool false]) ∧ w = w' := by
  go_enter Try.func9, Try.ntmps9
  go_wp2
  go_ret2
  exact ⟨rfl, rfl⟩

set_option maxHeartbeats 400000 in
theorem blocks_any (w : World) (x e : Int) (hx : x ≤ 9223372036854775807) : Calls Try.prog 10 #[.int .i64 x, .int .i64 e] w fun r w' => r = .returned (.bool (blk x e)) ∧ w = w' := by
  by_cases h : 1 ≤ x
  · by_cases h2 : x - 1 ≤ e
    · go_enter Try.func10, Try.ntmps10
      go_wp2_with (go_at_call 9; refine (epoch_yes _ _ h hx).mono ?_; rintro r w' ⟨rfl, rfl⟩)
      go_ret
      exact ⟨Base.ret_bool (by symm; simp [blk_iff]; omega), rfl⟩
    · go_enter Try.func10, Try.ntmps10
      go_wp2_with (go_at_call 9; refine (epoch_yes _ _ h hx).mono ?_; rintro r w' ⟨rfl, rfl⟩)
      go_ret
      exact ⟨Base.ret_bool (by rw [(blk_false x e).2 (by omega)]; simp; omega), rfl⟩
  · go_enter Try.func10, Try.ntmps10
    go_wp2_with (go_at_call 9; refine (epoch_no _ _ (by omega)).mono ?_; rintro r w' ⟨rfl, rfl⟩)
    go_ret
    exact ⟨Base.ret_bool (by rw [(blk_false x e).2 (by omega)]), rfl⟩

set_option maxHeartbeats 400000 in
theorem pinned_any (w : World) (a : Option Addr) (n c : Nat) : Calls Try.prog 17 #[.slice a n c] w fun r w' =>
    r = .returned (.func (.func 19) #[] #[.pointer (some ⟨w.heap.size, 0, none⟩)]) ∧ w' = w.alloc (.cells #[.slice a n c] 22) := by
  go_enter Try.func17, Try.ntmps17
  go_wp2
  go_ret
  exact ⟨rfl, rfl⟩

def Rd (a : Option Addr) (n c : Nat) (k : Nat) : Prop := 0 < n ∧ Fp (.slice a n c) k
def Skips (l : List Int) (i : Nat) (_ : World) (i' : Nat) : Prop := i' = i + 1 ∧ ∃ x, l[i]? = some x ∧ x < 1
def Yields (l : List Int) (i : Nat) (_ : World) (x : Nat × Int) (i' : Nat) : Prop := i' = i + 1 ∧ x.1 = i ∧ l[i]? = some x.2 ∧ 1 ≤ x.2

set_option maxHeartbeats 2000000 in
theorem pinned_seq (bx : Nat) (a : Option Addr) (c : Nat) (l : List Int) (W : World) (h : SliceAt W (.slice a l.length c) (l.map (Value.int .i64))) (hw : ∀ x ∈ l, W64 x) (hb : W.cell? ⟨bx, 0, none⟩ = some (.slice a l.length c)) :
    SeqAt Try.prog 19 #[.pointer (some ⟨bx, 0, none⟩)] (fun x : Nat × Int => #[.int .i64 (x.1 : Int), .int .i64 x.2]) (fun (_ : Nat) _ => True) (Rd a l.length c) (fun _ => False) (Skips l) (Yields l) (fun i _ => i = l.length) 0 W := by
  intro L J Jx _ hJs hJk hY h0
  have hlen : l.length ≤ 9223372036854775807 := by
    obtain ⟨_, _, _, h1, _⟩ := h
    unfold maxLen at h1; simp at h1; omega
  refine callsIn_of_wp Try.func19 rfl trivial ?_ rfl
  simp only [Try.ntmps19, List.size_toArray, List.length_cons, List.length_nil, Nat.reduceAdd, Nat.reduceSub, Array.replicate_succ, Array.replicate_zero, List.push_toArray, List.append_toArray, List.nil_append, List.cons_append]
  gi_wp2
  gi_loopw [9] (fun i wr => ∃ k : Nat, k ≤ l.length ∧ i = .int .i64 k ∧ SliceAt wr (.slice a l.length c) (l.map (Value.int .i64)) ∧ J k wr) (fun i _ => l.length - (intOf i).toNat)
  case atStart => exact ⟨0, by omega, rfl, h, h0⟩
  case round =>
    obtain ⟨k, hk, rfl, hat, hj⟩ := hrel
    by_cases hlt : k < l.length
    · have hlk : l[k]? = some l[k] := List.getElem?_eq_getElem hlt
      have hwk := hw _ (List.getElem_mem hlt)
      generalize l[k] = x at hlk hwk
      obtain ⟨hw0, hw1⟩ := hwk
      obtain ⟨a', c', he, h1, h2⟩ := id hat
      injection he with e1 e2 e3
      subst e1
      subst e3
      clear e2
      rcases h2 with h2 | ⟨g, off, rfl, h3⟩
      · simp at h2; subst h2; simp at hlt
      have hx : wr.cell? ⟨g, off + k, none⟩ = some (.int .i64 x) := h3 k _ (by rw [List.getElem?_map, hlk]; rfl)
      have Hlk := Lib.hid hlk
      clear h1 h3
      by_cases hpos : x < 1
      · have hj2 := hJk k (k + 1) wr hj ⟨rfl, x, hlk, hpos⟩
        clear hlk
        gi_wp2_with fail
        refine ⟨trivial, (callsIn_wide.2 (epoch_no _ _ hpos)).mono ?_⟩
        rintro r w' ⟨rfl, rfl⟩
        gi_wp2_with fail
        refine ⟨fun _ h => (by cases h), ?_⟩
        gi_wp2
        go_roundw
        case rel => exact ⟨k + 1, by omega, by go_num, hat, hj2⟩
        case measure => simp [intOf]; omega
      · have hpos' : 1 ≤ x := by omega
        obtain ⟨fn, tmps, assign, body, hy, hR⟩ := hY k (k, x) (k + 1) wr hj ⟨rfl, rfl, hlk, hpos'⟩
        dsimp only at hy
        clear hlk
        gi_wp2_with fail
        refine ⟨trivial, (callsIn_wide.2 (epoch_yes _ _ hpos' hw1)).mono ?_⟩
        rintro r w' ⟨rfl, rfl⟩
        gi_wp2
        refine hR.mono ?_
        rintro e W3 (⟨rfl, hJ3, hs3, hk3⟩ | ⟨rfl, hJx3⟩)
        · have hat3 : SliceAt W3 (.slice (some ⟨g, off, none⟩) l.length c) (l.map (Value.int .i64)) := by
            obtain ⟨a2, c2, he2, q1, q2⟩ := hat
            injection he2 with e1 e2 e3
            subst e1
            subst e3
            refine ⟨some ⟨g, off, none⟩, c, by simp, q1, q2.imp id ?_⟩
            rintro ⟨g2, o2, he3, q3⟩
            cases he3
            refine ⟨g, off, rfl, fun j u hu => ?_⟩
            exact (World.cell?_of_block (w := wr) (hk3 g (.inl ⟨by omega, _, _, _, rfl, rfl⟩))).trans (q3 j u hu)
          clear hx
          gi_wp2
          go_roundw
          case rel => exact ⟨k + 1, by omega, by go_num, hat3, hJ3⟩
          case measure => simp [intOf]; omega
        · gi_wp2
          refine bodyPost_ret (results_none rfl _ _ _) rfl ?_
          exact ⟨⟨_, rfl⟩, .inr hJx3⟩
    · gi_wp2
      go_end0
      exact ⟨⟨_, rfl⟩, .inl ⟨k, by omega, hj⟩⟩
end Go.Proofs.Ytmblcdbpjdjcpaa.Pin
