/- Two lines side by side, package ring's and the reference's, that a law has made. -/
import Derived.Test.YtbkoccpgbhnncaaRef03
import Derived.Test.YtbkoccpgbhnncaaRef01
namespace Go.Proofs.Ytbkoccpgbhnncaa.RingLaws
set_option linter.unusedVariables false
set_option linter.unusedSimpArgs false
open Go.RowKit Hp

def Two (w : World) (rb sb : Nat) (l1 l2 : List Int) (room : Int) (W : World) : Prop :=
  ∃ v v', RingInt.At W rb v l1 room ∧ RingInt.At W sb v' l2 room ∧ (∀ k, RingInt.fp rb v k → ¬ RingInt.fp sb v' k) ∧ (∀ k, RingInt.fp rb v k → w.heap.size ≤ k) ∧ (∀ k, RingInt.fp sb v' k → w.heap.size ≤ k) ∧ Below w.heap.size w W

theorem Two.below {w : World} {rb sb : Nat} {l1 l2 : List Int} {room : Int} {W : World} (h : Two w rb sb l1 l2 room W) : Below w.heap.size w W := by
  obtain ⟨v, v', _, _, _, _, _, h⟩ := h; exact h
theorem Two.drewN {w : World} {rb sb : Nat} {l1 l2 : List Int} {room : Int} {W : World} (h : Two w rb sb l1 l2 room W) (n : Nat) : Two w rb sb l1 l2 room (W.drewN n) := by
  obtain ⟨v, v', h1, h2, h3, h4, h5, h6⟩ := h
  exact ⟨v, v', h1.stable (Nat.le_refl _) fun _ _ => rfl, h2.stable (Nat.le_refl _) fun _ _ => rfl, h3, h4, h5, ⟨h6.os, h6.tape, h6.output, h6.size, h6.block⟩⟩
theorem Two.later {w : World} {rb sb : Nat} {l1 l2 : List Int} {room : Int} {W W' : World} (h : Two w rb sb l1 l2 room W) (hb : Below W.heap.size W W') : Two w rb sb l1 l2 room W' := by
  obtain ⟨v, v', h1, h2, h3, h4, h5, h6⟩ := h
  exact ⟨v, v', h1.stable hb.size fun k hk => hb.block k (h1.lt hk), h2.stable hb.size fun k hk => hb.block k (h2.lt hk), h3, h4, h5, h6.trans (hb.mono h6.size)⟩
theorem Two.swap {w : World} {rb sb : Nat} {l1 l2 : List Int} {room : Int} {W : World} (h : Two w rb sb l1 l2 room W) : Two w sb rb l2 l1 room W := by
  obtain ⟨v, v', h1, h2, h3, h4, h5, h6⟩ := h
  exact ⟨v', v, h2, h1, fun k h h' => h3 k h' h, h5, h4, h6⟩

/-- A step of the first one. -/
theorem Two.step {w : World} {rb sb : Nat} {v v' : Value} {l1 l2 l : List Int} {room : Int} {W W' : World} {ans : Value} {e : Ending} (h1 : RingInt.At W rb v l1 room) (h2 : RingInt.At W sb v' l2 room)
    (h3 : ∀ k, RingInt.fp rb v k → ¬ RingInt.fp sb v' k) (h4 : ∀ k, RingInt.fp rb v k → w.heap.size ≤ k) (h5 : ∀ k, RingInt.fp sb v' k → w.heap.size ≤ k) (h6 : Below w.heap.size w W)
    (hp : RingInt.Post W rb v ans l room e W') : e = .returned ans ∧ Two w rb sb l l2 room W' := by
  obtain ⟨rfl, v1, g1, g2, g3⟩ := hp
  refine ⟨rfl, v1, v', g1, h2.chg g3 (fun k hk hk' => h3 k hk' hk), fun k hk hk' => ?_, fp_new _ _ g2 h4 h6.size, h5, h6.trans (g3.below h6.size h4)⟩
  rcases hk with rfl | hk
  · exact h3 _ (.inl rfl) hk'
  · rcases g2 k hk with h | h
    · exact h3 k (.inr h) hk'
    · have := h2.lt hk'; omega

section
variable {w : World} {rb sb : Nat} {l1 l2 : List Int} {room : Int} {W : World} (h : Two w rb sb l1 l2 room W)
include h
theorem Two.push_yes (x : Int) (hl : (l1.length : Int) < room) : Calls Try.prog 11 #[.pointer (some ⟨rb, 0, none⟩), .int .i64 x] W fun e W' => e = .returned (.bool true) ∧ Two w rb sb (l1 ++ [x]) l2 room W' := by
  obtain ⟨v, v', h1, h2, h3, h4, h5, h6⟩ := h
  exact (RingInt.push_yes W rb v l1 room x h1 hl).mono fun e W' hp => Two.step h1 h2 h3 h4 h5 h6 hp
theorem Two.push_no (x : Int) (hl : room ≤ (l1.length : Int)) : Calls Try.prog 11 #[.pointer (some ⟨rb, 0, none⟩), .int .i64 x] W fun e W' => e = .returned (.bool false) ∧ Two w rb sb l1 l2 room W' := by
  obtain ⟨v, v', h1, h2, h3, h4, h5, h6⟩ := h
  exact (RingInt.push_no W rb v l1 room x h1 hl).mono fun e W' hp => Two.step h1 h2 h3 h4 h5 h6 hp
theorem Two.ref_yes (x : Int) (hl : (l2.length : Int) < room) : Calls Try.prog 24 #[.pointer (some ⟨sb, 0, none⟩), .int .i64 x] W fun e W' => e = .returned (.bool true) ∧ Two w rb sb l1 (l2 ++ [x]) room W' := by
  obtain ⟨v, v', h1, h2, h3, h4, h5, h6⟩ := h
  exact (Ref03.push_yes W sb v' l2 room x h2 hl).mono fun e W' hp => let ⟨a, b⟩ := Two.step h2 h1 (fun k h h' => h3 k h' h) h5 h4 h6 hp; ⟨a, b.swap⟩
theorem Two.ref_no (x : Int) (hl : room ≤ (l2.length : Int)) : Calls Try.prog 24 #[.pointer (some ⟨sb, 0, none⟩), .int .i64 x] W fun e W' => e = .returned (.bool false) ∧ Two w rb sb l1 l2 room W' := by
  obtain ⟨v, v', h1, h2, h3, h4, h5, h6⟩ := h
  exact (Ref03.push_no W sb v' l2 room x h2 hl).mono fun e W' hp => let ⟨a, b⟩ := Two.step h2 h1 (fun k h h' => h3 k h' h) h5 h4 h6 hp; ⟨a, b.swap⟩
theorem Two.len : Calls Try.prog 13 #[.pointer (some ⟨rb, 0, none⟩)] W fun e W' => e = .returned (.int .i64 l1.length) ∧ W = W' := by
  obtain ⟨v, v', h1, h2, h3, h4, h5, h6⟩ := h
  exact RingInt.len_any W rb v l1 room h1
theorem Two.roomy : Calls Try.prog 14 #[.pointer (some ⟨rb, 0, none⟩)] W fun e W' => e = .returned (.int .i64 room) ∧ W = W' := by
  obtain ⟨v, v', h1, h2, h3, h4, h5, h6⟩ := h
  exact RingInt.room_any W rb v l1 room h1
end
theorem Two.pop_some {w : World} {rb sb : Nat} {x : Int} {l1 l2 : List Int} {room : Int} {W : World} (h : Two w rb sb (x :: l1) l2 room W) :
    Calls Try.prog 12 #[.pointer (some ⟨rb, 0, none⟩)] W fun e W' => e = .returned (.tuple #[.int .i64 x, .bool true]) ∧ Two w rb sb l1 l2 room W' := by
  obtain ⟨v, v', h1, h2, h3, h4, h5, h6⟩ := h
  exact (RingInt.pop_some W rb v x l1 room h1).mono fun e W' hp => Two.step h1 h2 h3 h4 h5 h6 hp
theorem Two.pop_none {w : World} {rb sb : Nat} {l2 : List Int} {room : Int} {W : World} (h : Two w rb sb [] l2 room W) :
    Calls Try.prog 12 #[.pointer (some ⟨rb, 0, none⟩)] W fun e W' => e = .returned (.tuple #[.int .i64 0, .bool false]) ∧ Two w rb sb [] l2 room W' := by
  have h0 := h
  obtain ⟨v, v', h1, h2, h3, h4, h5, h6⟩ := h
  exact (RingInt.pop_none W rb v room h1).mono fun e W' ⟨he, hw⟩ => ⟨he, hw ▸ h0⟩
theorem Two.ref_some {w : World} {rb sb : Nat} {x : Int} {l1 l2 : List Int} {room : Int} {W : World} (h : Two w rb sb l1 (x :: l2) room W) :
    Calls Try.prog 23 #[.pointer (some ⟨sb, 0, none⟩)] W fun e W' => e = .returned (.tuple #[.int .i64 x, .bool true]) ∧ Two w rb sb l1 l2 room W' := by
  obtain ⟨v, v', h1, h2, h3, h4, h5, h6⟩ := h
  exact (Ref03.pop_some W sb v' x l2 room h2).mono fun e W' hp => let ⟨a, b⟩ := Two.step h2 h1 (fun k h h' => h3 k h' h) h5 h4 h6 hp; ⟨a, b.swap⟩
theorem Two.ref_none {w : World} {rb sb : Nat} {l1 : List Int} {room : Int} {W : World} (h : Two w rb sb l1 [] room W) :
    Calls Try.prog 23 #[.pointer (some ⟨sb, 0, none⟩)] W fun e W' => e = .returned (.tuple #[.int .i64 0, .bool false]) ∧ Two w rb sb l1 [] room W' := by
  have h0 := h
  obtain ⟨v, v', h1, h2, h3, h4, h5, h6⟩ := h
  exact (Ref03.pop_none W sb v' room h2).mono fun e W' ⟨he, hw⟩ => ⟨he, hw ▸ h0⟩
theorem Two.all {w : World} {rb sb : Nat} {l1 l2 : List Int} {room : Int} {W : World} (h : Two w rb sb l1 l2 room W) (lim : Nat) (hl : lim ≤ 1000) :
    Calls Try.prog 25 #[.pointer (some ⟨rb, 0, none⟩), .int .i64 lim] W fun e W' => ∃ a c, e = .returned (.slice a (l1.take lim).length c) ∧ SliceAt W' (.slice a (l1.take lim).length c) ((l1.take lim).map (Value.int .i64)) ∧ Two w rb sb l1 l2 room W' ∧ ∀ p u, W.cell? p = some u → W'.cell? p = some u := by
  have h00 := h
  obtain ⟨v, v', h1, h2, h3, h4, h5, h6⟩ := h
  refine (all_any W rb v l1 room lim h1 hl).mono ?_
  rintro e W' ⟨a, c, he, ho, hf, hb⟩
  have hlen : ((l1.take lim).map RingInt.val).length = (l1.take lim).length := by simp
  rw [hlen] at he ho hf
  exact ⟨a, c, he, ho.at, h00.later hb, fun p u hp => (hb.cell (World.block_lt_of_cell? _ _ hp)).trans hp⟩
/-- The reference's list, as it is read. -/
theorem Two.ref_list {w : World} {rb sb : Nat} {l1 l2 : List Int} {room : Int} {W : World} (h : Two w rb sb l1 l2 room W) :
    ∃ a c, W.cell? ⟨sb, 0, none⟩ = some (.slice a l2.length c) ∧ W.cell? ⟨sb, 1, none⟩ = some (.int .i64 room) ∧ SliceAt W (.slice a l2.length c) (l2.map (Value.int .i64)) := by
  obtain ⟨v, v', h1, h2, h3, h4, h5, h6⟩ := h
  obtain ⟨a, c, rfl⟩ := h2.own.form
  exact ⟨a, c, h2.c0, h2.c1, h2.own.at⟩
theorem Two.new {w W : World} (h : Below w.heap.size w W) (n : Int) : Two w W.heap.size (W.heap.size + 1) [] [] (RingInt.clamp n)
    ((W.alloc (.cells #[.slice none 0 0, .int .i64 (RingInt.clamp n)] 53)).alloc (.cells #[.slice none 0 0, .int .i64 (RingInt.clamp n)] 47)) := by
  have hs := h.size
  have e1 := RingInt.at_new W n
  have e2 : RingInt.At ((W.alloc (.cells #[.slice none 0 0, .int .i64 (RingInt.clamp n)] 53)).alloc (.cells #[.slice none 0 0, .int .i64 (RingInt.clamp n)] 47)) (W.heap.size + 1) (.slice none 0 0) [] (RingInt.clamp n) := by
    obtain ⟨h0, h1⟩ := RingInt.clamp_bd n
    exact ⟨by go_simp, by go_simp, by go_simp, ownS_nil _ _, fp_nil _, h0, h1, by simpa using h0⟩
  refine ⟨_, _, e1.chg (F := fun _ => False) ((Chg.refl _ _).alloc _) (fun _ _ => id), e2, fun k hk hk' => ?_, fun k hk => ?_, fun k hk => ?_, (h.alloc hs _).alloc (by simp; omega) _⟩
  · rcases hk with rfl | hk
    · rcases hk' with hk' | hk'
      · omega
      · exact fp_nil _ hk'
    · exact fp_nil _ hk
  · rcases hk with rfl | hk
    · exact hs
    · exact (fp_nil _ hk).elim
  · rcases hk with rfl | hk
    · omega
    · exact (fp_nil _ hk).elim
end Go.Proofs.Ytbkoccpgbhnncaa.RingLaws
