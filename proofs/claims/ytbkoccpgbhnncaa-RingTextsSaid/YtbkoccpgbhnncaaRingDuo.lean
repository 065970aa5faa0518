/- A line of texts and a line of lists, side by side, that a law has made. -/
import Derived.Test.YtbkoccpgbhnncaaRingStr
import Derived.Test.YtbkoccpgbhnncaaRingStrs
import Derived.Test.YtbkoccpgbhnncaaRingAwake
namespace Go.Proofs.Ytbkoccpgbhnncaa.RingLaws
set_option linter.unusedVariables false
set_option linter.unusedSimpArgs false
open Go.RowKit Hp

def Duo (w : World) (rb sb : Nat) (l : List ByteArray) (ls : List RingStrs.El) (room : Int) (W : World) : Prop :=
  ∃ v v', RingStr.At W rb v l room ∧ RingStrs.At W sb v' ls 1 ∧ (∀ k, RingStr.fp rb v k → ¬ RingStrs.fp sb v' k) ∧ (∀ k, RingStr.fp rb v k → w.heap.size ≤ k) ∧ (∀ k, RingStrs.fp sb v' k → w.heap.size ≤ k) ∧ Below w.heap.size w W

theorem Duo.below {w : World} {rb sb : Nat} {l : List ByteArray} {ls : List RingStrs.El} {room : Int} {W : World} (h : Duo w rb sb l ls room W) : Below w.heap.size w W := by
  obtain ⟨v, v', _, _, _, _, _, h⟩ := h; exact h

theorem Duo.step1 {w : World} {rb sb : Nat} {v v' : Value} {l l' : List ByteArray} {ls : List RingStrs.El} {room : Int} {W W' : World} {ans : Value} {e : Ending} (h1 : RingStr.At W rb v l room) (h2 : RingStrs.At W sb v' ls 1)
    (h3 : ∀ k, RingStr.fp rb v k → ¬ RingStrs.fp sb v' k) (h4 : ∀ k, RingStr.fp rb v k → w.heap.size ≤ k) (h5 : ∀ k, RingStrs.fp sb v' k → w.heap.size ≤ k) (h6 : Below w.heap.size w W)
    (hp : RingStr.Post W rb v ans l' room e W') : e = .returned ans ∧ Duo w rb sb l' ls room W' := by
  obtain ⟨rfl, v1, g1, g2, g3⟩ := hp
  have hs := h6.size
  refine ⟨rfl, v1, v', g1, h2.chg g3 (fun k hk hk' => h3 k hk' hk), fun k hk hk' => ?_, fun k hk => ?_, h5, h6.trans (g3.below h6.size h4)⟩
  · rcases hk with rfl | hk
    · exact h3 _ (.inl rfl) hk'
    · rcases g2 k hk with h | h
      · exact h3 k (.inr h) hk'
      · have := h2.lt hk'; omega
  · rcases hk with rfl | hk
    · exact h4 _ (.inl rfl)
    · rcases g2 k hk with h | h
      · exact h4 k (.inr h)
      · omega
theorem Duo.step2 {w : World} {rb sb : Nat} {v v' : Value} {l : List ByteArray} {ls ls' : List RingStrs.El} {room : Int} {W W' : World} {ans : Value} {e : Ending} (h1 : RingStr.At W rb v l room) (h2 : RingStrs.At W sb v' ls 1)
    (h3 : ∀ k, RingStr.fp rb v k → ¬ RingStrs.fp sb v' k) (h4 : ∀ k, RingStr.fp rb v k → w.heap.size ≤ k) (h5 : ∀ k, RingStrs.fp sb v' k → w.heap.size ≤ k) (h6 : Below w.heap.size w W)
    (hp : RingStrs.Post W sb v' ans ls' 1 e W') : e = .returned ans ∧ Duo w rb sb l ls' room W' := by
  obtain ⟨rfl, v1, g1, g2, g3⟩ := hp
  have hs := h6.size
  refine ⟨rfl, v, v1, h1.chg g3 (fun k hk hk' => h3 k hk hk'), g1, fun k hk hk' => ?_, h4, fun k hk => ?_, h6.trans (g3.below h6.size h5)⟩
  · rcases hk' with rfl | hk'
    · exact h3 _ hk (.inl rfl)
    · rcases g2 k hk' with h | h
      · exact h3 k hk (.inr h)
      · have := h1.lt hk; omega
  · rcases hk with rfl | hk
    · exact h5 _ (.inl rfl)
    · rcases g2 k hk with h | h
      · exact h5 k (.inr h)
      · omega
section
variable {w : World} {rb sb : Nat} {l : List ByteArray} {ls : List RingStrs.El} {room : Int} {W : World}
theorem Duo.push_yes (h : Duo w rb sb l ls room W) (x : ByteArray) (hl : (l.length : Int) < room) : Calls Try.prog 18 #[.pointer (some ⟨rb, 0, none⟩), .string x] W fun e W' => e = .returned (.bool true) ∧ Duo w rb sb (l ++ [x]) ls room W' := by
  obtain ⟨v, v', h1, h2, h3, h4, h5, h6⟩ := h
  exact (RingStr.push_yes W rb v l room x h1 hl).mono fun e W' hp => Duo.step1 h1 h2 h3 h4 h5 h6 hp
theorem Duo.push_no (h : Duo w rb sb l ls room W) (x : ByteArray) (hl : room ≤ (l.length : Int)) : Calls Try.prog 18 #[.pointer (some ⟨rb, 0, none⟩), .string x] W fun e W' => e = .returned (.bool false) ∧ Duo w rb sb l ls room W' := by
  obtain ⟨v, v', h1, h2, h3, h4, h5, h6⟩ := h
  exact (RingStr.push_no W rb v l room x h1 hl).mono fun e W' hp => Duo.step1 h1 h2 h3 h4 h5 h6 hp
theorem Duo.pop_some {x : ByteArray} (h : Duo w rb sb (x :: l) ls room W) : Calls Try.prog 20 #[.pointer (some ⟨rb, 0, none⟩)] W fun e W' => e = .returned (.tuple #[.string x, .bool true]) ∧ Duo w rb sb l ls room W' := by
  obtain ⟨v, v', h1, h2, h3, h4, h5, h6⟩ := h
  exact (RingStr.pop_some W rb v x l room h1).mono fun e W' hp => Duo.step1 h1 h2 h3 h4 h5 h6 hp
theorem Duo.pop_none (h : Duo w rb sb [] ls room W) : Calls Try.prog 20 #[.pointer (some ⟨rb, 0, none⟩)] W fun e W' => e = .returned (.tuple #[.string { data := #[] }, .bool false]) ∧ Duo w rb sb [] ls room W' := by
  have h0 := h
  obtain ⟨v, v', h1, h2, h3, h4, h5, h6⟩ := h
  exact (RingStr.pop_none W rb v room h1).mono fun e W' ⟨he, hw⟩ => ⟨he, hw ▸ h0⟩
theorem Duo.list_yes (h : Duo w rb sb l [] room W) (a : Option Addr) (n c : Nat) : Calls Try.prog 19 #[.pointer (some ⟨sb, 0, none⟩), .slice a n c] W fun e W' => e = .returned (.bool true) ∧ Duo w rb sb l [(a, n, c)] room W' := by
  obtain ⟨v, v', h1, h2, h3, h4, h5, h6⟩ := h
  exact (RingStrs.push_yes W sb v' [] 1 (a, n, c) h2 (by simp)).mono fun e W' hp => Duo.step2 h1 h2 h3 h4 h5 h6 hp
theorem Duo.list_no {y : RingStrs.El} (h : Duo w rb sb l [y] room W) (a : Option Addr) (n c : Nat) : Calls Try.prog 19 #[.pointer (some ⟨sb, 0, none⟩), .slice a n c] W fun e W' => e = .returned (.bool false) ∧ Duo w rb sb l [y] room W' := by
  obtain ⟨v, v', h1, h2, h3, h4, h5, h6⟩ := h
  exact (RingStrs.push_no W sb v' [y] 1 (a, n, c) h2 (by simp)).mono fun e W' hp => Duo.step2 h1 h2 h3 h4 h5 h6 hp
theorem Duo.list_pop {a : Option Addr} {n c : Nat} (h : Duo w rb sb l [(a, n, c)] room W) : Calls Try.prog 21 #[.pointer (some ⟨sb, 0, none⟩)] W fun e W' => e = .returned (.tuple #[.slice a n c, .bool true]) ∧ Duo w rb sb l [] room W' := by
  obtain ⟨v, v', h1, h2, h3, h4, h5, h6⟩ := h
  exact (RingStrs.pop_some W sb v' (a, n, c) [] 1 h2).mono fun e W' hp => Duo.step2 h1 h2 h3 h4 h5 h6 hp
end
theorem Duo.new {w W : World} (h : Below w.heap.size w W) (n : Int) : Duo w W.heap.size (W.heap.size + 1) [] [] (RingStr.clamp n)
    ((W.alloc (.cells #[.slice none 0 0, .int .i64 (RingStr.clamp n)] 55)).alloc (.cells #[.slice none 0 0, .int .i64 (RingStrs.clamp 1)] 58)) := by
  have hs := h.size
  have e1 := RingStr.at_new W n
  have e2 := RingStrs.at_new (W.alloc (.cells #[.slice none 0 0, .int .i64 (RingStr.clamp n)] 55)) 1
  have hc : RingStrs.clamp 1 = 1 := by decide
  rw [hc] at e2 ⊢
  rw [World.size_alloc] at e2
  refine ⟨_, _, e1.chg (F := fun _ => False) ((Chg.refl _ _).alloc _) (fun _ _ => id), e2, fun k hk hk' => ?_, fun k hk => ?_, fun k hk => ?_, (h.alloc hs _).alloc (by simp; omega) _⟩
  · rcases hk with rfl | hk
    · rcases hk' with hk' | hk'
      · omega
      · exact fp_nil _ hk'
    · exact fp_nil _ hk
  · rcases hk with rfl | hk
    · exact hs
    · exact (fp_nil _ hk).elim
  · rcases hk with rfl | hk
    · omega
    · exact (fp_nil _ hk).elim
end Go.Proofs.Ytbkoccpgbhnncaa.RingLaws
