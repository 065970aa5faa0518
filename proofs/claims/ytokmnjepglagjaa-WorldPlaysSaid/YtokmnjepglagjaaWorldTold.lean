/- A world that a law has made, step by step; the chapter's example. -/
import Derived.Test.YtokmnjepglagjaaWorldNext
namespace Go.Proofs.Ytokmnjepglagjaa.World11
set_option linter.unusedVariables false
set_option linter.unusedSimpArgs false
open Go.RowKit Hp

/-- The law began at w; its world lies at wb and rb, in newer memory. -/
def Wd (w : World) (wb rb : Nat) (l : List Bool) (g b : Int) (W : World) : Prop :=
  ∃ v, WAt W wb rb v l g b ∧ (∀ k, wfp wb rb v k → w.heap.size ≤ k) ∧ Below w.heap.size w W
section
variable {w : World} {wb rb : Nat} {l : List Bool} {g b : Int} {W : World}
theorem Wd.below (h : Wd w wb rb l g b W) : Below w.heap.size w W := by obtain ⟨v, _, _, h⟩ := h; exact h
theorem Wd.drewN (h : Wd w wb rb l g b W) (n : Nat) : Wd w wb rb l g b (W.drewN n) := by
  obtain ⟨v, h1, h2, h3⟩ := h
  exact ⟨v, h1.stable (Nat.le_refl _) fun _ _ => rfl, h2, ⟨h3.os, h3.tape, h3.output, h3.size, h3.block⟩⟩
theorem Wd.drew (h : Wd w wb rb l g b W) : Wd w wb rb l g b W.drew := h.drewN 1
theorem Wd.later {W' : World} (h : Wd w wb rb l g b W) (hb : Below W.heap.size W W') : Wd w wb rb l g b W' := by
  obtain ⟨v, h1, h2, h3⟩ := h
  exact ⟨v, h1.below hb, h2, h3.trans (hb.mono h3.size)⟩
theorem Wd.made {W' : World} (hb : Below w.heap.size w W) (h : WAt W' (W.heap.size + 1) W.heap.size (.slice none 0 0) [] 0 0) (hb' : Below W.heap.size W W') : Wd w (W.heap.size + 1) W.heap.size [] 0 0 W' := by
  have hs := hb.size
  refine ⟨_, h, fun k hk => ?_, hb.trans (hb'.mono hs)⟩
  rcases hk with rfl | rfl | hk
  · omega
  · omega
  · exact (fp_nil _ hk).elim
theorem Wd.step {v ans : Value} {l' : List Bool} {g' b' : Int} {e : Ending} {W' : World} (h2 : ∀ k, wfp wb rb v k → w.heap.size ≤ k) (h3 : Below w.heap.size w W) (hp : Post W wb rb v ans l' g' b' e W') : e = .returned ans ∧ Wd w wb rb l' g' b' W' := by
  obtain ⟨rfl, v', p1, p2, p3⟩ := hp
  refine ⟨rfl, v', p1, fun k hk => ?_, h3.trans (p3.below h3.size h2)⟩
  rcases hk with rfl | rfl | hk
  · exact h2 _ (.inl rfl)
  · exact h2 _ (.inr (.inl rfl))
  · rcases p2 k hk with h | h
    · exact h2 k (.inr (.inr h))
    · exact Nat.le_trans h3.size h
theorem Wd.feed_yes (h : Wd w wb rb l g b W) (x : Bool) (hf : l.length < 1000) : Calls Try.prog 9 #[.pointer (some ⟨wb, 0, none⟩), .bool x] W fun e W' => e = .returned (.bool true) ∧ Wd w wb rb (l ++ [x]) g b W' := by
  obtain ⟨v, h1, h2, h3⟩ := h
  exact (World11.feed_yes W wb rb v l g b x h1 hf).mono fun e W' hp => Wd.step h2 h3 hp
theorem Wd.feed_no (h : Wd w wb rb l g b W) (x : Bool) (hf : 1000 ≤ l.length) : Calls Try.prog 9 #[.pointer (some ⟨wb, 0, none⟩), .bool x] W fun e W' => e = .returned (.bool false) ∧ Wd w wb rb l g b W' := by
  obtain ⟨v, h1, h2, h3⟩ := h
  exact (World11.feed_no W wb rb v l g b x h1 hf).mono fun e W' hp => Wd.step h2 h3 hp
theorem Wd.next_none (h : Wd w wb rb [] g b W) (hg : 0 ≤ g ∧ g ≤ 1000000) : Calls Try.prog 10 #[.pointer (some ⟨wb, 0, none⟩)] W fun e W' => e = .returned (.bool true) ∧ Wd w wb rb [] (g + 1) b W' := by
  obtain ⟨v, h1, h2, h3⟩ := h
  exact (World11.next_none W wb rb v g b h1 hg).mono fun e W' hp => Wd.step h2 h3 hp
theorem Wd.next_some (x : Bool) (h : Wd w wb rb (x :: l) g b W) (hg : 0 ≤ g ∧ g ≤ 1000000) (hb : 0 ≤ b ∧ b ≤ 1000000) :
    Calls Try.prog 10 #[.pointer (some ⟨wb, 0, none⟩)] W fun e W' => e = .returned (.bool x) ∧ Wd w wb rb l (if x then g + 1 else g) (if x then b else b + 1) W' := by
  obtain ⟨v, h1, h2, h3⟩ := h
  cases x
  · exact (World11.next_bad W wb rb v l g b h1 hb).mono fun e W' hp => Wd.step h2 h3 hp
  · exact (World11.next_good W wb rb v l g b h1 hg).mono fun e W' hp => Wd.step h2 h3 hp
theorem Wd.asked (h : Wd w wb rb l g b W) : Calls Try.prog 15 #[.pointer (some ⟨wb, 0, none⟩)] W fun e W' => e = .returned (.tuple #[.int .i64 g, .int .i64 b]) ∧ Wd w wb rb l g b W' := by
  have h' := h.drew
  obtain ⟨v, h1, h2, h3⟩ := h
  exact (asked_any W wb rb v l g b h1).mono fun e W' ⟨e1, e2⟩ => ⟨e1, by rw [e2]; exact h'⟩
theorem Wd.ahead (h : Wd w wb rb l g b W) : Calls Try.prog 11 #[.pointer (some ⟨wb, 0, none⟩)] W fun e W' =>
    ∃ a c, e = .returned (.slice a l.length c) ∧ SliceAt W' (.slice a l.length c) (l.map RingBool.val) ∧ Wd w wb rb l g b W' := by
  have h' := fun W' => h.later (W' := W')
  obtain ⟨v, h1, h2, h3⟩ := h
  exact (ahead_any W wb rb v l g b h1).mono fun e W' ⟨a, c, e1, e2, _, e4⟩ => ⟨a, c, by simpa using e1, by simpa using e2.at, h' W' e4⟩
end

set_option maxHeartbeats 2000000 in
/-- The chapter's example. -/
theorem awake_any (w : World) : Calls Try.prog 7 #[] w fun e w' => e = .returned (.bool true) ∧ Below w.heap.size w w' := by
  go_enter Try.func7, Try.ntmps7
  go_wp2_with fail
  refine (new_any w).mono ?_
  rintro e w1 ⟨rfl, hA, hB⟩
  have hW := Wd.made (Below.refl _ _) hA hB
  generalize w.heap.size + 1 = wb at *
  clear hA hB
  generalize hrb : w.heap.size = rb at hW
  clear hrb
  go_wp2_with fail
  refine (hW.feed_yes false (by simp)).mono ?_
  rintro e w2 ⟨rfl, hW2⟩
  go_wp2_with fail
  refine (Wd.next_some false hW2 ⟨by omega, by omega⟩ ⟨by omega, by omega⟩).mono ?_
  rintro e w3 ⟨rfl, hW3⟩
  go_wp2_with fail
  refine (Wd.next_none hW3 ⟨by decide, by decide⟩).mono ?_
  rintro e w4 ⟨rfl, hW4⟩
  go_wp2_with fail
  refine hW4.ahead.mono ?_
  rintro e w5 ⟨a, c, rfl, _, hW5⟩
  go_wp2_with fail
  go_ret
  exact ⟨rfl, hW5.below⟩
end Go.Proofs.Ytokmnjepglagjaa.World11
