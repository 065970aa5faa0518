/- The world that a law has made, and a list from Ahead that is kept while it goes on. -/
import Derived.Test.YtokmnjepglagjaaWorldLists
namespace Go.Proofs.Ytokmnjepglagjaa.World11
set_option linter.unusedVariables false
set_option linter.unusedSimpArgs false
open Go.RowKit Hp

/-- The law's world, and a list that lies in none of the world's blocks. -/
def Wk (w : World) (wb rb : Nat) (va : Value) (xs : List Value) (l : List Bool) (g b : Int) (W : World) : Prop :=
  ∃ v, WAt W wb rb v l g b ∧ (∀ k, wfp wb rb v k → w.heap.size ≤ k) ∧ Below w.heap.size w W ∧ SliceAt W va xs ∧ (∀ k, Fp va k → ¬ wfp wb rb v k) ∧ (∀ k, Fp va k → k < W.heap.size)
section
variable {w : World} {wb rb : Nat} {va : Value} {xs : List Value} {l : List Bool} {g b : Int} {W : World}
theorem Wk.wd (h : Wk w wb rb va xs l g b W) : Wd w wb rb l g b W := by obtain ⟨v, h1, h2, h3, _⟩ := h; exact ⟨v, h1, h2, h3⟩
theorem Wk.below (h : Wk w wb rb va xs l g b W) : Below w.heap.size w W := h.wd.below
theorem Wk.at (h : Wk w wb rb va xs l g b W) : SliceAt W va xs := by obtain ⟨v, _, _, _, h, _⟩ := h; exact h
theorem Wk.drewN (h : Wk w wb rb va xs l g b W) (n : Nat) : Wk w wb rb va xs l g b (W.drewN n) := by
  obtain ⟨v, h1, h2, h3, h4, h5, h6⟩ := h
  exact ⟨v, h1.stable (Nat.le_refl _) fun _ _ => rfl, h2, ⟨h3.os, h3.tape, h3.output, h3.size, h3.block⟩, h4.stable fun _ _ h => h, h5, h6⟩
theorem Wk.drew (h : Wk w wb rb va xs l g b W) : Wk w wb rb va xs l g b W.drew := h.drewN 1
theorem sliceAt_chg {F : Nat → Prop} {W' : World} (h : SliceAt W va xs) (hf : ∀ k, Fp va k → ¬ F k) (hl : ∀ k, Fp va k → k < W.heap.size) (hc : Chg F W W') : SliceAt W' va xs := by
  obtain ⟨a, c, rfl, h1, h2⟩ := h
  refine ⟨a, c, rfl, h1, h2.imp id ?_⟩
  rintro ⟨g, off, rfl, h3⟩
  refine ⟨g, off, rfl, fun j u hu => ?_⟩
  have hk : Fp (.slice (some ⟨g, off, none⟩) xs.length c) g := ⟨_, _, _, rfl, rfl⟩
  rw [hc.cell (p := ⟨g, off + j, none⟩) (hl g hk) (hf g hk)]
  exact h3 j u hu
theorem Wk.step {v ans : Value} {l' : List Bool} {g' b' : Int} {e : Ending} {W' : World} (h2 : ∀ k, wfp wb rb v k → w.heap.size ≤ k) (h3 : Below w.heap.size w W)
    (h4 : SliceAt W va xs) (h5 : ∀ k, Fp va k → ¬ wfp wb rb v k) (h6 : ∀ k, Fp va k → k < W.heap.size)
    (hp : Post W wb rb v ans l' g' b' e W') : e = .returned ans ∧ Wk w wb rb va xs l' g' b' W' := by
  obtain ⟨rfl, v', p1, p2, p3⟩ := hp
  refine ⟨rfl, v', p1, fun k hk => ?_, h3.trans (p3.below h3.size h2), sliceAt_chg h4 h5 h6 p3, fun k hk hw => ?_, fun k hk => Nat.lt_of_lt_of_le (h6 k hk) p3.size⟩
  · rcases hk with rfl | rfl | hk
    · exact h2 _ (.inl rfl)
    · exact h2 _ (.inr (.inl rfl))
    · rcases p2 k hk with h | h
      · exact h2 k (.inr (.inr h))
      · exact Nat.le_trans h3.size h
  · rcases hw with rfl | rfl | hw
    · exact h5 _ hk (.inl rfl)
    · exact h5 _ hk (.inr (.inl rfl))
    · rcases p2 k hw with h | h
      · exact h5 _ hk (.inr (.inr h))
      · have := h6 k hk; omega
theorem Wk.next_none (h : Wk w wb rb va xs [] g b W) (hg : 0 ≤ g ∧ g ≤ 1000000) : Calls Try.prog 10 #[.pointer (some ⟨wb, 0, none⟩)] W fun e W' => e = .returned (.bool true) ∧ Wk w wb rb va xs [] (g + 1) b W' := by
  obtain ⟨v, h1, h2, h3, h4, h5, h6⟩ := h
  exact (World11.next_none W wb rb v g b h1 hg).mono fun e W' hp => Wk.step h2 h3 h4 h5 h6 hp
theorem Wk.next_some (x : Bool) (h : Wk w wb rb va xs (x :: l) g b W) (hg : 0 ≤ g ∧ g ≤ 1000000) (hb : 0 ≤ b ∧ b ≤ 1000000) :
    Calls Try.prog 10 #[.pointer (some ⟨wb, 0, none⟩)] W fun e W' => e = .returned (.bool x) ∧ Wk w wb rb va xs l (if x then g + 1 else g) (if x then b else b + 1) W' := by
  obtain ⟨v, h1, h2, h3, h4, h5, h6⟩ := h
  cases x
  · exact (World11.next_bad W wb rb v l g b h1 hb).mono fun e W' hp => Wk.step h2 h3 h4 h5 h6 hp
  · exact (World11.next_good W wb rb v l g b h1 hg).mono fun e W' hp => Wk.step h2 h3 h4 h5 h6 hp
theorem Wk.asked (h : Wk w wb rb va xs l g b W) : Calls Try.prog 15 #[.pointer (some ⟨wb, 0, none⟩)] W fun e W' => e = .returned (.tuple #[.int .i64 g, .int .i64 b]) ∧ Wk w wb rb va xs l g b W' := by
  have h' := h.drew
  obtain ⟨v, h1, h2, h3, _⟩ := h
  exact (asked_any W wb rb v l g b h1).mono fun e W' ⟨e1, e2⟩ => ⟨e1, by rw [e2]; exact h'⟩
theorem Wd.ahead_kept (h : Wd w wb rb l g b W) : Calls Try.prog 11 #[.pointer (some ⟨wb, 0, none⟩)] W fun e W' =>
    ∃ a c, e = .returned (.slice a l.length c) ∧ Wk w wb rb (.slice a l.length c) (l.map RingBool.val) l g b W' := by
  obtain ⟨v, h1, h2, h3⟩ := h
  refine (ahead_any W wb rb v l g b h1).mono fun e W' ⟨a, c, e1, e2, e3, e4⟩ => ?_
  simp only [List.length_map] at e1 e2 e3
  refine ⟨a, c, by simpa using e1, v, h1.below e4, h2, h3.trans (e4.mono h3.size), by simpa using e2.at, fun k hk hw => ?_, fun k hk => e2.lt hk⟩
  have := e3 k hk
  have := h1.lt hw
  omega
end
end Go.Proofs.Ytokmnjepglagjaa.World11
