/- A law's world and the reference's, side by side. -/
import Derived.Test.YtokmnjepglagjaaRef11
namespace Go.Proofs.Ytokmnjepglagjaa.World11
set_option linter.unusedVariables false
set_option linter.unusedSimpArgs false
open Go.RowKit Hp Ref11

def Pw (w : World) (wb rb sb : Nat) (l : List Bool) (g b : Int) (l' : List Bool) (g' b' : Int) (W : World) : Prop :=
  ∃ v v', WAt W wb rb v l g b ∧ RAt W sb v' l' g' b' ∧ (∀ k, wfp wb rb v k → ¬ Ref11.fp sb v' k) ∧ (∀ k, wfp wb rb v k → w.heap.size ≤ k) ∧ (∀ k, Ref11.fp sb v' k → w.heap.size ≤ k) ∧ Below w.heap.size w W
section
variable {w : World} {wb rb sb : Nat} {l l' : List Bool} {g b g' b' : Int} {W : World}
theorem Pw.below (h : Pw w wb rb sb l g b l' g' b' W) : Below w.heap.size w W := by obtain ⟨v, v', _, _, _, _, _, h⟩ := h; exact h
theorem Pw.drewN (h : Pw w wb rb sb l g b l' g' b' W) (n : Nat) : Pw w wb rb sb l g b l' g' b' (W.drewN n) := by
  obtain ⟨v, v', h1, h2, h3, h4, h5, h6⟩ := h
  exact ⟨v, v', h1.stable (Nat.le_refl _) fun _ _ => rfl, h2.stable (Nat.le_refl _) fun _ _ => rfl, h3, h4, h5, ⟨h6.os, h6.tape, h6.output, h6.size, h6.block⟩⟩
theorem Pw.later {W' : World} (h : Pw w wb rb sb l g b l' g' b' W) (hb : Below W.heap.size W W') : Pw w wb rb sb l g b l' g' b' W' := by
  obtain ⟨v, v', h1, h2, h3, h4, h5, h6⟩ := h
  exact ⟨v, v', h1.stable hb.size fun k hk => hb.block k (h1.lt hk), h2.stable hb.size fun k hk => hb.block k (h2.lt hk), h3, h4, h5, h6.trans (hb.mono h6.size)⟩
theorem Pw.step1 {v v' : Value} {ans : Value} {l2 : List Bool} {g2 b2 : Int} {e : Ending} {W' : World} (h1 : WAt W wb rb v l g b) (h2 : RAt W sb v' l' g' b') (h3 : ∀ k, wfp wb rb v k → ¬ Ref11.fp sb v' k)
    (h4 : ∀ k, wfp wb rb v k → w.heap.size ≤ k) (h5 : ∀ k, Ref11.fp sb v' k → w.heap.size ≤ k) (h6 : Below w.heap.size w W) (hp : Post W wb rb v ans l2 g2 b2 e W') :
    e = .returned ans ∧ Pw w wb rb sb l2 g2 b2 l' g' b' W' := by
  obtain ⟨rfl, v1, p1, p2, p3⟩ := hp
  refine ⟨rfl, v1, v', p1, h2.chg p3 (fun k hk hk' => h3 k hk' hk), fun k hk hk' => ?_, fun k hk => ?_, h5, h6.trans (p3.below h6.size h4)⟩
  · rcases hk with rfl | rfl | hk
    · exact h3 _ (.inl rfl) hk'
    · exact h3 _ (.inr (.inl rfl)) hk'
    · rcases p2 k hk with h | h
      · exact h3 k (.inr (.inr h)) hk'
      · have := h2.lt hk'; omega
  · rcases hk with rfl | rfl | hk
    · exact h4 _ (.inl rfl)
    · exact h4 _ (.inr (.inl rfl))
    · rcases p2 k hk with h | h
      · exact h4 k (.inr (.inr h))
      · exact Nat.le_trans h6.size h
theorem Pw.step2 {v v' : Value} {ans : Value} {l2 : List Bool} {g2 b2 : Int} {e : Ending} {W' : World} (h1 : WAt W wb rb v l g b) (h2 : RAt W sb v' l' g' b') (h3 : ∀ k, wfp wb rb v k → ¬ Ref11.fp sb v' k)
    (h4 : ∀ k, wfp wb rb v k → w.heap.size ≤ k) (h5 : ∀ k, Ref11.fp sb v' k → w.heap.size ≤ k) (h6 : Below w.heap.size w W) (hp : RPost W sb v' ans l2 g2 b2 e W') :
    e = .returned ans ∧ Pw w wb rb sb l g b l2 g2 b2 W' := by
  obtain ⟨rfl, v1, p1, p2, p3⟩ := hp
  refine ⟨rfl, v, v1, h1.chg p3 (fun k hk hk' => h3 k hk hk'), p1, fun k hk hk' => ?_, h4, fun k hk => ?_, h6.trans (p3.below h6.size h5)⟩
  · rcases hk' with rfl | hk'
    · exact h3 _ hk (.inl rfl)
    · rcases p2 k hk' with h | h
      · exact h3 k hk (.inr h)
      · have := h1.lt hk; omega
  · rcases hk with rfl | hk
    · exact h5 _ (.inl rfl)
    · rcases p2 k hk with h | h
      · exact h5 k (.inr h)
      · exact Nat.le_trans h6.size h
theorem Pw.feed (h : Pw w wb rb sb l g b l' g' b' W) (x : Bool) (hf : l.length < 1000) : Calls Try.prog 9 #[.pointer (some ⟨wb, 0, none⟩), .bool x] W fun e W' => e = .returned (.bool true) ∧ Pw w wb rb sb (l ++ [x]) g b l' g' b' W' := by
  obtain ⟨v, v', h1, h2, h3, h4, h5, h6⟩ := h
  exact (World11.feed_yes W wb rb v l g b x h1 hf).mono fun e W' hp => Pw.step1 h1 h2 h3 h4 h5 h6 hp
theorem Pw.feed2 (h : Pw w wb rb sb l g b l' g' b' W) (x : Bool) (hf : l'.length < 1000) : Calls Try.prog 13 #[.pointer (some ⟨sb, 0, none⟩), .bool x] W fun e W' => e = .returned (.bool true) ∧ Pw w wb rb sb l g b (l' ++ [x]) g' b' W' := by
  obtain ⟨v, v', h1, h2, h3, h4, h5, h6⟩ := h
  exact (Ref11.feed_yes W sb v' l' g' b' x h2 hf).mono fun e W' hp => Pw.step2 h1 h2 h3 h4 h5 h6 hp
theorem Pw.next_none (h : Pw w wb rb sb [] g b l' g' b' W) (hg : 0 ≤ g ∧ g ≤ 1000000) : Calls Try.prog 10 #[.pointer (some ⟨wb, 0, none⟩)] W fun e W' => e = .returned (.bool true) ∧ Pw w wb rb sb [] (g + 1) b l' g' b' W' := by
  obtain ⟨v, v', h1, h2, h3, h4, h5, h6⟩ := h
  exact (World11.next_none W wb rb v g b h1 hg).mono fun e W' hp => Pw.step1 h1 h2 h3 h4 h5 h6 hp
theorem Pw.next_none2 (h : Pw w wb rb sb l g b [] g' b' W) (hg : 0 ≤ g' ∧ g' ≤ 1000000) : Calls Try.prog 14 #[.pointer (some ⟨sb, 0, none⟩)] W fun e W' => e = .returned (.bool true) ∧ Pw w wb rb sb l g b [] (g' + 1) b' W' := by
  obtain ⟨v, v', h1, h2, h3, h4, h5, h6⟩ := h
  exact (Ref11.next_none W sb v' g' b' h2 hg).mono fun e W' hp => Pw.step2 h1 h2 h3 h4 h5 h6 hp
theorem Pw.next_some (x : Bool) (h : Pw w wb rb sb (x :: l) g b l' g' b' W) (hg : 0 ≤ g ∧ g ≤ 1000000) (hb : 0 ≤ b ∧ b ≤ 1000000) :
    Calls Try.prog 10 #[.pointer (some ⟨wb, 0, none⟩)] W fun e W' => e = .returned (.bool x) ∧ Pw w wb rb sb l (if x then g + 1 else g) (if x then b else b + 1) l' g' b' W' := by
  obtain ⟨v, v', h1, h2, h3, h4, h5, h6⟩ := h
  cases x
  · exact (World11.next_bad W wb rb v l g b h1 hb).mono fun e W' hp => Pw.step1 h1 h2 h3 h4 h5 h6 hp
  · exact (World11.next_good W wb rb v l g b h1 hg).mono fun e W' hp => Pw.step1 h1 h2 h3 h4 h5 h6 hp
theorem Pw.next_some2 (x : Bool) (h : Pw w wb rb sb l g b (x :: l') g' b' W) (hg : 0 ≤ g' ∧ g' ≤ 1000000) (hb : 0 ≤ b' ∧ b' ≤ 1000000) :
    Calls Try.prog 14 #[.pointer (some ⟨sb, 0, none⟩)] W fun e W' => e = .returned (.bool x) ∧ Pw w wb rb sb l g b l' (if x then g' + 1 else g') (if x then b' else b' + 1) W' := by
  obtain ⟨v, v', h1, h2, h3, h4, h5, h6⟩ := h
  exact (Ref11.next_some x W sb v' l' g' b' h2 hg hb).mono fun e W' hp => Pw.step2 h1 h2 h3 h4 h5 h6 hp
theorem Pw.asked (h : Pw w wb rb sb l g b l' g' b' W) : Calls Try.prog 15 #[.pointer (some ⟨wb, 0, none⟩)] W fun e W' => e = .returned (.tuple #[.int .i64 g, .int .i64 b]) ∧ Pw w wb rb sb l g b l' g' b' W' := by
  have h' := h.drewN 1
  obtain ⟨v, v', h1, h2, h3, h4, h5, h6⟩ := h
  exact (asked_any W wb rb v l g b h1).mono fun e W' ⟨e1, e2⟩ => ⟨e1, by rw [e2]; exact h'⟩
theorem Pw.ahead (h : Pw w wb rb sb l g b l' g' b' W) : Calls Try.prog 11 #[.pointer (some ⟨wb, 0, none⟩)] W fun e W' =>
    ∃ a c, e = .returned (.slice a l.length c) ∧ SliceAt W' (.slice a l.length c) (l.map Value.bool) ∧ Pw w wb rb sb l g b l' g' b' W' ∧ ∀ p u, W.cell? p = some u → W'.cell? p = some u := by
  have h' := fun W' => h.later (W' := W')
  obtain ⟨v, v', h1, h2, h3, h4, h5, h6⟩ := h
  exact (ahead_any W wb rb v l g b h1).mono fun e W' ⟨a, c, e1, e2, _, e4⟩ => ⟨a, c, by simpa using e1, by simpa using e2.at, h' W' e4, fun p u hp => (e4.cell (World.block_lt_of_cell? _ _ hp)).trans hp⟩
/-- The reference's cells, as they are read. -/
theorem Pw.reads (h : Pw w wb rb sb l g b l' g' b' W) :
    ∃ a c, W.cell? ⟨sb, 0, none⟩ = some (.slice a l'.length c) ∧ W.cell? ⟨sb, 1, none⟩ = some (.int .i64 g') ∧ W.cell? ⟨sb, 2, none⟩ = some (.int .i64 b') ∧ SliceAt W (.slice a l'.length c) (l'.map Value.bool) := by
  obtain ⟨v, v', h1, h2, h3, h4, h5, h6⟩ := h
  obtain ⟨a, c, rfl⟩ := h2.own.form
  exact ⟨a, c, h2.c0, h2.c1, h2.c2, h2.own.at⟩
theorem Pw.made {W1 : World} (h : Wd w wb rb [] 0 0 W1) : Pw w wb rb W1.heap.size [] 0 0 [] 0 0 (W1.alloc (.cells #[.slice none 0 0, .int .i64 0, .int .i64 0] 34)) := by
  obtain ⟨v, h1, h2, h3⟩ := h
  have hs := h3.size
  refine ⟨v, .slice none 0 0, h1.chg (F := fun _ => False) ((Chg.refl _ _).alloc _) (fun _ _ => id), ⟨by go_simp, by go_simp, by go_simp, by go_simp, by go_simp, by go_simp, ownS_nil _ _, fp_nil _⟩, fun k hk hk' => ?_, h2, fun k hk => ?_, h3.alloc hs _⟩
  · have := h1.lt hk
    rcases hk' with rfl | hk'
    · omega
    · exact fp_nil _ hk'
  · rcases hk with rfl | hk
    · exact hs
    · exact (fp_nil _ hk).elim
end
end Go.Proofs.Ytokmnjepglagjaa.World11
