/- Walks of awake and the reference of the ring laws. -/
import Derived.Test.YtbkoccpgbhnncaaRingLaws
namespace Go.Proofs.Ytbkoccpgbhnncaa.RingLaws
set_option linter.unusedVariables false
set_option linter.unusedSimpArgs false
open Go.RowKit Hp

theorem fp_new (w : World) (rb : Nat) {v v' : Value} {B : Nat} (h1 : ∀ k, Fp v' k → Fp v k ∨ w.heap.size ≤ k) (h2 : ∀ k, RingInt.fp rb v k → B ≤ k) (hB : B ≤ w.heap.size) : ∀ k, RingInt.fp rb v' k → B ≤ k := by
  intro k hk
  rcases hk with rfl | hk
  · exact h2 _ (.inl rfl)
  · rcases h1 k hk with h | h
    · exact h2 k (.inr h)
    · omega

set_option maxHeartbeats 1000000 in
theorem awake_any (w : World) : Calls Try.prog 9 #[] w fun e w' => e = .returned (.bool true) ∧ Below w.heap.size w w' := by
  go_enter Try.func9, Try.ntmps9
  go_wp2_with fail
  refine (RingInt.new_any _ _).mono ?_
  rintro e w1 ⟨rfl, rfl⟩
  have hA := RingInt.at_new w 2
  have hc : RingInt.clamp 2 = 2 := by decide
  rw [hc] at hA ⊢
  have f0 : ∀ k, RingInt.fp w.heap.size (.slice none 0 0) k → w.heap.size ≤ k := fun k hk => by
    rcases hk with rfl | hk
    · exact Nat.le_refl _
    · exact (fp_nil _ hk).elim
  have b0 := (Below.refl w.heap.size w).alloc (Nat.le_refl _) (.cells #[.slice none 0 0, .int .i64 2] 53)
  generalize w.alloc (.cells #[.slice none 0 0, .int .i64 2] 53) = w1 at *
  clear hc
  go_wp2_with fail
  refine (RingInt.push_yes _ _ _ _ _ 1 hA (by simp)).mono ?_
  rintro e w2 ⟨rfl, v2, h2, g2, c2⟩
  have f2 := fp_new _ _ g2 f0 b0.size
  have b2 := b0.trans (c2.below b0.size f0)
  go_wp2_with fail
  refine (RingInt.push_yes _ _ _ _ _ 2 h2 (by simp)).mono ?_
  rintro e w3 ⟨rfl, v3, h3, g3, c3⟩
  have f3 := fp_new _ _ g3 f2 b2.size
  have b3 := b2.trans (c3.below b2.size f2)
  go_wp2_with fail
  refine (RingInt.push_no _ _ _ _ _ 3 h3 (by simp)).mono ?_
  rintro e w4 ⟨rfl, v4, h4, g4, c4⟩
  have f4 := fp_new _ _ g4 f3 b3.size
  have b4 := b3.trans (c4.below b3.size f3)
  go_wp2_with fail
  refine (RingInt.pop_some _ _ _ 1 [2] _ h4).mono ?_
  rintro e w5 ⟨rfl, v5, h5, g5, c5⟩
  have b5 := b4.trans (c5.below b4.size f4)
  go_wp2_with fail
  refine (RingInt.len_any _ _ _ _ _ h5).mono ?_
  rintro e w6 ⟨rfl, rfl⟩
  go_wp2_with fail
  refine (RingInt.room_any _ _ _ _ _ h5).mono ?_
  rintro e w6 ⟨rfl, rfl⟩
  go_wp2_with fail
  go_ret
  exact ⟨rfl, b5⟩
end Go.Proofs.Ytbkoccpgbhnncaa.RingLaws
