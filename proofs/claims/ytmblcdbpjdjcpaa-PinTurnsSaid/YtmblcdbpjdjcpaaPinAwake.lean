/- The pin laws' awake. -/
import Derived.Test.YtmblcdbpjdjcpaaRef09
namespace Go.Proofs.Ytmblcdbpjdjcpaa.Ref09
set_option linter.unusedVariables false
set_option linter.unusedSimpArgs false
open Go.RowKit Hp Pin

def ex : List Int := [0, 6, 8]
theorem ex_w : ∀ x ∈ ex, W64 x := by
  intro x hx
  simp [ex] at hx
  unfold W64
  omega
theorem ex_5 : blockedB ex (-1) 5 = true := blockedB_true (i := 2) ⟨1, 6, by omega, rfl, by omega, by decide⟩
theorem ex_none {self e : Int} (h : ∀ (j : Nat) (x : Int), ex[j]? = some x → (j : Int) ≠ self → blk x e = false) : blockedB ex self e = false := blockedB_false (by
  rintro ⟨j, x, _, hx, hn, hb⟩
  rw [h j x hx hn] at hb; cases hb)
theorem ex_at {j : Nat} {x : Int} (h : ex[j]? = some x) : (j = 0 ∧ x = 0) ∨ (j = 1 ∧ x = 6) ∨ (j = 2 ∧ x = 8) := by
  unfold ex at h
  match j, h with
  | 0, h => simp at h; omega
  | 1, h => simp at h; omega
  | 2, h => simp at h; omega
  | j + 3, h => simp at h
theorem ex_4 : blockedB ex (-1) 4 = false := ex_none fun j x h hn => by
  rw [blk_false]; rcases ex_at h with h | h | h <;> omega
theorem ex_6 : blockedB ex 1 6 = false := ex_none fun j x h hn => by
  rw [blk_false]; rcases ex_at h with h | h | h <;> omega
theorem ex_least : lst ex = (5, true) := by decide

set_option maxHeartbeats 1000000 in
theorem awake_any (w : World) : Calls Try.prog 7 #[] w fun e w' => e = .returned (.bool true) ∧ Below w.heap.size w w' := by
  go_enter Try.func7, Try.ntmps7
  go_wp2_with fail
  refine (epoch_yes _ 6 (by omega) (by omega)).mono ?_
  rintro e w1 ⟨rfl, rfl⟩
  have hb := (Below.refl w.heap.size w).alloc (Nat.le_refl _) (.cells #[.int .i64 0, .int .i64 6, .int .i64 8] 3)
  have hs : SliceAt (w.alloc (.cells #[.int .i64 0, .int .i64 6, .int .i64 8] 3)) (.slice (some ⟨w.heap.size, 0, none⟩) ex.length 3) (ex.map (Value.int .i64)) :=
    ⟨_, _, rfl, by unfold maxLen; decide, .inr ⟨w.heap.size, 0, rfl, fun j u hu => by
      rw [Nat.zero_add, World.cell?_alloc_new]
      simpa [ex] using hu⟩⟩
  go_wp2_with fail
  generalize w.alloc (.cells #[.int .i64 0, .int .i64 6, .int .i64 8] 3) = w1 at *
  have hL := Pin.least_any _ _ _ _ hs ex_w
  rw [ex_least] at hL
  refine (show Calls Try.prog 12 #[.slice (some ⟨w.heap.size, 0, none⟩) 3 3] w1 _ from hL).mono ?_
  rintro e w2 ⟨rfl, hb2⟩
  have hs2 := hs.below hb2
  have b2 := hb.trans (hb2.mono hb.size)
  have hF := Pin.free_any _ _ _ _ (-1) 5 hs2 ex_w
  rw [ex_5] at hF
  go_wp2_with fail
  refine (show Calls Try.prog 14 #[.slice (some ⟨w.heap.size, 0, none⟩) 3 3, .int .i64 (-1), .int .i64 5] w2 _ from hF).mono ?_
  rintro e w3 ⟨rfl, hb3⟩
  have hs3 := hs2.below hb3
  have b3 := b2.trans (hb3.mono b2.size)
  have hF := Pin.free_any _ _ _ _ (-1) 4 hs3 ex_w
  rw [ex_4] at hF
  go_wp2_with fail
  refine (show Calls Try.prog 14 #[.slice (some ⟨w.heap.size, 0, none⟩) 3 3, .int .i64 (-1), .int .i64 4] w3 _ from hF).mono ?_
  rintro e w4 ⟨rfl, hb4⟩
  have hs4 := hs3.below hb4
  have b4 := b3.trans (hb4.mono b3.size)
  have hF := Pin.free_any _ _ _ _ 1 6 hs4 ex_w
  rw [ex_6] at hF
  go_wp2_with fail
  refine (show Calls Try.prog 14 #[.slice (some ⟨w.heap.size, 0, none⟩) 3 3, .int .i64 1, .int .i64 6] w4 _ from hF).mono ?_
  rintro e w5 ⟨rfl, hb5⟩
  have b5 := b4.trans (hb5.mono b4.size)
  go_wp2_with fail
  refine (word_any _ 5 (by omega) (by omega)).mono ?_
  rintro e w6 ⟨rfl, rfl⟩
  have hB := Pin.blocks_any w5 6 5 (by omega)
  rw [show blk 6 5 = true by decide] at hB
  go_wp2_with fail
  refine hB.mono ?_
  rintro e w6 ⟨rfl, rfl⟩
  go_wp2_with fail
  go_ret
  exact ⟨rfl, b5⟩
end Go.Proofs.Ytmblcdbpjdjcpaa.Ref09
