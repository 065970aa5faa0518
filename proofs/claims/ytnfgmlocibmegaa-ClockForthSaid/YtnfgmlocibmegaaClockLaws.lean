/- Walks of what the clock laws call beside package clock: awake, and the reference. -/
import Derived.Test.YtnfgmlocibmegaaClock
import Derived.Test.YtnfgmlocibmegaaBase
namespace Go.Proofs.Ytnfgmlocibmegaa.Clock
set_option linter.unusedVariables false
set_option linter.unusedSimpArgs false
open Go.RowKit

set_option maxHeartbeats 400000 in
theorem awake_any (w : World) : Calls Try.prog 7 #[] w fun e w' => e = .returned (.bool true) ∧ Below w.heap.size w w' := by
  have ht : tick 0 5 = 5 := by decide
  go_enter Try.func7, Try.ntmps7
  go_wp2_with (first
    | (go_at_call 8; refine (new_any _).mono ?_; rintro e w' ⟨rfl, rfl⟩)
    | (go_at_call 10; refine (tick_any _ _ 0 5 (by simp) (by simp) (by omega) (by omega) (by omega) (by omega)).mono ?_; rintro e w' ⟨rfl, rfl⟩; rw [ht])
    | (go_at_call 12; refine (past_any _ _ 5 _ (by go_simp)).mono ?_; rintro e w' ⟨rfl, rfl⟩)
    | (go_at_call 13; refine (left_any _ _ 5 _ (by go_simp) (by omega) (by omega) (by omega) (by omega)).mono ?_; rintro e w' ⟨rfl, rfl⟩)
    | (go_at_call 11; refine (now_any _ _ 5 (by go_simp)).mono ?_; rintro e w' ⟨rfl, rfl⟩))
  go_ret
  exact ⟨rfl, ((Below.refl _ _).alloc (Nat.le_refl _) _).drew⟩

set_option maxHeartbeats 400000 in
theorem refTick_any (w : World) (now n : Int) (h0 : 0 ≤ now) (h1 : now ≤ 1099511627776) (hn : -9223372036854775808 ≤ n) (hn' : n ≤ 9223372036854775807) :
    Calls Try.prog 9 #[.int .i64 now, .int .i64 n] w fun e w' => e = .returned (.int .i64 (tick now n)) ∧ w = w' := by
  go_enter Try.func9, Try.ntmps9
  go_wp2
  all_goals go_ret
  all_goals (refine ⟨Base.ret_int ?_, rfl⟩; unfold tick; omega)

set_option maxHeartbeats 400000 in
theorem refLeft_any (w : World) (now d : Int) (h0 : 0 ≤ now) (h1 : now ≤ 1099511627776) (hn : -9223372036854775808 ≤ d) (hn' : d ≤ 9223372036854775807) :
    Calls Try.prog 14 #[.int .i64 now, .int .i64 d] w fun e w' => e = .returned (.int .i64 (max 0 (d - now))) ∧ w = w' := by
  go_enter Try.func14, Try.ntmps14
  go_wp2
  all_goals go_ret
  all_goals (refine ⟨Base.ret_int ?_, rfl⟩; omega)

theorem tick_bd (now n : Int) (h0 : 0 ≤ now) (h1 : now ≤ 1099511627776) : 0 ≤ tick now n ∧ tick now n ≤ 1099511627776 ∧ now ≤ tick now n := by unfold tick; omega
end Go.Proofs.Ytnfgmlocibmegaa.Clock
