/- Walks of package clock: New, Now, Tick, Past, Left, over any world in which the clock's cell is known. -/
import Derived.Test.YtnfgmlocibmegaaProg
import Derived.WalkKit
import Derived.ProofKit
import Derived.Deep.QuietTactic
import Derived.BigQuiet
import Derived.Below
namespace Go.Proofs.Ytnfgmlocibmegaa.Clock
set_option linter.unusedVariables false
set_option linter.unusedSimpArgs false
open Go.RowKit

set_option maxHeartbeats 400000 in
theorem new_any (w : World) : Calls Try.prog 8 #[] w fun e w' => e = .returned (.pointer (some ⟨w.heap.size, 0, none⟩)) ∧ w' = w.alloc (.cells #[.int .i64 0] 34) := by
  go_enter Try.func8, Try.ntmps8
  go_wp2
  go_ret
  exact ⟨rfl, rfl⟩

set_option maxHeartbeats 400000 in
theorem now_any (w : World) (p : Addr) (n : Int) (hc : w.cell? p = some (.int .i64 n)) :
    Calls Try.prog 11 #[.pointer (some p)] w fun e w' => e = .returned (.int .i64 n) ∧ w = w' := by
  go_enter Try.func11, Try.ntmps11
  go_wp2
  go_ret
  exact ⟨rfl, rfl⟩


def tick (now n : Int) : Int := now + min (max n 0) (1099511627776 - now)

set_option maxHeartbeats 400000 in
theorem tick_any (w : World) (p : Addr) (now n : Int) (hc : w.cell? p = some (.int .i64 now)) (hf : w.frozen? p = false) (h0 : 0 ≤ now) (h1 : now ≤ 1099511627776)
    (hn : -9223372036854775808 ≤ n) (hn' : n ≤ 9223372036854775807) :
    Calls Try.prog 10 #[.pointer (some p), .int .i64 n] w fun e w' => e = .returned (.int .i64 (tick now n)) ∧ w' = (w.setCell p (.int .i64 (tick now n))).drew := by
  go_enter Try.func10, Try.ntmps10
  go_wp2
  go_region
  all_goals go_wp2
  all_goals go_ret
  all_goals (refine ⟨congrArg (fun k => Ending.returned (.int .i64 k)) ?_, congrArg (fun k => (w.setCell p (.int .i64 k)).drew) ?_⟩ <;> (unfold tick; omega))

set_option maxHeartbeats 400000 in
theorem past_any (w : World) (p : Addr) (now d : Int) (hc : w.cell? p = some (.int .i64 now)) :
    Calls Try.prog 12 #[.pointer (some p), .int .i64 d] w fun e w' => e = .returned (.bool (decide (d ≤ now))) ∧ w = w' := by
  go_enter Try.func12, Try.ntmps12
  go_wp2
  go_ret
  exact ⟨rfl, rfl⟩

set_option maxHeartbeats 400000 in
theorem left_any (w : World) (p : Addr) (now d : Int) (hc : w.cell? p = some (.int .i64 now)) (h0 : 0 ≤ now) (h1 : now ≤ 1099511627776)
    (hn : -9223372036854775808 ≤ d) (hn' : d ≤ 9223372036854775807) :
    Calls Try.prog 13 #[.pointer (some p), .int .i64 d] w fun e w' => e = .returned (.int .i64 (max 0 (d - now))) ∧ w = w' := by
  go_enter Try.func13, Try.ntmps13
  go_wp2_with (first | (go_at_call 12; refine (past_any _ _ _ _ hc).mono ?_; rintro e w' ⟨rfl, rfl⟩) | go_in)
  all_goals go_ret
  all_goals (refine ⟨congrArg (fun k => Ending.returned (.int .i64 k)) ?_, rfl⟩ <;> omega)
end Go.Proofs.Ytnfgmlocibmegaa.Clock
