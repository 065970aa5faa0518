/- Package ring at one element type: Room. -/
import Derived.Test.YtbkoccpgbhnncaaRingInt
namespace Go.Proofs.Ytbkoccpgbhnncaa.RingInt
set_option linter.unusedVariables false
set_option linter.unusedSimpArgs false
open Go.RowKit Hp

set_option maxHeartbeats 400000 in
theorem room_any (w : World) (rb : Nat) (v : Value) (l : List El) (room : Int) (h : At w rb v l room) :
    Calls Try.prog 14 #[.pointer (some ⟨rb, 0, none⟩)] w fun e w' => e = .returned (.int .i64 room) ∧ w = w' := by
  have h0 := h.c1
  go_enter Try.func14, Try.ntmps14
  go_wp2
  go_ret
  exact ⟨rfl, rfl⟩

end Go.Proofs.Ytbkoccpgbhnncaa.RingInt
