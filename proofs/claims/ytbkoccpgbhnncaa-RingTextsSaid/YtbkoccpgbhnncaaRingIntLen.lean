/- Package ring at one element type: Len. -/
import Derived.Test.YtbkoccpgbhnncaaRingInt
namespace Go.Proofs.Ytbkoccpgbhnncaa.RingInt
set_option linter.unusedVariables false
set_option linter.unusedSimpArgs false
open Go.RowKit Hp

set_option maxHeartbeats 400000 in
theorem len_any (w : World) (rb : Nat) (v : Value) (l : List El) (room : Int) (h : At w rb v l room) :
    Calls Try.prog 13 #[.pointer (some ⟨rb, 0, none⟩)] w fun e w' => e = .returned (.int .i64 l.length) ∧ w = w' := by
  obtain ⟨a, c, rfl⟩ := h.own.form
  have h0 := h.c0
  go_enter Try.func13, Try.ntmps13
  go_wp2
  go_ret
  exact ⟨rfl, rfl⟩

end Go.Proofs.Ytbkoccpgbhnncaa.RingInt
