/- Facts of the statement's row that are closed: no input stands in them. -/
import Derived.Test.YtbklamnimfmjkaaGreatDoorRows
import Derived.Test.YtbklamnimfmjkaaGreatDoorTie
import Derived.Test.YtbklamnimfmjkaaGreatDoorCards
import Derived.WalkKit
import Derived.ProofKit
import Derived.OpenShut
import Derived.ShutString
import Derived.ChangeOld
import Derived.Below
import Derived.LaidMore
import Derived.SevenTiedAt
set_option linter.all false
namespace Go.Proofs.YtbklamnimfmjkaaGreatDoor.machineNothing
open Go.ChangeShapes Go.WideShapes Go.ChangeAt Go.RowKit
theorem own : ownKnob Tryz.prog.godebug = none := by kernel_rfl
theorem laidOut : laidOutB Tryz.prog = true := by kernel_rfl

set_option maxHeartbeats 8000000 in
theorem closed : joinedFacts Tryz.pinned.checked.prog 8 Tryz.f8 Rows.machineNothingSpec Rows.machineNothingRow = true := by
  simp only [joinedFacts, Bool.and_eq_true]
  repeat' apply And.intro
  all_goals as_aux_lemma => kernel_rfl
end Go.Proofs.YtbklamnimfmjkaaGreatDoor.machineNothing
