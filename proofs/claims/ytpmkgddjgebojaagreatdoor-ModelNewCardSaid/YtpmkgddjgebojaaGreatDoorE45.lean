/- Part 45 of the walks and plain laws that the last text joins. -/
import Derived.Test.YtpmkgddjgebojaaGreatDoorE44
set_option maxRecDepth 100000
set_option maxHeartbeats 16000000
set_option linter.unusedVariables false
set_option linter.unusedSimpArgs false
namespace Go.Proofs.YtpmkgddjgebojaaGreatDoor.Mod
open Go.RowKit Hp Slot RowL Life R8
theorem modelNew_walk (W : World) (hL : Laid W) (c : Conf.Cf) (who : Int) (hw : -9223372036854775808 ≤ who ∧ who ≤ 9223372036854775807) (ak : Ask) :
  Calls Tryz.prog 3 #[c.val, .i who, ak.val] W fun e W' => e = .returned (.bool true) ∧ Below W.heap.size W W':=by
 cases hc : c.right
 ·exact modelNew_no W hL c who ak hc
 ·exact modelNew_yes W hL c who ak hc
end Go.Proofs.YtpmkgddjgebojaaGreatDoor.Mod
