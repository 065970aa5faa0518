/- Part 19 of the walks and plain laws that the last text joins. -/
import Derived.Test.YtbklamnimfmjkaaGreatDoorKB1
set_option maxRecDepth 100000
set_option maxHeartbeats 16000000
set_option linter.all false
open Go.Proofs.Tryz
namespace Go.Proofs.YtbklamnimfmjkaaGreatDoor
namespace Clock
open Go.RowKit
theorem iZ (w:World):Calls prog 31 #[] w fun e w'=>e=.returned (.pointer (some ⟨w.heap.size,0,none⟩))/\w'=w.alloc (.cells #[.i 0] 96):=by
 go_enter func31,ntmps31
 go_wp2
 go_ret;exact⟨rfl,rfl⟩
def tick (now n:Int):Int:=now+min (max n 0) (1099511627776 - now)
theorem JP (w:World) (p:Addr) (now n:Int) (hc:w.cell? p=some (.i now)) (hf:w.frozen? p=false) (h0:0<=now) (h1:now<=1099511627776)
  (hn:-9223372036854775808<=n) (hn':n<=9223372036854775807):
  Calls prog 35 #[.pointer (some p),.i n] w fun e w'=>e=.returned (.i (tick now n))/\w'=(w.setCell p (.i (tick now n))).drew:=by
 go_enter func35,ntmps35
 go_wp2
 go_region
 all_goals go_wp2
 all_goals go_ret
 all_goals (refine⟨congrArg (fun k=>Ending.returned (.i k)) ?_,congrArg (fun k=>(w.setCell p (.i k)).drew) ?_⟩<;>(unfold tick;omega))
theorem JQ (w:World) (p:Addr) (now d:Int) (hc:w.cell? p=some (.i now)):
  Calls prog 61 #[.pointer (some p),.i d] w fun e w'=>e=.returned (.bool (decide (d<=now)))/\w=w':=by
 go_enter func61,ntmps61
 go_wp2
 go_ret;exact⟨rfl,rfl⟩
end Clock
end Go.Proofs.YtbklamnimfmjkaaGreatDoor
