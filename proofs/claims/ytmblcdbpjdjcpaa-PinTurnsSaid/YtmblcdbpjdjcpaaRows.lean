/-
  No cell of these rows narrows 'for every input' (looked for: loops, veiled, ifaces, maps, wideKeys, modest, calm, conditions, laid).
  DERIVED. THE GIVEN ROWS OF THIS SEAT. 4 by the template 'for every input the law returns true; each argument reads behind the call as it read before'; 0 by the template 'total and deterministic' (their statements: YtmblcdbpjdjcpaaTotals.lean).
  GIVEN WITH THE SEED: the statements are not yours to turn. If you find one false, say at which input.
  Laid BY PROGRAM, IN A SANDBOX (cutbox-rows.mjs): the forced cells as the released guide's own fill.sh prints them over the translation b664db3078c4f573… (all of the seat's roots in one cut). By AI agents, Wed Nov 11 2026. No macro, syntax, notation, axiom, sorry.
-/
import Derived.Test.YtmblcdbpjdjcpaaChecked
import GoSem.Claim
import GoSem.ClaimJoined
import GoSem.ClaimMapViews
import Derived.JoinedTies
import Derived.KernelRfl
namespace Go.Proofs.Ytmblcdbpjdjcpaa
/- THE CELL 'sum', in the pinned program and in every row, IS THE sha256 OF THE DUMP (.gsa) THAT YtmblcdbpjdjcpaaProg.lean LOADS. Nothing in Lean hashes anything: it is a label: what it is worth is what the hold of that sum in a sandbox is worth. -/
noncomputable def Try.pinned : Pinned := { name := "ytmblcdbpjdjcpaa", sum := "b664db3078c4f5738acf46d67a09b95c22609d0e9da2b37d3f6b147e8d943d4e", checked := Try.checked }
namespace Rows
def none {H : Type} : Left H := { results := [], args := [] }

/-- 'coachhouselaw09.PinTells': WHATEVER THE INPUT: true; the input reads as it did. -/
def pinTellsSpec : ChangeSpec := { name := "pinTells", fn := fun _ => fun
  | [d1, d2, d3] => { results := [.lit (.bool true)], args := [d1, d2, d3] }
  | _ => none }
def pinTellsRow : OpenClaim := { program := "ytmblcdbpjdjcpaa", sum := "b664db3078c4f5738acf46d67a09b95c22609d0e9da2b37d3f6b147e8d943d4e", func := "coachhouse/coachhouselaw09.PinTells", spec := "pinTells", unfollowed := true, recurses := true, apart := false }
def PinTellsSaid : Prop := pinTellsRow.holds Try.pinned (OpenSpec.ofChange pinTellsSpec)

/-- ITS FALSE NEIGHBOUR: 'it returns false'. Refute it at one input. -/
def pinTellsWrong : ChangeSpec := { name := "pinTells", fn := fun _ => fun
  | [d1, d2, d3] => { results := [.lit (.bool false)], args := [d1, d2, d3] }
  | _ => none }
def PinTellsWrongFalsely : Prop := pinTellsRow.holds Try.pinned (OpenSpec.ofChange pinTellsWrong)

/-- 'coachhouselaw09.PinBack': WHATEVER THE INPUT: true; the input reads as it did. -/
def pinBackSpec : ChangeSpec := { name := "pinBack", fn := fun _ => fun
  | [d1, d2] => { results := [.lit (.bool true)], args := [d1, d2] }
  | _ => none }
def pinBackRow : OpenClaim := { program := "ytmblcdbpjdjcpaa", sum := "b664db3078c4f5738acf46d67a09b95c22609d0e9da2b37d3f6b147e8d943d4e", func := "coachhouse/coachhouselaw09.PinBack", spec := "pinBack", unfollowed := true, recurses := true, apart := false }
def PinBackSaid : Prop := pinBackRow.holds Try.pinned (OpenSpec.ofChange pinBackSpec)

/-- ITS FALSE NEIGHBOUR: 'it returns false'. Refute it at one input. -/
def pinBackWrong : ChangeSpec := { name := "pinBack", fn := fun _ => fun
  | [d1, d2] => { results := [.lit (.bool false)], args := [d1, d2] }
  | _ => none }
def PinBackWrongFalsely : Prop := pinBackRow.holds Try.pinned (OpenSpec.ofChange pinBackWrong)

/-- 'coachhouselaw09.PinLess': WHATEVER THE INPUT: true; the input reads as it did. -/
def pinLessSpec : ChangeSpec := { name := "pinLess", fn := fun _ => fun
  | [d1, d2, d3, d4] => { results := [.lit (.bool true)], args := [d1, d2, d3, d4] }
  | _ => none }
def pinLessRow : OpenClaim := { program := "ytmblcdbpjdjcpaa", sum := "b664db3078c4f5738acf46d67a09b95c22609d0e9da2b37d3f6b147e8d943d4e", func := "coachhouse/coachhouselaw09.PinLess", spec := "pinLess", unfollowed := true, recurses := true, apart := false }
def PinLessSaid : Prop := pinLessRow.holds Try.pinned (OpenSpec.ofChange pinLessSpec)

/-- ITS FALSE NEIGHBOUR: 'it returns false'. Refute it at one input. -/
def pinLessWrong : ChangeSpec := { name := "pinLess", fn := fun _ => fun
  | [d1, d2, d3, d4] => { results := [.lit (.bool false)], args := [d1, d2, d3, d4] }
  | _ => none }
def PinLessWrongFalsely : Prop := pinLessRow.holds Try.pinned (OpenSpec.ofChange pinLessWrong)

/-- 'coachhouselaw09.PinTurns': WHATEVER THE INPUT: true; the input reads as it did. -/
def pinTurnsSpec : ChangeSpec := { name := "pinTurns", fn := fun _ => fun
  | [d1, d2, d3, d4] => { results := [.lit (.bool true)], args := [d1, d2, d3, d4] }
  | _ => none }
def pinTurnsRow : OpenClaim := { program := "ytmblcdbpjdjcpaa", sum := "b664db3078c4f5738acf46d67a09b95c22609d0e9da2b37d3f6b147e8d943d4e", func := "coachhouse/coachhouselaw09.PinTurns", spec := "pinTurns", unfollowed := true, recurses := true, apart := false }
def PinTurnsSaid : Prop := pinTurnsRow.holds Try.pinned (OpenSpec.ofChange pinTurnsSpec)

/-- ITS FALSE NEIGHBOUR: 'it returns false'. Refute it at one input. -/
def pinTurnsWrong : ChangeSpec := { name := "pinTurns", fn := fun _ => fun
  | [d1, d2, d3, d4] => { results := [.lit (.bool false)], args := [d1, d2, d3, d4] }
  | _ => none }
def PinTurnsWrongFalsely : Prop := pinTurnsRow.holds Try.pinned (OpenSpec.ofChange pinTurnsWrong)

/- THE SECOND FORM. 'bulk': how many values and letters a reading holds, each counted each time it is reached (what is shared counts as often as it is met; a slice's spare places count too). A statement '..UptoSaid' is the law's where the arguments, and the package variables that the reading takes, are together of bulk at most 1048576: NARROWER than '..Said'. Prove '..Said' where nothing that the law and all that it calls make is longer than what came in: it says more and counts as full. Else prove '..UptoSaid'. A law counts once. -/
mutual
def uptoBulk {H : Type} : DataW H → Nat
  | .lit (.string bytes) => bytes.length + 1
  | .lit _ => 1
  | .nil => 1
  | .ptr d => uptoBulk d + 1
  | .slice elems spare => uptoBulkAll elems + uptoBulkAll spare + 1
  | .agg parts => uptoBulkAll parts + 1
  | .iface _ d => uptoBulk d + 1
  | .map entries => uptoBulkEntries entries + 1
  | .held _ => 1
def uptoBulkAll {H : Type} : List (DataW H) → Nat
  | [] => 0
  | d :: r => uptoBulk d + uptoBulkAll r
def uptoBulkEntries {H : Type} : List (Lit × DataW H) → Nat
  | [] => 0
  | x :: r => uptoBulkEntry x + uptoBulkEntries r
def uptoBulkEntry {H : Type} : Lit × DataW H → Nat
  | (.string bytes, d) => bytes.length + uptoBulk d + 1
  | (_, d) => uptoBulk d + 1
 end
def uptoSmall : (H : Type) → List (DataW H) → Bool := fun _ ds => decide (uptoBulkAll ds ≤ 1048576)
def OpenSpec.upto (s : _root_.Go.ChangeSpec) : _root_.Go.OpenSpec := { _root_.Go.OpenSpec.ofChange s with cond := some uptoSmall }

/-- 'coachhouselaw09.PinTells', WHERE WHAT IT READS IS OF BULK AT MOST 1048576: true; the input reads as it did. -/
def pinTellsUptoRow : OpenClaim := { program := "ytmblcdbpjdjcpaa", sum := "b664db3078c4f5738acf46d67a09b95c22609d0e9da2b37d3f6b147e8d943d4e", func := "coachhouse/coachhouselaw09.PinTells", spec := "pinTells", unfollowed := true, recurses := true, apart := false, narrowed := true }
def PinTellsUptoSaid : Prop := pinTellsUptoRow.holds Try.pinned (OpenSpec.upto pinTellsSpec)

/-- 'coachhouselaw09.PinBack', WHERE WHAT IT READS IS OF BULK AT MOST 1048576: true; the input reads as it did. -/
def pinBackUptoRow : OpenClaim := { program := "ytmblcdbpjdjcpaa", sum := "b664db3078c4f5738acf46d67a09b95c22609d0e9da2b37d3f6b147e8d943d4e", func := "coachhouse/coachhouselaw09.PinBack", spec := "pinBack", unfollowed := true, recurses := true, apart := false, narrowed := true }
def PinBackUptoSaid : Prop := pinBackUptoRow.holds Try.pinned (OpenSpec.upto pinBackSpec)

/-- 'coachhouselaw09.PinLess', WHERE WHAT IT READS IS OF BULK AT MOST 1048576: true; the input reads as it did. -/
def pinLessUptoRow : OpenClaim := { program := "ytmblcdbpjdjcpaa", sum := "b664db3078c4f5738acf46d67a09b95c22609d0e9da2b37d3f6b147e8d943d4e", func := "coachhouse/coachhouselaw09.PinLess", spec := "pinLess", unfollowed := true, recurses := true, apart := false, narrowed := true }
def PinLessUptoSaid : Prop := pinLessUptoRow.holds Try.pinned (OpenSpec.upto pinLessSpec)

/-- 'coachhouselaw09.PinTurns', WHERE WHAT IT READS IS OF BULK AT MOST 1048576: true; the input reads as it did. -/
def pinTurnsUptoRow : OpenClaim := { program := "ytmblcdbpjdjcpaa", sum := "b664db3078c4f5738acf46d67a09b95c22609d0e9da2b37d3f6b147e8d943d4e", func := "coachhouse/coachhouselaw09.PinTurns", spec := "pinTurns", unfollowed := true, recurses := true, apart := false, narrowed := true }
def PinTurnsUptoSaid : Prop := pinTurnsUptoRow.holds Try.pinned (OpenSpec.upto pinTurnsSpec)

end Rows
end Go.Proofs.Ytmblcdbpjdjcpaa
