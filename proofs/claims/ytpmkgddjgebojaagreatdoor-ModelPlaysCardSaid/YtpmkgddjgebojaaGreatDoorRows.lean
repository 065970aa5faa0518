/-
  NARROWER THAN 'FOR EVERY INPUT', by the rows' own cells (each row's printed sentence says how): ModelNew: laid · ModelOwn: laid · ModelPlays: laid · ModelFair: laid · ModelCounts: laid · ModelReaps: laid · ModelClosed: laid · ModelTimes: laid.
  DERIVED. THE GIVEN ROWS OF THIS SEAT. 8 by the template 'for every input the law returns true; each argument reads behind the call as it read before'; 0 by the template 'total and deterministic' (their statements: YtpmkgddjgebojaaGreatDoorTotals.lean).
  GIVEN WITH THE SEED: the statements are not yours to turn. If you find one false, say at which input.
  Laid BY PROGRAM, IN A SANDBOX (cutbox-rows.mjs): the forced cells as the released guide's own fill.sh prints them over the translation a0c76a7605fe0552… (all of the seat's roots in one cut). By AI agents, Wed Nov 11 2026. No macro, syntax, notation, axiom, sorry.
-/
import Derived.Test.YtpmkgddjgebojaaGreatDoorChecked
import GoSem.Claim
import GoSem.ClaimJoined
import GoSem.ClaimMapViews
import Derived.JoinedTies
import Derived.KernelRfl
namespace Go.Proofs.YtpmkgddjgebojaaGreatDoor
/- THE CELL 'sum', in the pinned program and in every row, IS THE sha256 OF THE DUMP (.gsa) THAT YtpmkgddjgebojaaGreatDoorProg.lean LOADS. Nothing in Lean hashes anything: it is a label: what it is worth is what the hold of that sum in a sandbox is worth. -/
noncomputable def Tryz.pinned : Pinned := { name := "ytpmkgddjgebojaagreatdoor", sum := "a0c76a7605fe0552120ee479b0a5bae13fd76953de0cdae2ba6d9d63dec496a1", checked := Tryz.checked }
namespace Rows
def none {H : Type} : Left H := { results := [], args := [] }

/- WHAT THE LISTED PACKAGE-LEVEL VARIABLES READ AS WHEN THE CALL BEGINS. Each datum BY PROGRAM (the guide's laid-datum.mjs) off the statement by which the dump's own 'gosem.cut.vars' lays the variable. In a bare row this is a premise. The card (YtpmkgddjgebojaaGreatDoorCards.lean) ties it to the program's text. -/
def laid_coachhouse_slot_fields {H : Type} : DataW H := .agg [.agg [.lit (.int .i64 0), .lit (.int .i64 3)], .agg [.lit (.int .i64 3), .lit (.int .i64 4)], .agg [.lit (.int .i64 7), .lit (.int .i64 8)], .agg [.lit (.int .i64 15), .lit (.int .i64 1)], .agg [.lit (.int .i64 16), .lit (.int .i64 1)], .agg [.lit (.int .i64 17), .lit (.int .i64 6)], .agg [.lit (.int .i64 23), .lit (.int .i64 12)], .agg [.lit (.int .i64 35), .lit (.int .i64 12)], .agg [.lit (.int .i64 47), .lit (.int .i64 15)]]

/-- 'coachhouselaw23.ModelNew': WHATEVER THE INPUT: true; the input reads as it did. -/
def modelNewSpec : ChangeSpec := { name := "modelNew", fn := fun _ => fun
  | [d1, d2, d3] => { results := [.lit (.bool true)], args := [d1, d2, d3] }
  | _ => none }
def modelNewRow : OpenClaim := { program := "ytpmkgddjgebojaagreatdoor", sum := "a0c76a7605fe0552120ee479b0a5bae13fd76953de0cdae2ba6d9d63dec496a1", func := "coachhouse/coachhouselaw23.ModelNew", spec := "modelNew", unfollowed := true, recurses := true, named := ["coachhouse/slot.fields"], apart := false, laid := [("coachhouse/slot.fields", laid_coachhouse_slot_fields)] }
def ModelNewSaid : Prop := modelNewRow.holds Tryz.pinned (OpenSpec.ofChange modelNewSpec)

/-- ITS FALSE NEIGHBOUR: 'it returns false'. Refute it at one input. -/
def modelNewWrong : ChangeSpec := { name := "modelNew", fn := fun _ => fun
  | [d1, d2, d3] => { results := [.lit (.bool false)], args := [d1, d2, d3] }
  | _ => none }
def ModelNewWrongFalsely : Prop := modelNewRow.holds Tryz.pinned (OpenSpec.ofChange modelNewWrong)

/-- 'coachhouselaw23.ModelOwn': WHATEVER THE INPUT: true; the input reads as it did. -/
def modelOwnSpec : ChangeSpec := { name := "modelOwn", fn := fun _ => fun
  | [d1, d2] => { results := [.lit (.bool true)], args := [d1, d2] }
  | _ => none }
def modelOwnRow : OpenClaim := { program := "ytpmkgddjgebojaagreatdoor", sum := "a0c76a7605fe0552120ee479b0a5bae13fd76953de0cdae2ba6d9d63dec496a1", func := "coachhouse/coachhouselaw23.ModelOwn", spec := "modelOwn", unfollowed := true, recurses := true, named := ["coachhouse/slot.fields"], apart := false, laid := [("coachhouse/slot.fields", laid_coachhouse_slot_fields)] }
def ModelOwnSaid : Prop := modelOwnRow.holds Tryz.pinned (OpenSpec.ofChange modelOwnSpec)

/-- ITS FALSE NEIGHBOUR: 'it returns false'. Refute it at one input. -/
def modelOwnWrong : ChangeSpec := { name := "modelOwn", fn := fun _ => fun
  | [d1, d2] => { results := [.lit (.bool false)], args := [d1, d2] }
  | _ => none }
def ModelOwnWrongFalsely : Prop := modelOwnRow.holds Tryz.pinned (OpenSpec.ofChange modelOwnWrong)

/-- 'coachhouselaw23.ModelPlays': WHATEVER THE INPUT: true; the input reads as it did. -/
def modelPlaysSpec : ChangeSpec := { name := "modelPlays", fn := fun _ => fun
  | [d1, d2] => { results := [.lit (.bool true)], args := [d1, d2] }
  | _ => none }
def modelPlaysRow : OpenClaim := { program := "ytpmkgddjgebojaagreatdoor", sum := "a0c76a7605fe0552120ee479b0a5bae13fd76953de0cdae2ba6d9d63dec496a1", func := "coachhouse/coachhouselaw23.ModelPlays", spec := "modelPlays", unfollowed := true, recurses := true, named := ["coachhouse/slot.fields"], apart := false, laid := [("coachhouse/slot.fields", laid_coachhouse_slot_fields)] }
def ModelPlaysSaid : Prop := modelPlaysRow.holds Tryz.pinned (OpenSpec.ofChange modelPlaysSpec)

/-- ITS FALSE NEIGHBOUR: 'it returns false'. Refute it at one input. -/
def modelPlaysWrong : ChangeSpec := { name := "modelPlays", fn := fun _ => fun
  | [d1, d2] => { results := [.lit (.bool false)], args := [d1, d2] }
  | _ => none }
def ModelPlaysWrongFalsely : Prop := modelPlaysRow.holds Tryz.pinned (OpenSpec.ofChange modelPlaysWrong)

/-- 'coachhouselaw23.ModelFair': WHATEVER THE INPUT: true; the input reads as it did. -/
def modelFairSpec : ChangeSpec := { name := "modelFair", fn := fun _ => fun
  | [d1, d2] => { results := [.lit (.bool true)], args := [d1, d2] }
  | _ => none }
def modelFairRow : OpenClaim := { program := "ytpmkgddjgebojaagreatdoor", sum := "a0c76a7605fe0552120ee479b0a5bae13fd76953de0cdae2ba6d9d63dec496a1", func := "coachhouse/coachhouselaw23.ModelFair", spec := "modelFair", unfollowed := true, recurses := true, named := ["coachhouse/slot.fields"], apart := false, laid := [("coachhouse/slot.fields", laid_coachhouse_slot_fields)] }
def ModelFairSaid : Prop := modelFairRow.holds Tryz.pinned (OpenSpec.ofChange modelFairSpec)

/-- ITS FALSE NEIGHBOUR: 'it returns false'. Refute it at one input. -/
def modelFairWrong : ChangeSpec := { name := "modelFair", fn := fun _ => fun
  | [d1, d2] => { results := [.lit (.bool false)], args := [d1, d2] }
  | _ => none }
def ModelFairWrongFalsely : Prop := modelFairRow.holds Tryz.pinned (OpenSpec.ofChange modelFairWrong)

/-- 'coachhouselaw23.ModelCounts': WHATEVER THE INPUT: true; the input reads as it did. -/
def modelCountsSpec : ChangeSpec := { name := "modelCounts", fn := fun _ => fun
  | [d1, d2] => { results := [.lit (.bool true)], args := [d1, d2] }
  | _ => none }
def modelCountsRow : OpenClaim := { program := "ytpmkgddjgebojaagreatdoor", sum := "a0c76a7605fe0552120ee479b0a5bae13fd76953de0cdae2ba6d9d63dec496a1", func := "coachhouse/coachhouselaw23.ModelCounts", spec := "modelCounts", unfollowed := true, recurses := true, named := ["coachhouse/slot.fields"], apart := false, laid := [("coachhouse/slot.fields", laid_coachhouse_slot_fields)] }
def ModelCountsSaid : Prop := modelCountsRow.holds Tryz.pinned (OpenSpec.ofChange modelCountsSpec)

/-- ITS FALSE NEIGHBOUR: 'it returns false'. Refute it at one input. -/
def modelCountsWrong : ChangeSpec := { name := "modelCounts", fn := fun _ => fun
  | [d1, d2] => { results := [.lit (.bool false)], args := [d1, d2] }
  | _ => none }
def ModelCountsWrongFalsely : Prop := modelCountsRow.holds Tryz.pinned (OpenSpec.ofChange modelCountsWrong)

/-- 'coachhouselaw23.ModelReaps': WHATEVER THE INPUT: true; the input reads as it did. -/
def modelReapsSpec : ChangeSpec := { name := "modelReaps", fn := fun _ => fun
  | [d1, d2, d3] => { results := [.lit (.bool true)], args := [d1, d2, d3] }
  | _ => none }
def modelReapsRow : OpenClaim := { program := "ytpmkgddjgebojaagreatdoor", sum := "a0c76a7605fe0552120ee479b0a5bae13fd76953de0cdae2ba6d9d63dec496a1", func := "coachhouse/coachhouselaw23.ModelReaps", spec := "modelReaps", unfollowed := true, recurses := true, named := ["coachhouse/slot.fields"], apart := false, laid := [("coachhouse/slot.fields", laid_coachhouse_slot_fields)] }
def ModelReapsSaid : Prop := modelReapsRow.holds Tryz.pinned (OpenSpec.ofChange modelReapsSpec)

/-- ITS FALSE NEIGHBOUR: 'it returns false'. Refute it at one input. -/
def modelReapsWrong : ChangeSpec := { name := "modelReaps", fn := fun _ => fun
  | [d1, d2, d3] => { results := [.lit (.bool false)], args := [d1, d2, d3] }
  | _ => none }
def ModelReapsWrongFalsely : Prop := modelReapsRow.holds Tryz.pinned (OpenSpec.ofChange modelReapsWrong)

/-- 'coachhouselaw23.ModelClosed': WHATEVER THE INPUT: true; the input reads as it did. -/
def modelClosedSpec : ChangeSpec := { name := "modelClosed", fn := fun _ => fun
  | [d1, d2, d3, d4] => { results := [.lit (.bool true)], args := [d1, d2, d3, d4] }
  | _ => none }
def modelClosedRow : OpenClaim := { program := "ytpmkgddjgebojaagreatdoor", sum := "a0c76a7605fe0552120ee479b0a5bae13fd76953de0cdae2ba6d9d63dec496a1", func := "coachhouse/coachhouselaw23.ModelClosed", spec := "modelClosed", unfollowed := true, recurses := true, named := ["coachhouse/slot.fields"], apart := false, laid := [("coachhouse/slot.fields", laid_coachhouse_slot_fields)] }
def ModelClosedSaid : Prop := modelClosedRow.holds Tryz.pinned (OpenSpec.ofChange modelClosedSpec)

/-- ITS FALSE NEIGHBOUR: 'it returns false'. Refute it at one input. -/
def modelClosedWrong : ChangeSpec := { name := "modelClosed", fn := fun _ => fun
  | [d1, d2, d3, d4] => { results := [.lit (.bool false)], args := [d1, d2, d3, d4] }
  | _ => none }
def ModelClosedWrongFalsely : Prop := modelClosedRow.holds Tryz.pinned (OpenSpec.ofChange modelClosedWrong)

/-- 'coachhouselaw23.ModelTimes': WHATEVER THE INPUT: true; the input reads as it did. -/
def modelTimesSpec : ChangeSpec := { name := "modelTimes", fn := fun _ => fun
  | [d1, d2, d3] => { results := [.lit (.bool true)], args := [d1, d2, d3] }
  | _ => none }
def modelTimesRow : OpenClaim := { program := "ytpmkgddjgebojaagreatdoor", sum := "a0c76a7605fe0552120ee479b0a5bae13fd76953de0cdae2ba6d9d63dec496a1", func := "coachhouse/coachhouselaw23.ModelTimes", spec := "modelTimes", unfollowed := true, recurses := true, named := ["coachhouse/slot.fields"], apart := false, laid := [("coachhouse/slot.fields", laid_coachhouse_slot_fields)] }
def ModelTimesSaid : Prop := modelTimesRow.holds Tryz.pinned (OpenSpec.ofChange modelTimesSpec)

/-- ITS FALSE NEIGHBOUR: 'it returns false'. Refute it at one input. -/
def modelTimesWrong : ChangeSpec := { name := "modelTimes", fn := fun _ => fun
  | [d1, d2, d3] => { results := [.lit (.bool false)], args := [d1, d2, d3] }
  | _ => none }
def ModelTimesWrongFalsely : Prop := modelTimesRow.holds Tryz.pinned (OpenSpec.ofChange modelTimesWrong)

/- THE SECOND FORM. 'bulk': how many values and letters a reading holds, each counted each time it is reached (what is shared counts as often as it is met; a slice's spare places count too). A statement '..UptoSaid' is the law's where the arguments, and the package variables that the reading takes, are together of bulk at most 1048576: NARROWER than '..Said'. Prove '..Said' where nothing that the law and all that it calls make is longer than what came in: it says more and counts as full. Else prove '..UptoSaid'. A law counts once. -/
mutual
def uptoBulk {H : Type} : DataW H → Nat
  | .lit (.string bytes) => bytes.length + 1
  | .lit _ => 1
  | .nil => 1
  | .ptr d => uptoBulk d + 1
  | .slice elems spare => uptoBulkAll elems + uptoBulkAll spare + 1
  | .agg parts => uptoBulkAll parts + 1
  | .iface _ d => uptoBulk d + 1
  | .map entries => uptoBulkEntries entries + 1
  | .held _ => 1
def uptoBulkAll {H : Type} : List (DataW H) → Nat
  | [] => 0
  | d :: r => uptoBulk d + uptoBulkAll r
def uptoBulkEntries {H : Type} : List (Lit × DataW H) → Nat
  | [] => 0
  | x :: r => uptoBulkEntry x + uptoBulkEntries r
def uptoBulkEntry {H : Type} : Lit × DataW H → Nat
  | (.string bytes, d) => bytes.length + uptoBulk d + 1
  | (_, d) => uptoBulk d + 1
 end
def uptoSmall : (H : Type) → List (DataW H) → Bool := fun _ ds => decide (uptoBulkAll ds ≤ 1048576)
def OpenSpec.upto (s : _root_.Go.ChangeSpec) : _root_.Go.OpenSpec := { _root_.Go.OpenSpec.ofChange s with cond := some uptoSmall }

/-- 'coachhouselaw23.ModelNew', WHERE WHAT IT READS IS OF BULK AT MOST 1048576: true; the input reads as it did. -/
def modelNewUptoRow : OpenClaim := { program := "ytpmkgddjgebojaagreatdoor", sum := "a0c76a7605fe0552120ee479b0a5bae13fd76953de0cdae2ba6d9d63dec496a1", func := "coachhouse/coachhouselaw23.ModelNew", spec := "modelNew", unfollowed := true, recurses := true, named := ["coachhouse/slot.fields"], apart := false, laid := [("coachhouse/slot.fields", laid_coachhouse_slot_fields)], narrowed := true }
def ModelNewUptoSaid : Prop := modelNewUptoRow.holds Tryz.pinned (OpenSpec.upto modelNewSpec)

/-- 'coachhouselaw23.ModelOwn', WHERE WHAT IT READS IS OF BULK AT MOST 1048576: true; the input reads as it did. -/
def modelOwnUptoRow : OpenClaim := { program := "ytpmkgddjgebojaagreatdoor", sum := "a0c76a7605fe0552120ee479b0a5bae13fd76953de0cdae2ba6d9d63dec496a1", func := "coachhouse/coachhouselaw23.ModelOwn", spec := "modelOwn", unfollowed := true, recurses := true, named := ["coachhouse/slot.fields"], apart := false, laid := [("coachhouse/slot.fields", laid_coachhouse_slot_fields)], narrowed := true }
def ModelOwnUptoSaid : Prop := modelOwnUptoRow.holds Tryz.pinned (OpenSpec.upto modelOwnSpec)

/-- 'coachhouselaw23.ModelPlays', WHERE WHAT IT READS IS OF BULK AT MOST 1048576: true; the input reads as it did. -/
def modelPlaysUptoRow : OpenClaim := { program := "ytpmkgddjgebojaagreatdoor", sum := "a0c76a7605fe0552120ee479b0a5bae13fd76953de0cdae2ba6d9d63dec496a1", func := "coachhouse/coachhouselaw23.ModelPlays", spec := "modelPlays", unfollowed := true, recurses := true, named := ["coachhouse/slot.fields"], apart := false, laid := [("coachhouse/slot.fields", laid_coachhouse_slot_fields)], narrowed := true }
def ModelPlaysUptoSaid : Prop := modelPlaysUptoRow.holds Tryz.pinned (OpenSpec.upto modelPlaysSpec)

/-- 'coachhouselaw23.ModelFair', WHERE WHAT IT READS IS OF BULK AT MOST 1048576: true; the input reads as it did. -/
def modelFairUptoRow : OpenClaim := { program := "ytpmkgddjgebojaagreatdoor", sum := "a0c76a7605fe0552120ee479b0a5bae13fd76953de0cdae2ba6d9d63dec496a1", func := "coachhouse/coachhouselaw23.ModelFair", spec := "modelFair", unfollowed := true, recurses := true, named := ["coachhouse/slot.fields"], apart := false, laid := [("coachhouse/slot.fields", laid_coachhouse_slot_fields)], narrowed := true }
def ModelFairUptoSaid : Prop := modelFairUptoRow.holds Tryz.pinned (OpenSpec.upto modelFairSpec)

/-- 'coachhouselaw23.ModelCounts', WHERE WHAT IT READS IS OF BULK AT MOST 1048576: true; the input reads as it did. -/
def modelCountsUptoRow : OpenClaim := { program := "ytpmkgddjgebojaagreatdoor", sum := "a0c76a7605fe0552120ee479b0a5bae13fd76953de0cdae2ba6d9d63dec496a1", func := "coachhouse/coachhouselaw23.ModelCounts", spec := "modelCounts", unfollowed := true, recurses := true, named := ["coachhouse/slot.fields"], apart := false, laid := [("coachhouse/slot.fields", laid_coachhouse_slot_fields)], narrowed := true }
def ModelCountsUptoSaid : Prop := modelCountsUptoRow.holds Tryz.pinned (OpenSpec.upto modelCountsSpec)

/-- 'coachhouselaw23.ModelReaps', WHERE WHAT IT READS IS OF BULK AT MOST 1048576: true; the input reads as it did. -/
def modelReapsUptoRow : OpenClaim := { program := "ytpmkgddjgebojaagreatdoor", sum := "a0c76a7605fe0552120ee479b0a5bae13fd76953de0cdae2ba6d9d63dec496a1", func := "coachhouse/coachhouselaw23.ModelReaps", spec := "modelReaps", unfollowed := true, recurses := true, named := ["coachhouse/slot.fields"], apart := false, laid := [("coachhouse/slot.fields", laid_coachhouse_slot_fields)], narrowed := true }
def ModelReapsUptoSaid : Prop := modelReapsUptoRow.holds Tryz.pinned (OpenSpec.upto modelReapsSpec)

/-- 'coachhouselaw23.ModelClosed', WHERE WHAT IT READS IS OF BULK AT MOST 1048576: true; the input reads as it did. -/
def modelClosedUptoRow : OpenClaim := { program := "ytpmkgddjgebojaagreatdoor", sum := "a0c76a7605fe0552120ee479b0a5bae13fd76953de0cdae2ba6d9d63dec496a1", func := "coachhouse/coachhouselaw23.ModelClosed", spec := "modelClosed", unfollowed := true, recurses := true, named := ["coachhouse/slot.fields"], apart := false, laid := [("coachhouse/slot.fields", laid_coachhouse_slot_fields)], narrowed := true }
def ModelClosedUptoSaid : Prop := modelClosedUptoRow.holds Tryz.pinned (OpenSpec.upto modelClosedSpec)

/-- 'coachhouselaw23.ModelTimes', WHERE WHAT IT READS IS OF BULK AT MOST 1048576: true; the input reads as it did. -/
def modelTimesUptoRow : OpenClaim := { program := "ytpmkgddjgebojaagreatdoor", sum := "a0c76a7605fe0552120ee479b0a5bae13fd76953de0cdae2ba6d9d63dec496a1", func := "coachhouse/coachhouselaw23.ModelTimes", spec := "modelTimes", unfollowed := true, recurses := true, named := ["coachhouse/slot.fields"], apart := false, laid := [("coachhouse/slot.fields", laid_coachhouse_slot_fields)], narrowed := true }
def ModelTimesUptoSaid : Prop := modelTimesUptoRow.holds Tryz.pinned (OpenSpec.upto modelTimesSpec)

end Rows
end Go.Proofs.YtpmkgddjgebojaaGreatDoor
