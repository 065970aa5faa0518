/-
  NARROWER THAN 'FOR EVERY INPUT', by the rows' own cells (each row's printed sentence says how): TidyLeaves: laid · TidyGrants: laid · TidyKeeps: laid · TidyTwice: laid · TidyEpochs: laid · TidyPlays: laid.
  DERIVED. THE GIVEN ROWS OF THIS SEAT. 6 by the template 'for every input the law returns true; each argument reads behind the call as it read before'; 0 by the template 'total and deterministic' (their statements: YteadpgiffpfmnaaGreatDoorTotals.lean).
  GIVEN WITH THE SEED: the statements are not yours to turn. If you find one false, say at which input.
  Laid BY PROGRAM, IN A SANDBOX (cutbox-rows.mjs): the forced cells as the released guide's own fill.sh prints them over the translation 8d3abd14dfa5431d… (all of the seat's roots in one cut). By AI agents, Wed Nov 11 2026. No macro, syntax, notation, axiom, sorry.
-/
import Derived.Test.YteadpgiffpfmnaaGreatDoorChecked
import GoSem.Claim
import GoSem.ClaimJoined
import GoSem.ClaimMapViews
import Derived.JoinedTies
import Derived.KernelRfl
namespace Go.Proofs.YteadpgiffpfmnaaGreatDoor
/- THE CELL 'sum', in the pinned program and in every row, IS THE sha256 OF THE DUMP (.gsa) THAT YteadpgiffpfmnaaGreatDoorProg.lean LOADS. Nothing in Lean hashes anything: it is a label: what it is worth is what the hold of that sum in a sandbox is worth. -/
noncomputable def Tryz.pinned : Pinned := { name := "yteadpgiffpfmnaagreatdoor", sum := "8d3abd14dfa5431d2ecbbaa42a5ee11ff694c6059e779e5589f18c0fe1ca0fe4", checked := Tryz.checked }
namespace Rows
def none {H : Type} : Left H := { results := [], args := [] }

/- WHAT THE LISTED PACKAGE-LEVEL VARIABLES READ AS WHEN THE CALL BEGINS. Each datum BY PROGRAM (the guide's laid-datum.mjs) off the statement by which the dump's own 'gosem.cut.vars' lays the variable. In a bare row this is a premise. The card (YteadpgiffpfmnaaGreatDoorCards.lean) ties it to the program's text. -/
def laid_coachhouse_slot_fields {H : Type} : DataW H := .agg [.agg [.lit (.int .i64 0), .lit (.int .i64 3)], .agg [.lit (.int .i64 3), .lit (.int .i64 4)], .agg [.lit (.int .i64 7), .lit (.int .i64 8)], .agg [.lit (.int .i64 15), .lit (.int .i64 1)], .agg [.lit (.int .i64 16), .lit (.int .i64 1)], .agg [.lit (.int .i64 17), .lit (.int .i64 6)], .agg [.lit (.int .i64 23), .lit (.int .i64 12)], .agg [.lit (.int .i64 35), .lit (.int .i64 12)], .agg [.lit (.int .i64 47), .lit (.int .i64 15)]]

/-- 'coachhouselaw20.TidyLeaves': WHATEVER THE INPUT: true; the input reads as it did. -/
def tidyLeavesSpec : ChangeSpec := { name := "tidyLeaves", fn := fun _ => fun
  | [d1, d2, d3] => { results := [.lit (.bool true)], args := [d1, d2, d3] }
  | _ => none }
def tidyLeavesRow : OpenClaim := { program := "yteadpgiffpfmnaagreatdoor", sum := "8d3abd14dfa5431d2ecbbaa42a5ee11ff694c6059e779e5589f18c0fe1ca0fe4", func := "coachhouse/coachhouselaw20.TidyLeaves", spec := "tidyLeaves", unfollowed := true, recurses := true, named := ["coachhouse/slot.fields"], apart := false, laid := [("coachhouse/slot.fields", laid_coachhouse_slot_fields)] }
def TidyLeavesSaid : Prop := tidyLeavesRow.holds Tryz.pinned (OpenSpec.ofChange tidyLeavesSpec)

/-- ITS FALSE NEIGHBOUR: 'it returns false'. Refute it at one input. -/
def tidyLeavesWrong : ChangeSpec := { name := "tidyLeaves", fn := fun _ => fun
  | [d1, d2, d3] => { results := [.lit (.bool false)], args := [d1, d2, d3] }
  | _ => none }
def TidyLeavesWrongFalsely : Prop := tidyLeavesRow.holds Tryz.pinned (OpenSpec.ofChange tidyLeavesWrong)

/-- 'coachhouselaw20.TidyGrants': WHATEVER THE INPUT: true; the input reads as it did. -/
def tidyGrantsSpec : ChangeSpec := { name := "tidyGrants", fn := fun _ => fun
  | [d1, d2, d3] => { results := [.lit (.bool true)], args := [d1, d2, d3] }
  | _ => none }
def tidyGrantsRow : OpenClaim := { program := "yteadpgiffpfmnaagreatdoor", sum := "8d3abd14dfa5431d2ecbbaa42a5ee11ff694c6059e779e5589f18c0fe1ca0fe4", func := "coachhouse/coachhouselaw20.TidyGrants", spec := "tidyGrants", unfollowed := true, recurses := true, named := ["coachhouse/slot.fields"], apart := false, laid := [("coachhouse/slot.fields", laid_coachhouse_slot_fields)] }
def TidyGrantsSaid : Prop := tidyGrantsRow.holds Tryz.pinned (OpenSpec.ofChange tidyGrantsSpec)

/-- ITS FALSE NEIGHBOUR: 'it returns false'. Refute it at one input. -/
def tidyGrantsWrong : ChangeSpec := { name := "tidyGrants", fn := fun _ => fun
  | [d1, d2, d3] => { results := [.lit (.bool false)], args := [d1, d2, d3] }
  | _ => none }
def TidyGrantsWrongFalsely : Prop := tidyGrantsRow.holds Tryz.pinned (OpenSpec.ofChange tidyGrantsWrong)

/-- 'coachhouselaw20.TidyKeeps': WHATEVER THE INPUT: true; the input reads as it did. -/
def tidyKeepsSpec : ChangeSpec := { name := "tidyKeeps", fn := fun _ => fun
  | [d1, d2, d3] => { results := [.lit (.bool true)], args := [d1, d2, d3] }
  | _ => none }
def tidyKeepsRow : OpenClaim := { program := "yteadpgiffpfmnaagreatdoor", sum := "8d3abd14dfa5431d2ecbbaa42a5ee11ff694c6059e779e5589f18c0fe1ca0fe4", func := "coachhouse/coachhouselaw20.TidyKeeps", spec := "tidyKeeps", unfollowed := true, recurses := true, named := ["coachhouse/slot.fields"], apart := false, laid := [("coachhouse/slot.fields", laid_coachhouse_slot_fields)] }
def TidyKeepsSaid : Prop := tidyKeepsRow.holds Tryz.pinned (OpenSpec.ofChange tidyKeepsSpec)

/-- ITS FALSE NEIGHBOUR: 'it returns false'. Refute it at one input. -/
def tidyKeepsWrong : ChangeSpec := { name := "tidyKeeps", fn := fun _ => fun
  | [d1, d2, d3] => { results := [.lit (.bool false)], args := [d1, d2, d3] }
  | _ => none }
def TidyKeepsWrongFalsely : Prop := tidyKeepsRow.holds Tryz.pinned (OpenSpec.ofChange tidyKeepsWrong)

/-- 'coachhouselaw20.TidyTwice': WHATEVER THE INPUT: true; the input reads as it did. -/
def tidyTwiceSpec : ChangeSpec := { name := "tidyTwice", fn := fun _ => fun
  | [d1, d2, d3, d4] => { results := [.lit (.bool true)], args := [d1, d2, d3, d4] }
  | _ => none }
def tidyTwiceRow : OpenClaim := { program := "yteadpgiffpfmnaagreatdoor", sum := "8d3abd14dfa5431d2ecbbaa42a5ee11ff694c6059e779e5589f18c0fe1ca0fe4", func := "coachhouse/coachhouselaw20.TidyTwice", spec := "tidyTwice", unfollowed := true, recurses := true, named := ["coachhouse/slot.fields"], apart := false, laid := [("coachhouse/slot.fields", laid_coachhouse_slot_fields)] }
def TidyTwiceSaid : Prop := tidyTwiceRow.holds Tryz.pinned (OpenSpec.ofChange tidyTwiceSpec)

/-- ITS FALSE NEIGHBOUR: 'it returns false'. Refute it at one input. -/
def tidyTwiceWrong : ChangeSpec := { name := "tidyTwice", fn := fun _ => fun
  | [d1, d2, d3, d4] => { results := [.lit (.bool false)], args := [d1, d2, d3, d4] }
  | _ => none }
def TidyTwiceWrongFalsely : Prop := tidyTwiceRow.holds Tryz.pinned (OpenSpec.ofChange tidyTwiceWrong)

/-- 'coachhouselaw20.TidyEpochs': WHATEVER THE INPUT: true; the input reads as it did. -/
def tidyEpochsSpec : ChangeSpec := { name := "tidyEpochs", fn := fun _ => fun
  | [d1, d2, d3] => { results := [.lit (.bool true)], args := [d1, d2, d3] }
  | _ => none }
def tidyEpochsRow : OpenClaim := { program := "yteadpgiffpfmnaagreatdoor", sum := "8d3abd14dfa5431d2ecbbaa42a5ee11ff694c6059e779e5589f18c0fe1ca0fe4", func := "coachhouse/coachhouselaw20.TidyEpochs", spec := "tidyEpochs", unfollowed := true, recurses := true, named := ["coachhouse/slot.fields"], apart := false, laid := [("coachhouse/slot.fields", laid_coachhouse_slot_fields)] }
def TidyEpochsSaid : Prop := tidyEpochsRow.holds Tryz.pinned (OpenSpec.ofChange tidyEpochsSpec)

/-- ITS FALSE NEIGHBOUR: 'it returns false'. Refute it at one input. -/
def tidyEpochsWrong : ChangeSpec := { name := "tidyEpochs", fn := fun _ => fun
  | [d1, d2, d3] => { results := [.lit (.bool false)], args := [d1, d2, d3] }
  | _ => none }
def TidyEpochsWrongFalsely : Prop := tidyEpochsRow.holds Tryz.pinned (OpenSpec.ofChange tidyEpochsWrong)

/-- 'coachhouselaw20.TidyPlays': WHATEVER THE INPUT: true; the input reads as it did. -/
def tidyPlaysSpec : ChangeSpec := { name := "tidyPlays", fn := fun _ => fun
  | [d1, d2, d3, d4, d5] => { results := [.lit (.bool true)], args := [d1, d2, d3, d4, d5] }
  | _ => none }
def tidyPlaysRow : OpenClaim := { program := "yteadpgiffpfmnaagreatdoor", sum := "8d3abd14dfa5431d2ecbbaa42a5ee11ff694c6059e779e5589f18c0fe1ca0fe4", func := "coachhouse/coachhouselaw20.TidyPlays", spec := "tidyPlays", unfollowed := true, recurses := true, named := ["coachhouse/slot.fields"], apart := false, laid := [("coachhouse/slot.fields", laid_coachhouse_slot_fields)] }
def TidyPlaysSaid : Prop := tidyPlaysRow.holds Tryz.pinned (OpenSpec.ofChange tidyPlaysSpec)

/-- ITS FALSE NEIGHBOUR: 'it returns false'. Refute it at one input. -/
def tidyPlaysWrong : ChangeSpec := { name := "tidyPlays", fn := fun _ => fun
  | [d1, d2, d3, d4, d5] => { results := [.lit (.bool false)], args := [d1, d2, d3, d4, d5] }
  | _ => none }
def TidyPlaysWrongFalsely : Prop := tidyPlaysRow.holds Tryz.pinned (OpenSpec.ofChange tidyPlaysWrong)

/- THE SECOND FORM. 'bulk': how many values and letters a reading holds, each counted each time it is reached (what is shared counts as often as it is met; a slice's spare places count too). A statement '..UptoSaid' is the law's where the arguments, and the package variables that the reading takes, are together of bulk at most 1048576: NARROWER than '..Said'. Prove '..Said' where nothing that the law and all that it calls make is longer than what came in: it says more and counts as full. Else prove '..UptoSaid'. A law counts once. -/
mutual
def uptoBulk {H : Type} : DataW H → Nat
  | .lit (.string bytes) => bytes.length + 1
  | .lit _ => 1
  | .nil => 1
  | .ptr d => uptoBulk d + 1
  | .slice elems spare => uptoBulkAll elems + uptoBulkAll spare + 1
  | .agg parts => uptoBulkAll parts + 1
  | .iface _ d => uptoBulk d + 1
  | .map entries => uptoBulkEntries entries + 1
  | .held _ => 1
def uptoBulkAll {H : Type} : List (DataW H) → Nat
  | [] => 0
  | d :: r => uptoBulk d + uptoBulkAll r
def uptoBulkEntries {H : Type} : List (Lit × DataW H) → Nat
  | [] => 0
  | x :: r => uptoBulkEntry x + uptoBulkEntries r
def uptoBulkEntry {H : Type} : Lit × DataW H → Nat
  | (.string bytes, d) => bytes.length + uptoBulk d + 1
  | (_, d) => uptoBulk d + 1
 end
def uptoSmall : (H : Type) → List (DataW H) → Bool := fun _ ds => decide (uptoBulkAll ds ≤ 1048576)
def OpenSpec.upto (s : _root_.Go.ChangeSpec) : _root_.Go.OpenSpec := { _root_.Go.OpenSpec.ofChange s with cond := some uptoSmall }

/-- 'coachhouselaw20.TidyLeaves', WHERE WHAT IT READS IS OF BULK AT MOST 1048576: true; the input reads as it did. -/
def tidyLeavesUptoRow : OpenClaim := { program := "yteadpgiffpfmnaagreatdoor", sum := "8d3abd14dfa5431d2ecbbaa42a5ee11ff694c6059e779e5589f18c0fe1ca0fe4", func := "coachhouse/coachhouselaw20.TidyLeaves", spec := "tidyLeaves", unfollowed := true, recurses := true, named := ["coachhouse/slot.fields"], apart := false, laid := [("coachhouse/slot.fields", laid_coachhouse_slot_fields)], narrowed := true }
def TidyLeavesUptoSaid : Prop := tidyLeavesUptoRow.holds Tryz.pinned (OpenSpec.upto tidyLeavesSpec)

/-- 'coachhouselaw20.TidyGrants', WHERE WHAT IT READS IS OF BULK AT MOST 1048576: true; the input reads as it did. -/
def tidyGrantsUptoRow : OpenClaim := { program := "yteadpgiffpfmnaagreatdoor", sum := "8d3abd14dfa5431d2ecbbaa42a5ee11ff694c6059e779e5589f18c0fe1ca0fe4", func := "coachhouse/coachhouselaw20.TidyGrants", spec := "tidyGrants", unfollowed := true, recurses := true, named := ["coachhouse/slot.fields"], apart := false, laid := [("coachhouse/slot.fields", laid_coachhouse_slot_fields)], narrowed := true }
def TidyGrantsUptoSaid : Prop := tidyGrantsUptoRow.holds Tryz.pinned (OpenSpec.upto tidyGrantsSpec)

/-- 'coachhouselaw20.TidyKeeps', WHERE WHAT IT READS IS OF BULK AT MOST 1048576: true; the input reads as it did. -/
def tidyKeepsUptoRow : OpenClaim := { program := "yteadpgiffpfmnaagreatdoor", sum := "8d3abd14dfa5431d2ecbbaa42a5ee11ff694c6059e779e5589f18c0fe1ca0fe4", func := "coachhouse/coachhouselaw20.TidyKeeps", spec := "tidyKeeps", unfollowed := true, recurses := true, named := ["coachhouse/slot.fields"], apart := false, laid := [("coachhouse/slot.fields", laid_coachhouse_slot_fields)], narrowed := true }
def TidyKeepsUptoSaid : Prop := tidyKeepsUptoRow.holds Tryz.pinned (OpenSpec.upto tidyKeepsSpec)

/-- 'coachhouselaw20.TidyTwice', WHERE WHAT IT READS IS OF BULK AT MOST 1048576: true; the input reads as it did. -/
def tidyTwiceUptoRow : OpenClaim := { program := "yteadpgiffpfmnaagreatdoor", sum := "8d3abd14dfa5431d2ecbbaa42a5ee11ff694c6059e779e5589f18c0fe1ca0fe4", func := "coachhouse/coachhouselaw20.TidyTwice", spec := "tidyTwice", unfollowed := true, recurses := true, named := ["coachhouse/slot.fields"], apart := false, laid := [("coachhouse/slot.fields", laid_coachhouse_slot_fields)], narrowed := true }
def TidyTwiceUptoSaid : Prop := tidyTwiceUptoRow.holds Tryz.pinned (OpenSpec.upto tidyTwiceSpec)

/-- 'coachhouselaw20.TidyEpochs', WHERE WHAT IT READS IS OF BULK AT MOST 1048576: true; the input reads as it did. -/
def tidyEpochsUptoRow : OpenClaim := { program := "yteadpgiffpfmnaagreatdoor", sum := "8d3abd14dfa5431d2ecbbaa42a5ee11ff694c6059e779e5589f18c0fe1ca0fe4", func := "coachhouse/coachhouselaw20.TidyEpochs", spec := "tidyEpochs", unfollowed := true, recurses := true, named := ["coachhouse/slot.fields"], apart := false, laid := [("coachhouse/slot.fields", laid_coachhouse_slot_fields)], narrowed := true }
def TidyEpochsUptoSaid : Prop := tidyEpochsUptoRow.holds Tryz.pinned (OpenSpec.upto tidyEpochsSpec)

/-- 'coachhouselaw20.TidyPlays', WHERE WHAT IT READS IS OF BULK AT MOST 1048576: true; the input reads as it did. -/
def tidyPlaysUptoRow : OpenClaim := { program := "yteadpgiffpfmnaagreatdoor", sum := "8d3abd14dfa5431d2ecbbaa42a5ee11ff694c6059e779e5589f18c0fe1ca0fe4", func := "coachhouse/coachhouselaw20.TidyPlays", spec := "tidyPlays", unfollowed := true, recurses := true, named := ["coachhouse/slot.fields"], apart := false, laid := [("coachhouse/slot.fields", laid_coachhouse_slot_fields)], narrowed := true }
def TidyPlaysUptoSaid : Prop := tidyPlaysUptoRow.holds Tryz.pinned (OpenSpec.upto tidyPlaysSpec)

end Rows
end Go.Proofs.YteadpgiffpfmnaaGreatDoor
