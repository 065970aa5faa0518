/-
  NARROWER THAN 'FOR EVERY INPUT', by the rows' own cells (each row's printed sentence says how): TakeRace: laid · TakeAlone: laid · TakeMoves: laid · TakeClosed: laid · TakeGranted: laid · TakePlays: laid.
  DERIVED. THE GIVEN ROWS OF THIS SEAT. 6 by the template 'for every input the law returns true; each argument reads behind the call as it read before'; 0 by the template 'total and deterministic' (their statements: YtefpoidnklflnaaGreatDoorTotals.lean).
  GIVEN WITH THE SEED: the statements are not yours to turn. If you find one false, say at which input.
  Laid BY PROGRAM, IN A SANDBOX (cutbox-rows.mjs): the forced cells as the released guide's own fill.sh prints them over the translation ebfdf7d465bc71f4… (all of the seat's roots in one cut). By AI agents, Wed Nov 11 2026. No macro, syntax, notation, axiom, sorry.
-/
import Derived.Test.YtefpoidnklflnaaGreatDoorChecked
import GoSem.Claim
import GoSem.ClaimJoined
import GoSem.ClaimMapViews
import Derived.JoinedTies
import Derived.KernelRfl
namespace Go.Proofs.YtefpoidnklflnaaGreatDoor
/- THE CELL 'sum', in the pinned program and in every row, IS THE sha256 OF THE DUMP (.gsa) THAT YtefpoidnklflnaaGreatDoorProg.lean LOADS. Nothing in Lean hashes anything: it is a label: what it is worth is what the hold of that sum in a sandbox is worth. -/
noncomputable def Tryz.pinned : Pinned := { name := "ytefpoidnklflnaagreatdoor", sum := "ebfdf7d465bc71f49e3e398f332b72f766c6ce79789d2eb6b394be6381c47f0e", checked := Tryz.checked }
namespace Rows
def none {H : Type} : Left H := { results := [], args := [] }

/- WHAT THE LISTED PACKAGE-LEVEL VARIABLES READ AS WHEN THE CALL BEGINS. Each datum BY PROGRAM (the guide's laid-datum.mjs) off the statement by which the dump's own 'gosem.cut.vars' lays the variable. In a bare row this is a premise. The card (YtefpoidnklflnaaGreatDoorCards.lean) ties it to the program's text. -/
def laid_coachhouse_slot_fields {H : Type} : DataW H := .agg [.agg [.lit (.int .i64 0), .lit (.int .i64 3)], .agg [.lit (.int .i64 3), .lit (.int .i64 4)], .agg [.lit (.int .i64 7), .lit (.int .i64 8)], .agg [.lit (.int .i64 15), .lit (.int .i64 1)], .agg [.lit (.int .i64 16), .lit (.int .i64 1)], .agg [.lit (.int .i64 17), .lit (.int .i64 6)], .agg [.lit (.int .i64 23), .lit (.int .i64 12)], .agg [.lit (.int .i64 35), .lit (.int .i64 12)], .agg [.lit (.int .i64 47), .lit (.int .i64 15)]]

/-- 'coachhouselaw17.TakeRace': WHATEVER THE INPUT: true; the input reads as it did. -/
def takeRaceSpec : ChangeSpec := { name := "takeRace", fn := fun _ => fun
  | [d1, d2, d3] => { results := [.lit (.bool true)], args := [d1, d2, d3] }
  | _ => none }
def takeRaceRow : OpenClaim := { program := "ytefpoidnklflnaagreatdoor", sum := "ebfdf7d465bc71f49e3e398f332b72f766c6ce79789d2eb6b394be6381c47f0e", func := "coachhouse/coachhouselaw17.TakeRace", spec := "takeRace", unfollowed := true, recurses := true, named := ["coachhouse/slot.fields"], apart := false, laid := [("coachhouse/slot.fields", laid_coachhouse_slot_fields)] }
def TakeRaceSaid : Prop := takeRaceRow.holds Tryz.pinned (OpenSpec.ofChange takeRaceSpec)

/-- ITS FALSE NEIGHBOUR: 'it returns false'. Refute it at one input. -/
def takeRaceWrong : ChangeSpec := { name := "takeRace", fn := fun _ => fun
  | [d1, d2, d3] => { results := [.lit (.bool false)], args := [d1, d2, d3] }
  | _ => none }
def TakeRaceWrongFalsely : Prop := takeRaceRow.holds Tryz.pinned (OpenSpec.ofChange takeRaceWrong)

/-- 'coachhouselaw17.TakeAlone': WHATEVER THE INPUT: true; the input reads as it did. -/
def takeAloneSpec : ChangeSpec := { name := "takeAlone", fn := fun _ => fun
  | [d1, d2, d3] => { results := [.lit (.bool true)], args := [d1, d2, d3] }
  | _ => none }
def takeAloneRow : OpenClaim := { program := "ytefpoidnklflnaagreatdoor", sum := "ebfdf7d465bc71f49e3e398f332b72f766c6ce79789d2eb6b394be6381c47f0e", func := "coachhouse/coachhouselaw17.TakeAlone", spec := "takeAlone", unfollowed := true, recurses := true, named := ["coachhouse/slot.fields"], apart := false, laid := [("coachhouse/slot.fields", laid_coachhouse_slot_fields)] }
def TakeAloneSaid : Prop := takeAloneRow.holds Tryz.pinned (OpenSpec.ofChange takeAloneSpec)

/-- ITS FALSE NEIGHBOUR: 'it returns false'. Refute it at one input. -/
def takeAloneWrong : ChangeSpec := { name := "takeAlone", fn := fun _ => fun
  | [d1, d2, d3] => { results := [.lit (.bool false)], args := [d1, d2, d3] }
  | _ => none }
def TakeAloneWrongFalsely : Prop := takeAloneRow.holds Tryz.pinned (OpenSpec.ofChange takeAloneWrong)

/-- 'coachhouselaw17.TakeMoves': WHATEVER THE INPUT: true; the input reads as it did. -/
def takeMovesSpec : ChangeSpec := { name := "takeMoves", fn := fun _ => fun
  | [d1, d2] => { results := [.lit (.bool true)], args := [d1, d2] }
  | _ => none }
def takeMovesRow : OpenClaim := { program := "ytefpoidnklflnaagreatdoor", sum := "ebfdf7d465bc71f49e3e398f332b72f766c6ce79789d2eb6b394be6381c47f0e", func := "coachhouse/coachhouselaw17.TakeMoves", spec := "takeMoves", unfollowed := true, recurses := true, named := ["coachhouse/slot.fields"], apart := false, laid := [("coachhouse/slot.fields", laid_coachhouse_slot_fields)] }
def TakeMovesSaid : Prop := takeMovesRow.holds Tryz.pinned (OpenSpec.ofChange takeMovesSpec)

/-- ITS FALSE NEIGHBOUR: 'it returns false'. Refute it at one input. -/
def takeMovesWrong : ChangeSpec := { name := "takeMoves", fn := fun _ => fun
  | [d1, d2] => { results := [.lit (.bool false)], args := [d1, d2] }
  | _ => none }
def TakeMovesWrongFalsely : Prop := takeMovesRow.holds Tryz.pinned (OpenSpec.ofChange takeMovesWrong)

/-- 'coachhouselaw17.TakeClosed': WHATEVER THE INPUT: true; the input reads as it did. -/
def takeClosedSpec : ChangeSpec := { name := "takeClosed", fn := fun _ => fun
  | [d1, d2, d3, d4] => { results := [.lit (.bool true)], args := [d1, d2, d3, d4] }
  | _ => none }
def takeClosedRow : OpenClaim := { program := "ytefpoidnklflnaagreatdoor", sum := "ebfdf7d465bc71f49e3e398f332b72f766c6ce79789d2eb6b394be6381c47f0e", func := "coachhouse/coachhouselaw17.TakeClosed", spec := "takeClosed", unfollowed := true, recurses := true, named := ["coachhouse/slot.fields"], apart := false, laid := [("coachhouse/slot.fields", laid_coachhouse_slot_fields)] }
def TakeClosedSaid : Prop := takeClosedRow.holds Tryz.pinned (OpenSpec.ofChange takeClosedSpec)

/-- ITS FALSE NEIGHBOUR: 'it returns false'. Refute it at one input. -/
def takeClosedWrong : ChangeSpec := { name := "takeClosed", fn := fun _ => fun
  | [d1, d2, d3, d4] => { results := [.lit (.bool false)], args := [d1, d2, d3, d4] }
  | _ => none }
def TakeClosedWrongFalsely : Prop := takeClosedRow.holds Tryz.pinned (OpenSpec.ofChange takeClosedWrong)

/-- 'coachhouselaw17.TakeGranted': WHATEVER THE INPUT: true; the input reads as it did. -/
def takeGrantedSpec : ChangeSpec := { name := "takeGranted", fn := fun _ => fun
  | [d1, d2, d3, d4] => { results := [.lit (.bool true)], args := [d1, d2, d3, d4] }
  | _ => none }
def takeGrantedRow : OpenClaim := { program := "ytefpoidnklflnaagreatdoor", sum := "ebfdf7d465bc71f49e3e398f332b72f766c6ce79789d2eb6b394be6381c47f0e", func := "coachhouse/coachhouselaw17.TakeGranted", spec := "takeGranted", unfollowed := true, recurses := true, named := ["coachhouse/slot.fields"], apart := false, laid := [("coachhouse/slot.fields", laid_coachhouse_slot_fields)] }
def TakeGrantedSaid : Prop := takeGrantedRow.holds Tryz.pinned (OpenSpec.ofChange takeGrantedSpec)

/-- ITS FALSE NEIGHBOUR: 'it returns false'. Refute it at one input. -/
def takeGrantedWrong : ChangeSpec := { name := "takeGranted", fn := fun _ => fun
  | [d1, d2, d3, d4] => { results := [.lit (.bool false)], args := [d1, d2, d3, d4] }
  | _ => none }
def TakeGrantedWrongFalsely : Prop := takeGrantedRow.holds Tryz.pinned (OpenSpec.ofChange takeGrantedWrong)

/-- 'coachhouselaw17.TakePlays': WHATEVER THE INPUT: true; the input reads as it did. -/
def takePlaysSpec : ChangeSpec := { name := "takePlays", fn := fun _ => fun
  | [d1, d2, d3, d4, d5, d6] => { results := [.lit (.bool true)], args := [d1, d2, d3, d4, d5, d6] }
  | _ => none }
def takePlaysRow : OpenClaim := { program := "ytefpoidnklflnaagreatdoor", sum := "ebfdf7d465bc71f49e3e398f332b72f766c6ce79789d2eb6b394be6381c47f0e", func := "coachhouse/coachhouselaw17.TakePlays", spec := "takePlays", unfollowed := true, recurses := true, named := ["coachhouse/slot.fields"], apart := false, laid := [("coachhouse/slot.fields", laid_coachhouse_slot_fields)] }
def TakePlaysSaid : Prop := takePlaysRow.holds Tryz.pinned (OpenSpec.ofChange takePlaysSpec)

/-- ITS FALSE NEIGHBOUR: 'it returns false'. Refute it at one input. -/
def takePlaysWrong : ChangeSpec := { name := "takePlays", fn := fun _ => fun
  | [d1, d2, d3, d4, d5, d6] => { results := [.lit (.bool false)], args := [d1, d2, d3, d4, d5, d6] }
  | _ => none }
def TakePlaysWrongFalsely : Prop := takePlaysRow.holds Tryz.pinned (OpenSpec.ofChange takePlaysWrong)

/- THE SECOND FORM. 'bulk': how many values and letters a reading holds, each counted each time it is reached (what is shared counts as often as it is met; a slice's spare places count too). A statement '..UptoSaid' is the law's where the arguments, and the package variables that the reading takes, are together of bulk at most 1048576: NARROWER than '..Said'. Prove '..Said' where nothing that the law and all that it calls make is longer than what came in: it says more and counts as full. Else prove '..UptoSaid'. A law counts once. -/
mutual
def uptoBulk {H : Type} : DataW H → Nat
  | .lit (.string bytes) => bytes.length + 1
  | .lit _ => 1
  | .nil => 1
  | .ptr d => uptoBulk d + 1
  | .slice elems spare => uptoBulkAll elems + uptoBulkAll spare + 1
  | .agg parts => uptoBulkAll parts + 1
  | .iface _ d => uptoBulk d + 1
  | .map entries => uptoBulkEntries entries + 1
  | .held _ => 1
def uptoBulkAll {H : Type} : List (DataW H) → Nat
  | [] => 0
  | d :: r => uptoBulk d + uptoBulkAll r
def uptoBulkEntries {H : Type} : List (Lit × DataW H) → Nat
  | [] => 0
  | x :: r => uptoBulkEntry x + uptoBulkEntries r
def uptoBulkEntry {H : Type} : Lit × DataW H → Nat
  | (.string bytes, d) => bytes.length + uptoBulk d + 1
  | (_, d) => uptoBulk d + 1
 end
def uptoSmall : (H : Type) → List (DataW H) → Bool := fun _ ds => decide (uptoBulkAll ds ≤ 1048576)
def OpenSpec.upto (s : _root_.Go.ChangeSpec) : _root_.Go.OpenSpec := { _root_.Go.OpenSpec.ofChange s with cond := some uptoSmall }

/-- 'coachhouselaw17.TakeRace', WHERE WHAT IT READS IS OF BULK AT MOST 1048576: true; the input reads as it did. -/
def takeRaceUptoRow : OpenClaim := { program := "ytefpoidnklflnaagreatdoor", sum := "ebfdf7d465bc71f49e3e398f332b72f766c6ce79789d2eb6b394be6381c47f0e", func := "coachhouse/coachhouselaw17.TakeRace", spec := "takeRace", unfollowed := true, recurses := true, named := ["coachhouse/slot.fields"], apart := false, laid := [("coachhouse/slot.fields", laid_coachhouse_slot_fields)], narrowed := true }
def TakeRaceUptoSaid : Prop := takeRaceUptoRow.holds Tryz.pinned (OpenSpec.upto takeRaceSpec)

/-- 'coachhouselaw17.TakeAlone', WHERE WHAT IT READS IS OF BULK AT MOST 1048576: true; the input reads as it did. -/
def takeAloneUptoRow : OpenClaim := { program := "ytefpoidnklflnaagreatdoor", sum := "ebfdf7d465bc71f49e3e398f332b72f766c6ce79789d2eb6b394be6381c47f0e", func := "coachhouse/coachhouselaw17.TakeAlone", spec := "takeAlone", unfollowed := true, recurses := true, named := ["coachhouse/slot.fields"], apart := false, laid := [("coachhouse/slot.fields", laid_coachhouse_slot_fields)], narrowed := true }
def TakeAloneUptoSaid : Prop := takeAloneUptoRow.holds Tryz.pinned (OpenSpec.upto takeAloneSpec)

/-- 'coachhouselaw17.TakeMoves', WHERE WHAT IT READS IS OF BULK AT MOST 1048576: true; the input reads as it did. -/
def takeMovesUptoRow : OpenClaim := { program := "ytefpoidnklflnaagreatdoor", sum := "ebfdf7d465bc71f49e3e398f332b72f766c6ce79789d2eb6b394be6381c47f0e", func := "coachhouse/coachhouselaw17.TakeMoves", spec := "takeMoves", unfollowed := true, recurses := true, named := ["coachhouse/slot.fields"], apart := false, laid := [("coachhouse/slot.fields", laid_coachhouse_slot_fields)], narrowed := true }
def TakeMovesUptoSaid : Prop := takeMovesUptoRow.holds Tryz.pinned (OpenSpec.upto takeMovesSpec)

/-- 'coachhouselaw17.TakeClosed', WHERE WHAT IT READS IS OF BULK AT MOST 1048576: true; the input reads as it did. -/
def takeClosedUptoRow : OpenClaim := { program := "ytefpoidnklflnaagreatdoor", sum := "ebfdf7d465bc71f49e3e398f332b72f766c6ce79789d2eb6b394be6381c47f0e", func := "coachhouse/coachhouselaw17.TakeClosed", spec := "takeClosed", unfollowed := true, recurses := true, named := ["coachhouse/slot.fields"], apart := false, laid := [("coachhouse/slot.fields", laid_coachhouse_slot_fields)], narrowed := true }
def TakeClosedUptoSaid : Prop := takeClosedUptoRow.holds Tryz.pinned (OpenSpec.upto takeClosedSpec)

/-- 'coachhouselaw17.TakeGranted', WHERE WHAT IT READS IS OF BULK AT MOST 1048576: true; the input reads as it did. -/
def takeGrantedUptoRow : OpenClaim := { program := "ytefpoidnklflnaagreatdoor", sum := "ebfdf7d465bc71f49e3e398f332b72f766c6ce79789d2eb6b394be6381c47f0e", func := "coachhouse/coachhouselaw17.TakeGranted", spec := "takeGranted", unfollowed := true, recurses := true, named := ["coachhouse/slot.fields"], apart := false, laid := [("coachhouse/slot.fields", laid_coachhouse_slot_fields)], narrowed := true }
def TakeGrantedUptoSaid : Prop := takeGrantedUptoRow.holds Tryz.pinned (OpenSpec.upto takeGrantedSpec)

/-- 'coachhouselaw17.TakePlays', WHERE WHAT IT READS IS OF BULK AT MOST 1048576: true; the input reads as it did. -/
def takePlaysUptoRow : OpenClaim := { program := "ytefpoidnklflnaagreatdoor", sum := "ebfdf7d465bc71f49e3e398f332b72f766c6ce79789d2eb6b394be6381c47f0e", func := "coachhouse/coachhouselaw17.TakePlays", spec := "takePlays", unfollowed := true, recurses := true, named := ["coachhouse/slot.fields"], apart := false, laid := [("coachhouse/slot.fields", laid_coachhouse_slot_fields)], narrowed := true }
def TakePlaysUptoSaid : Prop := takePlaysUptoRow.holds Tryz.pinned (OpenSpec.upto takePlaysSpec)

end Rows
end Go.Proofs.YtefpoidnklflnaaGreatDoor
