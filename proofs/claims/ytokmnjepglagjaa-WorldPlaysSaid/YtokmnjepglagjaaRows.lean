/-
  No cell of these rows narrows 'for every input' (looked for: loops, veiled, ifaces, maps, wideKeys, modest, calm, conditions, laid).
  DERIVED. THE GIVEN ROWS OF THIS SEAT. 4 by the template 'for every input the law returns true; each argument reads behind the call as it read before'; 0 by the template 'total and deterministic' (their statements: YtokmnjepglagjaaTotals.lean).
  GIVEN WITH THE SEED: the statements are not yours to turn. If you find one false, say at which input.
  Laid BY PROGRAM, IN A SANDBOX (cutbox-rows.mjs): the forced cells as the released guide's own fill.sh prints them over the translation 795707e7b8f5eff7… (all of the seat's roots in one cut). By AI agents, Wed Nov 11 2026. No macro, syntax, notation, axiom, sorry.
-/
import Derived.Test.YtokmnjepglagjaaChecked
import GoSem.Claim
import GoSem.ClaimJoined
import GoSem.ClaimMapViews
import Derived.JoinedTies
import Derived.KernelRfl
namespace Go.Proofs.Ytokmnjepglagjaa
/- THE CELL 'sum', in the pinned program and in every row, IS THE sha256 OF THE DUMP (.gsa) THAT YtokmnjepglagjaaProg.lean LOADS. Nothing in Lean hashes anything: it is a label: what it is worth is what the hold of that sum in a sandbox is worth. -/
noncomputable def Try.pinned : Pinned := { name := "ytokmnjepglagjaa", sum := "795707e7b8f5eff76f9952c028ba44e1c2c33c3c35ee006ce15e95bc6b030e6e", checked := Try.checked }
namespace Rows
def none {H : Type} : Left H := { results := [], args := [] }

/-- 'coachhouselaw11.WorldFull': WHATEVER THE INPUT: true; the input reads as it did. -/
def worldFullSpec : ChangeSpec := { name := "worldFull", fn := fun _ => fun
  | [d1, d2] => { results := [.lit (.bool true)], args := [d1, d2] }
  | _ => none }
def worldFullRow : OpenClaim := { program := "ytokmnjepglagjaa", sum := "795707e7b8f5eff76f9952c028ba44e1c2c33c3c35ee006ce15e95bc6b030e6e", func := "coachhouse/coachhouselaw11.WorldFull", spec := "worldFull", unfollowed := true, recurses := true, apart := false }
def WorldFullSaid : Prop := worldFullRow.holds Try.pinned (OpenSpec.ofChange worldFullSpec)

/-- ITS FALSE NEIGHBOUR: 'it returns false'. Refute it at one input. -/
def worldFullWrong : ChangeSpec := { name := "worldFull", fn := fun _ => fun
  | [d1, d2] => { results := [.lit (.bool false)], args := [d1, d2] }
  | _ => none }
def WorldFullWrongFalsely : Prop := worldFullRow.holds Try.pinned (OpenSpec.ofChange worldFullWrong)

/-- 'coachhouselaw11.WorldLater': WHATEVER THE INPUT: true; the input reads as it did. -/
def worldLaterSpec : ChangeSpec := { name := "worldLater", fn := fun _ => fun
  | [d1, d2] => { results := [.lit (.bool true)], args := [d1, d2] }
  | _ => none }
def worldLaterRow : OpenClaim := { program := "ytokmnjepglagjaa", sum := "795707e7b8f5eff76f9952c028ba44e1c2c33c3c35ee006ce15e95bc6b030e6e", func := "coachhouse/coachhouselaw11.WorldLater", spec := "worldLater", unfollowed := true, recurses := true, apart := false }
def WorldLaterSaid : Prop := worldLaterRow.holds Try.pinned (OpenSpec.ofChange worldLaterSpec)

/-- ITS FALSE NEIGHBOUR: 'it returns false'. Refute it at one input. -/
def worldLaterWrong : ChangeSpec := { name := "worldLater", fn := fun _ => fun
  | [d1, d2] => { results := [.lit (.bool false)], args := [d1, d2] }
  | _ => none }
def WorldLaterWrongFalsely : Prop := worldLaterRow.holds Try.pinned (OpenSpec.ofChange worldLaterWrong)

/-- 'coachhouselaw11.WorldPlays': WHATEVER THE INPUT: true; the input reads as it did. -/
def worldPlaysSpec : ChangeSpec := { name := "worldPlays", fn := fun _ => fun
  | [d] => { results := [.lit (.bool true)], args := [d] }
  | _ => none }
def worldPlaysRow : OpenClaim := { program := "ytokmnjepglagjaa", sum := "795707e7b8f5eff76f9952c028ba44e1c2c33c3c35ee006ce15e95bc6b030e6e", func := "coachhouse/coachhouselaw11.WorldPlays", spec := "worldPlays", unfollowed := true, recurses := true, apart := false }
def WorldPlaysSaid : Prop := worldPlaysRow.holds Try.pinned (OpenSpec.ofChange worldPlaysSpec)

/-- ITS FALSE NEIGHBOUR: 'it returns false'. Refute it at one input. -/
def worldPlaysWrong : ChangeSpec := { name := "worldPlays", fn := fun _ => fun
  | [d] => { results := [.lit (.bool false)], args := [d] }
  | _ => none }
def WorldPlaysWrongFalsely : Prop := worldPlaysRow.holds Try.pinned (OpenSpec.ofChange worldPlaysWrong)

/-- 'coachhouselaw11.WorldOrder': WHATEVER THE INPUT: true; the input reads as it did. -/
def worldOrderSpec : ChangeSpec := { name := "worldOrder", fn := fun _ => fun
  | [d] => { results := [.lit (.bool true)], args := [d] }
  | _ => none }
def worldOrderRow : OpenClaim := { program := "ytokmnjepglagjaa", sum := "795707e7b8f5eff76f9952c028ba44e1c2c33c3c35ee006ce15e95bc6b030e6e", func := "coachhouse/coachhouselaw11.WorldOrder", spec := "worldOrder", unfollowed := true, recurses := true, apart := false }
def WorldOrderSaid : Prop := worldOrderRow.holds Try.pinned (OpenSpec.ofChange worldOrderSpec)

/-- ITS FALSE NEIGHBOUR: 'it returns false'. Refute it at one input. -/
def worldOrderWrong : ChangeSpec := { name := "worldOrder", fn := fun _ => fun
  | [d] => { results := [.lit (.bool false)], args := [d] }
  | _ => none }
def WorldOrderWrongFalsely : Prop := worldOrderRow.holds Try.pinned (OpenSpec.ofChange worldOrderWrong)

/- THE SECOND FORM. 'bulk': how many values and letters a reading holds, each counted each time it is reached (what is shared counts as often as it is met; a slice's spare places count too). A statement '..UptoSaid' is the law's where the arguments, and the package variables that the reading takes, are together of bulk at most 1048576: NARROWER than '..Said'. Prove '..Said' where nothing that the law and all that it calls make is longer than what came in: it says more and counts as full. Else prove '..UptoSaid'. A law counts once. -/
mutual
def uptoBulk {H : Type} : DataW H → Nat
  | .lit (.string bytes) => bytes.length + 1
  | .lit _ => 1
  | .nil => 1
  | .ptr d => uptoBulk d + 1
  | .slice elems spare => uptoBulkAll elems + uptoBulkAll spare + 1
  | .agg parts => uptoBulkAll parts + 1
  | .iface _ d => uptoBulk d + 1
  | .map entries => uptoBulkEntries entries + 1
  | .held _ => 1
def uptoBulkAll {H : Type} : List (DataW H) → Nat
  | [] => 0
  | d :: r => uptoBulk d + uptoBulkAll r
def uptoBulkEntries {H : Type} : List (Lit × DataW H) → Nat
  | [] => 0
  | x :: r => uptoBulkEntry x + uptoBulkEntries r
def uptoBulkEntry {H : Type} : Lit × DataW H → Nat
  | (.string bytes, d) => bytes.length + uptoBulk d + 1
  | (_, d) => uptoBulk d + 1
 end
def uptoSmall : (H : Type) → List (DataW H) → Bool := fun _ ds => decide (uptoBulkAll ds ≤ 1048576)
def OpenSpec.upto (s : _root_.Go.ChangeSpec) : _root_.Go.OpenSpec := { _root_.Go.OpenSpec.ofChange s with cond := some uptoSmall }

/-- 'coachhouselaw11.WorldFull', WHERE WHAT IT READS IS OF BULK AT MOST 1048576: true; the input reads as it did. -/
def worldFullUptoRow : OpenClaim := { program := "ytokmnjepglagjaa", sum := "795707e7b8f5eff76f9952c028ba44e1c2c33c3c35ee006ce15e95bc6b030e6e", func := "coachhouse/coachhouselaw11.WorldFull", spec := "worldFull", unfollowed := true, recurses := true, apart := false, narrowed := true }
def WorldFullUptoSaid : Prop := worldFullUptoRow.holds Try.pinned (OpenSpec.upto worldFullSpec)

/-- 'coachhouselaw11.WorldLater', WHERE WHAT IT READS IS OF BULK AT MOST 1048576: true; the input reads as it did. -/
def worldLaterUptoRow : OpenClaim := { program := "ytokmnjepglagjaa", sum := "795707e7b8f5eff76f9952c028ba44e1c2c33c3c35ee006ce15e95bc6b030e6e", func := "coachhouse/coachhouselaw11.WorldLater", spec := "worldLater", unfollowed := true, recurses := true, apart := false, narrowed := true }
def WorldLaterUptoSaid : Prop := worldLaterUptoRow.holds Try.pinned (OpenSpec.upto worldLaterSpec)

/-- 'coachhouselaw11.WorldPlays', WHERE WHAT IT READS IS OF BULK AT MOST 1048576: true; the input reads as it did. -/
def worldPlaysUptoRow : OpenClaim := { program := "ytokmnjepglagjaa", sum := "795707e7b8f5eff76f9952c028ba44e1c2c33c3c35ee006ce15e95bc6b030e6e", func := "coachhouse/coachhouselaw11.WorldPlays", spec := "worldPlays", unfollowed := true, recurses := true, apart := false, narrowed := true }
def WorldPlaysUptoSaid : Prop := worldPlaysUptoRow.holds Try.pinned (OpenSpec.upto worldPlaysSpec)

/-- 'coachhouselaw11.WorldOrder', WHERE WHAT IT READS IS OF BULK AT MOST 1048576: true; the input reads as it did. -/
def worldOrderUptoRow : OpenClaim := { program := "ytokmnjepglagjaa", sum := "795707e7b8f5eff76f9952c028ba44e1c2c33c3c35ee006ce15e95bc6b030e6e", func := "coachhouse/coachhouselaw11.WorldOrder", spec := "worldOrder", unfollowed := true, recurses := true, apart := false, narrowed := true }
def WorldOrderUptoSaid : Prop := worldOrderUptoRow.holds Try.pinned (OpenSpec.upto worldOrderSpec)

end Rows
end Go.Proofs.Ytokmnjepglagjaa
