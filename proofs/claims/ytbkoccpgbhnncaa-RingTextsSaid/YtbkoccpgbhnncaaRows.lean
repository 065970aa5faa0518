/-
  No cell of these rows narrows 'for every input' (looked for: loops, veiled, ifaces, maps, wideKeys, modest, calm, conditions, laid).
  DERIVED. THE GIVEN ROWS OF THIS SEAT. 6 by the template 'for every input the law returns true; each argument reads behind the call as it read before'; 0 by the template 'total and deterministic' (their statements: YtbkoccpgbhnncaaTotals.lean).
  GIVEN WITH THE SEED: the statements are not yours to turn. If you find one false, say at which input.
  Laid BY PROGRAM, IN A SANDBOX (cutbox-rows.mjs): the forced cells as the released guide's own fill.sh prints them over the translation 91dd4ba9c3865bac… (all of the seat's roots in one cut). By AI agents, Wed Nov 11 2026. No macro, syntax, notation, axiom, sorry.
-/
import Derived.Test.YtbkoccpgbhnncaaChecked
import GoSem.Claim
import GoSem.ClaimJoined
import GoSem.ClaimMapViews
import Derived.JoinedTies
import Derived.KernelRfl
namespace Go.Proofs.Ytbkoccpgbhnncaa
/- THE CELL 'sum', in the pinned program and in every row, IS THE sha256 OF THE DUMP (.gsa) THAT YtbkoccpgbhnncaaProg.lean LOADS. Nothing in Lean hashes anything: it is a label: what it is worth is what the hold of that sum in a sandbox is worth. -/
noncomputable def Try.pinned : Pinned := { name := "ytbkoccpgbhnncaa", sum := "91dd4ba9c3865bac908c44760724ff4aecb49ea13d6ad65bde461c89151d4885", checked := Try.checked }
namespace Rows
def none {H : Type} : Left H := { results := [], args := [] }

/-- 'coachhouselaw03.RingOrder': WHATEVER THE INPUT: true; the input reads as it did. -/
def ringOrderSpec : ChangeSpec := { name := "ringOrder", fn := fun _ => fun
  | [d1, d2, d3] => { results := [.lit (.bool true)], args := [d1, d2, d3] }
  | _ => none }
def ringOrderRow : OpenClaim := { program := "ytbkoccpgbhnncaa", sum := "91dd4ba9c3865bac908c44760724ff4aecb49ea13d6ad65bde461c89151d4885", func := "coachhouse/coachhouselaw03.RingOrder", spec := "ringOrder", apart := false }
def RingOrderSaid : Prop := ringOrderRow.holds Try.pinned (OpenSpec.ofChange ringOrderSpec)

/-- ITS FALSE NEIGHBOUR: 'it returns false'. Refute it at one input. -/
def ringOrderWrong : ChangeSpec := { name := "ringOrder", fn := fun _ => fun
  | [d1, d2, d3] => { results := [.lit (.bool false)], args := [d1, d2, d3] }
  | _ => none }
def RingOrderWrongFalsely : Prop := ringOrderRow.holds Try.pinned (OpenSpec.ofChange ringOrderWrong)

/-- 'coachhouselaw03.RingTexts': WHATEVER THE INPUT: true; the input reads as it did. -/
def ringTextsSpec : ChangeSpec := { name := "ringTexts", fn := fun _ => fun
  | [d] => { results := [.lit (.bool true)], args := [d] }
  | _ => none }
def ringTextsRow : OpenClaim := { program := "ytbkoccpgbhnncaa", sum := "91dd4ba9c3865bac908c44760724ff4aecb49ea13d6ad65bde461c89151d4885", func := "coachhouse/coachhouselaw03.RingTexts", spec := "ringTexts", apart := false }
def RingTextsSaid : Prop := ringTextsRow.holds Try.pinned (OpenSpec.ofChange ringTextsSpec)

/-- ITS FALSE NEIGHBOUR: 'it returns false'. Refute it at one input. -/
def ringTextsWrong : ChangeSpec := { name := "ringTexts", fn := fun _ => fun
  | [d] => { results := [.lit (.bool false)], args := [d] }
  | _ => none }
def RingTextsWrongFalsely : Prop := ringTextsRow.holds Try.pinned (OpenSpec.ofChange ringTextsWrong)

/-- 'coachhouselaw03.RingPlays': WHATEVER THE INPUT: true; the input reads as it did. -/
def ringPlaysSpec : ChangeSpec := { name := "ringPlays", fn := fun _ => fun
  | [d1, d2] => { results := [.lit (.bool true)], args := [d1, d2] }
  | _ => none }
def ringPlaysRow : OpenClaim := { program := "ytbkoccpgbhnncaa", sum := "91dd4ba9c3865bac908c44760724ff4aecb49ea13d6ad65bde461c89151d4885", func := "coachhouse/coachhouselaw03.RingPlays", spec := "ringPlays", unfollowed := true, recurses := true, apart := false }
def RingPlaysSaid : Prop := ringPlaysRow.holds Try.pinned (OpenSpec.ofChange ringPlaysSpec)

/-- ITS FALSE NEIGHBOUR: 'it returns false'. Refute it at one input. -/
def ringPlaysWrong : ChangeSpec := { name := "ringPlays", fn := fun _ => fun
  | [d1, d2] => { results := [.lit (.bool false)], args := [d1, d2] }
  | _ => none }
def RingPlaysWrongFalsely : Prop := ringPlaysRow.holds Try.pinned (OpenSpec.ofChange ringPlaysWrong)

/-- 'coachhouselaw03.RingLeft': WHATEVER THE INPUT: true; the input reads as it did. -/
def ringLeftSpec : ChangeSpec := { name := "ringLeft", fn := fun _ => fun
  | [d1, d2, d3] => { results := [.lit (.bool true)], args := [d1, d2, d3] }
  | _ => none }
def ringLeftRow : OpenClaim := { program := "ytbkoccpgbhnncaa", sum := "91dd4ba9c3865bac908c44760724ff4aecb49ea13d6ad65bde461c89151d4885", func := "coachhouse/coachhouselaw03.RingLeft", spec := "ringLeft", unfollowed := true, recurses := true, apart := false }
def RingLeftSaid : Prop := ringLeftRow.holds Try.pinned (OpenSpec.ofChange ringLeftSpec)

/-- ITS FALSE NEIGHBOUR: 'it returns false'. Refute it at one input. -/
def ringLeftWrong : ChangeSpec := { name := "ringLeft", fn := fun _ => fun
  | [d1, d2, d3] => { results := [.lit (.bool false)], args := [d1, d2, d3] }
  | _ => none }
def RingLeftWrongFalsely : Prop := ringLeftRow.holds Try.pinned (OpenSpec.ofChange ringLeftWrong)

/-- 'coachhouselaw03.RingTurns': WHATEVER THE INPUT: true; the input reads as it did. -/
def ringTurnsSpec : ChangeSpec := { name := "ringTurns", fn := fun _ => fun
  | [d1, d2] => { results := [.lit (.bool true)], args := [d1, d2] }
  | _ => none }
def ringTurnsRow : OpenClaim := { program := "ytbkoccpgbhnncaa", sum := "91dd4ba9c3865bac908c44760724ff4aecb49ea13d6ad65bde461c89151d4885", func := "coachhouse/coachhouselaw03.RingTurns", spec := "ringTurns", unfollowed := true, recurses := true, apart := false }
def RingTurnsSaid : Prop := ringTurnsRow.holds Try.pinned (OpenSpec.ofChange ringTurnsSpec)

/-- ITS FALSE NEIGHBOUR: 'it returns false'. Refute it at one input. -/
def ringTurnsWrong : ChangeSpec := { name := "ringTurns", fn := fun _ => fun
  | [d1, d2] => { results := [.lit (.bool false)], args := [d1, d2] }
  | _ => none }
def RingTurnsWrongFalsely : Prop := ringTurnsRow.holds Try.pinned (OpenSpec.ofChange ringTurnsWrong)

/-- 'coachhouselaw03.RingRoom': WHATEVER THE INPUT: true; the input reads as it did. -/
def ringRoomSpec : ChangeSpec := { name := "ringRoom", fn := fun _ => fun
  | [d1, d2] => { results := [.lit (.bool true)], args := [d1, d2] }
  | _ => none }
def ringRoomRow : OpenClaim := { program := "ytbkoccpgbhnncaa", sum := "91dd4ba9c3865bac908c44760724ff4aecb49ea13d6ad65bde461c89151d4885", func := "coachhouse/coachhouselaw03.RingRoom", spec := "ringRoom", unfollowed := true, recurses := true, apart := false }
def RingRoomSaid : Prop := ringRoomRow.holds Try.pinned (OpenSpec.ofChange ringRoomSpec)

/-- ITS FALSE NEIGHBOUR: 'it returns false'. Refute it at one input. -/
def ringRoomWrong : ChangeSpec := { name := "ringRoom", fn := fun _ => fun
  | [d1, d2] => { results := [.lit (.bool false)], args := [d1, d2] }
  | _ => none }
def RingRoomWrongFalsely : Prop := ringRoomRow.holds Try.pinned (OpenSpec.ofChange ringRoomWrong)

/- THE SECOND FORM. 'bulk': how many values and letters a reading holds, each counted each time it is reached (what is shared counts as often as it is met; a slice's spare places count too). A statement '..UptoSaid' is the law's where the arguments, and the package variables that the reading takes, are together of bulk at most 1048576: NARROWER than '..Said'. Prove '..Said' where nothing that the law and all that it calls make is longer than what came in: it says more and counts as full. Else prove '..UptoSaid'. A law counts once. -/
mutual
def uptoBulk {H : Type} : DataW H → Nat
  | .lit (.string bytes) => bytes.length + 1
  | .lit _ => 1
  | .nil => 1
  | .ptr d => uptoBulk d + 1
  | .slice elems spare => uptoBulkAll elems + uptoBulkAll spare + 1
  | .agg parts => uptoBulkAll parts + 1
  | .iface _ d => uptoBulk d + 1
  | .map entries => uptoBulkEntries entries + 1
  | .held _ => 1
def uptoBulkAll {H : Type} : List (DataW H) → Nat
  | [] => 0
  | d :: r => uptoBulk d + uptoBulkAll r
def uptoBulkEntries {H : Type} : List (Lit × DataW H) → Nat
  | [] => 0
  | x :: r => uptoBulkEntry x + uptoBulkEntries r
def uptoBulkEntry {H : Type} : Lit × DataW H → Nat
  | (.string bytes, d) => bytes.length + uptoBulk d + 1
  | (_, d) => uptoBulk d + 1
 end
def uptoSmall : (H : Type) → List (DataW H) → Bool := fun _ ds => decide (uptoBulkAll ds ≤ 1048576)
def OpenSpec.upto (s : _root_.Go.ChangeSpec) : _root_.Go.OpenSpec := { _root_.Go.OpenSpec.ofChange s with cond := some uptoSmall }

/-- 'coachhouselaw03.RingOrder', WHERE WHAT IT READS IS OF BULK AT MOST 1048576: true; the input reads as it did. -/
def ringOrderUptoRow : OpenClaim := { program := "ytbkoccpgbhnncaa", sum := "91dd4ba9c3865bac908c44760724ff4aecb49ea13d6ad65bde461c89151d4885", func := "coachhouse/coachhouselaw03.RingOrder", spec := "ringOrder", apart := false, narrowed := true }
def RingOrderUptoSaid : Prop := ringOrderUptoRow.holds Try.pinned (OpenSpec.upto ringOrderSpec)

/-- 'coachhouselaw03.RingTexts', WHERE WHAT IT READS IS OF BULK AT MOST 1048576: true; the input reads as it did. -/
def ringTextsUptoRow : OpenClaim := { program := "ytbkoccpgbhnncaa", sum := "91dd4ba9c3865bac908c44760724ff4aecb49ea13d6ad65bde461c89151d4885", func := "coachhouse/coachhouselaw03.RingTexts", spec := "ringTexts", apart := false, narrowed := true }
def RingTextsUptoSaid : Prop := ringTextsUptoRow.holds Try.pinned (OpenSpec.upto ringTextsSpec)

/-- 'coachhouselaw03.RingPlays', WHERE WHAT IT READS IS OF BULK AT MOST 1048576: true; the input reads as it did. -/
def ringPlaysUptoRow : OpenClaim := { program := "ytbkoccpgbhnncaa", sum := "91dd4ba9c3865bac908c44760724ff4aecb49ea13d6ad65bde461c89151d4885", func := "coachhouse/coachhouselaw03.RingPlays", spec := "ringPlays", unfollowed := true, recurses := true, apart := false, narrowed := true }
def RingPlaysUptoSaid : Prop := ringPlaysUptoRow.holds Try.pinned (OpenSpec.upto ringPlaysSpec)

/-- 'coachhouselaw03.RingLeft', WHERE WHAT IT READS IS OF BULK AT MOST 1048576: true; the input reads as it did. -/
def ringLeftUptoRow : OpenClaim := { program := "ytbkoccpgbhnncaa", sum := "91dd4ba9c3865bac908c44760724ff4aecb49ea13d6ad65bde461c89151d4885", func := "coachhouse/coachhouselaw03.RingLeft", spec := "ringLeft", unfollowed := true, recurses := true, apart := false, narrowed := true }
def RingLeftUptoSaid : Prop := ringLeftUptoRow.holds Try.pinned (OpenSpec.upto ringLeftSpec)

/-- 'coachhouselaw03.RingTurns', WHERE WHAT IT READS IS OF BULK AT MOST 1048576: true; the input reads as it did. -/
def ringTurnsUptoRow : OpenClaim := { program := "ytbkoccpgbhnncaa", sum := "91dd4ba9c3865bac908c44760724ff4aecb49ea13d6ad65bde461c89151d4885", func := "coachhouse/coachhouselaw03.RingTurns", spec := "ringTurns", unfollowed := true, recurses := true, apart := false, narrowed := true }
def RingTurnsUptoSaid : Prop := ringTurnsUptoRow.holds Try.pinned (OpenSpec.upto ringTurnsSpec)

/-- 'coachhouselaw03.RingRoom', WHERE WHAT IT READS IS OF BULK AT MOST 1048576: true; the input reads as it did. -/
def ringRoomUptoRow : OpenClaim := { program := "ytbkoccpgbhnncaa", sum := "91dd4ba9c3865bac908c44760724ff4aecb49ea13d6ad65bde461c89151d4885", func := "coachhouse/coachhouselaw03.RingRoom", spec := "ringRoom", unfollowed := true, recurses := true, apart := false, narrowed := true }
def RingRoomUptoSaid : Prop := ringRoomUptoRow.holds Try.pinned (OpenSpec.upto ringRoomSpec)

end Rows
end Go.Proofs.Ytbkoccpgbhnncaa
