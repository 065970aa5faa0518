/-
  DERIVED. GIVEN WITH THE SEED: THE CARDS: each row of YtefpoidnklflnaaGreatDoorRows.lean that lists a variable, with what it lists TIED to the program's text (the seventh form; the later family's looks); each row that meets fmt, with fmt's text TOLD by the authors' own Lean function (tested against real Go, not proved from fmt's source: count such statements apart). THE CARD IS WHAT COUNTS. Prove the row's statement (the work); the ties are given (YtefpoidnklflnaaGreatDoorTie.lean); close each card by the builder's one call (the guide's Derived/Test/ToyasCard.lean, 'card_holds'). Laid BY PROGRAM, IN A SANDBOX (cutbox-door.mjs). By AI agents, Wed Nov 11 2026. No macro, syntax, notation, axiom, sorry.
-/
import Derived.Test.YtefpoidnklflnaaGreatDoorRows
import GoSem.ClaimSeven
namespace Go.Proofs.YtefpoidnklflnaaGreatDoor
namespace Rows

/-- THE TIED CARD OF 'coachhouselaw17.TakeRace'. -/
def takeRaceCard : Claim7 := { stood := { row := takeRaceRow, standIns := [], harness := (true, "9b8bff58fe40348fefb797c643549a366003180c2937cd5f0cb8670f9547f7cb"), looks := false }, kinds := [], alts := [], laidByText := true, laidKinds := [.data], laidTests := true, laidLooks := .later }
def TakeRaceCardSaid : Prop := Claim7.holds Tryz.pinned (.plain (OpenSpec.ofChange takeRaceSpec)) takeRaceCard

/-- THE TIED CARD OF 'coachhouselaw17.TakeAlone'. -/
def takeAloneCard : Claim7 := { stood := { row := takeAloneRow, standIns := [], harness := (true, "9b8bff58fe40348fefb797c643549a366003180c2937cd5f0cb8670f9547f7cb"), looks := false }, kinds := [], alts := [], laidByText := true, laidKinds := [.data], laidTests := true, laidLooks := .later }
def TakeAloneCardSaid : Prop := Claim7.holds Tryz.pinned (.plain (OpenSpec.ofChange takeAloneSpec)) takeAloneCard

/-- THE TIED CARD OF 'coachhouselaw17.TakeMoves'. -/
def takeMovesCard : Claim7 := { stood := { row := takeMovesRow, standIns := [], harness := (true, "9b8bff58fe40348fefb797c643549a366003180c2937cd5f0cb8670f9547f7cb"), looks := false }, kinds := [], alts := [], laidByText := true, laidKinds := [.data], laidTests := true, laidLooks := .later }
def TakeMovesCardSaid : Prop := Claim7.holds Tryz.pinned (.plain (OpenSpec.ofChange takeMovesSpec)) takeMovesCard

/-- THE TIED CARD OF 'coachhouselaw17.TakeClosed'. -/
def takeClosedCard : Claim7 := { stood := { row := takeClosedRow, standIns := [], harness := (true, "9b8bff58fe40348fefb797c643549a366003180c2937cd5f0cb8670f9547f7cb"), looks := false }, kinds := [], alts := [], laidByText := true, laidKinds := [.data], laidTests := true, laidLooks := .later }
def TakeClosedCardSaid : Prop := Claim7.holds Tryz.pinned (.plain (OpenSpec.ofChange takeClosedSpec)) takeClosedCard

/-- THE TIED CARD OF 'coachhouselaw17.TakeGranted'. -/
def takeGrantedCard : Claim7 := { stood := { row := takeGrantedRow, standIns := [], harness := (true, "9b8bff58fe40348fefb797c643549a366003180c2937cd5f0cb8670f9547f7cb"), looks := false }, kinds := [], alts := [], laidByText := true, laidKinds := [.data], laidTests := true, laidLooks := .later }
def TakeGrantedCardSaid : Prop := Claim7.holds Tryz.pinned (.plain (OpenSpec.ofChange takeGrantedSpec)) takeGrantedCard

/-- THE TIED CARD OF 'coachhouselaw17.TakePlays'. -/
def takePlaysCard : Claim7 := { stood := { row := takePlaysRow, standIns := [], harness := (true, "9b8bff58fe40348fefb797c643549a366003180c2937cd5f0cb8670f9547f7cb"), looks := false }, kinds := [], alts := [], laidByText := true, laidKinds := [.data], laidTests := true, laidLooks := .later }
def TakePlaysCardSaid : Prop := Claim7.holds Tryz.pinned (.plain (OpenSpec.ofChange takePlaysSpec)) takePlaysCard

/-- THE SECOND FORM's CARD OF 'coachhouselaw17.TakeRace'. -/
def takeRaceUptoCard : Claim7 := { stood := { row := takeRaceUptoRow, standIns := [], harness := (true, "9b8bff58fe40348fefb797c643549a366003180c2937cd5f0cb8670f9547f7cb"), looks := false }, kinds := [], alts := [], laidByText := true, laidKinds := [.data], laidTests := true, laidLooks := .later }
def TakeRaceUptoCardSaid : Prop := Claim7.holds Tryz.pinned (.plain (OpenSpec.upto takeRaceSpec)) takeRaceUptoCard

/-- THE SECOND FORM's CARD OF 'coachhouselaw17.TakeAlone'. -/
def takeAloneUptoCard : Claim7 := { stood := { row := takeAloneUptoRow, standIns := [], harness := (true, "9b8bff58fe40348fefb797c643549a366003180c2937cd5f0cb8670f9547f7cb"), looks := false }, kinds := [], alts := [], laidByText := true, laidKinds := [.data], laidTests := true, laidLooks := .later }
def TakeAloneUptoCardSaid : Prop := Claim7.holds Tryz.pinned (.plain (OpenSpec.upto takeAloneSpec)) takeAloneUptoCard

/-- THE SECOND FORM's CARD OF 'coachhouselaw17.TakeMoves'. -/
def takeMovesUptoCard : Claim7 := { stood := { row := takeMovesUptoRow, standIns := [], harness := (true, "9b8bff58fe40348fefb797c643549a366003180c2937cd5f0cb8670f9547f7cb"), looks := false }, kinds := [], alts := [], laidByText := true, laidKinds := [.data], laidTests := true, laidLooks := .later }
def TakeMovesUptoCardSaid : Prop := Claim7.holds Tryz.pinned (.plain (OpenSpec.upto takeMovesSpec)) takeMovesUptoCard

/-- THE SECOND FORM's CARD OF 'coachhouselaw17.TakeClosed'. -/
def takeClosedUptoCard : Claim7 := { stood := { row := takeClosedUptoRow, standIns := [], harness := (true, "9b8bff58fe40348fefb797c643549a366003180c2937cd5f0cb8670f9547f7cb"), looks := false }, kinds := [], alts := [], laidByText := true, laidKinds := [.data], laidTests := true, laidLooks := .later }
def TakeClosedUptoCardSaid : Prop := Claim7.holds Tryz.pinned (.plain (OpenSpec.upto takeClosedSpec)) takeClosedUptoCard

/-- THE SECOND FORM's CARD OF 'coachhouselaw17.TakeGranted'. -/
def takeGrantedUptoCard : Claim7 := { stood := { row := takeGrantedUptoRow, standIns := [], harness := (true, "9b8bff58fe40348fefb797c643549a366003180c2937cd5f0cb8670f9547f7cb"), looks := false }, kinds := [], alts := [], laidByText := true, laidKinds := [.data], laidTests := true, laidLooks := .later }
def TakeGrantedUptoCardSaid : Prop := Claim7.holds Tryz.pinned (.plain (OpenSpec.upto takeGrantedSpec)) takeGrantedUptoCard

/-- THE SECOND FORM's CARD OF 'coachhouselaw17.TakePlays'. -/
def takePlaysUptoCard : Claim7 := { stood := { row := takePlaysUptoRow, standIns := [], harness := (true, "9b8bff58fe40348fefb797c643549a366003180c2937cd5f0cb8670f9547f7cb"), looks := false }, kinds := [], alts := [], laidByText := true, laidKinds := [.data], laidTests := true, laidLooks := .later }
def TakePlaysUptoCardSaid : Prop := Claim7.holds Tryz.pinned (.plain (OpenSpec.upto takePlaysSpec)) takePlaysUptoCard
end Rows
end Go.Proofs.YtefpoidnklflnaaGreatDoor
