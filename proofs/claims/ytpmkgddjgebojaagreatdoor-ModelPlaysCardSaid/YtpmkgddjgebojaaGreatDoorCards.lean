/-
  DERIVED. GIVEN WITH THE SEED: THE CARDS: each row of YtpmkgddjgebojaaGreatDoorRows.lean that lists a variable, with what it lists TIED to the program's text (the seventh form; the later family's looks); each row that meets fmt, with fmt's text TOLD by the authors' own Lean function (tested against real Go, not proved from fmt's source: count such statements apart). THE CARD IS WHAT COUNTS. Prove the row's statement (the work); the ties are given (YtpmkgddjgebojaaGreatDoorTie.lean); close each card by the builder's one call (the guide's Derived/Test/ToyasCard.lean, 'card_holds'). Laid BY PROGRAM, IN A SANDBOX (cutbox-door.mjs). By AI agents, Wed Nov 11 2026. No macro, syntax, notation, axiom, sorry.
-/
import Derived.Test.YtpmkgddjgebojaaGreatDoorRows
import GoSem.ClaimSeven
namespace Go.Proofs.YtpmkgddjgebojaaGreatDoor
namespace Rows

/-- THE TIED CARD OF 'coachhouselaw23.ModelNew'. -/
def modelNewCard : Claim7 := { stood := { row := modelNewRow, standIns := [], harness := (true, "fc8267f2bfccbddf267fa1b35529e40ef16cac4113fcc7d60f2cec3809bf4342"), looks := false }, kinds := [], alts := [], laidByText := true, laidKinds := [.data], laidTests := true, laidLooks := .later }
def ModelNewCardSaid : Prop := Claim7.holds Tryz.pinned (.plain (OpenSpec.ofChange modelNewSpec)) modelNewCard

/-- THE TIED CARD OF 'coachhouselaw23.ModelOwn'. -/
def modelOwnCard : Claim7 := { stood := { row := modelOwnRow, standIns := [], harness := (true, "fc8267f2bfccbddf267fa1b35529e40ef16cac4113fcc7d60f2cec3809bf4342"), looks := false }, kinds := [], alts := [], laidByText := true, laidKinds := [.data], laidTests := true, laidLooks := .later }
def ModelOwnCardSaid : Prop := Claim7.holds Tryz.pinned (.plain (OpenSpec.ofChange modelOwnSpec)) modelOwnCard

/-- THE TIED CARD OF 'coachhouselaw23.ModelPlays'. -/
def modelPlaysCard : Claim7 := { stood := { row := modelPlaysRow, standIns := [], harness := (true, "fc8267f2bfccbddf267fa1b35529e40ef16cac4113fcc7d60f2cec3809bf4342"), looks := false }, kinds := [], alts := [], laidByText := true, laidKinds := [.data], laidTests := true, laidLooks := .later }
def ModelPlaysCardSaid : Prop := Claim7.holds Tryz.pinned (.plain (OpenSpec.ofChange modelPlaysSpec)) modelPlaysCard

/-- THE TIED CARD OF 'coachhouselaw23.ModelFair'. -/
def modelFairCard : Claim7 := { stood := { row := modelFairRow, standIns := [], harness := (true, "fc8267f2bfccbddf267fa1b35529e40ef16cac4113fcc7d60f2cec3809bf4342"), looks := false }, kinds := [], alts := [], laidByText := true, laidKinds := [.data], laidTests := true, laidLooks := .later }
def ModelFairCardSaid : Prop := Claim7.holds Tryz.pinned (.plain (OpenSpec.ofChange modelFairSpec)) modelFairCard

/-- THE TIED CARD OF 'coachhouselaw23.ModelCounts'. -/
def modelCountsCard : Claim7 := { stood := { row := modelCountsRow, standIns := [], harness := (true, "fc8267f2bfccbddf267fa1b35529e40ef16cac4113fcc7d60f2cec3809bf4342"), looks := false }, kinds := [], alts := [], laidByText := true, laidKinds := [.data], laidTests := true, laidLooks := .later }
def ModelCountsCardSaid : Prop := Claim7.holds Tryz.pinned (.plain (OpenSpec.ofChange modelCountsSpec)) modelCountsCard

/-- THE TIED CARD OF 'coachhouselaw23.ModelReaps'. -/
def modelReapsCard : Claim7 := { stood := { row := modelReapsRow, standIns := [], harness := (true, "fc8267f2bfccbddf267fa1b35529e40ef16cac4113fcc7d60f2cec3809bf4342"), looks := false }, kinds := [], alts := [], laidByText := true, laidKinds := [.data], laidTests := true, laidLooks := .later }
def ModelReapsCardSaid : Prop := Claim7.holds Tryz.pinned (.plain (OpenSpec.ofChange modelReapsSpec)) modelReapsCard

/-- THE TIED CARD OF 'coachhouselaw23.ModelClosed'. -/
def modelClosedCard : Claim7 := { stood := { row := modelClosedRow, standIns := [], harness := (true, "fc8267f2bfccbddf267fa1b35529e40ef16cac4113fcc7d60f2cec3809bf4342"), looks := false }, kinds := [], alts := [], laidByText := true, laidKinds := [.data], laidTests := true, laidLooks := .later }
def ModelClosedCardSaid : Prop := Claim7.holds Tryz.pinned (.plain (OpenSpec.ofChange modelClosedSpec)) modelClosedCard

/-- THE TIED CARD OF 'coachhouselaw23.ModelTimes'. -/
def modelTimesCard : Claim7 := { stood := { row := modelTimesRow, standIns := [], harness := (true, "fc8267f2bfccbddf267fa1b35529e40ef16cac4113fcc7d60f2cec3809bf4342"), looks := false }, kinds := [], alts := [], laidByText := true, laidKinds := [.data], laidTests := true, laidLooks := .later }
def ModelTimesCardSaid : Prop := Claim7.holds Tryz.pinned (.plain (OpenSpec.ofChange modelTimesSpec)) modelTimesCard

/-- THE SECOND FORM's CARD OF 'coachhouselaw23.ModelNew'. -/
def modelNewUptoCard : Claim7 := { stood := { row := modelNewUptoRow, standIns := [], harness := (true, "fc8267f2bfccbddf267fa1b35529e40ef16cac4113fcc7d60f2cec3809bf4342"), looks := false }, kinds := [], alts := [], laidByText := true, laidKinds := [.data], laidTests := true, laidLooks := .later }
def ModelNewUptoCardSaid : Prop := Claim7.holds Tryz.pinned (.plain (OpenSpec.upto modelNewSpec)) modelNewUptoCard

/-- THE SECOND FORM's CARD OF 'coachhouselaw23.ModelOwn'. -/
def modelOwnUptoCard : Claim7 := { stood := { row := modelOwnUptoRow, standIns := [], harness := (true, "fc8267f2bfccbddf267fa1b35529e40ef16cac4113fcc7d60f2cec3809bf4342"), looks := false }, kinds := [], alts := [], laidByText := true, laidKinds := [.data], laidTests := true, laidLooks := .later }
def ModelOwnUptoCardSaid : Prop := Claim7.holds Tryz.pinned (.plain (OpenSpec.upto modelOwnSpec)) modelOwnUptoCard

/-- THE SECOND FORM's CARD OF 'coachhouselaw23.ModelPlays'. -/
def modelPlaysUptoCard : Claim7 := { stood := { row := modelPlaysUptoRow, standIns := [], harness := (true, "fc8267f2bfccbddf267fa1b35529e40ef16cac4113fcc7d60f2cec3809bf4342"), looks := false }, kinds := [], alts := [], laidByText := true, laidKinds := [.data], laidTests := true, laidLooks := .later }
def ModelPlaysUptoCardSaid : Prop := Claim7.holds Tryz.pinned (.plain (OpenSpec.upto modelPlaysSpec)) modelPlaysUptoCard

/-- THE SECOND FORM's CARD OF 'coachhouselaw23.ModelFair'. -/
def modelFairUptoCard : Claim7 := { stood := { row := modelFairUptoRow, standIns := [], harness := (true, "fc8267f2bfccbddf267fa1b35529e40ef16cac4113fcc7d60f2cec3809bf4342"), looks := false }, kinds := [], alts := [], laidByText := true, laidKinds := [.data], laidTests := true, laidLooks := .later }
def ModelFairUptoCardSaid : Prop := Claim7.holds Tryz.pinned (.plain (OpenSpec.upto modelFairSpec)) modelFairUptoCard

/-- THE SECOND FORM's CARD OF 'coachhouselaw23.ModelCounts'. -/
def modelCountsUptoCard : Claim7 := { stood := { row := modelCountsUptoRow, standIns := [], harness := (true, "fc8267f2bfccbddf267fa1b35529e40ef16cac4113fcc7d60f2cec3809bf4342"), looks := false }, kinds := [], alts := [], laidByText := true, laidKinds := [.data], laidTests := true, laidLooks := .later }
def ModelCountsUptoCardSaid : Prop := Claim7.holds Tryz.pinned (.plain (OpenSpec.upto modelCountsSpec)) modelCountsUptoCard

/-- THE SECOND FORM's CARD OF 'coachhouselaw23.ModelReaps'. -/
def modelReapsUptoCard : Claim7 := { stood := { row := modelReapsUptoRow, standIns := [], harness := (true, "fc8267f2bfccbddf267fa1b35529e40ef16cac4113fcc7d60f2cec3809bf4342"), looks := false }, kinds := [], alts := [], laidByText := true, laidKinds := [.data], laidTests := true, laidLooks := .later }
def ModelReapsUptoCardSaid : Prop := Claim7.holds Tryz.pinned (.plain (OpenSpec.upto modelReapsSpec)) modelReapsUptoCard

/-- THE SECOND FORM's CARD OF 'coachhouselaw23.ModelClosed'. -/
def modelClosedUptoCard : Claim7 := { stood := { row := modelClosedUptoRow, standIns := [], harness := (true, "fc8267f2bfccbddf267fa1b35529e40ef16cac4113fcc7d60f2cec3809bf4342"), looks := false }, kinds := [], alts := [], laidByText := true, laidKinds := [.data], laidTests := true, laidLooks := .later }
def ModelClosedUptoCardSaid : Prop := Claim7.holds Tryz.pinned (.plain (OpenSpec.upto modelClosedSpec)) modelClosedUptoCard

/-- THE SECOND FORM's CARD OF 'coachhouselaw23.ModelTimes'. -/
def modelTimesUptoCard : Claim7 := { stood := { row := modelTimesUptoRow, standIns := [], harness := (true, "fc8267f2bfccbddf267fa1b35529e40ef16cac4113fcc7d60f2cec3809bf4342"), looks := false }, kinds := [], alts := [], laidByText := true, laidKinds := [.data], laidTests := true, laidLooks := .later }
def ModelTimesUptoCardSaid : Prop := Claim7.holds Tryz.pinned (.plain (OpenSpec.upto modelTimesSpec)) modelTimesUptoCard
end Rows
end Go.Proofs.YtpmkgddjgebojaaGreatDoor
