/-
  DERIVED. GIVEN WITH THE SEED: THE CARDS: each row of YtpbambdakpomhaaGreatDoorRows.lean that lists a variable, with what it lists TIED to the program's text (the seventh form; the later family's looks); each row that meets fmt, with fmt's text TOLD by the authors' own Lean function (tested against real Go, not proved from fmt's source: count such statements apart). THE CARD IS WHAT COUNTS. Prove the row's statement (the work); the ties are given (YtpbambdakpomhaaGreatDoorTie.lean); close each card by the builder's one call (the guide's Derived/Test/ToyasCard.lean, 'card_holds'). Laid BY PROGRAM, IN A SANDBOX (cutbox-door.mjs). By AI agents, Wed Nov 11 2026. No macro, syntax, notation, axiom, sorry.
-/
import Derived.Test.YtpbambdakpomhaaGreatDoorRows
import GoSem.ClaimSeven
namespace Go.Proofs.YtpbambdakpomhaaGreatDoor
namespace Rows

/-- THE TIED CARD OF 'coachhouselaw22.MachineEnds'. -/
def machineEndsCard : Claim7 := { stood := { row := machineEndsRow, standIns := [], harness := (true, "86ea5af44ecdb9446369b8bc81f5b7cec7a24298846689e6acb60c93b02aa1a3"), looks := false }, kinds := [], alts := [], laidByText := true, laidKinds := [.data, .data, .data], laidTests := true, laidLooks := .later }
def MachineEndsCardSaid : Prop := Claim7.holds Tryz.pinned (.plain (OpenSpec.ofChange machineEndsSpec)) machineEndsCard

/-- THE TIED CARD OF 'coachhouselaw22.MachineGens'. -/
def machineGensCard : Claim7 := { stood := { row := machineGensRow, standIns := [], harness := (true, "86ea5af44ecdb9446369b8bc81f5b7cec7a24298846689e6acb60c93b02aa1a3"), looks := false }, kinds := [], alts := [], laidByText := true, laidKinds := [.data, .data, .data], laidTests := true, laidLooks := .later }
def MachineGensCardSaid : Prop := Claim7.holds Tryz.pinned (.plain (OpenSpec.ofChange machineGensSpec)) machineGensCard

/-- THE TIED CARD OF 'coachhouselaw22.MachineOwn'. -/
def machineOwnCard : Claim7 := { stood := { row := machineOwnRow, standIns := [], harness := (true, "86ea5af44ecdb9446369b8bc81f5b7cec7a24298846689e6acb60c93b02aa1a3"), looks := false }, kinds := [], alts := [], laidByText := true, laidKinds := [.data, .data, .data], laidTests := true, laidLooks := .later }
def MachineOwnCardSaid : Prop := Claim7.holds Tryz.pinned (.plain (OpenSpec.ofChange machineOwnSpec)) machineOwnCard

/-- THE TIED CARD OF 'coachhouselaw22.MachineStranger'. -/
def machineStrangerCard : Claim7 := { stood := { row := machineStrangerRow, standIns := [], harness := (true, "86ea5af44ecdb9446369b8bc81f5b7cec7a24298846689e6acb60c93b02aa1a3"), looks := false }, kinds := [], alts := [], laidByText := true, laidKinds := [.data, .data, .data], laidTests := true, laidLooks := .later }
def MachineStrangerCardSaid : Prop := Claim7.holds Tryz.pinned (.plain (OpenSpec.ofChange machineStrangerSpec)) machineStrangerCard

/-- THE TIED CARD OF 'coachhouselaw22.MachineEpochs'. -/
def machineEpochsCard : Claim7 := { stood := { row := machineEpochsRow, standIns := [], harness := (true, "86ea5af44ecdb9446369b8bc81f5b7cec7a24298846689e6acb60c93b02aa1a3"), looks := false }, kinds := [], alts := [], laidByText := true, laidKinds := [.data, .data, .data], laidTests := true, laidLooks := .later }
def MachineEpochsCardSaid : Prop := Claim7.holds Tryz.pinned (.plain (OpenSpec.ofChange machineEpochsSpec)) machineEpochsCard

/-- THE TIED CARD OF 'coachhouselaw22.MachineWords'. -/
def machineWordsCard : Claim7 := { stood := { row := machineWordsRow, standIns := [], harness := (true, "86ea5af44ecdb9446369b8bc81f5b7cec7a24298846689e6acb60c93b02aa1a3"), looks := false }, kinds := [], alts := [], laidByText := true, laidKinds := [.data, .data, .data], laidTests := true, laidLooks := .later }
def MachineWordsCardSaid : Prop := Claim7.holds Tryz.pinned (.plain (OpenSpec.ofChange machineWordsSpec)) machineWordsCard

/-- THE TIED CARD OF 'coachhouselaw22.MachineStats'. -/
def machineStatsCard : Claim7 := { stood := { row := machineStatsRow, standIns := [], harness := (true, "86ea5af44ecdb9446369b8bc81f5b7cec7a24298846689e6acb60c93b02aa1a3"), looks := false }, kinds := [], alts := [], laidByText := true, laidKinds := [.data, .data, .data], laidTests := true, laidLooks := .later }
def MachineStatsCardSaid : Prop := Claim7.holds Tryz.pinned (.plain (OpenSpec.ofChange machineStatsSpec)) machineStatsCard

/-- THE TIED CARD OF 'coachhouselaw22.MachineUses'. -/
def machineUsesCard : Claim7 := { stood := { row := machineUsesRow, standIns := [], harness := (true, "86ea5af44ecdb9446369b8bc81f5b7cec7a24298846689e6acb60c93b02aa1a3"), looks := false }, kinds := [], alts := [], laidByText := true, laidKinds := [.data, .data, .data], laidTests := true, laidLooks := .later }
def MachineUsesCardSaid : Prop := Claim7.holds Tryz.pinned (.plain (OpenSpec.ofChange machineUsesSpec)) machineUsesCard

/-- THE TIED CARD OF 'coachhouselaw22.MachineLife'. -/
def machineLifeCard : Claim7 := { stood := { row := machineLifeRow, standIns := [], harness := (true, "86ea5af44ecdb9446369b8bc81f5b7cec7a24298846689e6acb60c93b02aa1a3"), looks := false }, kinds := [], alts := [], laidByText := true, laidKinds := [.data, .data, .data], laidTests := true, laidLooks := .later }
def MachineLifeCardSaid : Prop := Claim7.holds Tryz.pinned (.plain (OpenSpec.ofChange machineLifeSpec)) machineLifeCard

/-- THE TIED CARD OF 'coachhouselaw22.MachineNew'. -/
def machineNewCard : Claim7 := { stood := { row := machineNewRow, standIns := [], harness := (true, "86ea5af44ecdb9446369b8bc81f5b7cec7a24298846689e6acb60c93b02aa1a3"), looks := false }, kinds := [], alts := [], laidByText := true, laidKinds := [.data, .data, .data], laidTests := true, laidLooks := .later }
def MachineNewCardSaid : Prop := Claim7.holds Tryz.pinned (.plain (OpenSpec.ofChange machineNewSpec)) machineNewCard

/-- THE TIED CARD OF 'coachhouselaw22.MachineParked'. -/
def machineParkedCard : Claim7 := { stood := { row := machineParkedRow, standIns := [], harness := (true, "86ea5af44ecdb9446369b8bc81f5b7cec7a24298846689e6acb60c93b02aa1a3"), looks := false }, kinds := [], alts := [], laidByText := true, laidKinds := [.data, .data, .data], laidTests := true, laidLooks := .later }
def MachineParkedCardSaid : Prop := Claim7.holds Tryz.pinned (.plain (OpenSpec.ofChange machineParkedSpec)) machineParkedCard

/-- THE TIED CARD OF 'coachhouselaw22.MachineCalm'. -/
def machineCalmCard : Claim7 := { stood := { row := machineCalmRow, standIns := [], harness := (true, "86ea5af44ecdb9446369b8bc81f5b7cec7a24298846689e6acb60c93b02aa1a3"), looks := false }, kinds := [], alts := [], laidByText := true, laidKinds := [.data, .data, .data], laidTests := true, laidLooks := .later }
def MachineCalmCardSaid : Prop := Claim7.holds Tryz.pinned (.plain (OpenSpec.ofChange machineCalmSpec)) machineCalmCard

/-- THE TIED CARD OF 'coachhouselaw22.MachineNothing'. -/
def machineNothingCard : Claim7 := { stood := { row := machineNothingRow, standIns := [], harness := (true, "86ea5af44ecdb9446369b8bc81f5b7cec7a24298846689e6acb60c93b02aa1a3"), looks := false }, kinds := [], alts := [], laidByText := true, laidKinds := [.data, .data, .data], laidTests := true, laidLooks := .later }
def MachineNothingCardSaid : Prop := Claim7.holds Tryz.pinned (.plain (OpenSpec.ofChange machineNothingSpec)) machineNothingCard

/-- THE TIED CARD OF 'coachhouselaw22.MachinePlays'. -/
def machinePlaysCard : Claim7 := { stood := { row := machinePlaysRow, standIns := [], harness := (true, "86ea5af44ecdb9446369b8bc81f5b7cec7a24298846689e6acb60c93b02aa1a3"), looks := false }, kinds := [], alts := [], laidByText := true, laidKinds := [.data, .data, .data], laidTests := true, laidLooks := .later }
def MachinePlaysCardSaid : Prop := Claim7.holds Tryz.pinned (.plain (OpenSpec.ofChange machinePlaysSpec)) machinePlaysCard

/-- THE TIED CARD OF 'coachhouselaw22.MachineReasons'. -/
def machineReasonsCard : Claim7 := { stood := { row := machineReasonsRow, standIns := [], harness := (true, "86ea5af44ecdb9446369b8bc81f5b7cec7a24298846689e6acb60c93b02aa1a3"), looks := false }, kinds := [], alts := [], laidByText := true, laidKinds := [.data, .data, .data], laidTests := true, laidLooks := .later }
def MachineReasonsCardSaid : Prop := Claim7.holds Tryz.pinned (.plain (OpenSpec.ofChange machineReasonsSpec)) machineReasonsCard

/-- THE SECOND FORM's CARD OF 'coachhouselaw22.MachineEnds'. -/
def machineEndsUptoCard : Claim7 := { stood := { row := machineEndsUptoRow, standIns := [], harness := (true, "86ea5af44ecdb9446369b8bc81f5b7cec7a24298846689e6acb60c93b02aa1a3"), looks := false }, kinds := [], alts := [], laidByText := true, laidKinds := [.data, .data, .data], laidTests := true, laidLooks := .later }
def MachineEndsUptoCardSaid : Prop := Claim7.holds Tryz.pinned (.plain (OpenSpec.upto machineEndsSpec)) machineEndsUptoCard

/-- THE SECOND FORM's CARD OF 'coachhouselaw22.MachineGens'. -/
def machineGensUptoCard : Claim7 := { stood := { row := machineGensUptoRow, standIns := [], harness := (true, "86ea5af44ecdb9446369b8bc81f5b7cec7a24298846689e6acb60c93b02aa1a3"), looks := false }, kinds := [], alts := [], laidByText := true, laidKinds := [.data, .data, .data], laidTests := true, laidLooks := .later }
def MachineGensUptoCardSaid : Prop := Claim7.holds Tryz.pinned (.plain (OpenSpec.upto machineGensSpec)) machineGensUptoCard

/-- THE SECOND FORM's CARD OF 'coachhouselaw22.MachineOwn'. -/
def machineOwnUptoCard : Claim7 := { stood := { row := machineOwnUptoRow, standIns := [], harness := (true, "86ea5af44ecdb9446369b8bc81f5b7cec7a24298846689e6acb60c93b02aa1a3"), looks := false }, kinds := [], alts := [], laidByText := true, laidKinds := [.data, .data, .data], laidTests := true, laidLooks := .later }
def MachineOwnUptoCardSaid : Prop := Claim7.holds Tryz.pinned (.plain (OpenSpec.upto machineOwnSpec)) machineOwnUptoCard

/-- THE SECOND FORM's CARD OF 'coachhouselaw22.MachineStranger'. -/
def machineStrangerUptoCard : Claim7 := { stood := { row := machineStrangerUptoRow, standIns := [], harness := (true, "86ea5af44ecdb9446369b8bc81f5b7cec7a24298846689e6acb60c93b02aa1a3"), looks := false }, kinds := [], alts := [], laidByText := true, laidKinds := [.data, .data, .data], laidTests := true, laidLooks := .later }
def MachineStrangerUptoCardSaid : Prop := Claim7.holds Tryz.pinned (.plain (OpenSpec.upto machineStrangerSpec)) machineStrangerUptoCard

/-- THE SECOND FORM's CARD OF 'coachhouselaw22.MachineEpochs'. -/
def machineEpochsUptoCard : Claim7 := { stood := { row := machineEpochsUptoRow, standIns := [], harness := (true, "86ea5af44ecdb9446369b8bc81f5b7cec7a24298846689e6acb60c93b02aa1a3"), looks := false }, kinds := [], alts := [], laidByText := true, laidKinds := [.data, .data, .data], laidTests := true, laidLooks := .later }
def MachineEpochsUptoCardSaid : Prop := Claim7.holds Tryz.pinned (.plain (OpenSpec.upto machineEpochsSpec)) machineEpochsUptoCard

/-- THE SECOND FORM's CARD OF 'coachhouselaw22.MachineWords'. -/
def machineWordsUptoCard : Claim7 := { stood := { row := machineWordsUptoRow, standIns := [], harness := (true, "86ea5af44ecdb9446369b8bc81f5b7cec7a24298846689e6acb60c93b02aa1a3"), looks := false }, kinds := [], alts := [], laidByText := true, laidKinds := [.data, .data, .data], laidTests := true, laidLooks := .later }
def MachineWordsUptoCardSaid : Prop := Claim7.holds Tryz.pinned (.plain (OpenSpec.upto machineWordsSpec)) machineWordsUptoCard

/-- THE SECOND FORM's CARD OF 'coachhouselaw22.MachineStats'. -/
def machineStatsUptoCard : Claim7 := { stood := { row := machineStatsUptoRow, standIns := [], harness := (true, "86ea5af44ecdb9446369b8bc81f5b7cec7a24298846689e6acb60c93b02aa1a3"), looks := false }, kinds := [], alts := [], laidByText := true, laidKinds := [.data, .data, .data], laidTests := true, laidLooks := .later }
def MachineStatsUptoCardSaid : Prop := Claim7.holds Tryz.pinned (.plain (OpenSpec.upto machineStatsSpec)) machineStatsUptoCard

/-- THE SECOND FORM's CARD OF 'coachhouselaw22.MachineUses'. -/
def machineUsesUptoCard : Claim7 := { stood := { row := machineUsesUptoRow, standIns := [], harness := (true, "86ea5af44ecdb9446369b8bc81f5b7cec7a24298846689e6acb60c93b02aa1a3"), looks := false }, kinds := [], alts := [], laidByText := true, laidKinds := [.data, .data, .data], laidTests := true, laidLooks := .later }
def MachineUsesUptoCardSaid : Prop := Claim7.holds Tryz.pinned (.plain (OpenSpec.upto machineUsesSpec)) machineUsesUptoCard

/-- THE SECOND FORM's CARD OF 'coachhouselaw22.MachineLife'. -/
def machineLifeUptoCard : Claim7 := { stood := { row := machineLifeUptoRow, standIns := [], harness := (true, "86ea5af44ecdb9446369b8bc81f5b7cec7a24298846689e6acb60c93b02aa1a3"), looks := false }, kinds := [], alts := [], laidByText := true, laidKinds := [.data, .data, .data], laidTests := true, laidLooks := .later }
def MachineLifeUptoCardSaid : Prop := Claim7.holds Tryz.pinned (.plain (OpenSpec.upto machineLifeSpec)) machineLifeUptoCard

/-- THE SECOND FORM's CARD OF 'coachhouselaw22.MachineNew'. -/
def machineNewUptoCard : Claim7 := { stood := { row := machineNewUptoRow, standIns := [], harness := (true, "86ea5af44ecdb9446369b8bc81f5b7cec7a24298846689e6acb60c93b02aa1a3"), looks := false }, kinds := [], alts := [], laidByText := true, laidKinds := [.data, .data, .data], laidTests := true, laidLooks := .later }
def MachineNewUptoCardSaid : Prop := Claim7.holds Tryz.pinned (.plain (OpenSpec.upto machineNewSpec)) machineNewUptoCard

/-- THE SECOND FORM's CARD OF 'coachhouselaw22.MachineParked'. -/
def machineParkedUptoCard : Claim7 := { stood := { row := machineParkedUptoRow, standIns := [], harness := (true, "86ea5af44ecdb9446369b8bc81f5b7cec7a24298846689e6acb60c93b02aa1a3"), looks := false }, kinds := [], alts := [], laidByText := true, laidKinds := [.data, .data, .data], laidTests := true, laidLooks := .later }
def MachineParkedUptoCardSaid : Prop := Claim7.holds Tryz.pinned (.plain (OpenSpec.upto machineParkedSpec)) machineParkedUptoCard

/-- THE SECOND FORM's CARD OF 'coachhouselaw22.MachineCalm'. -/
def machineCalmUptoCard : Claim7 := { stood := { row := machineCalmUptoRow, standIns := [], harness := (true, "86ea5af44ecdb9446369b8bc81f5b7cec7a24298846689e6acb60c93b02aa1a3"), looks := false }, kinds := [], alts := [], laidByText := true, laidKinds := [.data, .data, .data], laidTests := true, laidLooks := .later }
def MachineCalmUptoCardSaid : Prop := Claim7.holds Tryz.pinned (.plain (OpenSpec.upto machineCalmSpec)) machineCalmUptoCard

/-- THE SECOND FORM's CARD OF 'coachhouselaw22.MachineNothing'. -/
def machineNothingUptoCard : Claim7 := { stood := { row := machineNothingUptoRow, standIns := [], harness := (true, "86ea5af44ecdb9446369b8bc81f5b7cec7a24298846689e6acb60c93b02aa1a3"), looks := false }, kinds := [], alts := [], laidByText := true, laidKinds := [.data, .data, .data], laidTests := true, laidLooks := .later }
def MachineNothingUptoCardSaid : Prop := Claim7.holds Tryz.pinned (.plain (OpenSpec.upto machineNothingSpec)) machineNothingUptoCard

/-- THE SECOND FORM's CARD OF 'coachhouselaw22.MachinePlays'. -/
def machinePlaysUptoCard : Claim7 := { stood := { row := machinePlaysUptoRow, standIns := [], harness := (true, "86ea5af44ecdb9446369b8bc81f5b7cec7a24298846689e6acb60c93b02aa1a3"), looks := false }, kinds := [], alts := [], laidByText := true, laidKinds := [.data, .data, .data], laidTests := true, laidLooks := .later }
def MachinePlaysUptoCardSaid : Prop := Claim7.holds Tryz.pinned (.plain (OpenSpec.upto machinePlaysSpec)) machinePlaysUptoCard

/-- THE SECOND FORM's CARD OF 'coachhouselaw22.MachineReasons'. -/
def machineReasonsUptoCard : Claim7 := { stood := { row := machineReasonsUptoRow, standIns := [], harness := (true, "86ea5af44ecdb9446369b8bc81f5b7cec7a24298846689e6acb60c93b02aa1a3"), looks := false }, kinds := [], alts := [], laidByText := true, laidKinds := [.data, .data, .data], laidTests := true, laidLooks := .later }
def MachineReasonsUptoCardSaid : Prop := Claim7.holds Tryz.pinned (.plain (OpenSpec.upto machineReasonsSpec)) machineReasonsUptoCard
end Rows
end Go.Proofs.YtpbambdakpomhaaGreatDoor
