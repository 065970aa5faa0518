/-
  DERIVED. GIVEN WITH THE SEED: THE CARDS: each row of YtbklamnimfmjkaaGreatDoorRows.lean that lists a variable, with what it lists TIED to the program's text (the seventh form; the later family's looks); each row that meets fmt, with fmt's text TOLD by the authors' own Lean function (tested against real Go, not proved from fmt's source: count such statements apart). THE CARD IS WHAT COUNTS. Prove the row's statement (the work); the ties are given (YtbklamnimfmjkaaGreatDoorTie.lean); close each card by the builder's one call (the guide's Derived/Test/ToyasCard.lean, 'card_holds'). Laid BY PROGRAM, IN A SANDBOX (cutbox-door.mjs). By AI agents, Wed Nov 11 2026. No macro, syntax, notation, axiom, sorry.
-/
import Derived.Test.YtbklamnimfmjkaaGreatDoorRows
import GoSem.ClaimSeven
namespace Go.Proofs.YtbklamnimfmjkaaGreatDoor
namespace Rows

/-- THE TIED CARD OF 'coachhouselaw22.MachineGens'. -/
def machineGensCard : Claim7 := { stood := { row := machineGensRow, standIns := [], harness := (true, "05d87f21bba8cc2bc6d3c695f9c6f1b7261ce0aec44ba0859e3fb773dba1e6ed"), looks := false }, kinds := [], alts := [], laidByText := true, laidKinds := [.data, .data, .data], laidTests := true, laidLooks := .later }
def MachineGensCardSaid : Prop := Claim7.holds Tryz.pinned (.plain (OpenSpec.ofChange machineGensSpec)) machineGensCard

/-- THE TIED CARD OF 'coachhouselaw22.MachineOwn'. -/
def machineOwnCard : Claim7 := { stood := { row := machineOwnRow, standIns := [], harness := (true, "05d87f21bba8cc2bc6d3c695f9c6f1b7261ce0aec44ba0859e3fb773dba1e6ed"), looks := false }, kinds := [], alts := [], laidByText := true, laidKinds := [.data, .data, .data], laidTests := true, laidLooks := .later }
def MachineOwnCardSaid : Prop := Claim7.holds Tryz.pinned (.plain (OpenSpec.ofChange machineOwnSpec)) machineOwnCard

/-- THE TIED CARD OF 'coachhouselaw22.MachineStranger'. -/
def machineStrangerCard : Claim7 := { stood := { row := machineStrangerRow, standIns := [], harness := (true, "05d87f21bba8cc2bc6d3c695f9c6f1b7261ce0aec44ba0859e3fb773dba1e6ed"), looks := false }, kinds := [], alts := [], laidByText := true, laidKinds := [.data, .data, .data], laidTests := true, laidLooks := .later }
def MachineStrangerCardSaid : Prop := Claim7.holds Tryz.pinned (.plain (OpenSpec.ofChange machineStrangerSpec)) machineStrangerCard

/-- THE TIED CARD OF 'coachhouselaw22.MachineWords'. -/
def machineWordsCard : Claim7 := { stood := { row := machineWordsRow, standIns := [], harness := (true, "05d87f21bba8cc2bc6d3c695f9c6f1b7261ce0aec44ba0859e3fb773dba1e6ed"), looks := false }, kinds := [], alts := [], laidByText := true, laidKinds := [.data, .data, .data], laidTests := true, laidLooks := .later }
def MachineWordsCardSaid : Prop := Claim7.holds Tryz.pinned (.plain (OpenSpec.ofChange machineWordsSpec)) machineWordsCard

/-- THE TIED CARD OF 'coachhouselaw22.MachineParked'. -/
def machineParkedCard : Claim7 := { stood := { row := machineParkedRow, standIns := [], harness := (true, "05d87f21bba8cc2bc6d3c695f9c6f1b7261ce0aec44ba0859e3fb773dba1e6ed"), looks := false }, kinds := [], alts := [], laidByText := true, laidKinds := [.data, .data, .data], laidTests := true, laidLooks := .later }
def MachineParkedCardSaid : Prop := Claim7.holds Tryz.pinned (.plain (OpenSpec.ofChange machineParkedSpec)) machineParkedCard

/-- THE TIED CARD OF 'coachhouselaw22.MachineNothing'. -/
def machineNothingCard : Claim7 := { stood := { row := machineNothingRow, standIns := [], harness := (true, "05d87f21bba8cc2bc6d3c695f9c6f1b7261ce0aec44ba0859e3fb773dba1e6ed"), looks := false }, kinds := [], alts := [], laidByText := true, laidKinds := [.data, .data, .data], laidTests := true, laidLooks := .later }
def MachineNothingCardSaid : Prop := Claim7.holds Tryz.pinned (.plain (OpenSpec.ofChange machineNothingSpec)) machineNothingCard

/-- THE SECOND FORM's CARD OF 'coachhouselaw22.MachineGens'. -/
def machineGensUptoCard : Claim7 := { stood := { row := machineGensUptoRow, standIns := [], harness := (true, "05d87f21bba8cc2bc6d3c695f9c6f1b7261ce0aec44ba0859e3fb773dba1e6ed"), looks := false }, kinds := [], alts := [], laidByText := true, laidKinds := [.data, .data, .data], laidTests := true, laidLooks := .later }
def MachineGensUptoCardSaid : Prop := Claim7.holds Tryz.pinned (.plain (OpenSpec.upto machineGensSpec)) machineGensUptoCard

/-- THE SECOND FORM's CARD OF 'coachhouselaw22.MachineOwn'. -/
def machineOwnUptoCard : Claim7 := { stood := { row := machineOwnUptoRow, standIns := [], harness := (true, "05d87f21bba8cc2bc6d3c695f9c6f1b7261ce0aec44ba0859e3fb773dba1e6ed"), looks := false }, kinds := [], alts := [], laidByText := true, laidKinds := [.data, .data, .data], laidTests := true, laidLooks := .later }
def MachineOwnUptoCardSaid : Prop := Claim7.holds Tryz.pinned (.plain (OpenSpec.upto machineOwnSpec)) machineOwnUptoCard

/-- THE SECOND FORM's CARD OF 'coachhouselaw22.MachineStranger'. -/
def machineStrangerUptoCard : Claim7 := { stood := { row := machineStrangerUptoRow, standIns := [], harness := (true, "05d87f21bba8cc2bc6d3c695f9c6f1b7261ce0aec44ba0859e3fb773dba1e6ed"), looks := false }, kinds := [], alts := [], laidByText := true, laidKinds := [.data, .data, .data], laidTests := true, laidLooks := .later }
def MachineStrangerUptoCardSaid : Prop := Claim7.holds Tryz.pinned (.plain (OpenSpec.upto machineStrangerSpec)) machineStrangerUptoCard

/-- THE SECOND FORM's CARD OF 'coachhouselaw22.MachineWords'. -/
def machineWordsUptoCard : Claim7 := { stood := { row := machineWordsUptoRow, standIns := [], harness := (true, "05d87f21bba8cc2bc6d3c695f9c6f1b7261ce0aec44ba0859e3fb773dba1e6ed"), looks := false }, kinds := [], alts := [], laidByText := true, laidKinds := [.data, .data, .data], laidTests := true, laidLooks := .later }
def MachineWordsUptoCardSaid : Prop := Claim7.holds Tryz.pinned (.plain (OpenSpec.upto machineWordsSpec)) machineWordsUptoCard

/-- THE SECOND FORM's CARD OF 'coachhouselaw22.MachineParked'. -/
def machineParkedUptoCard : Claim7 := { stood := { row := machineParkedUptoRow, standIns := [], harness := (true, "05d87f21bba8cc2bc6d3c695f9c6f1b7261ce0aec44ba0859e3fb773dba1e6ed"), looks := false }, kinds := [], alts := [], laidByText := true, laidKinds := [.data, .data, .data], laidTests := true, laidLooks := .later }
def MachineParkedUptoCardSaid : Prop := Claim7.holds Tryz.pinned (.plain (OpenSpec.upto machineParkedSpec)) machineParkedUptoCard

/-- THE SECOND FORM's CARD OF 'coachhouselaw22.MachineNothing'. -/
def machineNothingUptoCard : Claim7 := { stood := { row := machineNothingUptoRow, standIns := [], harness := (true, "05d87f21bba8cc2bc6d3c695f9c6f1b7261ce0aec44ba0859e3fb773dba1e6ed"), looks := false }, kinds := [], alts := [], laidByText := true, laidKinds := [.data, .data, .data], laidTests := true, laidLooks := .later }
def MachineNothingUptoCardSaid : Prop := Claim7.holds Tryz.pinned (.plain (OpenSpec.upto machineNothingSpec)) machineNothingUptoCard
end Rows
end Go.Proofs.YtbklamnimfmjkaaGreatDoor
