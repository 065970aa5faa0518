/-
  DERIVED. GIVEN WITH THE SEED: THE CARDS: each row of YteadpgiffpfmnaaGreatDoorRows.lean that lists a variable, with what it lists TIED to the program's text (the seventh form; the later family's looks); each row that meets fmt, with fmt's text TOLD by the authors' own Lean function (tested against real Go, not proved from fmt's source: count such statements apart). THE CARD IS WHAT COUNTS. Prove the row's statement (the work); the ties are given (YteadpgiffpfmnaaGreatDoorTie.lean); close each card by the builder's one call (the guide's Derived/Test/ToyasCard.lean, 'card_holds'). Laid BY PROGRAM, IN A SANDBOX (cutbox-door.mjs). By AI agents, Wed Nov 11 2026. No macro, syntax, notation, axiom, sorry.
-/
import Derived.Test.YteadpgiffpfmnaaGreatDoorRows
import GoSem.ClaimSeven
namespace Go.Proofs.YteadpgiffpfmnaaGreatDoor
namespace Rows

/-- THE TIED CARD OF 'coachhouselaw20.TidyLeaves'. -/
def tidyLeavesCard : Claim7 := { stood := { row := tidyLeavesRow, standIns := [], harness := (true, "cd55222638d17cc50f25ad6c8bf105d0d96fe0f485c41963596c810bfd790a53"), looks := false }, kinds := [], alts := [], laidByText := true, laidKinds := [.data], laidTests := true, laidLooks := .later }
def TidyLeavesCardSaid : Prop := Claim7.holds Tryz.pinned (.plain (OpenSpec.ofChange tidyLeavesSpec)) tidyLeavesCard

/-- THE TIED CARD OF 'coachhouselaw20.TidyGrants'. -/
def tidyGrantsCard : Claim7 := { stood := { row := tidyGrantsRow, standIns := [], harness := (true, "cd55222638d17cc50f25ad6c8bf105d0d96fe0f485c41963596c810bfd790a53"), looks := false }, kinds := [], alts := [], laidByText := true, laidKinds := [.data], laidTests := true, laidLooks := .later }
def TidyGrantsCardSaid : Prop := Claim7.holds Tryz.pinned (.plain (OpenSpec.ofChange tidyGrantsSpec)) tidyGrantsCard

/-- THE TIED CARD OF 'coachhouselaw20.TidyKeeps'. -/
def tidyKeepsCard : Claim7 := { stood := { row := tidyKeepsRow, standIns := [], harness := (true, "cd55222638d17cc50f25ad6c8bf105d0d96fe0f485c41963596c810bfd790a53"), looks := false }, kinds := [], alts := [], laidByText := true, laidKinds := [.data], laidTests := true, laidLooks := .later }
def TidyKeepsCardSaid : Prop := Claim7.holds Tryz.pinned (.plain (OpenSpec.ofChange tidyKeepsSpec)) tidyKeepsCard

/-- THE TIED CARD OF 'coachhouselaw20.TidyTwice'. -/
def tidyTwiceCard : Claim7 := { stood := { row := tidyTwiceRow, standIns := [], harness := (true, "cd55222638d17cc50f25ad6c8bf105d0d96fe0f485c41963596c810bfd790a53"), looks := false }, kinds := [], alts := [], laidByText := true, laidKinds := [.data], laidTests := true, laidLooks := .later }
def TidyTwiceCardSaid : Prop := Claim7.holds Tryz.pinned (.plain (OpenSpec.ofChange tidyTwiceSpec)) tidyTwiceCard

/-- THE TIED CARD OF 'coachhouselaw20.TidyEpochs'. -/
def tidyEpochsCard : Claim7 := { stood := { row := tidyEpochsRow, standIns := [], harness := (true, "cd55222638d17cc50f25ad6c8bf105d0d96fe0f485c41963596c810bfd790a53"), looks := false }, kinds := [], alts := [], laidByText := true, laidKinds := [.data], laidTests := true, laidLooks := .later }
def TidyEpochsCardSaid : Prop := Claim7.holds Tryz.pinned (.plain (OpenSpec.ofChange tidyEpochsSpec)) tidyEpochsCard

/-- THE TIED CARD OF 'coachhouselaw20.TidyPlays'. -/
def tidyPlaysCard : Claim7 := { stood := { row := tidyPlaysRow, standIns := [], harness := (true, "cd55222638d17cc50f25ad6c8bf105d0d96fe0f485c41963596c810bfd790a53"), looks := false }, kinds := [], alts := [], laidByText := true, laidKinds := [.data], laidTests := true, laidLooks := .later }
def TidyPlaysCardSaid : Prop := Claim7.holds Tryz.pinned (.plain (OpenSpec.ofChange tidyPlaysSpec)) tidyPlaysCard

/-- THE SECOND FORM's CARD OF 'coachhouselaw20.TidyLeaves'. -/
def tidyLeavesUptoCard : Claim7 := { stood := { row := tidyLeavesUptoRow, standIns := [], harness := (true, "cd55222638d17cc50f25ad6c8bf105d0d96fe0f485c41963596c810bfd790a53"), looks := false }, kinds := [], alts := [], laidByText := true, laidKinds := [.data], laidTests := true, laidLooks := .later }
def TidyLeavesUptoCardSaid : Prop := Claim7.holds Tryz.pinned (.plain (OpenSpec.upto tidyLeavesSpec)) tidyLeavesUptoCard

/-- THE SECOND FORM's CARD OF 'coachhouselaw20.TidyGrants'. -/
def tidyGrantsUptoCard : Claim7 := { stood := { row := tidyGrantsUptoRow, standIns := [], harness := (true, "cd55222638d17cc50f25ad6c8bf105d0d96fe0f485c41963596c810bfd790a53"), looks := false }, kinds := [], alts := [], laidByText := true, laidKinds := [.data], laidTests := true, laidLooks := .later }
def TidyGrantsUptoCardSaid : Prop := Claim7.holds Tryz.pinned (.plain (OpenSpec.upto tidyGrantsSpec)) tidyGrantsUptoCard

/-- THE SECOND FORM's CARD OF 'coachhouselaw20.TidyKeeps'. -/
def tidyKeepsUptoCard : Claim7 := { stood := { row := tidyKeepsUptoRow, standIns := [], harness := (true, "cd55222638d17cc50f25ad6c8bf105d0d96fe0f485c41963596c810bfd790a53"), looks := false }, kinds := [], alts := [], laidByText := true, laidKinds := [.data], laidTests := true, laidLooks := .later }
def TidyKeepsUptoCardSaid : Prop := Claim7.holds Tryz.pinned (.plain (OpenSpec.upto tidyKeepsSpec)) tidyKeepsUptoCard

/-- THE SECOND FORM's CARD OF 'coachhouselaw20.TidyTwice'. -/
def tidyTwiceUptoCard : Claim7 := { stood := { row := tidyTwiceUptoRow, standIns := [], harness := (true, "cd55222638d17cc50f25ad6c8bf105d0d96fe0f485c41963596c810bfd790a53"), looks := false }, kinds := [], alts := [], laidByText := true, laidKinds := [.data], laidTests := true, laidLooks := .later }
def TidyTwiceUptoCardSaid : Prop := Claim7.holds Tryz.pinned (.plain (OpenSpec.upto tidyTwiceSpec)) tidyTwiceUptoCard

/-- THE SECOND FORM's CARD OF 'coachhouselaw20.TidyEpochs'. -/
def tidyEpochsUptoCard : Claim7 := { stood := { row := tidyEpochsUptoRow, standIns := [], harness := (true, "cd55222638d17cc50f25ad6c8bf105d0d96fe0f485c41963596c810bfd790a53"), looks := false }, kinds := [], alts := [], laidByText := true, laidKinds := [.data], laidTests := true, laidLooks := .later }
def TidyEpochsUptoCardSaid : Prop := Claim7.holds Tryz.pinned (.plain (OpenSpec.upto tidyEpochsSpec)) tidyEpochsUptoCard

/-- THE SECOND FORM's CARD OF 'coachhouselaw20.TidyPlays'. -/
def tidyPlaysUptoCard : Claim7 := { stood := { row := tidyPlaysUptoRow, standIns := [], harness := (true, "cd55222638d17cc50f25ad6c8bf105d0d96fe0f485c41963596c810bfd790a53"), looks := false }, kinds := [], alts := [], laidByText := true, laidKinds := [.data], laidTests := true, laidLooks := .later }
def TidyPlaysUptoCardSaid : Prop := Claim7.holds Tryz.pinned (.plain (OpenSpec.upto tidyPlaysSpec)) tidyPlaysUptoCard
end Rows
end Go.Proofs.YteadpgiffpfmnaaGreatDoor
