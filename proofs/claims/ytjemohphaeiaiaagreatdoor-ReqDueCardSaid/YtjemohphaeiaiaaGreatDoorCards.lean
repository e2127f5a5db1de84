/-
  DERIVED. GIVEN WITH THE SEED: THE CARDS: each row of YtjemohphaeiaiaaGreatDoorRows.lean that lists a variable, with what it lists TIED to the program's text (the seventh form; the later family's looks); each row that meets fmt, with fmt's text TOLD by the authors' own Lean function (tested against real Go, not proved from fmt's source: count such statements apart). THE CARD IS WHAT COUNTS. Prove the row's statement (the work); the ties are given (YtjemohphaeiaiaaGreatDoorTie.lean); close each card by the builder's one call (the guide's Derived/Test/ToyasCard.lean, 'card_holds'). Laid BY PROGRAM, IN A SANDBOX (cutbox-door.mjs). By AI agents, Wed Nov 11 2026. No macro, syntax, notation, axiom, sorry.
-/
import Derived.Test.YtjemohphaeiaiaaGreatDoorRows
import GoSem.ClaimSeven
namespace Go.Proofs.YtjemohphaeiaiaaGreatDoor
namespace Rows

/-- THE TIED CARD OF 'turnstonelaw15.ReqServes'. -/
def reqServesCard : Claim7 := { stood := { row := reqServesRow, standIns := [], harness := (true, "213a25c462bb8f4bd3759d44d2e0bb0ed92b4a2bb60ba23b764166c60c9c5d38"), looks := false }, kinds := [], alts := [], laidByText := true, laidKinds := [.data, .data, .data], laidTests := true, laidLooks := .later }
def ReqServesCardSaid : Prop := Claim7.holds Tryz.pinned (.plain (OpenSpec.ofChange reqServesSpec)) reqServesCard

/-- THE TIED CARD OF 'turnstonelaw15.ReqDue'. -/
def reqDueCard : Claim7 := { stood := { row := reqDueRow, standIns := [], harness := (true, "213a25c462bb8f4bd3759d44d2e0bb0ed92b4a2bb60ba23b764166c60c9c5d38"), looks := false }, kinds := [], alts := [], laidByText := true, laidKinds := [.data, .data, .data], laidTests := true, laidLooks := .later }
def ReqDueCardSaid : Prop := Claim7.holds Tryz.pinned (.plain (OpenSpec.ofChange reqDueSpec)) reqDueCard

/-- THE TIED CARD OF 'turnstonelaw15.ReqShifts'. -/
def reqShiftsCard : Claim7 := { stood := { row := reqShiftsRow, standIns := [], harness := (true, "213a25c462bb8f4bd3759d44d2e0bb0ed92b4a2bb60ba23b764166c60c9c5d38"), looks := false }, kinds := [], alts := [], laidByText := true, laidKinds := [.data, .data, .data], laidTests := true, laidLooks := .later }
def ReqShiftsCardSaid : Prop := Claim7.holds Tryz.pinned (.plain (OpenSpec.ofChange reqShiftsSpec)) reqShiftsCard

/-- THE TIED CARD OF 'turnstonelaw15.ReqParts'. -/
def reqPartsCard : Claim7 := { stood := { row := reqPartsRow, standIns := [], harness := (true, "213a25c462bb8f4bd3759d44d2e0bb0ed92b4a2bb60ba23b764166c60c9c5d38"), looks := false }, kinds := [], alts := [], laidByText := true, laidKinds := [.data, .data, .data], laidTests := true, laidLooks := .later }
def ReqPartsCardSaid : Prop := Claim7.holds Tryz.pinned (.plain (OpenSpec.ofChange reqPartsSpec)) reqPartsCard

/-- THE TIED CARD OF 'turnstonelaw15.ReqMoves'. -/
def reqMovesCard : Claim7 := { stood := { row := reqMovesRow, standIns := [], harness := (true, "213a25c462bb8f4bd3759d44d2e0bb0ed92b4a2bb60ba23b764166c60c9c5d38"), looks := false }, kinds := [], alts := [], laidByText := true, laidKinds := [.data, .data, .data], laidTests := true, laidLooks := .later }
def ReqMovesCardSaid : Prop := Claim7.holds Tryz.pinned (.plain (OpenSpec.ofChange reqMovesSpec)) reqMovesCard

/-- THE TIED CARD OF 'turnstonelaw15.ReqMakes'. -/
def reqMakesCard : Claim7 := { stood := { row := reqMakesRow, standIns := [], harness := (true, "213a25c462bb8f4bd3759d44d2e0bb0ed92b4a2bb60ba23b764166c60c9c5d38"), looks := false }, kinds := [], alts := [], laidByText := true, laidKinds := [.data, .data, .data], laidTests := true, laidLooks := .later }
def ReqMakesCardSaid : Prop := Claim7.holds Tryz.pinned (.plain (OpenSpec.ofChange reqMakesSpec)) reqMakesCard

/-- THE SECOND FORM's CARD OF 'turnstonelaw15.ReqServes'. -/
def reqServesUptoCard : Claim7 := { stood := { row := reqServesUptoRow, standIns := [], harness := (true, "213a25c462bb8f4bd3759d44d2e0bb0ed92b4a2bb60ba23b764166c60c9c5d38"), looks := false }, kinds := [], alts := [], laidByText := true, laidKinds := [.data, .data, .data], laidTests := true, laidLooks := .later }
def ReqServesUptoCardSaid : Prop := Claim7.holds Tryz.pinned (.plain (OpenSpec.upto reqServesSpec)) reqServesUptoCard

/-- THE SECOND FORM's CARD OF 'turnstonelaw15.ReqDue'. -/
def reqDueUptoCard : Claim7 := { stood := { row := reqDueUptoRow, standIns := [], harness := (true, "213a25c462bb8f4bd3759d44d2e0bb0ed92b4a2bb60ba23b764166c60c9c5d38"), looks := false }, kinds := [], alts := [], laidByText := true, laidKinds := [.data, .data, .data], laidTests := true, laidLooks := .later }
def ReqDueUptoCardSaid : Prop := Claim7.holds Tryz.pinned (.plain (OpenSpec.upto reqDueSpec)) reqDueUptoCard

/-- THE SECOND FORM's CARD OF 'turnstonelaw15.ReqShifts'. -/
def reqShiftsUptoCard : Claim7 := { stood := { row := reqShiftsUptoRow, standIns := [], harness := (true, "213a25c462bb8f4bd3759d44d2e0bb0ed92b4a2bb60ba23b764166c60c9c5d38"), looks := false }, kinds := [], alts := [], laidByText := true, laidKinds := [.data, .data, .data], laidTests := true, laidLooks := .later }
def ReqShiftsUptoCardSaid : Prop := Claim7.holds Tryz.pinned (.plain (OpenSpec.upto reqShiftsSpec)) reqShiftsUptoCard

/-- THE SECOND FORM's CARD OF 'turnstonelaw15.ReqParts'. -/
def reqPartsUptoCard : Claim7 := { stood := { row := reqPartsUptoRow, standIns := [], harness := (true, "213a25c462bb8f4bd3759d44d2e0bb0ed92b4a2bb60ba23b764166c60c9c5d38"), looks := false }, kinds := [], alts := [], laidByText := true, laidKinds := [.data, .data, .data], laidTests := true, laidLooks := .later }
def ReqPartsUptoCardSaid : Prop := Claim7.holds Tryz.pinned (.plain (OpenSpec.upto reqPartsSpec)) reqPartsUptoCard

/-- THE SECOND FORM's CARD OF 'turnstonelaw15.ReqMoves'. -/
def reqMovesUptoCard : Claim7 := { stood := { row := reqMovesUptoRow, standIns := [], harness := (true, "213a25c462bb8f4bd3759d44d2e0bb0ed92b4a2bb60ba23b764166c60c9c5d38"), looks := false }, kinds := [], alts := [], laidByText := true, laidKinds := [.data, .data, .data], laidTests := true, laidLooks := .later }
def ReqMovesUptoCardSaid : Prop := Claim7.holds Tryz.pinned (.plain (OpenSpec.upto reqMovesSpec)) reqMovesUptoCard

/-- THE SECOND FORM's CARD OF 'turnstonelaw15.ReqMakes'. -/
def reqMakesUptoCard : Claim7 := { stood := { row := reqMakesUptoRow, standIns := [], harness := (true, "213a25c462bb8f4bd3759d44d2e0bb0ed92b4a2bb60ba23b764166c60c9c5d38"), looks := false }, kinds := [], alts := [], laidByText := true, laidKinds := [.data, .data, .data], laidTests := true, laidLooks := .later }
def ReqMakesUptoCardSaid : Prop := Claim7.holds Tryz.pinned (.plain (OpenSpec.upto reqMakesSpec)) reqMakesUptoCard
end Rows
end Go.Proofs.YtjemohphaeiaiaaGreatDoor
