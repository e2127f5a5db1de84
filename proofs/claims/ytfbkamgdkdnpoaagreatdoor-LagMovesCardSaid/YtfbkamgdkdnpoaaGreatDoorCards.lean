/-
  DERIVED. GIVEN WITH THE SEED: THE CARDS: each row of YtfbkamgdkdnpoaaGreatDoorRows.lean that lists a variable, with what it lists TIED to the program's text (the seventh form; the later family's looks); each row that meets fmt, with fmt's text TOLD by the authors' own Lean function (tested against real Go, not proved from fmt's source: count such statements apart). THE CARD IS WHAT COUNTS. Prove the row's statement (the work); the ties are given (YtfbkamgdkdnpoaaGreatDoorTie.lean); close each card by the builder's one call (the guide's Derived/Test/ToyasCard.lean, 'card_holds'). Laid BY PROGRAM, IN A SANDBOX (cutbox-door.mjs). By AI agents, Wed Nov 11 2026. No macro, syntax, notation, axiom, sorry.
-/
import Derived.Test.YtfbkamgdkdnpoaaGreatDoorRows
import GoSem.ClaimSeven
namespace Go.Proofs.YtfbkamgdkdnpoaaGreatDoor
namespace Rows

/-- THE TIED CARD OF 'turnstonelaw09.LagBases'. -/
def lagBasesCard : Claim7 := { stood := { row := lagBasesRow, standIns := [], harness := (true, "f0ad89483fcfe470b9d89e75c7ecb8ae8d5efc9f67d81057f6b4be557a2b75ed"), looks := false }, kinds := [], alts := [], laidByText := true, laidKinds := [.data, .data, .data], laidTests := true, laidLooks := .later }
def LagBasesCardSaid : Prop := Claim7.holds Tryz.pinned (.plain (OpenSpec.ofChange lagBasesSpec)) lagBasesCard

/-- THE TIED CARD OF 'turnstonelaw09.LagMoves'. -/
def lagMovesCard : Claim7 := { stood := { row := lagMovesRow, standIns := [], harness := (true, "f0ad89483fcfe470b9d89e75c7ecb8ae8d5efc9f67d81057f6b4be557a2b75ed"), looks := false }, kinds := [], alts := [], laidByText := true, laidKinds := [.data, .data, .data], laidTests := true, laidLooks := .later }
def LagMovesCardSaid : Prop := Claim7.holds Tryz.pinned (.plain (OpenSpec.ofChange lagMovesSpec)) lagMovesCard

/-- THE TIED CARD OF 'turnstonelaw10.PlaceLags'. -/
def placeLagsCard : Claim7 := { stood := { row := placeLagsRow, standIns := [], harness := (true, "f0ad89483fcfe470b9d89e75c7ecb8ae8d5efc9f67d81057f6b4be557a2b75ed"), looks := false }, kinds := [], alts := [], laidByText := true, laidKinds := [.data, .data, .data], laidTests := true, laidLooks := .later }
def PlaceLagsCardSaid : Prop := Claim7.holds Tryz.pinned (.plain (OpenSpec.ofChange placeLagsSpec)) placeLagsCard

/-- THE TIED CARD OF 'turnstonelaw10.PlaceZero'. -/
def placeZeroCard : Claim7 := { stood := { row := placeZeroRow, standIns := [], harness := (true, "f0ad89483fcfe470b9d89e75c7ecb8ae8d5efc9f67d81057f6b4be557a2b75ed"), looks := false }, kinds := [], alts := [], laidByText := true, laidKinds := [.data, .data, .data], laidTests := true, laidLooks := .later }
def PlaceZeroCardSaid : Prop := Claim7.holds Tryz.pinned (.plain (OpenSpec.ofChange placeZeroSpec)) placeZeroCard

/-- THE TIED CARD OF 'turnstonelaw10.PlaceOrders'. -/
def placeOrdersCard : Claim7 := { stood := { row := placeOrdersRow, standIns := [], harness := (true, "f0ad89483fcfe470b9d89e75c7ecb8ae8d5efc9f67d81057f6b4be557a2b75ed"), looks := false }, kinds := [], alts := [], laidByText := true, laidKinds := [.data, .data, .data], laidTests := true, laidLooks := .later }
def PlaceOrdersCardSaid : Prop := Claim7.holds Tryz.pinned (.plain (OpenSpec.ofChange placeOrdersSpec)) placeOrdersCard

/-- THE TIED CARD OF 'turnstonelaw11.WeighKeeps'. -/
def weighKeepsCard : Claim7 := { stood := { row := weighKeepsRow, standIns := [], harness := (true, "f0ad89483fcfe470b9d89e75c7ecb8ae8d5efc9f67d81057f6b4be557a2b75ed"), looks := false }, kinds := [], alts := [], laidByText := true, laidKinds := [.data, .data, .data], laidTests := true, laidLooks := .later }
def WeighKeepsCardSaid : Prop := Claim7.holds Tryz.pinned (.plain (OpenSpec.ofChange weighKeepsSpec)) weighKeepsCard

/-- THE TIED CARD OF 'turnstonelaw11.WeighAlone'. -/
def weighAloneCard : Claim7 := { stood := { row := weighAloneRow, standIns := [], harness := (true, "f0ad89483fcfe470b9d89e75c7ecb8ae8d5efc9f67d81057f6b4be557a2b75ed"), looks := false }, kinds := [], alts := [], laidByText := true, laidKinds := [.data, .data, .data], laidTests := true, laidLooks := .later }
def WeighAloneCardSaid : Prop := Claim7.holds Tryz.pinned (.plain (OpenSpec.ofChange weighAloneSpec)) weighAloneCard

/-- THE TIED CARD OF 'turnstonelaw11.WeighBack'. -/
def weighBackCard : Claim7 := { stood := { row := weighBackRow, standIns := [], harness := (true, "f0ad89483fcfe470b9d89e75c7ecb8ae8d5efc9f67d81057f6b4be557a2b75ed"), looks := false }, kinds := [], alts := [], laidByText := true, laidKinds := [.data, .data, .data], laidTests := true, laidLooks := .later }
def WeighBackCardSaid : Prop := Claim7.holds Tryz.pinned (.plain (OpenSpec.ofChange weighBackSpec)) weighBackCard

/-- THE TIED CARD OF 'turnstonelaw12.ClampRises'. -/
def clampRisesCard : Claim7 := { stood := { row := clampRisesRow, standIns := [], harness := (true, "f0ad89483fcfe470b9d89e75c7ecb8ae8d5efc9f67d81057f6b4be557a2b75ed"), looks := false }, kinds := [], alts := [], laidByText := true, laidKinds := [.data, .data, .data], laidTests := true, laidLooks := .later }
def ClampRisesCardSaid : Prop := Claim7.holds Tryz.pinned (.plain (OpenSpec.ofChange clampRisesSpec)) clampRisesCard

/-- THE TIED CARD OF 'turnstonelaw12.ClampOrders'. -/
def clampOrdersCard : Claim7 := { stood := { row := clampOrdersRow, standIns := [], harness := (true, "f0ad89483fcfe470b9d89e75c7ecb8ae8d5efc9f67d81057f6b4be557a2b75ed"), looks := false }, kinds := [], alts := [], laidByText := true, laidKinds := [.data, .data, .data], laidTests := true, laidLooks := .later }
def ClampOrdersCardSaid : Prop := Claim7.holds Tryz.pinned (.plain (OpenSpec.ofChange clampOrdersSpec)) clampOrdersCard

/-- THE TIED CARD OF 'turnstonelaw12.ClampWindows'. -/
def clampWindowsCard : Claim7 := { stood := { row := clampWindowsRow, standIns := [], harness := (true, "f0ad89483fcfe470b9d89e75c7ecb8ae8d5efc9f67d81057f6b4be557a2b75ed"), looks := false }, kinds := [], alts := [], laidByText := true, laidKinds := [.data, .data, .data], laidTests := true, laidLooks := .later }
def ClampWindowsCardSaid : Prop := Claim7.holds Tryz.pinned (.plain (OpenSpec.ofChange clampWindowsSpec)) clampWindowsCard

/-- THE TIED CARD OF 'turnstonelaw12.ClampGrows'. -/
def clampGrowsCard : Claim7 := { stood := { row := clampGrowsRow, standIns := [], harness := (true, "f0ad89483fcfe470b9d89e75c7ecb8ae8d5efc9f67d81057f6b4be557a2b75ed"), looks := false }, kinds := [], alts := [], laidByText := true, laidKinds := [.data, .data, .data], laidTests := true, laidLooks := .later }
def ClampGrowsCardSaid : Prop := Claim7.holds Tryz.pinned (.plain (OpenSpec.ofChange clampGrowsSpec)) clampGrowsCard

/-- THE SECOND FORM's CARD OF 'turnstonelaw09.LagBases'. -/
def lagBasesUptoCard : Claim7 := { stood := { row := lagBasesUptoRow, standIns := [], harness := (true, "f0ad89483fcfe470b9d89e75c7ecb8ae8d5efc9f67d81057f6b4be557a2b75ed"), looks := false }, kinds := [], alts := [], laidByText := true, laidKinds := [.data, .data, .data], laidTests := true, laidLooks := .later }
def LagBasesUptoCardSaid : Prop := Claim7.holds Tryz.pinned (.plain (OpenSpec.upto lagBasesSpec)) lagBasesUptoCard

/-- THE SECOND FORM's CARD OF 'turnstonelaw09.LagMoves'. -/
def lagMovesUptoCard : Claim7 := { stood := { row := lagMovesUptoRow, standIns := [], harness := (true, "f0ad89483fcfe470b9d89e75c7ecb8ae8d5efc9f67d81057f6b4be557a2b75ed"), looks := false }, kinds := [], alts := [], laidByText := true, laidKinds := [.data, .data, .data], laidTests := true, laidLooks := .later }
def LagMovesUptoCardSaid : Prop := Claim7.holds Tryz.pinned (.plain (OpenSpec.upto lagMovesSpec)) lagMovesUptoCard

/-- THE SECOND FORM's CARD OF 'turnstonelaw10.PlaceLags'. -/
def placeLagsUptoCard : Claim7 := { stood := { row := placeLagsUptoRow, standIns := [], harness := (true, "f0ad89483fcfe470b9d89e75c7ecb8ae8d5efc9f67d81057f6b4be557a2b75ed"), looks := false }, kinds := [], alts := [], laidByText := true, laidKinds := [.data, .data, .data], laidTests := true, laidLooks := .later }
def PlaceLagsUptoCardSaid : Prop := Claim7.holds Tryz.pinned (.plain (OpenSpec.upto placeLagsSpec)) placeLagsUptoCard

/-- THE SECOND FORM's CARD OF 'turnstonelaw10.PlaceZero'. -/
def placeZeroUptoCard : Claim7 := { stood := { row := placeZeroUptoRow, standIns := [], harness := (true, "f0ad89483fcfe470b9d89e75c7ecb8ae8d5efc9f67d81057f6b4be557a2b75ed"), looks := false }, kinds := [], alts := [], laidByText := true, laidKinds := [.data, .data, .data], laidTests := true, laidLooks := .later }
def PlaceZeroUptoCardSaid : Prop := Claim7.holds Tryz.pinned (.plain (OpenSpec.upto placeZeroSpec)) placeZeroUptoCard

/-- THE SECOND FORM's CARD OF 'turnstonelaw10.PlaceOrders'. -/
def placeOrdersUptoCard : Claim7 := { stood := { row := placeOrdersUptoRow, standIns := [], harness := (true, "f0ad89483fcfe470b9d89e75c7ecb8ae8d5efc9f67d81057f6b4be557a2b75ed"), looks := false }, kinds := [], alts := [], laidByText := true, laidKinds := [.data, .data, .data], laidTests := true, laidLooks := .later }
def PlaceOrdersUptoCardSaid : Prop := Claim7.holds Tryz.pinned (.plain (OpenSpec.upto placeOrdersSpec)) placeOrdersUptoCard

/-- THE SECOND FORM's CARD OF 'turnstonelaw11.WeighKeeps'. -/
def weighKeepsUptoCard : Claim7 := { stood := { row := weighKeepsUptoRow, standIns := [], harness := (true, "f0ad89483fcfe470b9d89e75c7ecb8ae8d5efc9f67d81057f6b4be557a2b75ed"), looks := false }, kinds := [], alts := [], laidByText := true, laidKinds := [.data, .data, .data], laidTests := true, laidLooks := .later }
def WeighKeepsUptoCardSaid : Prop := Claim7.holds Tryz.pinned (.plain (OpenSpec.upto weighKeepsSpec)) weighKeepsUptoCard

/-- THE SECOND FORM's CARD OF 'turnstonelaw11.WeighAlone'. -/
def weighAloneUptoCard : Claim7 := { stood := { row := weighAloneUptoRow, standIns := [], harness := (true, "f0ad89483fcfe470b9d89e75c7ecb8ae8d5efc9f67d81057f6b4be557a2b75ed"), looks := false }, kinds := [], alts := [], laidByText := true, laidKinds := [.data, .data, .data], laidTests := true, laidLooks := .later }
def WeighAloneUptoCardSaid : Prop := Claim7.holds Tryz.pinned (.plain (OpenSpec.upto weighAloneSpec)) weighAloneUptoCard

/-- THE SECOND FORM's CARD OF 'turnstonelaw11.WeighBack'. -/
def weighBackUptoCard : Claim7 := { stood := { row := weighBackUptoRow, standIns := [], harness := (true, "f0ad89483fcfe470b9d89e75c7ecb8ae8d5efc9f67d81057f6b4be557a2b75ed"), looks := false }, kinds := [], alts := [], laidByText := true, laidKinds := [.data, .data, .data], laidTests := true, laidLooks := .later }
def WeighBackUptoCardSaid : Prop := Claim7.holds Tryz.pinned (.plain (OpenSpec.upto weighBackSpec)) weighBackUptoCard

/-- THE SECOND FORM's CARD OF 'turnstonelaw12.ClampRises'. -/
def clampRisesUptoCard : Claim7 := { stood := { row := clampRisesUptoRow, standIns := [], harness := (true, "f0ad89483fcfe470b9d89e75c7ecb8ae8d5efc9f67d81057f6b4be557a2b75ed"), looks := false }, kinds := [], alts := [], laidByText := true, laidKinds := [.data, .data, .data], laidTests := true, laidLooks := .later }
def ClampRisesUptoCardSaid : Prop := Claim7.holds Tryz.pinned (.plain (OpenSpec.upto clampRisesSpec)) clampRisesUptoCard

/-- THE SECOND FORM's CARD OF 'turnstonelaw12.ClampOrders'. -/
def clampOrdersUptoCard : Claim7 := { stood := { row := clampOrdersUptoRow, standIns := [], harness := (true, "f0ad89483fcfe470b9d89e75c7ecb8ae8d5efc9f67d81057f6b4be557a2b75ed"), looks := false }, kinds := [], alts := [], laidByText := true, laidKinds := [.data, .data, .data], laidTests := true, laidLooks := .later }
def ClampOrdersUptoCardSaid : Prop := Claim7.holds Tryz.pinned (.plain (OpenSpec.upto clampOrdersSpec)) clampOrdersUptoCard

/-- THE SECOND FORM's CARD OF 'turnstonelaw12.ClampWindows'. -/
def clampWindowsUptoCard : Claim7 := { stood := { row := clampWindowsUptoRow, standIns := [], harness := (true, "f0ad89483fcfe470b9d89e75c7ecb8ae8d5efc9f67d81057f6b4be557a2b75ed"), looks := false }, kinds := [], alts := [], laidByText := true, laidKinds := [.data, .data, .data], laidTests := true, laidLooks := .later }
def ClampWindowsUptoCardSaid : Prop := Claim7.holds Tryz.pinned (.plain (OpenSpec.upto clampWindowsSpec)) clampWindowsUptoCard

/-- THE SECOND FORM's CARD OF 'turnstonelaw12.ClampGrows'. -/
def clampGrowsUptoCard : Claim7 := { stood := { row := clampGrowsUptoRow, standIns := [], harness := (true, "f0ad89483fcfe470b9d89e75c7ecb8ae8d5efc9f67d81057f6b4be557a2b75ed"), looks := false }, kinds := [], alts := [], laidByText := true, laidKinds := [.data, .data, .data], laidTests := true, laidLooks := .later }
def ClampGrowsUptoCardSaid : Prop := Claim7.holds Tryz.pinned (.plain (OpenSpec.upto clampGrowsSpec)) clampGrowsUptoCard
end Rows
end Go.Proofs.YtfbkamgdkdnpoaaGreatDoor
