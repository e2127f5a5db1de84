/-
  DERIVED. GIVEN WITH THE SEED: THE CARDS: each row of YtafhkgicekddlaaGreatDoorRows.lean that lists a variable, with what it lists TIED to the program's text (the seventh form; the later family's looks); each row that meets fmt, with fmt's text TOLD by the authors' own Lean function (tested against real Go, not proved from fmt's source: count such statements apart). THE CARD IS WHAT COUNTS. Prove the row's statement (the work); the ties are given (YtafhkgicekddlaaGreatDoorTie.lean); close each card by the builder's one call (the guide's Derived/Test/ToyasCard.lean, 'card_holds'). Laid BY PROGRAM, IN A SANDBOX (cutbox-door.mjs). By AI agents, Wed Nov 11 2026. No macro, syntax, notation, axiom, sorry.
-/
import Derived.Test.YtafhkgicekddlaaGreatDoorRows
import GoSem.ClaimSeven
namespace Go.Proofs.YtafhkgicekddlaaGreatDoor
namespace Rows

/-- THE TIED CARD OF 'turnstonelaw11.WeighKeeps'. -/
def weighKeepsCard : Claim7 := { stood := { row := weighKeepsRow, standIns := [], harness := (true, "7bf9027cbee4d8f6aa2b85a160c96337f1727555af866084965f7e831b461467"), looks := false }, kinds := [], alts := [], laidByText := true, laidKinds := [.data, .data, .data], laidTests := true, laidLooks := .later }
def WeighKeepsCardSaid : Prop := Claim7.holds Tryz.pinned (.plain (OpenSpec.ofChange weighKeepsSpec)) weighKeepsCard

/-- THE TIED CARD OF 'turnstonelaw11.WeighBack'. -/
def weighBackCard : Claim7 := { stood := { row := weighBackRow, standIns := [], harness := (true, "7bf9027cbee4d8f6aa2b85a160c96337f1727555af866084965f7e831b461467"), looks := false }, kinds := [], alts := [], laidByText := true, laidKinds := [.data, .data, .data], laidTests := true, laidLooks := .later }
def WeighBackCardSaid : Prop := Claim7.holds Tryz.pinned (.plain (OpenSpec.ofChange weighBackSpec)) weighBackCard

/-- THE TIED CARD OF 'turnstonelaw12.ClampWindows'. -/
def clampWindowsCard : Claim7 := { stood := { row := clampWindowsRow, standIns := [], harness := (true, "7bf9027cbee4d8f6aa2b85a160c96337f1727555af866084965f7e831b461467"), looks := false }, kinds := [], alts := [], laidByText := true, laidKinds := [.data, .data, .data], laidTests := true, laidLooks := .later }
def ClampWindowsCardSaid : Prop := Claim7.holds Tryz.pinned (.plain (OpenSpec.ofChange clampWindowsSpec)) clampWindowsCard

/-- THE TIED CARD OF 'turnstonelaw08.MeanSums'. -/
def meanSumsCard : Claim7 := { stood := { row := meanSumsRow, standIns := [], harness := (true, "7bf9027cbee4d8f6aa2b85a160c96337f1727555af866084965f7e831b461467"), looks := false }, kinds := [], alts := [], laidByText := true, laidKinds := [.data, .data, .data], laidTests := true, laidLooks := .later }
def MeanSumsCardSaid : Prop := Claim7.holds Tryz.pinned (.plain (OpenSpec.ofChange meanSumsSpec)) meanSumsCard

/-- THE TIED CARD OF 'turnstonelaw09.LagReads'. -/
def lagReadsCard : Claim7 := { stood := { row := lagReadsRow, standIns := [], harness := (true, "7bf9027cbee4d8f6aa2b85a160c96337f1727555af866084965f7e831b461467"), looks := false }, kinds := [], alts := [], laidByText := true, laidKinds := [.data, .data, .data], laidTests := true, laidLooks := .later }
def LagReadsCardSaid : Prop := Claim7.holds Tryz.pinned (.plain (OpenSpec.ofChange lagReadsSpec)) lagReadsCard

/-- THE TIED CARD OF 'turnstonelaw09.LagNought'. -/
def lagNoughtCard : Claim7 := { stood := { row := lagNoughtRow, standIns := [], harness := (true, "7bf9027cbee4d8f6aa2b85a160c96337f1727555af866084965f7e831b461467"), looks := false }, kinds := [], alts := [], laidByText := true, laidKinds := [.data, .data, .data], laidTests := true, laidLooks := .later }
def LagNoughtCardSaid : Prop := Claim7.holds Tryz.pinned (.plain (OpenSpec.ofChange lagNoughtSpec)) lagNoughtCard

/-- THE SECOND FORM's CARD OF 'turnstonelaw11.WeighKeeps'. -/
def weighKeepsUptoCard : Claim7 := { stood := { row := weighKeepsUptoRow, standIns := [], harness := (true, "7bf9027cbee4d8f6aa2b85a160c96337f1727555af866084965f7e831b461467"), looks := false }, kinds := [], alts := [], laidByText := true, laidKinds := [.data, .data, .data], laidTests := true, laidLooks := .later }
def WeighKeepsUptoCardSaid : Prop := Claim7.holds Tryz.pinned (.plain (OpenSpec.upto weighKeepsSpec)) weighKeepsUptoCard

/-- THE SECOND FORM's CARD OF 'turnstonelaw11.WeighBack'. -/
def weighBackUptoCard : Claim7 := { stood := { row := weighBackUptoRow, standIns := [], harness := (true, "7bf9027cbee4d8f6aa2b85a160c96337f1727555af866084965f7e831b461467"), looks := false }, kinds := [], alts := [], laidByText := true, laidKinds := [.data, .data, .data], laidTests := true, laidLooks := .later }
def WeighBackUptoCardSaid : Prop := Claim7.holds Tryz.pinned (.plain (OpenSpec.upto weighBackSpec)) weighBackUptoCard

/-- THE SECOND FORM's CARD OF 'turnstonelaw12.ClampWindows'. -/
def clampWindowsUptoCard : Claim7 := { stood := { row := clampWindowsUptoRow, standIns := [], harness := (true, "7bf9027cbee4d8f6aa2b85a160c96337f1727555af866084965f7e831b461467"), looks := false }, kinds := [], alts := [], laidByText := true, laidKinds := [.data, .data, .data], laidTests := true, laidLooks := .later }
def ClampWindowsUptoCardSaid : Prop := Claim7.holds Tryz.pinned (.plain (OpenSpec.upto clampWindowsSpec)) clampWindowsUptoCard

/-- THE SECOND FORM's CARD OF 'turnstonelaw08.MeanSums'. -/
def meanSumsUptoCard : Claim7 := { stood := { row := meanSumsUptoRow, standIns := [], harness := (true, "7bf9027cbee4d8f6aa2b85a160c96337f1727555af866084965f7e831b461467"), looks := false }, kinds := [], alts := [], laidByText := true, laidKinds := [.data, .data, .data], laidTests := true, laidLooks := .later }
def MeanSumsUptoCardSaid : Prop := Claim7.holds Tryz.pinned (.plain (OpenSpec.upto meanSumsSpec)) meanSumsUptoCard

/-- THE SECOND FORM's CARD OF 'turnstonelaw09.LagReads'. -/
def lagReadsUptoCard : Claim7 := { stood := { row := lagReadsUptoRow, standIns := [], harness := (true, "7bf9027cbee4d8f6aa2b85a160c96337f1727555af866084965f7e831b461467"), looks := false }, kinds := [], alts := [], laidByText := true, laidKinds := [.data, .data, .data], laidTests := true, laidLooks := .later }
def LagReadsUptoCardSaid : Prop := Claim7.holds Tryz.pinned (.plain (OpenSpec.upto lagReadsSpec)) lagReadsUptoCard

/-- THE SECOND FORM's CARD OF 'turnstonelaw09.LagNought'. -/
def lagNoughtUptoCard : Claim7 := { stood := { row := lagNoughtUptoRow, standIns := [], harness := (true, "7bf9027cbee4d8f6aa2b85a160c96337f1727555af866084965f7e831b461467"), looks := false }, kinds := [], alts := [], laidByText := true, laidKinds := [.data, .data, .data], laidTests := true, laidLooks := .later }
def LagNoughtUptoCardSaid : Prop := Claim7.holds Tryz.pinned (.plain (OpenSpec.upto lagNoughtSpec)) lagNoughtUptoCard
end Rows
end Go.Proofs.YtafhkgicekddlaaGreatDoor
