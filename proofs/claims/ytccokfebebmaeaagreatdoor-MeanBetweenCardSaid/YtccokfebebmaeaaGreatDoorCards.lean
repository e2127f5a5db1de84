/-
  DERIVED. GIVEN WITH THE SEED: THE CARDS: each row of YtccokfebebmaeaaGreatDoorRows.lean that lists a variable, with what it lists TIED to the program's text (the seventh form; the later family's looks); each row that meets fmt, with fmt's text TOLD by the authors' own Lean function (tested against real Go, not proved from fmt's source: count such statements apart). THE CARD IS WHAT COUNTS. Prove the row's statement (the work); the ties are given (YtccokfebebmaeaaGreatDoorTie.lean); close each card by the builder's one call (the guide's Derived/Test/ToyasCard.lean, 'card_holds'). Laid BY PROGRAM, IN A SANDBOX (cutbox-door.mjs). By AI agents, Wed Nov 11 2026. No macro, syntax, notation, axiom, sorry.
-/
import Derived.Test.YtccokfebebmaeaaGreatDoorRows
import GoSem.ClaimSeven
namespace Go.Proofs.YtccokfebebmaeaaGreatDoor
namespace Rows

/-- THE TIED CARD OF 'turnstonelaw08.MeanShifts'. -/
def meanShiftsCard : Claim7 := { stood := { row := meanShiftsRow, standIns := [], harness := (true, "ce88090256ce509d7bb9789a1f2e01033e3e98cbd76b52492d7ca3b802c95503"), looks := false }, kinds := [], alts := [], laidByText := true, laidKinds := [.data, .data, .data], laidTests := true, laidLooks := .later }
def MeanShiftsCardSaid : Prop := Claim7.holds Tryz.pinned (.plain (OpenSpec.ofChange meanShiftsSpec)) meanShiftsCard

/-- THE TIED CARD OF 'turnstonelaw08.MeanBetween'. -/
def meanBetweenCard : Claim7 := { stood := { row := meanBetweenRow, standIns := [], harness := (true, "ce88090256ce509d7bb9789a1f2e01033e3e98cbd76b52492d7ca3b802c95503"), looks := false }, kinds := [], alts := [], laidByText := true, laidKinds := [.data, .data, .data], laidTests := true, laidLooks := .later }
def MeanBetweenCardSaid : Prop := Claim7.holds Tryz.pinned (.plain (OpenSpec.ofChange meanBetweenSpec)) meanBetweenCard

/-- THE TIED CARD OF 'turnstonelaw08.MeanSums'. -/
def meanSumsCard : Claim7 := { stood := { row := meanSumsRow, standIns := [], harness := (true, "ce88090256ce509d7bb9789a1f2e01033e3e98cbd76b52492d7ca3b802c95503"), looks := false }, kinds := [], alts := [], laidByText := true, laidKinds := [.data, .data, .data], laidTests := true, laidLooks := .later }
def MeanSumsCardSaid : Prop := Claim7.holds Tryz.pinned (.plain (OpenSpec.ofChange meanSumsSpec)) meanSumsCard

/-- THE TIED CARD OF 'turnstonelaw09.LagReads'. -/
def lagReadsCard : Claim7 := { stood := { row := lagReadsRow, standIns := [], harness := (true, "ce88090256ce509d7bb9789a1f2e01033e3e98cbd76b52492d7ca3b802c95503"), looks := false }, kinds := [], alts := [], laidByText := true, laidKinds := [.data, .data, .data], laidTests := true, laidLooks := .later }
def LagReadsCardSaid : Prop := Claim7.holds Tryz.pinned (.plain (OpenSpec.ofChange lagReadsSpec)) lagReadsCard

/-- THE TIED CARD OF 'turnstonelaw09.LagNought'. -/
def lagNoughtCard : Claim7 := { stood := { row := lagNoughtRow, standIns := [], harness := (true, "ce88090256ce509d7bb9789a1f2e01033e3e98cbd76b52492d7ca3b802c95503"), looks := false }, kinds := [], alts := [], laidByText := true, laidKinds := [.data, .data, .data], laidTests := true, laidLooks := .later }
def LagNoughtCardSaid : Prop := Claim7.holds Tryz.pinned (.plain (OpenSpec.ofChange lagNoughtSpec)) lagNoughtCard

/-- THE TIED CARD OF 'turnstonelaw09.LagNanos'. -/
def lagNanosCard : Claim7 := { stood := { row := lagNanosRow, standIns := [], harness := (true, "ce88090256ce509d7bb9789a1f2e01033e3e98cbd76b52492d7ca3b802c95503"), looks := false }, kinds := [], alts := [], laidByText := true, laidKinds := [.data, .data, .data], laidTests := true, laidLooks := .later }
def LagNanosCardSaid : Prop := Claim7.holds Tryz.pinned (.plain (OpenSpec.ofChange lagNanosSpec)) lagNanosCard

/-- THE SECOND FORM's CARD OF 'turnstonelaw08.MeanShifts'. -/
def meanShiftsUptoCard : Claim7 := { stood := { row := meanShiftsUptoRow, standIns := [], harness := (true, "ce88090256ce509d7bb9789a1f2e01033e3e98cbd76b52492d7ca3b802c95503"), looks := false }, kinds := [], alts := [], laidByText := true, laidKinds := [.data, .data, .data], laidTests := true, laidLooks := .later }
def MeanShiftsUptoCardSaid : Prop := Claim7.holds Tryz.pinned (.plain (OpenSpec.upto meanShiftsSpec)) meanShiftsUptoCard

/-- THE SECOND FORM's CARD OF 'turnstonelaw08.MeanBetween'. -/
def meanBetweenUptoCard : Claim7 := { stood := { row := meanBetweenUptoRow, standIns := [], harness := (true, "ce88090256ce509d7bb9789a1f2e01033e3e98cbd76b52492d7ca3b802c95503"), looks := false }, kinds := [], alts := [], laidByText := true, laidKinds := [.data, .data, .data], laidTests := true, laidLooks := .later }
def MeanBetweenUptoCardSaid : Prop := Claim7.holds Tryz.pinned (.plain (OpenSpec.upto meanBetweenSpec)) meanBetweenUptoCard

/-- THE SECOND FORM's CARD OF 'turnstonelaw08.MeanSums'. -/
def meanSumsUptoCard : Claim7 := { stood := { row := meanSumsUptoRow, standIns := [], harness := (true, "ce88090256ce509d7bb9789a1f2e01033e3e98cbd76b52492d7ca3b802c95503"), looks := false }, kinds := [], alts := [], laidByText := true, laidKinds := [.data, .data, .data], laidTests := true, laidLooks := .later }
def MeanSumsUptoCardSaid : Prop := Claim7.holds Tryz.pinned (.plain (OpenSpec.upto meanSumsSpec)) meanSumsUptoCard

/-- THE SECOND FORM's CARD OF 'turnstonelaw09.LagReads'. -/
def lagReadsUptoCard : Claim7 := { stood := { row := lagReadsUptoRow, standIns := [], harness := (true, "ce88090256ce509d7bb9789a1f2e01033e3e98cbd76b52492d7ca3b802c95503"), looks := false }, kinds := [], alts := [], laidByText := true, laidKinds := [.data, .data, .data], laidTests := true, laidLooks := .later }
def LagReadsUptoCardSaid : Prop := Claim7.holds Tryz.pinned (.plain (OpenSpec.upto lagReadsSpec)) lagReadsUptoCard

/-- THE SECOND FORM's CARD OF 'turnstonelaw09.LagNought'. -/
def lagNoughtUptoCard : Claim7 := { stood := { row := lagNoughtUptoRow, standIns := [], harness := (true, "ce88090256ce509d7bb9789a1f2e01033e3e98cbd76b52492d7ca3b802c95503"), looks := false }, kinds := [], alts := [], laidByText := true, laidKinds := [.data, .data, .data], laidTests := true, laidLooks := .later }
def LagNoughtUptoCardSaid : Prop := Claim7.holds Tryz.pinned (.plain (OpenSpec.upto lagNoughtSpec)) lagNoughtUptoCard

/-- THE SECOND FORM's CARD OF 'turnstonelaw09.LagNanos'. -/
def lagNanosUptoCard : Claim7 := { stood := { row := lagNanosUptoRow, standIns := [], harness := (true, "ce88090256ce509d7bb9789a1f2e01033e3e98cbd76b52492d7ca3b802c95503"), looks := false }, kinds := [], alts := [], laidByText := true, laidKinds := [.data, .data, .data], laidTests := true, laidLooks := .later }
def LagNanosUptoCardSaid : Prop := Claim7.holds Tryz.pinned (.plain (OpenSpec.upto lagNanosSpec)) lagNanosUptoCard
end Rows
end Go.Proofs.YtccokfebebmaeaaGreatDoor
