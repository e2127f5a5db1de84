/-
  DERIVED. GIVEN WITH THE SEED: THE CARDS: each row of YtpccjjfcklplaaaGreatDoorRows.lean that lists a variable, with what it lists TIED to the program's text (the seventh form; the later family's looks); each row that meets fmt, with fmt's text TOLD by the authors' own Lean function (tested against real Go, not proved from fmt's source: count such statements apart). THE CARD IS WHAT COUNTS. Prove the row's statement (the work); the ties are given (YtpccjjfcklplaaaGreatDoorTie.lean); close each card by the builder's one call (the guide's Derived/Test/ToyasCard.lean, 'card_holds'). Laid BY PROGRAM, IN A SANDBOX (cutbox-door.mjs). By AI agents, Wed Nov 11 2026. No macro, syntax, notation, axiom, sorry.
-/
import Derived.Test.YtpccjjfcklplaaaGreatDoorRows
import GoSem.ClaimSeven
namespace Go.Proofs.YtpccjjfcklplaaaGreatDoor
namespace Rows

/-- THE TIED CARD OF 'turnstonelaw08.MeanSums'. -/
def meanSumsCard : Claim7 := { stood := { row := meanSumsRow, standIns := [], harness := (true, "ddaecaac5a615dc2e14e03a534250624260e5d0680c002783bf761c01ed05718"), looks := true }, kinds := [], alts := [], laidByText := true, laidKinds := [.data, .data, .data], laidTests := true, laidLooks := .later }
def MeanSumsCardSaid : Prop := Claim7.holds Tryz.pinned (.plain (OpenSpec.ofChange meanSumsSpec)) meanSumsCard

/-- THE TIED CARD OF 'turnstonelaw12.ClampCarries'. -/
def clampCarriesCard : Claim7 := { stood := { row := clampCarriesRow, standIns := [], harness := (true, "ddaecaac5a615dc2e14e03a534250624260e5d0680c002783bf761c01ed05718"), looks := true }, kinds := [], alts := [], laidByText := true, laidKinds := [.data, .data, .data], laidTests := true, laidLooks := .later }
def ClampCarriesCardSaid : Prop := Claim7.holds Tryz.pinned (.plain (OpenSpec.ofChange clampCarriesSpec)) clampCarriesCard

/-- THE TIED CARD OF 'turnstonelaw14.QueueNone'. -/
def queueNoneCard : Claim7 := { stood := { row := queueNoneRow, standIns := [], harness := (true, "ddaecaac5a615dc2e14e03a534250624260e5d0680c002783bf761c01ed05718"), looks := true }, kinds := [], alts := [], laidByText := true, laidKinds := [.data, .data, .data], laidTests := true, laidLooks := .later }
def QueueNoneCardSaid : Prop := Claim7.holds Tryz.pinned (.plain (OpenSpec.ofChange queueNoneSpec)) queueNoneCard

/-- THE SECOND FORM's CARD OF 'turnstonelaw08.MeanSums'. -/
def meanSumsUptoCard : Claim7 := { stood := { row := meanSumsUptoRow, standIns := [], harness := (true, "ddaecaac5a615dc2e14e03a534250624260e5d0680c002783bf761c01ed05718"), looks := true }, kinds := [], alts := [], laidByText := true, laidKinds := [.data, .data, .data], laidTests := true, laidLooks := .later }
def MeanSumsUptoCardSaid : Prop := Claim7.holds Tryz.pinned (.plain (OpenSpec.upto meanSumsSpec)) meanSumsUptoCard

/-- THE SECOND FORM's CARD OF 'turnstonelaw12.ClampCarries'. -/
def clampCarriesUptoCard : Claim7 := { stood := { row := clampCarriesUptoRow, standIns := [], harness := (true, "ddaecaac5a615dc2e14e03a534250624260e5d0680c002783bf761c01ed05718"), looks := true }, kinds := [], alts := [], laidByText := true, laidKinds := [.data, .data, .data], laidTests := true, laidLooks := .later }
def ClampCarriesUptoCardSaid : Prop := Claim7.holds Tryz.pinned (.plain (OpenSpec.upto clampCarriesSpec)) clampCarriesUptoCard

/-- THE SECOND FORM's CARD OF 'turnstonelaw14.QueueNone'. -/
def queueNoneUptoCard : Claim7 := { stood := { row := queueNoneUptoRow, standIns := [], harness := (true, "ddaecaac5a615dc2e14e03a534250624260e5d0680c002783bf761c01ed05718"), looks := true }, kinds := [], alts := [], laidByText := true, laidKinds := [.data, .data, .data], laidTests := true, laidLooks := .later }
def QueueNoneUptoCardSaid : Prop := Claim7.holds Tryz.pinned (.plain (OpenSpec.upto queueNoneSpec)) queueNoneUptoCard
end Rows
end Go.Proofs.YtpccjjfcklplaaaGreatDoor
