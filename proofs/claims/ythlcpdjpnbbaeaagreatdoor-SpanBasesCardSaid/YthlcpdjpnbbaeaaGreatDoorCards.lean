/-
  DERIVED. GIVEN WITH THE SEED: THE CARDS: each row of YthlcpdjpnbbaeaaGreatDoorRows.lean that lists a variable, with what it lists TIED to the program's text (the seventh form; the later family's looks); each row that meets fmt, with fmt's text TOLD by the authors' own Lean function (tested against real Go, not proved from fmt's source: count such statements apart). THE CARD IS WHAT COUNTS. Prove the row's statement (the work); the ties are given (YthlcpdjpnbbaeaaGreatDoorTie.lean); close each card by the builder's one call (the guide's Derived/Test/ToyasCard.lean, 'card_holds'). Laid BY PROGRAM, IN A SANDBOX (cutbox-door.mjs). By AI agents, Wed Nov 11 2026. No macro, syntax, notation, axiom, sorry.
-/
import Derived.Test.YthlcpdjpnbbaeaaGreatDoorRows
import GoSem.ClaimSeven
namespace Go.Proofs.YthlcpdjpnbbaeaaGreatDoor
namespace Rows

/-- THE TIED CARD OF 'turnstonelaw09.LagOwed'. -/
def lagOwedCard : Claim7 := { stood := { row := lagOwedRow, standIns := [], harness := (true, "f56a7860dfe5fe110040d0efcc6087904fd1c38768283a7e4239666f8dd0844f"), looks := false }, kinds := [], alts := [], laidByText := true, laidKinds := [.data, .data, .data], laidTests := true, laidLooks := .later }
def LagOwedCardSaid : Prop := Claim7.holds Tryz.pinned (.plain (OpenSpec.ofChange lagOwedSpec)) lagOwedCard

/-- THE TIED CARD OF 'turnstonelaw10.PlacePlays'. -/
def placePlaysCard : Claim7 := { stood := { row := placePlaysRow, standIns := [], harness := (true, "f56a7860dfe5fe110040d0efcc6087904fd1c38768283a7e4239666f8dd0844f"), looks := false }, kinds := [], alts := [], laidByText := true, laidKinds := [.data, .data, .data], laidTests := true, laidLooks := .later }
def PlacePlaysCardSaid : Prop := Claim7.holds Tryz.pinned (.plain (OpenSpec.ofChange placePlaysSpec)) placePlaysCard

/-- THE TIED CARD OF 'turnstonelaw12.ClampCarries'. -/
def clampCarriesCard : Claim7 := { stood := { row := clampCarriesRow, standIns := [], harness := (true, "f56a7860dfe5fe110040d0efcc6087904fd1c38768283a7e4239666f8dd0844f"), looks := false }, kinds := [], alts := [], laidByText := true, laidKinds := [.data, .data, .data], laidTests := true, laidLooks := .later }
def ClampCarriesCardSaid : Prop := Claim7.holds Tryz.pinned (.plain (OpenSpec.ofChange clampCarriesSpec)) clampCarriesCard

/-- THE TIED CARD OF 'turnstonelaw13.SpanGrows'. -/
def spanGrowsCard : Claim7 := { stood := { row := spanGrowsRow, standIns := [], harness := (true, "f56a7860dfe5fe110040d0efcc6087904fd1c38768283a7e4239666f8dd0844f"), looks := false }, kinds := [], alts := [], laidByText := true, laidKinds := [.data, .data, .data], laidTests := true, laidLooks := .later }
def SpanGrowsCardSaid : Prop := Claim7.holds Tryz.pinned (.plain (OpenSpec.ofChange spanGrowsSpec)) spanGrowsCard

/-- THE TIED CARD OF 'turnstonelaw13.SpanTells'. -/
def spanTellsCard : Claim7 := { stood := { row := spanTellsRow, standIns := [], harness := (true, "f56a7860dfe5fe110040d0efcc6087904fd1c38768283a7e4239666f8dd0844f"), looks := false }, kinds := [], alts := [], laidByText := true, laidKinds := [.data, .data, .data], laidTests := true, laidLooks := .later }
def SpanTellsCardSaid : Prop := Claim7.holds Tryz.pinned (.plain (OpenSpec.ofChange spanTellsSpec)) spanTellsCard

/-- THE TIED CARD OF 'turnstonelaw13.SpanBases'. -/
def spanBasesCard : Claim7 := { stood := { row := spanBasesRow, standIns := [], harness := (true, "f56a7860dfe5fe110040d0efcc6087904fd1c38768283a7e4239666f8dd0844f"), looks := false }, kinds := [], alts := [], laidByText := true, laidKinds := [.data, .data, .data], laidTests := true, laidLooks := .later }
def SpanBasesCardSaid : Prop := Claim7.holds Tryz.pinned (.plain (OpenSpec.ofChange spanBasesSpec)) spanBasesCard

/-- THE SECOND FORM's CARD OF 'turnstonelaw09.LagOwed'. -/
def lagOwedUptoCard : Claim7 := { stood := { row := lagOwedUptoRow, standIns := [], harness := (true, "f56a7860dfe5fe110040d0efcc6087904fd1c38768283a7e4239666f8dd0844f"), looks := false }, kinds := [], alts := [], laidByText := true, laidKinds := [.data, .data, .data], laidTests := true, laidLooks := .later }
def LagOwedUptoCardSaid : Prop := Claim7.holds Tryz.pinned (.plain (OpenSpec.upto lagOwedSpec)) lagOwedUptoCard

/-- THE SECOND FORM's CARD OF 'turnstonelaw10.PlacePlays'. -/
def placePlaysUptoCard : Claim7 := { stood := { row := placePlaysUptoRow, standIns := [], harness := (true, "f56a7860dfe5fe110040d0efcc6087904fd1c38768283a7e4239666f8dd0844f"), looks := false }, kinds := [], alts := [], laidByText := true, laidKinds := [.data, .data, .data], laidTests := true, laidLooks := .later }
def PlacePlaysUptoCardSaid : Prop := Claim7.holds Tryz.pinned (.plain (OpenSpec.upto placePlaysSpec)) placePlaysUptoCard

/-- THE SECOND FORM's CARD OF 'turnstonelaw12.ClampCarries'. -/
def clampCarriesUptoCard : Claim7 := { stood := { row := clampCarriesUptoRow, standIns := [], harness := (true, "f56a7860dfe5fe110040d0efcc6087904fd1c38768283a7e4239666f8dd0844f"), looks := false }, kinds := [], alts := [], laidByText := true, laidKinds := [.data, .data, .data], laidTests := true, laidLooks := .later }
def ClampCarriesUptoCardSaid : Prop := Claim7.holds Tryz.pinned (.plain (OpenSpec.upto clampCarriesSpec)) clampCarriesUptoCard

/-- THE SECOND FORM's CARD OF 'turnstonelaw13.SpanGrows'. -/
def spanGrowsUptoCard : Claim7 := { stood := { row := spanGrowsUptoRow, standIns := [], harness := (true, "f56a7860dfe5fe110040d0efcc6087904fd1c38768283a7e4239666f8dd0844f"), looks := false }, kinds := [], alts := [], laidByText := true, laidKinds := [.data, .data, .data], laidTests := true, laidLooks := .later }
def SpanGrowsUptoCardSaid : Prop := Claim7.holds Tryz.pinned (.plain (OpenSpec.upto spanGrowsSpec)) spanGrowsUptoCard

/-- THE SECOND FORM's CARD OF 'turnstonelaw13.SpanTells'. -/
def spanTellsUptoCard : Claim7 := { stood := { row := spanTellsUptoRow, standIns := [], harness := (true, "f56a7860dfe5fe110040d0efcc6087904fd1c38768283a7e4239666f8dd0844f"), looks := false }, kinds := [], alts := [], laidByText := true, laidKinds := [.data, .data, .data], laidTests := true, laidLooks := .later }
def SpanTellsUptoCardSaid : Prop := Claim7.holds Tryz.pinned (.plain (OpenSpec.upto spanTellsSpec)) spanTellsUptoCard

/-- THE SECOND FORM's CARD OF 'turnstonelaw13.SpanBases'. -/
def spanBasesUptoCard : Claim7 := { stood := { row := spanBasesUptoRow, standIns := [], harness := (true, "f56a7860dfe5fe110040d0efcc6087904fd1c38768283a7e4239666f8dd0844f"), looks := false }, kinds := [], alts := [], laidByText := true, laidKinds := [.data, .data, .data], laidTests := true, laidLooks := .later }
def SpanBasesUptoCardSaid : Prop := Claim7.holds Tryz.pinned (.plain (OpenSpec.upto spanBasesSpec)) spanBasesUptoCard
end Rows
end Go.Proofs.YthlcpdjpnbbaeaaGreatDoor
