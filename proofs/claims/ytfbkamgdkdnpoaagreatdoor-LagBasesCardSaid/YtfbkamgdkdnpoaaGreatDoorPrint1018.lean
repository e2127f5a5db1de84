/- What each Go function that is named below answers, as a Lean function, and that its walk comes to just that: for whatever arguments that function gives an answer for. Written by a program of this session (wip/mkpr.py, pr.sh). -/
import Derived.Test.YtfbkamgdkdnpoaaGreatDoorPrint1000
namespace Go.Proofs.YtfbkamgdkdnpoaaGreatDoor.Print
open Go.RowKit Go.Proofs.YtfbkamgdkdnpoaaGreatDoorW.PrintWords Go.Proofs.YtfbkamgdkdnpoaaGreatDoorW.PrintLast Go.Proofs.YtfbkamgdkdnpoaaGreatDoorW.PrintMore
attribute [local go_sem] max2_int min2_int max_two min_two max_three min_three max_four min_four   -- for this text's walks alone
open Go.Proofs.YtfbkamgdkdnpoaaGreatDoor.Bits Go.Proofs.YtfbkamgdkdnpoaaGreatDoor.Short
attribute [local go_sem] add64_run0 sub64_run0 add64_run sub64_run
set_option linter.unusedVariables false
set_option linter.unusedSimpArgs false

/-! ### turnstonelaw09_awake: function 15 -/
def turnstonelaw09_awake.f : Option Bool := some true
theorem turnstonelaw09_awake.calls (r : Bool) (w : World) (h : turnstonelaw09_awake.f = some r) : Calls Tryz.prog 15 #[] w fun e w' => e = .returned (.bool r) ∧ Below w.heap.size w w' := by
 obtain rfl := Option.some.inj h
 exact Go.Proofs.YtfbkamgdkdnpoaaGreatDoor.Awake.at15 w

end Go.Proofs.YtfbkamgdkdnpoaaGreatDoor.Print
