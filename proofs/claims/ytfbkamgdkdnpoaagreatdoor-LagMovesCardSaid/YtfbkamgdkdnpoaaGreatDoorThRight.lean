/- Whether a position may be, in whole numbers. -/
import Derived.Test.YtfbkamgdkdnpoaaGreatDoorThPos
import Derived.Test.YtfbkamgdkdnpoaaGreatDoorPrint1001
namespace Go.Proofs.YtfbkamgdkdnpoaaGreatDoor.Th
open Go.RowKit Go.Proofs.YtfbkamgdkdnpoaaGreatDoor.Print Go.Proofs.YtfbkamgdkdnpoaaGreatDoorW.PrintWords Go.Proofs.YtfbkamgdkdnpoaaGreatDoorW.PrintLast Go.Proofs.YtfbkamgdkdnpoaaGreatDoorW.PrintMore Go.Proofs.YtfbkamgdkdnpoaaGreatDoor.Bits
set_option linter.unusedVariables false
set_option linter.unusedSimpArgs false
theorem right_eq {r : Int} (t w : Int) (hr : 0 ≤ r) : pos_Pos_Right.f t r w = some (decide (RP r w)) := by
  unfold pos_Pos_Right.f
  rw [weight_eq]
  simp only [Option.bind_some, decide_eq_true_eq]
  by_cases h : 1 ≤ w ∧ w ≤ 1048576
  · rw [if_pos h]
    exact congrArg some (decide_eq_decide.2 (by unfold RP; omega))
  · rw [if_neg h]
    exact congrArg some (decide_eq_false (by unfold RP; omega)).symm
end Go.Proofs.YtfbkamgdkdnpoaaGreatDoor.Th
