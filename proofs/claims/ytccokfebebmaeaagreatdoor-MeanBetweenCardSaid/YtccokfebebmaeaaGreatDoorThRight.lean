/- Whether a position may be, in whole numbers. -/
import Derived.Test.YtccokfebebmaeaaGreatDoorThPos
import Derived.Test.YtccokfebebmaeaaGreatDoorPrint1001
namespace Go.Proofs.YtccokfebebmaeaaGreatDoor.Th
open Go.RowKit Go.Proofs.YtccokfebebmaeaaGreatDoor.Print Go.Proofs.YtccokfebebmaeaaGreatDoorW.PrintWords Go.Proofs.YtccokfebebmaeaaGreatDoorW.PrintLast Go.Proofs.YtccokfebebmaeaaGreatDoorW.PrintMore Go.Proofs.YtccokfebebmaeaaGreatDoor.Bits
set_option linter.unusedVariables false
set_option linter.unusedSimpArgs false
theorem right_eq {r : Int} (t w : Int) (hr : 0 ≤ r) : pos_Pos_Right.f t r w = some (decide (RP r w)) := by
  unfold pos_Pos_Right.f
  rw [weight_eq]
  simp only [Option.bind_some, decide_eq_true_eq]
  by_cases h : 1 ≤ w ∧ w ≤ 1048576
  · rw [if_pos h]
    exact congrArg some (decide_eq_decide.2 (by unfold RP; omega))
  · rw [if_neg h]
    exact congrArg some (decide_eq_false (by unfold RP; omega)).symm
end Go.Proofs.YtccokfebebmaeaaGreatDoor.Th
