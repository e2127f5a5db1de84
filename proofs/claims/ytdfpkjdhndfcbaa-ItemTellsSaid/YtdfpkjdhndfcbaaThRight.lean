/- Whether a position may be, in whole numbers. -/
import Derived.Test.YtdfpkjdhndfcbaaThPos
import Derived.Test.YtdfpkjdhndfcbaaPrint1005
namespace Go.Proofs.Ytdfpkjdhndfcbaa.Th
open Go.RowKit Go.Proofs.Ytdfpkjdhndfcbaa.Print Go.Proofs.YtdfpkjdhndfcbaaW.PrintWords Go.Proofs.YtdfpkjdhndfcbaaW.PrintLast Go.Proofs.YtdfpkjdhndfcbaaW.PrintMore Go.Proofs.Ytdfpkjdhndfcbaa.Bits
set_option linter.unusedVariables false
set_option linter.unusedSimpArgs false
theorem right_eq {r : Int} (t w : Int) (hr : 0 ≤ r) : pos_Pos_Right.f t r w = some (decide (RP r w)) := by
  unfold pos_Pos_Right.f
  rw [weight_eq]
  simp only [Option.bind_some, decide_eq_true_eq]
  by_cases h : 1 ≤ w ∧ w ≤ 1048576
  · rw [if_pos h]
    exact congrArg some (decide_eq_decide.2 (by unfold RP; omega))
  · rw [if_neg h]
    exact congrArg some (decide_eq_false (by unfold RP; omega)).symm
end Go.Proofs.Ytdfpkjdhndfcbaa.Th
