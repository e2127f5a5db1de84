/- What the printed functions over positions answer: may a position be, the position of a distance, some grains further, which is ahead; and that the chapter's example holds. For fields of their kinds. -/
import Derived.Test.YtfbkamgdkdnpoaaGreatDoorThTime
import Derived.Test.YtfbkamgdkdnpoaaGreatDoorThSum
import Derived.Test.YtfbkamgdkdnpoaaGreatDoorThWide
import Derived.Test.YtfbkamgdkdnpoaaGreatDoorPrint1001
namespace Go.Proofs.YtfbkamgdkdnpoaaGreatDoor.Th
open Go.RowKit Go.Proofs.YtfbkamgdkdnpoaaGreatDoor.Print Go.Proofs.YtfbkamgdkdnpoaaGreatDoorW.PrintWords Go.Proofs.YtfbkamgdkdnpoaaGreatDoorW.PrintLast Go.Proofs.YtfbkamgdkdnpoaaGreatDoorW.PrintMore Go.Proofs.YtfbkamgdkdnpoaaGreatDoor.Bits
set_option linter.unusedVariables false
set_option linter.unusedSimpArgs false
/-- Fields of a position's kinds. -/
def FP (t r w : Int) : Prop := (0 ≤ t ∧ t < 18446744073709551616) ∧ (0 ≤ r ∧ r < 4294967296) ∧ (0 ≤ w ∧ w < 4294967296)
/-- A position that may be. -/
def RP (r w : Int) : Prop := 1 ≤ w ∧ w ≤ 1048576 ∧ 0 ≤ r ∧ r < w
instance (r w : Int) : Decidable (RP r w) := inferInstanceAs (Decidable (_ ∧ _))
theorem weight_eq (w : Int) : pos_weight.f w = some (decide (1 ≤ w ∧ w ≤ 1048576)) := by
  unfold pos_weight.f
  by_cases h : w ≥ 1
  · rw [if_pos h]; congr 1; rw [decide_eq_decide]; omega
  · rw [if_neg h]; congr 1; symm; rw [decide_eq_false_iff_not]; omega
end Go.Proofs.YtfbkamgdkdnpoaaGreatDoor.Th
