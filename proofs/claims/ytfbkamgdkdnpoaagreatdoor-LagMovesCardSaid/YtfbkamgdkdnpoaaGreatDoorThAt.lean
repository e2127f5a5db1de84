/- A position of a distance and a weight, in whole numbers. -/
import Derived.Test.YtfbkamgdkdnpoaaGreatDoorThPos
import Derived.Test.YtfbkamgdkdnpoaaGreatDoorPrint1003
namespace Go.Proofs.YtfbkamgdkdnpoaaGreatDoor.Th
open Go.RowKit Go.Proofs.YtfbkamgdkdnpoaaGreatDoor.Print Go.Proofs.YtfbkamgdkdnpoaaGreatDoorW.PrintWords Go.Proofs.YtfbkamgdkdnpoaaGreatDoorW.PrintLast Go.Proofs.YtfbkamgdkdnpoaaGreatDoorW.PrintMore Go.Proofs.YtfbkamgdkdnpoaaGreatDoor.Bits
set_option linter.unusedVariables false
set_option linter.unusedSimpArgs false
/-- The position of a distance. -/
def place (base d w : Int) : Option (Int × Int × Int × Bool) := if 1 ≤ w ∧ w ≤ 1048576 then if Sm (d / w) then some ((base + d / w) % 18446744073709551616, d % w, w, true) else some (0, 0, 0, false) else some (0, 0, 0, false)
theorem at_eq {base d w : Int} {k : Nat} (hk : 10 ≤ k) (hd : Big d) (hw : 0 ≤ w) (hw' : w < 4294967296) : pos_At.f k base (d / 18446744073709551616) (d % 18446744073709551616) w = place base d w := by
  unfold pos_At.f place
  rw [weight_eq]
  simp only [Option.bind_some, decide_eq_true_eq]
  by_cases h : 1 ≤ w ∧ w ≤ 1048576
  · rw [if_pos h, if_pos h, u64_id hw (by omega), div_eq hk hd (by omega) (by omega)]
    simp only [Option.bind_some]
    have hq : Big (d / w) := by
      unfold Big at *
      constructor
      · have := Int.le_ediv_of_mul_le (a := -170141183460469231731687303715884105728) (b := d) (c := w) (by omega) (by have := Int.mul_le_mul_of_nonneg_left h.1 (show (0 : Int) ≤ 170141183460469231731687303715884105728 by omega); omega)
        exact this
      · apply Int.ediv_lt_of_lt_mul (by omega)
        have := Int.mul_le_mul_of_nonneg_left h.1 (show (0 : Int) ≤ 170141183460469231731687303715884105728 by omega)
        omega
    rw [small_eq hq]
    by_cases hs : Sm (d / w)
    · rw [if_pos hs, if_pos hs]
      simp only [Option.bind_some, if_true, later_eq]
      have m0 := Int.emod_nonneg d (show w ≠ 0 by omega)
      have m1 := Int.emod_lt_of_pos d (show 0 < w by omega)
      rw [Int.emod_eq_of_lt m0 (show d % w < 4294967296 by omega)]
    · rw [if_neg hs, if_neg hs]
      simp
  · rw [if_neg h, if_neg h]
end Go.Proofs.YtfbkamgdkdnpoaaGreatDoor.Th
