/- Where a mean is, in whole numbers. -/
import Derived.Test.YtccokfebebmaeaaGreatDoorThMean
import Derived.Test.YtccokfebebmaeaaGreatDoorPrint1002
namespace Go.Proofs.YtccokfebebmaeaaGreatDoor.Th
open Go.RowKit Go.Proofs.YtccokfebebmaeaaGreatDoor.Print Go.Proofs.YtccokfebebmaeaaGreatDoorW.PrintWords Go.Proofs.YtccokfebebmaeaaGreatDoorW.PrintLast Go.Proofs.YtccokfebebmaeaaGreatDoorW.PrintMore Go.Proofs.YtccokfebebmaeaaGreatDoor.Bits
set_option linter.unusedVariables false
set_option linter.unusedSimpArgs false
/-- Where a mean is. -/
def floorM (b A W N : Int) : Int × Bool := if RM A W N ∧ N ≠ 0 ∧ Sm (A / W) then ((b + A / W) % 18446744073709551616, true) else (0, false)
theorem mfloor_no {k : Nat} (hk : 1 ≤ k) (a b c d e : Int) : mean_Mean_Floor.j0 k true a b c d e = some (0, false) := by
  obtain ⟨k, rfl⟩ : ∃ j, k = j + 1 := ⟨k - 1, by omega⟩
  rw [mean_Mean_Floor.j0, if_pos rfl]
theorem ediv_big {A W : Int} (hA : Big A) (hW : 0 < W) : Big (A / W) := by
  unfold Big at *
  constructor
  · apply Int.le_ediv_of_mul_le hW
    have : -170141183460469231731687303715884105728 * W ≤ -170141183460469231731687303715884105728 * 1 := Int.mul_le_mul_of_nonpos_left (by decide) (by omega)
    omega
  · apply Int.ediv_lt_of_lt_mul hW
    have : 170141183460469231731687303715884105728 * 1 ≤ 170141183460469231731687303715884105728 * W := Int.mul_le_mul_of_nonneg_left (by omega) (by decide)
    omega
theorem mfloor_eq {b A W N : Int} {k : Nat} (hk : 12 ≤ k) (hA : Big A) (hN : Sm N) : mean_Mean_Floor.f k b (A / 18446744073709551616) (A % 18446744073709551616) W N = some (floorM b A W N) := by
  unfold mean_Mean_Floor.f floorM
  rw [mright_eq hA hN, Option.bind_some]
  by_cases h1 : RM A W N
  · rw [decide_eq_true h1, if_pos rfl]
    by_cases h0 : N = 0
    · have : (N == 0) = true := by simp [h0]
      rw [this, mfloor_no (by omega), if_neg (fun h => h.2.1 h0)]
    · have : (N == 0) = false := by simp [h0]
      have hW : 0 < W ∧ W < 18446744073709551616 := by unfold RM at h1; omega
      obtain ⟨k, rfl⟩ : ∃ j, k = j + 1 := ⟨k - 1, by omega⟩
      rw [this, mean_Mean_Floor.j0, if_neg (by simp), div_eq (by omega) hA hW.1 hW.2, Option.bind_some, small_eq (ediv_big hA hW.1)]
      by_cases hs : Sm (A / W)
      · rw [if_pos hs, Option.bind_some, if_pos rfl, later_eq, Option.bind_some, if_pos ⟨h1, h0, hs⟩]
      · rw [if_neg hs, Option.bind_some, if_neg (by simp), if_neg (fun h => hs h.2.2)]
  · rw [decide_eq_false h1, if_neg (by simp), mfloor_no (by omega), if_neg (fun h => h1 h.1)]
end Go.Proofs.YtccokfebebmaeaaGreatDoor.Th
