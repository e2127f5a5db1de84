/- The order of numbers, in whole numbers. -/
import Derived.Test.YtfbkamgdkdnpoaaGreatDoorThSum
import Derived.Test.YtfbkamgdkdnpoaaGreatDoorPrint1005
namespace Go.Proofs.YtfbkamgdkdnpoaaGreatDoor.Th
open Go.RowKit Go.Proofs.YtfbkamgdkdnpoaaGreatDoor.Print Go.Proofs.YtfbkamgdkdnpoaaGreatDoorW.PrintWords Go.Proofs.YtfbkamgdkdnpoaaGreatDoorW.PrintLast Go.Proofs.YtfbkamgdkdnpoaaGreatDoorW.PrintMore Go.Proofs.YtfbkamgdkdnpoaaGreatDoor.Bits
set_option linter.unusedVariables false
set_option linter.unusedSimpArgs false
/-- Which of two whole numbers is greater. -/
def sg (a b : Int) : Int := if a < b then -1 else if a > b then 1 else 0
theorem cmpI_eq (a b : Int) : cmp_Compare_int64.f a b = some (sg a b) := by
  unfold cmp_Compare_int64.f cmp_isNaN_int64.f sg
  simp only [bne_self_eq_false, Option.bind_some, Bool.false_eq_true, if_false]
  split
  · rfl
  · split <;> rfl
theorem cmpU_eq (a b : Int) : cmp_Compare_uint64.f a b = some (sg a b) := by
  unfold cmp_Compare_uint64.f cmp_isNaN_uint64.f sg
  simp only [bne_self_eq_false, Option.bind_some, Bool.false_eq_true, if_false]
  split
  · rfl
  · split <;> rfl
theorem or2_eq {k : Nat} (hk : 4 ≤ k) (a b : Int) : cmp_Or_int.f k [a, b] = some (if a = 0 then b else a) := by
  obtain ⟨k, rfl⟩ : ∃ j, k = j + 3 := ⟨k - 3, by omega⟩
  unfold cmp_Or_int.f
  have r0 : rd [a, b] 0 = a := rfl
  have r1 : rd [a, b] 1 = b := rfl
  have w0 : wrap64 (0 + 1) = 1 := by rw [w64]; rfl
  have w1 : wrap64 (1 + 1) = 2 := by rw [w64]; rfl
  have hl : (([a, b] : List Int).length : Int) = 2 := rfl
  rw [hl, cmp_Or_int.l0, if_pos (by omega), if_pos (by omega), if_pos (by rw [hl]; omega), r0, w0]
  by_cases h : a = 0
  · rw [if_pos h, if_pos h, cmp_Or_int.l0, if_pos (by omega), if_pos (by omega), if_pos (by rw [hl]; omega), r1, w1]
    by_cases h2 : b = 0
    · rw [if_pos h2, cmp_Or_int.l0, if_neg (by omega), h2]
    · rw [if_neg h2]
  · rw [if_neg h, if_neg h]
theorem wcmp_eq {x y : Int} {k : Nat} (hk : 4 ≤ k) : wide_Int_Cmp.f k (x / 18446744073709551616) (x % 18446744073709551616) (y / 18446744073709551616) (y % 18446744073709551616) = some (sg x y) := by
  unfold wide_Int_Cmp.f
  rw [cmpI_eq, Option.bind_some, cmpU_eq, Option.bind_some, or2_eq hk, Option.bind_some]
  congr 1
  unfold sg
  by_cases h1 : x / 18446744073709551616 < y / 18446744073709551616
  · rw [if_pos h1, if_neg (by omega), if_pos (by omega)]
  · rw [if_neg h1]
    by_cases h2 : x / 18446744073709551616 > y / 18446744073709551616
    · rw [if_pos h2, if_neg (by omega), if_neg (by omega), if_pos (by omega)]
    · rw [if_neg h2, if_pos rfl]
      by_cases h3 : x % 18446744073709551616 < y % 18446744073709551616
      · rw [if_pos h3, if_pos (by omega)]
      · rw [if_neg h3, if_neg (show ¬ x < y by omega)]
        by_cases h4 : x % 18446744073709551616 > y % 18446744073709551616
        · rw [if_pos h4, if_pos (by omega)]
        · rw [if_neg h4, if_neg (by omega)]
theorem wsign_eq {x : Int} {k : Nat} (hk : 4 ≤ k) : wide_Int_Sign.f k (x / 18446744073709551616) (x % 18446744073709551616) = some (sg x 0) := by
  unfold wide_Int_Sign.f
  have := wcmp_eq (x := x) (y := 0) hk
  rw [show (0 : Int) / 18446744073709551616 = 0 from rfl, show (0 : Int) % 18446744073709551616 = 0 from rfl] at this
  rw [this, Option.bind_some]
end Go.Proofs.YtfbkamgdkdnpoaaGreatDoor.Th
