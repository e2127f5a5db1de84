/- The order of numbers, in whole numbers. -/
import Derived.Test.YtdfpkjdhndfcbaaThSum
import Derived.Test.YtdfpkjdhndfcbaaPrint1000
namespace Go.Proofs.Ytdfpkjdhndfcbaa.Th
open Go.RowKit Go.Proofs.Ytdfpkjdhndfcbaa.Print Go.Proofs.YtdfpkjdhndfcbaaW.PrintWords Go.Proofs.YtdfpkjdhndfcbaaW.PrintLast Go.Proofs.YtdfpkjdhndfcbaaW.PrintMore Go.Proofs.Ytdfpkjdhndfcbaa.Bits
set_option linter.unusedVariables false
set_option linter.unusedSimpArgs false
/-- Which of two whole numbers is greater. -/
def sg (a b : Int) : Int := if a < b then -1 else if a > b then 1 else 0
theorem cmpI_eq (a b : Int) : cmp_Compare_int64.f a b = some (sg a b) := by
  unfold cmp_Compare_int64.f cmp_isNaN_int64.f sg
  simp only [bne_self_eq_false, Option.bind_some, Bool.false_eq_true, if_false]
  split
  · rfl
  · split <;> rfl
theorem cmpU_eq (a b : Int) : cmp_Compare_uint64.f a b = some (sg a b) := by
  unfold cmp_Compare_uint64.f cmp_isNaN_uint64.f sg
  simp only [bne_self_eq_false, Option.bind_some, Bool.false_eq_true, if_false]
  split
  · rfl
  · split <;> rfl
theorem or2_eq {k : Nat} (hk : 4 ≤ k) (a b : Int) : cmp_Or_int.f k [a, b] = some (if a = 0 then b else a) := by
  obtain ⟨k, rfl⟩ : ∃ j, k = j + 3 := ⟨k - 3, by omega⟩
  unfold cmp_Or_int.f
  have r0 : rd [a, b] 0 = a := rfl
  have r1 : rd [a, b] 1 = b := rfl
  have w0 : wrap64 (0 + 1) = 1 := by rw [w64]; rfl
  have w1 : wrap64 (1 + 1) = 2 := by rw [w64]; rfl
  have hl : (([a, b] : List Int).length : Int) = 2 := rfl
  rw [hl, cmp_Or_int.l0, if_pos (by omega), if_pos (by omega), if_pos (by rw [hl]; omega), r0, w0]
  by_cases h : a = 0
  · rw [if_pos h, if_pos h, cmp_Or_int.l0, if_pos (by omega), if_pos (by omega), if_pos (by rw [hl]; omega), r1, w1]
    by_cases h2 : b = 0
    · rw [if_pos h2, cmp_Or_int.l0, if_neg (by omega), h2]
    · rw [if_neg h2]
  · rw [if_neg h, if_neg h]
end Go.Proofs.Ytdfpkjdhndfcbaa.Th
