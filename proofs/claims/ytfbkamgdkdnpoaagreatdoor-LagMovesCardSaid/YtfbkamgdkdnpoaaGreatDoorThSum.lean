/- What the printed functions over numbers of 128 bits (wide.Int) answer, in whole numbers: the small ones, the sum. For numbers that are ones of 128 bits. -/
import Derived.Test.YtfbkamgdkdnpoaaGreatDoorThBase
import Derived.Test.YtfbkamgdkdnpoaaGreatDoorPrint1000
import Derived.Test.YtfbkamgdkdnpoaaGreatDoorPrint1001
namespace Go.Proofs.YtfbkamgdkdnpoaaGreatDoor.Th
open Go.RowKit Go.Proofs.YtfbkamgdkdnpoaaGreatDoor.Print Go.Proofs.YtfbkamgdkdnpoaaGreatDoorW.PrintWords Go.Proofs.YtfbkamgdkdnpoaaGreatDoorW.PrintLast Go.Proofs.YtfbkamgdkdnpoaaGreatDoorW.PrintMore Go.Proofs.YtfbkamgdkdnpoaaGreatDoor.Bits
set_option linter.unusedVariables false
set_option linter.unusedSimpArgs false
theorem of_eq {a : Int} (h : Sm a) : wide_Of.f a = some (a / 18446744073709551616, a % 18446744073709551616) := by
  unfold Sm at h
  unfold wide_Of.f
  rw [u64w]
  by_cases h0 : a < 0
  · rw [if_pos h0]; congr 2; omega
  · rw [if_neg h0]; congr 2; omega
theorem small_eq {x : Int} (hx : Big x) : wide_Int_Small.f (x / 18446744073709551616) (x % 18446744073709551616) = if Sm x then some (x, true) else some (0, false) := by
  unfold Big at hx
  unfold wide_Int_Small.f
  have h1 : Sm (wrap64 (x % 18446744073709551616)) := by unfold Sm; rw [w64]; omega
  rw [of_eq h1]
  simp only [Option.bind_some]
  by_cases h : Sm x
  · rw [if_pos h]
    unfold Sm at h
    have e : wrap64 (x % 18446744073709551616) = x := by rw [w64]; omega
    rw [e]
    simp
  · rw [if_neg h, if_pos]
    unfold Sm at h
    rw [w64]
    simp only [Bool.or_eq_true, Bool.not_eq_true', beq_eq_false_iff_ne]
    omega
theorem add_eq {x y : Int} (hx : Big x) (hy : Big y) : wide_Int_Add.f (x / 18446744073709551616) (x % 18446744073709551616) (y / 18446744073709551616) (y % 18446744073709551616) = told (x + y) := by
  unfold Big at hx hy
  unfold wide_Int_Add.f
  rw [addHi_eq (by omega) (by omega) (by omega), if_pos (by omega), u64w, u64w, addLo_eq (by omega) (by omega) (by omega), addLo_eq (by omega) (by omega) (by omega)]
  have e2 : (x % 18446744073709551616 + y % 18446744073709551616 + 0) % 18446744073709551616 = (x + y) % 18446744073709551616 := by omega
  rw [e2]
  by_cases hb : Big (x + y)
  · have e1 : wrap64 ((x / 18446744073709551616 % 18446744073709551616 + y / 18446744073709551616 % 18446744073709551616 + (x % 18446744073709551616 + y % 18446744073709551616 + 0) / 18446744073709551616) % 18446744073709551616) = (x + y) / 18446744073709551616 := by
      unfold Big at hb; rw [w64]; omega
    rw [e1, told_big hb]
    unfold Big at hb
    split
    · rename_i h
      rw [if_neg]
      simp only [beq_iff_eq, decide_eq_decide] at h
      simp only [bne_iff_ne, ne_eq, decide_eq_decide, not_not_intro, Decidable.not_not]
      omega
    · rfl
  · rw [told_not hb]
    unfold Big at hb
    have s1 : ((decide (x / 18446744073709551616 < 0)) == (decide (y / 18446744073709551616 < 0))) = true := by
      rw [beq_iff_eq, decide_eq_decide]; omega
    rw [if_pos s1, if_pos]
    rw [bne_iff_ne, ne_eq, decide_eq_decide, w64]
    omega
theorem ofU_eq {a : Int} (h0 : 0 ≤ a) (h1 : a < 18446744073709551616) : wide_OfU.f a = some (a / 18446744073709551616, a % 18446744073709551616) := by
  unfold wide_OfU.f
  congr 2 <;> omega
end Go.Proofs.YtfbkamgdkdnpoaaGreatDoor.Th
