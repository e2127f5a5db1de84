/- The difference of wide numbers, in whole numbers. -/
import Derived.Test.YtfbkamgdkdnpoaaGreatDoorThBase
import Derived.Test.YtfbkamgdkdnpoaaGreatDoorPrint1000
namespace Go.Proofs.YtfbkamgdkdnpoaaGreatDoor.Th
open Go.RowKit Go.Proofs.YtfbkamgdkdnpoaaGreatDoor.Print Go.Proofs.YtfbkamgdkdnpoaaGreatDoorW.PrintWords Go.Proofs.YtfbkamgdkdnpoaaGreatDoorW.PrintLast Go.Proofs.YtfbkamgdkdnpoaaGreatDoorW.PrintMore Go.Proofs.YtfbkamgdkdnpoaaGreatDoor.Bits
set_option linter.unusedVariables false
set_option linter.unusedSimpArgs false
/-- A number of 128 bits, or 0. -/
def cl (z : Int) : Int := if Big z then z else 0
theorem cl_big (z : Int) : Big (cl z) := by
  unfold cl
  split
  · assumption
  · unfold Big; omega
theorem told_cl (z : Int) : told z = some (cl z / 18446744073709551616, cl z % 18446744073709551616, decide (Big z)) := by
  unfold cl
  by_cases h : Big z
  · rw [told_big h, if_pos h, decide_eq_true h]
  · rw [told_not h, if_neg h, decide_eq_false h]; rfl
def tellW : Option Int → Int × Int × Bool
  | some x => (x / 18446744073709551616, x % 18446744073709551616, true)
  | none => (0, 0, false)
theorem sub_eq {x y : Int} (hx : Big x) (hy : Big y) : wide_Int_Sub.f (x / 18446744073709551616) (x % 18446744073709551616) (y / 18446744073709551616) (y % 18446744073709551616) = told (x - y) := by
  unfold Big at hx hy
  unfold wide_Int_Sub.f
  have hb : subHi (x % 18446744073709551616) (y % 18446744073709551616) 0 = if x % 18446744073709551616 < y % 18446744073709551616 then 1 else 0 := by
    rw [subHi_eq (by omega) (by omega) (by omega), Int.add_zero]
  have hc : (0 : Int) ≤ subHi (x % 18446744073709551616) (y % 18446744073709551616) 0 ∧ subHi (x % 18446744073709551616) (y % 18446744073709551616) 0 ≤ 1 := by rw [hb]; split <;> omega
  rw [if_pos hc.2, u64w, u64w, subLo_eq (a := x / 18446744073709551616 % 18446744073709551616) (by omega) (by omega) (by omega) hc.1 hc.2, subLo_eq (a := x % 18446744073709551616) (by omega) (by omega) (by omega) (by omega) (by omega), hb]
  have e2 : (x % 18446744073709551616 - y % 18446744073709551616 - 0) % 18446744073709551616 = (x - y) % 18446744073709551616 := by omega
  rw [e2]
  have e3 : ((x / 18446744073709551616 % 18446744073709551616 - y / 18446744073709551616 % 18446744073709551616 - (if x % 18446744073709551616 < y % 18446744073709551616 then 1 else 0)) % 18446744073709551616) = ((x - y) / 18446744073709551616) % 18446744073709551616 := by
    split <;> omega
  rw [e3]
  by_cases hbig : Big (x - y)
  · have e1 : wrap64 ((x - y) / 18446744073709551616 % 18446744073709551616) = (x - y) / 18446744073709551616 := by
      unfold Big at hbig; rw [w64]; omega
    rw [e1, told_big hbig]
    unfold Big at hbig
    split
    · rename_i h
      rw [if_neg]
      simp only [bne_iff_ne, ne_eq, decide_eq_decide] at h
      simp only [bne_iff_ne, ne_eq, decide_eq_decide, not_not_intro, Decidable.not_not]
      omega
    · rfl
  · rw [told_not hbig]
    unfold Big at hbig
    have s1 : ((decide (x / 18446744073709551616 < 0)) != (decide (y / 18446744073709551616 < 0))) = true := by
      rw [bne_iff_ne, ne_eq, decide_eq_decide]; omega
    rw [if_pos s1, if_pos]
    rw [bne_iff_ne, ne_eq, decide_eq_decide, w64]
    omega
end Go.Proofs.YtfbkamgdkdnpoaaGreatDoor.Th
