/- What the printed functions over a position's distance answer: its distance from a time, and where it is shifted. For fields of their kinds. -/
import Derived.Test.YtfbkamgdkdnpoaaGreatDoorThPos
import Derived.Test.YtfbkamgdkdnpoaaGreatDoorThWideMul
import Derived.Test.YtfbkamgdkdnpoaaGreatDoorPrint1001
namespace Go.Proofs.YtfbkamgdkdnpoaaGreatDoor.Th
open Go.RowKit Go.Proofs.YtfbkamgdkdnpoaaGreatDoor.Print Go.Proofs.YtfbkamgdkdnpoaaGreatDoorW.PrintWords Go.Proofs.YtfbkamgdkdnpoaaGreatDoorW.PrintLast Go.Proofs.YtfbkamgdkdnpoaaGreatDoorW.PrintMore Go.Proofs.YtfbkamgdkdnpoaaGreatDoor.Bits
set_option linter.unusedVariables false
set_option linter.unusedSimpArgs false
/-- A position's distance from a time. -/
def dist (t r w base : Int) : Int := w * wrap64 (t - base) + r
theorem dist_big {t r w base : Int} (hr : 0 ≤ r ∧ r < 4294967296) (hw : 0 ≤ w ∧ w < 4294967296) : Big (w * wrap64 (t - base)) ∧ Big (dist t r w base) := by
  have h := Sm_wrap (t - base)
  unfold dist
  unfold Sm at h
  generalize wrap64 (t - base) = d at *
  have a : w * d ≤ 4294967296 * 9223372036854775808 := by
    rcases Int.lt_or_le d 0 with h0 | h0
    · have := Int.mul_nonneg hw.1 (show 0 ≤ -d by omega)
      rw [Int.mul_neg] at this; omega
    · exact (mul_below hw.1 (by omega) h0 (by omega)).2
  have b : -(4294967296 * 9223372036854775808) ≤ w * d := by
    rcases Int.lt_or_le d 0 with h0 | h0
    · have := (mul_below (c := 4294967296) (d := 9223372036854775808) hw.1 (by omega) (show 0 ≤ -d by omega) (by omega)).2
      rw [Int.mul_neg] at this; omega
    · have := Int.mul_nonneg hw.1 h0; omega
  unfold Big
  omega
theorem dist_eq {t r w base : Int} {k : Nat} (hk : 1 ≤ k) (hr : 0 ≤ r ∧ r < 4294967296) (hw : 0 ≤ w ∧ w < 4294967296) :
    pos_Pos_Distance.f k t r w base = some (dist t r w base / 18446744073709551616, dist t r w base % 18446744073709551616) := by
  obtain ⟨h1, h2⟩ := dist_big (t := t) (base := base) hr hw
  unfold pos_Pos_Distance.f
  have b1 : Big w := by unfold Big; omega
  have b2 : Big r := by unfold Big; omega
  rw [u64_id hw.1 (by omega), u64_id hr.1 (by omega), ofU_eq hw.1 (by omega), Option.bind_some, since_eq, Option.bind_some, mul_eq hk b1 (Sm_wrap _), told_big h1, Option.bind_some, ofU_eq hr.1 (by omega), Option.bind_some, add_eq h1 b2]
  unfold dist at h2 ⊢
  rw [told_big h2, Option.bind_some]
end Go.Proofs.YtfbkamgdkdnpoaaGreatDoor.Th
