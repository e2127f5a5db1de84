/- What the printed functions over windows answer, in whole numbers: the window of a slice and a tick, and a lag within a window. For fields of their kinds. -/
import Derived.Test.YtfbkamgdkdnpoaaGreatDoorThCmp
import Derived.Test.YtfbkamgdkdnpoaaGreatDoorPrint1005
import Derived.Test.YtfbkamgdkdnpoaaGreatDoorPrint1000
namespace Go.Proofs.YtfbkamgdkdnpoaaGreatDoor.Th
open Go.RowKit Go.Proofs.YtfbkamgdkdnpoaaGreatDoor.Print Go.Proofs.YtfbkamgdkdnpoaaGreatDoorW.PrintWords Go.Proofs.YtfbkamgdkdnpoaaGreatDoorW.PrintLast Go.Proofs.YtfbkamgdkdnpoaaGreatDoorW.PrintMore Go.Proofs.YtfbkamgdkdnpoaaGreatDoor.Bits
set_option linter.unusedVariables false
set_option linter.unusedSimpArgs false
/-- A lag within a window. -/
def clampZ (x w : Int) : Int := if x > mx w 0 then mx w 0 else if x < -(mx w 0) then -(mx w 0) else x
theorem mx_bounds {w : Int} (hw : Sm w) : 0 ≤ mx w 0 ∧ mx w 0 < 9223372036854775808 := by unfold Sm at hw; unfold mx; split <;> omega
theorem clampZ_in {x w : Int} (hw : Sm w) : -(mx w 0) ≤ clampZ x w ∧ clampZ x w ≤ mx w 0 := by
  have := mx_bounds hw
  unfold clampZ
  split
  · omega
  · split <;> omega
theorem sg_pos (a b : Int) : (sg a b > 0) ↔ a > b := by unfold sg; split <;> (try split) <;> omega
theorem sg_neg (a b : Int) : (sg a b < 0) ↔ a < b := by unfold sg; split <;> (try split) <;> omega
theorem clamp_eq {x w : Int} {k : Nat} (hk : 4 ≤ k) (hx : Big x) (hw : Sm w) : clamp_Clamp.f k (x / 18446744073709551616) (x % 18446744073709551616) w = some (clampZ x w) := by
  obtain ⟨m0, m1⟩ := mx_bounds hw
  have s1 : Sm (mx w 0) := by unfold Sm; omega
  have s2 : Sm (-(mx w 0)) := by unfold Sm; omega
  unfold clamp_Clamp.f
  rw [of_eq s1, Option.bind_some, wcmp_eq hk, Option.bind_some, w_id (n := -(mx w 0)) (by omega) (by omega)]
  unfold clampZ
  by_cases h1 : x > mx w 0
  · rw [if_pos ((sg_pos _ _).2 h1), if_pos h1]
  · rw [if_neg (fun h => h1 ((sg_pos _ _).1 h)), if_neg h1, of_eq s2, Option.bind_some, wcmp_eq hk, Option.bind_some]
    by_cases h2 : x < -(mx w 0)
    · rw [if_pos ((sg_neg _ _).2 h2), if_pos h2]
    · rw [if_neg (fun h => h2 ((sg_neg _ _).1 h)), if_neg h2, small_eq hx, if_pos (by unfold Sm; omega), Option.bind_some]
theorem wide_of_pair {h l : Int} (hh : Sm h) (hl : 0 ≤ l) (hl' : l < 18446744073709551616) : ∃ x, Big x ∧ h = x / 18446744073709551616 ∧ l = x % 18446744073709551616 := by
  refine ⟨h * 18446744073709551616 + l, ?_, ?_, ?_⟩
  · unfold Sm at hh; unfold Big; omega
  · omega
  · omega
end Go.Proofs.YtfbkamgdkdnpoaaGreatDoor.Th
