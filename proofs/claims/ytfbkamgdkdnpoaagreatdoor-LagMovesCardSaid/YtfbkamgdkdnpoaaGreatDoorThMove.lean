/- A position some grains further, in whole numbers. -/
import Derived.Test.YtfbkamgdkdnpoaaGreatDoorThAt
import Derived.Test.YtfbkamgdkdnpoaaGreatDoorPrint1003
namespace Go.Proofs.YtfbkamgdkdnpoaaGreatDoor.Th
open Go.RowKit Go.Proofs.YtfbkamgdkdnpoaaGreatDoor.Print Go.Proofs.YtfbkamgdkdnpoaaGreatDoorW.PrintWords Go.Proofs.YtfbkamgdkdnpoaaGreatDoorW.PrintLast Go.Proofs.YtfbkamgdkdnpoaaGreatDoorW.PrintMore Go.Proofs.YtfbkamgdkdnpoaaGreatDoor.Bits
set_option linter.unusedVariables false
set_option linter.unusedSimpArgs false
theorem move_eq {t r w g : Int} {k : Nat} (hk : 10 ≤ k) (hr : 0 ≤ r) (hr' : r < 4294967296) (hw : 0 ≤ w) (hw' : w < 4294967296) (hg : 0 ≤ g) (hg' : g < 18446744073709551616) :
    pos_Pos_Move.f k t r w g = place t (g + r) w := by
  unfold pos_Pos_Move.f
  rw [u64_id hr (by omega), ofU_eq hg hg', ofU_eq hr (by omega)]
  simp only [Option.bind_some]
  have b1 : Big g := by unfold Big; omega
  have b2 : Big r := by unfold Big; omega
  have b3 : Big (g + r) := by unfold Big; omega
  rw [add_eq b1 b2, told_big b3]
  simp only [Option.bind_some]
  rw [at_eq hk b3 hw hw']
  unfold place
  split
  · split <;> rfl
  · rfl
end Go.Proofs.YtfbkamgdkdnpoaaGreatDoor.Th
