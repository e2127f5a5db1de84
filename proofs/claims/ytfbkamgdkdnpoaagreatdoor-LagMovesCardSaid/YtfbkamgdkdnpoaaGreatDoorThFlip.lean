/- A wide number taken to the other side, in whole numbers. -/
import Derived.Test.YtfbkamgdkdnpoaaGreatDoorThBase
import Derived.Test.YtfbkamgdkdnpoaaGreatDoorPrint1000
namespace Go.Proofs.YtfbkamgdkdnpoaaGreatDoor.Th
open Go.RowKit Go.Proofs.YtfbkamgdkdnpoaaGreatDoor.Print Go.Proofs.YtfbkamgdkdnpoaaGreatDoorW.PrintWords Go.Proofs.YtfbkamgdkdnpoaaGreatDoorW.PrintLast Go.Proofs.YtfbkamgdkdnpoaaGreatDoorW.PrintMore Go.Proofs.YtfbkamgdkdnpoaaGreatDoor.Bits
set_option linter.unusedVariables false
set_option linter.unusedSimpArgs false
theorem flip_at {h l : Int} (hl : 0 ≤ l) (hl' : l < 18446744073709551616) : wide_Int_flip.f h l = some (wrap64 ((0 - h % 18446744073709551616 - (if l = 0 then 0 else 1)) % 18446744073709551616), (-l) % 18446744073709551616) := by
  unfold wide_Int_flip.f
  rw [u64w]
  by_cases h0 : l = 0
  · subst h0
    have hb : subHi 0 0 0 = 0 := by rw [subHi_eq (by omega) (by omega) (by omega), if_neg (by omega)]
    rw [hb, if_pos (by omega), subLo_eq (by omega) (by omega) (by omega) (by omega) (by omega), subLo_eq (by omega) (by omega) (by omega) (by omega) (by omega), if_pos rfl]
    simp
  · have hb : subHi 0 l 0 = 1 := by rw [subHi_eq (by omega) (by omega) (by omega), if_pos (by omega)]
    rw [hb, if_pos (by omega), subLo_eq (by omega) (by omega) (by omega) (by omega) (by omega), subLo_eq (by omega) hl hl' (by omega) (by omega), if_neg h0]
    simp
end Go.Proofs.YtfbkamgdkdnpoaaGreatDoor.Th
