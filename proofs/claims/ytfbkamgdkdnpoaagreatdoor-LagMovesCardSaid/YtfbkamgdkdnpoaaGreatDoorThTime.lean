/- What the printed functions over virtual times answer: the difference, one so much later; and that the lower chapters' examples hold. For times of the kind uint64. -/
import Derived.Test.YtfbkamgdkdnpoaaGreatDoorThBase
import Derived.Test.YtfbkamgdkdnpoaaGreatDoorPrint1001
import Derived.Test.YtfbkamgdkdnpoaaGreatDoorPrint1003
namespace Go.Proofs.YtfbkamgdkdnpoaaGreatDoor.Th
open Go.RowKit Go.Proofs.YtfbkamgdkdnpoaaGreatDoor.Print Go.Proofs.YtfbkamgdkdnpoaaGreatDoorW.PrintWords Go.Proofs.YtfbkamgdkdnpoaaGreatDoorW.PrintLast Go.Proofs.YtfbkamgdkdnpoaaGreatDoorW.PrintMore Go.Proofs.YtfbkamgdkdnpoaaGreatDoor.Bits
set_option linter.unusedVariables false
set_option linter.unusedSimpArgs false

theorem since_eq (a b : Int) : vtime_Time_Since.f a b = some (wrap64 (a - b)) := by
  unfold vtime_Time_Since.f
  simp only [w64, u64w]
  congr 1; omega
theorem later_eq (a d : Int) : vtime_Time_Add.f a d = some ((a + d) % 18446744073709551616) := by
  unfold vtime_Time_Add.f
  simp only [u64w]
  congr 1; omega
theorem rd_nat (l : List Int) (i : Nat) (h : i < l.length) : rd l (i : Int) = l[i] := by
  unfold rd
  simp [List.getD_eq_getElem?_getD, h]
theorem drop_cons (l : List Int) (i : Nat) (h : i < l.length) : l.drop i = l[i] :: l.drop (i + 1) := List.drop_eq_getElem_cons h
theorem wrap_succ {i n : Nat} (h : i < n) (hn : n ≤ 4611686018427387904) : wrap64 ((i : Int) + 1) = ((i + 1 : Nat) : Int) := by rw [w64]; omega
/-! ### The chapters' examples -/
end Go.Proofs.YtfbkamgdkdnpoaaGreatDoor.Th
