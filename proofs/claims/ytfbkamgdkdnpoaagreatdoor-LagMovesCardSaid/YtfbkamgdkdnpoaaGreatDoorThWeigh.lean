/- A mean with a position less, with one in another's place; where a position is with another weight: in whole numbers. -/
import Derived.Test.YtfbkamgdkdnpoaaGreatDoorThMean
import Derived.Test.YtfbkamgdkdnpoaaGreatDoorThLag
import Derived.Test.YtfbkamgdkdnpoaaGreatDoorThAt
import Derived.Test.YtfbkamgdkdnpoaaGreatDoorPrint1003
namespace Go.Proofs.YtfbkamgdkdnpoaaGreatDoor.Th
open Go.RowKit Go.Proofs.YtfbkamgdkdnpoaaGreatDoor.Print Go.Proofs.YtfbkamgdkdnpoaaGreatDoorW.PrintWords Go.Proofs.YtfbkamgdkdnpoaaGreatDoorW.PrintLast Go.Proofs.YtfbkamgdkdnpoaaGreatDoorW.PrintMore Go.Proofs.YtfbkamgdkdnpoaaGreatDoor.Bits
set_option linter.unusedVariables false
set_option linter.unusedSimpArgs false
theorem mtake_eq {b A W N t r w : Int} {k : Nat} (hk : 3 ≤ k) (hb : 0 ≤ b ∧ b < 18446744073709551616) (hA : Big A) (hR : RM A W N) (hN : N ≠ 0) (hp : RP r w) (hw : w ≤ W) (hd : Big (A - dist t r w b)) (hR' : RM (A - dist t r w b) (W - w) (N - 1)) :
    mean_Mean_Take.f k b (A / 18446744073709551616) (A % 18446744073709551616) W N t r w = some (b, (A - dist t r w b) / 18446744073709551616, (A - dist t r w b) % 18446744073709551616, W - w, N - 1, true) := by
  have hW : 1 ≤ W ∧ W ≤ 33554432 := by unfold RM at hR; omega
  have hN2 : 1 ≤ N ∧ N ≤ 32 := by unfold RM at hR; omega
  have hpp := hp
  unfold RP at hpp
  obtain ⟨k, rfl⟩ : ∃ j, k = j + 1 := ⟨k - 1, by omega⟩
  obtain ⟨_, hD⟩ := dist_big (t := t) (r := r) (w := w) (base := b) ⟨by omega, by omega⟩ ⟨by omega, by omega⟩
  unfold mean_Mean_Take.f
  rw [mright_eq hA (by unfold Sm; omega), decide_eq_true hR, Option.bind_some, if_pos rfl, right_eq t w (by omega), decide_eq_true hp, Option.bind_some, if_pos rfl, if_neg hN, u64_id (n := w) (by omega) (by omega), decide_eq_false (by omega), mean_Mean_Take.j0, if_neg (by simp), dist_eq (by omega) ⟨by omega, by omega⟩ ⟨by omega, by omega⟩, Option.bind_some, sub_eq hA hD, told_big hd, Option.bind_some, if_pos rfl, u64_id (n := w) (by omega) (by omega), u64_id (n := W - w) (by omega) (by omega), w_id (n := N - 1) (by omega) (by omega)]
  dsimp only
  rw [mright_eq hd (by unfold Sm; omega), decide_eq_true hR', Option.bind_some, if_pos rfl]
end Go.Proofs.YtfbkamgdkdnpoaaGreatDoor.Th
