/- What the printed functions over lags answer, in whole numbers: what a position is owed, in grains times weights, its sign, whether it is eligible, the lag; and the difference, and the order, of numbers of 128 bits. For fields of their kinds. -/
import Derived.Test.YtfbkamgdkdnpoaaGreatDoorThMean
import Derived.Test.YtfbkamgdkdnpoaaGreatDoorThSub
import Derived.Test.YtfbkamgdkdnpoaaGreatDoorPrint1002
import Derived.Test.YtfbkamgdkdnpoaaGreatDoorPrint1003
namespace Go.Proofs.YtfbkamgdkdnpoaaGreatDoor.Th
open Go.RowKit Go.Proofs.YtfbkamgdkdnpoaaGreatDoor.Print Go.Proofs.YtfbkamgdkdnpoaaGreatDoorW.PrintWords Go.Proofs.YtfbkamgdkdnpoaaGreatDoorW.PrintLast Go.Proofs.YtfbkamgdkdnpoaaGreatDoorW.PrintMore Go.Proofs.YtfbkamgdkdnpoaaGreatDoor.Bits
set_option linter.unusedVariables false
set_option linter.unusedSimpArgs false
/-- What a position of a distance is owed, times all weights. -/
def overM (A W N D r w : Int) : Option Int := if RM A W N ∧ N ≠ 0 ∧ RP r w ∧ Big (A * w) ∧ Big (D * W) ∧ Big (A * w - D * W) then some (A * w - D * W) else none
theorem over_no {k : Nat} (hk : 1 ≤ k) (a b c d e f g h : Int) : lag_over.j0 k true a b c d e f g h = some (0, 0, false) := by
  obtain ⟨k, rfl⟩ : ∃ j, k = j + 1 := ⟨k - 1, by omega⟩
  rw [lag_over.j0, if_pos rfl]
theorem over_eq {b A W N t r w : Int} {k : Nat} (hk : 3 ≤ k) (hA : Big A) (hN : Sm N) (hr : 0 ≤ r ∧ r < 4294967296) (hw : 0 ≤ w ∧ w < 4294967296) :
    lag_over.f k b (A / 18446744073709551616) (A % 18446744073709551616) W N t r w = some (tellW (overM A W N (dist t r w b) r w)) := by
  unfold lag_over.f overM
  rw [mright_eq hA hN, Option.bind_some]
  by_cases h1 : RM A W N
  · rw [decide_eq_true h1, if_pos rfl]
    by_cases h0 : N = 0
    · rw [if_pos h0, over_no (by omega), if_neg (fun h => h.2.1 h0)]; rfl
    · rw [if_neg h0, right_eq t w hr.1, Option.bind_some]
      by_cases h2 : RP r w
      · rw [decide_eq_true h2]
        obtain ⟨k, rfl⟩ : ∃ j, k = j + 1 := ⟨k - 1, by omega⟩
        obtain ⟨_, hD⟩ := dist_big (t := t) (base := b) hr hw
        have hW : 0 ≤ W ∧ W ≤ 33554432 := by unfold RM at h1; omega
        have sw : Sm w := by unfold Sm; omega
        have sW : Sm W := by unfold Sm; omega
        rw [lag_over.j0, if_neg (by simp), w_id (n := w) (by omega) (by omega), w_id (n := W) (by omega) (by omega), mul_eq (by omega) hA sw, told_cl, Option.bind_some, dist_eq (by omega) hr hw, Option.bind_some, mul_eq (by omega) hD sW, told_cl, Option.bind_some, sub_eq (cl_big _) (cl_big _), told_cl, Option.bind_some]
        by_cases b1 : Big (A * w)
        · rw [decide_eq_true b1, if_pos rfl]
          by_cases b2 : Big (dist t r w b * W)
          · rw [decide_eq_true b2, if_pos rfl]
            have c1 : cl (A * w) = A * w := if_pos b1
            have c2 : cl (dist t r w b * W) = dist t r w b * W := if_pos b2
            rw [c1, c2]
            by_cases b3 : Big (A * w - dist t r w b * W)
            · rw [decide_eq_true b3, if_pos rfl, if_pos ⟨h1, h0, h2, b1, b2, b3⟩]
              have c3 : cl (A * w - dist t r w b * W) = A * w - dist t r w b * W := if_pos b3
              rw [c3]; rfl
            · rw [decide_eq_false b3, if_neg (by simp), if_neg (fun h => b3 h.2.2.2.2.2)]; rfl
          · rw [decide_eq_false b2, if_neg (by simp), if_neg (fun h => b2 h.2.2.2.2.1)]; rfl
        · rw [decide_eq_false b1, if_neg (by simp), if_neg (fun h => b1 h.2.2.2.1)]; rfl
      · rw [decide_eq_false h2, Bool.not_false, over_no (by omega), if_neg (fun h => h2 h.2.2.1)]; rfl
  · rw [decide_eq_false h1, if_neg (by simp), over_no (by omega), if_neg (fun h => h1 h.1)]; rfl
theorem overM_some {A W N D r w x : Int} (h : overM A W N D r w = some x) : x = A * w - D * W ∧ Big x ∧ RM A W N ∧ N ≠ 0 ∧ RP r w := by
  unfold overM at h
  split at h
  · rename_i hc
    obtain rfl := Option.some.inj h
    exact ⟨rfl, hc.2.2.2.2.2, hc.1, hc.2.1, hc.2.2.1⟩
  · cases h
theorem read_eq {b A W N t r w : Int} {k : Nat} (hk : 12 ≤ k) (hA : Big A) (hN : Sm N) (hr : 0 ≤ r ∧ r < 4294967296) (hw : 0 ≤ w ∧ w < 4294967296) :
    lag_Read.f k b (A / 18446744073709551616) (A % 18446744073709551616) W N t r w = some (tellW ((overM A W N (dist t r w b) r w).map (· / W))) := by
  unfold lag_Read.f
  rw [over_eq (by omega) hA hN hr hw, Option.bind_some]
  cases ho : overM A W N (dist t r w b) r w with
  | none => simp [tellW]
  | some x =>
    obtain ⟨_, hx, h1, h0, _⟩ := overM_some ho
    have hW : 0 < W ∧ W < 18446744073709551616 := by unfold RM at h1; omega
    simp only [tellW, if_true, Option.map_some]
    rw [div_eq (by omega) hx hW.1 hW.2, Option.bind_some]
end Go.Proofs.YtfbkamgdkdnpoaaGreatDoor.Th
