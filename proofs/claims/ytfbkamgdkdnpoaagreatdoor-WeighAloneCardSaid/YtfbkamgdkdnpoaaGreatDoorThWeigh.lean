/- A mean with a position less, with one in another's place; where a position is with another weight: in whole numbers. -/
import Derived.Test.YtfbkamgdkdnpoaaGreatDoorThMean
import Derived.Test.YtfbkamgdkdnpoaaGreatDoorThLag
import Derived.Test.YtfbkamgdkdnpoaaGreatDoorThAt
import Derived.Test.YtfbkamgdkdnpoaaGreatDoorPrint1019
import Derived.Test.YtfbkamgdkdnpoaaGreatDoorPrint1023
namespace Go.Proofs.YtfbkamgdkdnpoaaGreatDoor.Th
open Go.RowKit Go.Proofs.YtfbkamgdkdnpoaaGreatDoor.Print Go.Proofs.YtfbkamgdkdnpoaaGreatDoorW.PrintWords Go.Proofs.YtfbkamgdkdnpoaaGreatDoorW.PrintLast Go.Proofs.YtfbkamgdkdnpoaaGreatDoorW.PrintMore Go.Proofs.YtfbkamgdkdnpoaaGreatDoor.Bits
set_option linter.unusedVariables false
set_option linter.unusedSimpArgs false
theorem mtake_eq {b A W N t r w : Int} {k : Nat} (hk : 3 ≤ k) (hb : 0 ≤ b ∧ b < 18446744073709551616) (hA : Big A) (hR : RM A W N) (hN : N ≠ 0) (hp : RP r w) (hw : w ≤ W) (hd : Big (A - dist t r w b)) (hR' : RM (A - dist t r w b) (W - w) (N - 1)) :
    mean_Mean_Take.f k b (A / 18446744073709551616) (A % 18446744073709551616) W N t r w = some (b, (A - dist t r w b) / 18446744073709551616, (A - dist t r w b) % 18446744073709551616, W - w, N - 1, true) := by
  have hW : 1 ≤ W ∧ W ≤ 33554432 := by unfold RM at hR; omega
  have hN2 : 1 ≤ N ∧ N ≤ 32 := by unfold RM at hR; omega
  have hpp := hp
  unfold RP at hpp
  obtain ⟨k, rfl⟩ : ∃ j, k = j + 1 := ⟨k - 1, by omega⟩
  obtain ⟨_, hD⟩ := dist_big (t := t) (r := r) (w := w) (base := b) ⟨by omega, by omega⟩ ⟨by omega, by omega⟩
  unfold mean_Mean_Take.f
  rw [mright_eq hA (by unfold Sm; omega), decide_eq_true hR, Option.bind_some, if_pos rfl, right_eq t w (by omega), decide_eq_true hp, Option.bind_some, if_pos rfl, if_neg hN, u64_id (n := w) (by omega) (by omega), decide_eq_false (by omega), mean_Mean_Take.j0, if_neg (by simp), dist_eq (by omega) ⟨by omega, by omega⟩ ⟨by omega, by omega⟩, Option.bind_some, sub_eq hA hD, told_big hd, Option.bind_some, if_pos rfl, u64_id (n := w) (by omega) (by omega), u64_id (n := W - w) (by omega) (by omega), w_id (n := N - 1) (by omega) (by omega)]
  dsimp only
  rw [mright_eq hd (by unfold Sm; omega), decide_eq_true hR', Option.bind_some, if_pos rfl]
/-- Another weight: where it is. -/
theorem weighed {b A W N t r v w : Int} {k : Nat} (hk : 14 ≤ k) (hb : 0 ≤ b ∧ b < 18446744073709551616) (hR : RM A W N) (hN : N ≠ 0) (hp : RP r v) (hw : 1 ≤ w) (hw' : w ≤ 1048576) (h1 : -(549755813888 * W) ≤ A) (h2 : A ≤ 549755813888 * W) (h3 : -1152921504606846976 ≤ dist t r v b) (h4 : dist t r v b ≤ 1152921504606846976) :
    ∃ t' r', weigh_Weigh.f k b (A / 18446744073709551616) (A % 18446744073709551616) W N t r v w = some (t', r', w, true) ∧ (0 ≤ t' ∧ t' < 18446744073709551616) ∧ RP r' w ∧ dist t' r' w b = dist t r v b + A * (w - v) / W ∧ t' = (b + (dist t r v b + A * (w - v) / W) / w) % 18446744073709551616 ∧ -576460752303423488 ≤ A * (w - v) / W ∧ A * (w - v) / W ≤ 576460752303423488 := by
  have hW : 1 ≤ W ∧ W ≤ 33554432 := by unfold RM at hR; omega
  have hv := hp
  unfold RP at hv
  have hA : -18446744073709551616 ≤ A ∧ A ≤ 18446744073709551616 := by omega
  have m : -(576460752303423488 * W) ≤ A * (w - v) ∧ A * (w - v) ≤ 576460752303423488 * W := by
    rcases Int.le_total v w with h | h
    · have a1 : A * (w - v) ≤ 549755813888 * W * (w - v) := Int.mul_le_mul_of_nonneg_right h2 (by omega)
      have a2 : -(549755813888 * W) * (w - v) ≤ A * (w - v) := Int.mul_le_mul_of_nonneg_right h1 (by omega)
      have a3 : 549755813888 * W * (w - v) ≤ 549755813888 * W * 1048576 := Int.mul_le_mul_of_nonneg_left (by omega) (by omega)
      rw [Int.neg_mul] at a2
      omega
    · have a1 : A * (v - w) ≤ 549755813888 * W * (v - w) := Int.mul_le_mul_of_nonneg_right h2 (by omega)
      have a2 : -(549755813888 * W) * (v - w) ≤ A * (v - w) := Int.mul_le_mul_of_nonneg_right h1 (by omega)
      have a3 : 549755813888 * W * (v - w) ≤ 549755813888 * W * 1048576 := Int.mul_le_mul_of_nonneg_left (by omega) (by omega)
      have e : A * (w - v) = -(A * (v - w)) := by grind
      rw [Int.neg_mul] at a2
      rw [e]; omega
  have by1 : -576460752303423488 ≤ A * (w - v) / W ∧ A * (w - v) / W ≤ 576460752303423488 := by
    constructor
    · apply Int.le_ediv_of_mul_le (by omega); omega
    · apply Int.le_of_lt_add_one
      apply Int.ediv_lt_of_lt_mul (by omega); omega
  have hAb : Big A := by unfold Big; omega
  have g1 : Big (A * (w - v)) := by unfold Big; omega
  have sw : Sm (w - v) := by unfold Sm; omega
  have gb : Big (A * (w - v) / W) := by unfold Big; omega
  obtain ⟨_, hD⟩ := dist_big (t := t) (r := r) (w := v) (base := b) ⟨by omega, by omega⟩ ⟨by omega, by omega⟩
  generalize hy : A * (w - v) / W = y at *
  have gd : Big (dist t r v b + y) := by unfold Big; omega
  have q : -1729382256910270464 ≤ (dist t r v b + y) / w ∧ (dist t r v b + y) / w ≤ 1729382256910270464 := by
    constructor
    · apply Int.le_ediv_of_mul_le (by omega); omega
    · apply Int.le_of_lt_add_one
      apply Int.ediv_lt_of_lt_mul (by omega); omega
  have sq : Sm ((dist t r v b + y) / w) := by unfold Sm; omega
  have r0 := Int.emod_nonneg (dist t r v b + y) (show w ≠ 0 by omega)
  have r1 := Int.emod_lt_of_pos (dist t r v b + y) (show 0 < w by omega)
  refine ⟨(b + (dist t r v b + y) / w) % 18446744073709551616, (dist t r v b + y) % w, ?_, by omega, ⟨hw, hw', r0, r1⟩, ?_, rfl, by1⟩
  · obtain ⟨k, rfl⟩ : ∃ j, k = j + 1 := ⟨k - 1, by omega⟩
    unfold weigh_Weigh.f
    rw [mright_eq hAb (by unfold RM at hR; unfold Sm; omega), decide_eq_true hR, Option.bind_some, if_pos rfl, if_neg hN, right_eq t v (by omega), decide_eq_true hp, Option.bind_some, if_pos rfl, right_eq 0 w (by omega), decide_eq_true (show RP 0 w from ⟨hw, hw', by omega, by omega⟩), Option.bind_some, weigh_Weigh.j0, if_neg (by simp), w_id (n := w) (by omega) (by omega), w_id (n := v) (by omega) (by omega), w_id (n := w - v) (by omega) (by omega), mul_eq (by omega) hAb sw, told_big g1, Option.bind_some, if_pos rfl]
    dsimp only
    rw [div_eq (by omega) g1 (by omega) (by omega), Option.bind_some, dist_eq (by omega) ⟨by omega, by omega⟩ ⟨by omega, by omega⟩, Option.bind_some, hy]
    dsimp only
    rw [add_eq hD gb, told_big gd, Option.bind_some, if_pos rfl]
    dsimp only
    rw [at_eq (by omega) gd (by omega) (by omega)]
    unfold place
    rw [if_pos ⟨hw, hw'⟩, if_pos sq, Option.bind_some]
  · have e : wrap64 ((b + (dist t r v b + y) / w) % 18446744073709551616 - b) = (dist t r v b + y) / w := by rw [w64]; omega
    have e2 := Int.mul_ediv_add_emod (dist t r v b + y) w
    generalize hz : dist t r v b + y = z at *
    unfold dist
    rw [e]
    exact e2
theorem shifted_eq {b A W N t r v t' r' w : Int} {k : Nat} (hk : 4 ≤ k) (hb : 0 ≤ b ∧ b < 18446744073709551616) (hA : Big A) (hR : RM A W N) (hN : N ≠ 0) (hp : RP r v) (hv : v ≤ W) (hd : Big (A - dist t r v b)) (hR' : RM (A - dist t r v b) (W - v) (N - 1)) (hp' : RP r' w) (hd' : Big (A - dist t r v b + dist t' r' w b)) :
    weigh_Shifted.f k b (A / 18446744073709551616) (A % 18446744073709551616) W N t r v t' r' w = some (b, (A - dist t r v b + dist t' r' w b) / 18446744073709551616, (A - dist t r v b + dist t' r' w b) % 18446744073709551616, W - v + w, N, true) := by
  have hN2 : 1 ≤ N ∧ N ≤ 32 := by unfold RM at hR; omega
  have hpp := hp'
  unfold RP at hpp
  unfold weigh_Shifted.f
  rw [mtake_eq (by omega) hb hA hR hN hp hv hd hR', Option.bind_some, if_pos rfl]
  dsimp only
  have hst : stepM (A - dist t r v b) (W - v) (N - 1) (dist t' r' w b) r' w = some (A - dist t r v b + dist t' r' w b, W - v + w, N - 1 + 1) := by
    unfold stepM
    rw [if_pos ⟨hR', hp', by omega, hd'⟩]
  rw [madd_eq (by omega) hd (by unfold Sm; omega) ⟨by omega, by omega⟩ ⟨by omega, by omega⟩, hst, Option.bind_some]
  have : N - 1 + 1 = N := by omega
  rw [this]; rfl
end Go.Proofs.YtfbkamgdkdnpoaaGreatDoor.Th
