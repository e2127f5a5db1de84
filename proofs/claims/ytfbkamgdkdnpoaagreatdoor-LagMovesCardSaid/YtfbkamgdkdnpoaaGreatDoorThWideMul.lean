/- The product of a wide number, in whole numbers. -/
import Derived.Test.YtfbkamgdkdnpoaaGreatDoorThWide
import Derived.Test.YtfbkamgdkdnpoaaGreatDoorThMul64
import Derived.Test.YtfbkamgdkdnpoaaGreatDoorPrint1001
namespace Go.Proofs.YtfbkamgdkdnpoaaGreatDoor.Th
open Go.RowKit Go.Proofs.YtfbkamgdkdnpoaaGreatDoor.Print Go.Proofs.YtfbkamgdkdnpoaaGreatDoorW.PrintWords Go.Proofs.YtfbkamgdkdnpoaaGreatDoorW.PrintLast Go.Proofs.YtfbkamgdkdnpoaaGreatDoorW.PrintMore Go.Proofs.YtfbkamgdkdnpoaaGreatDoor.Bits
set_option linter.unusedVariables false
set_option linter.unusedSimpArgs false
theorem signed_pos {m : Int} {k : Nat} (hk : 1 ≤ k) (h0 : 0 ≤ m) (h1 : m < 340282366920938463463374607431768211456) :
    wide_signed.f k (m / 18446744073709551616) (m % 18446744073709551616) false = told m := by
  obtain ⟨k, rfl⟩ : ∃ j, k = j + 1 := ⟨k - 1, by omega⟩
  unfold wide_signed.f
  rw [if_neg (by simp), wide_signed.j0, if_neg (by simp), if_neg (by simp)]
  by_cases h : m < 170141183460469231731687303715884105728
  · rw [if_pos (by omega), told_big ⟨by omega, h⟩, w64]
    congr 2; omega
  · rw [if_neg (by omega), told_not (fun hb => h hb.2)]
theorem signed_neg {m : Int} {k : Nat} (hk : 1 ≤ k) (h0 : 0 ≤ m) (h1 : m < 340282366920938463463374607431768211456) :
    wide_signed.f k (m / 18446744073709551616) (m % 18446744073709551616) true = told (-m) := by
  obtain ⟨k, rfl⟩ : ∃ j, k = j + 1 := ⟨k - 1, by omega⟩
  unfold wide_signed.f
  rw [if_pos rfl]
  by_cases h : m < 170141183460469231731687303715884105728
  · rw [if_pos (by omega), wide_signed.j0, if_pos rfl, flip_size h0 (by omega), told_big ⟨by omega, by omega⟩]
    rfl
  · rw [if_neg (by omega)]
    by_cases h2 : m / 18446744073709551616 = 9223372036854775808
    · rw [if_pos h2, wide_signed.j0]
      by_cases h3 : m % 18446744073709551616 = 0
      · have e : m = 170141183460469231731687303715884105728 := by omega
        rw [if_pos (by rw [h3]; rfl), flip_size h0 (by omega), told_big ⟨by omega, by omega⟩]
        rfl
      · rw [if_neg (by simpa using h3), if_pos rfl, told_not (fun hb => by have := hb.1; omega)]
    · rw [if_neg h2, wide_signed.j0, if_neg (by simp), if_pos rfl, told_not (fun hb => by have := hb.1; omega)]
theorem signed_eq {m : Int} (b : Bool) {k : Nat} (hk : 1 ≤ k) (h0 : 0 ≤ m) (h1 : m < 340282366920938463463374607431768211456) :
    wide_signed.f k (m / 18446744073709551616) (m % 18446744073709551616) b = told (if b = true then -m else m) := by
  cases b with
  | false => exact signed_pos hk h0 h1
  | true => exact signed_neg hk h0 h1
theorem mul_eq {x b : Int} {k : Nat} (hk : 1 ≤ k) (hx : Big x) (hb : Sm b) : wide_Int_Mul.f k (x / 18446744073709551616) (x % 18446744073709551616) b = told (x * b) := by
  unfold wide_Int_Mul.f
  rw [size_eq hx]
  simp only [Option.bind_some]
  rw [of_eq hb]
  simp only [Option.bind_some]
  rw [size_eq hb.big]
  simp only [Option.bind_some]
  have hm0 : 0 ≤ ab x ∧ ab x ≤ 170141183460469231731687303715884105728 := by unfold Big at hx; unfold ab; split <;> omega
  have hn0 : 0 ≤ ab b ∧ ab b ≤ 9223372036854775808 := by unfold Sm at hb; unfold ab; split <;> omega
  have hsgn : x * b = if ((decide (x / 18446744073709551616 < 0)) != (decide (b < 0))) = true then -(ab x * ab b) else ab x * ab b := by
    have e1 : decide (x / 18446744073709551616 < 0) = decide (x < 0) := by rw [decide_eq_decide]; omega
    rw [e1]
    unfold ab
    by_cases h1 : x < 0 <;> by_cases h2 : b < 0 <;> simp [h1, h2, Int.neg_mul, Int.mul_neg]
  generalize ((decide (x / 18446744073709551616 < 0)) != (decide (b < 0))) = sg at *
  rw [hsgn]
  generalize ab x = m at *
  generalize ab b = n at *
  have en : n % 18446744073709551616 = n := by omega
  rw [en, mul64 (a := m / 18446744073709551616) (b := n) (by omega) (by omega) (by omega) (by omega), mul64 (a := m % 18446744073709551616) (b := n) (by omega) (by omega) (by omega) (by omega)]
  simp only [Option.bind_some]
  have e : m * n = m / 18446744073709551616 * n * 18446744073709551616 + m % 18446744073709551616 * n := by
    have : m = m / 18446744073709551616 * 18446744073709551616 + m % 18446744073709551616 := by omega
    generalize m / 18446744073709551616 = h at *
    generalize m % 18446744073709551616 = l at *
    subst this
    grind
  have p1 := mul_below (a := m / 18446744073709551616) (b := n) (c := 9223372036854775808) (d := 9223372036854775808) (by omega) (by omega) (by omega) (by omega)
  have p2 := mul_below (a := m % 18446744073709551616) (b := n) (c := 18446744073709551615) (d := 9223372036854775808) (by omega) (by omega) (by omega) (by omega)
  generalize m / 18446744073709551616 * n = H at *
  generalize m % 18446744073709551616 * n = L at *
  generalize hMN : m * n = p at *
  rw [addHi_eq (by omega) (by omega) (by omega), addLo_eq (by omega) (by omega) (by omega)]
  by_cases h1 : H / 18446744073709551616 = 0
  · rw [if_pos h1]
    by_cases h2 : (H % 18446744073709551616 + L / 18446744073709551616 + 0) / 18446744073709551616 = 0
    · rw [if_pos h2]
      have e1 : (H % 18446744073709551616 + L / 18446744073709551616 + 0) % 18446744073709551616 = p / 18446744073709551616 := by omega
      have e2 : L % 18446744073709551616 = p % 18446744073709551616 := by omega
      rw [e1, e2, signed_eq sg hk (by omega) (by omega)]
      cases hh : told (if sg = true then -p else p) with
      | none => rfl
      | some r => rfl
    · rw [if_neg h2, told_not]
      unfold Big
      split <;> omega
  · rw [if_neg h1, told_not]
    unfold Big
    split <;> omega
end Go.Proofs.YtfbkamgdkdnpoaaGreatDoor.Th
