/- What the printed functions over numbers of 128 bits (wide.Int) answer, in whole numbers: size, product, quotient. For numbers that are ones of 128 bits. -/
import Derived.Test.YtfbkamgdkdnpoaaGreatDoorThBits
import Derived.Test.YtfbkamgdkdnpoaaGreatDoorThSum
import Derived.Test.YtfbkamgdkdnpoaaGreatDoorThFlip
import Derived.Test.YtfbkamgdkdnpoaaGreatDoorPrint1002
namespace Go.Proofs.YtfbkamgdkdnpoaaGreatDoor.Th
open Go.RowKit Go.Proofs.YtfbkamgdkdnpoaaGreatDoor.Print Go.Proofs.YtfbkamgdkdnpoaaGreatDoorW.PrintWords Go.Proofs.YtfbkamgdkdnpoaaGreatDoorW.PrintLast Go.Proofs.YtfbkamgdkdnpoaaGreatDoorW.PrintMore Go.Proofs.YtfbkamgdkdnpoaaGreatDoor.Bits
set_option linter.unusedVariables false
set_option linter.unusedSimpArgs false

/-- A size, taken to the other side. -/
theorem flip_size {m : Int} (h0 : 0 ≤ m) (h1 : m ≤ 170141183460469231731687303715884105728) :
    wide_Int_flip.f (wrap64 (m / 18446744073709551616)) (m % 18446744073709551616) = some ((-m) / 18446744073709551616, (-m) % 18446744073709551616) := by
  rw [flip_at (by omega) (by omega)]
  simp only [w64]
  split <;> (congr 2 <;> omega)
theorem flip_neg {x : Int} (h0 : x < 0) (h1 : -170141183460469231731687303715884105728 ≤ x) :
    ∃ h, wide_Int_flip.f (x / 18446744073709551616) (x % 18446744073709551616) = some (h, (-x) % 18446744073709551616) ∧ IntKind.u64.wrap h = (-x) / 18446744073709551616 := by
  rw [flip_at (by omega) (by omega)]
  refine ⟨_, by congr 2; omega, ?_⟩
  simp only [w64, u64w]
  split <;> omega
theorem size_eq {x : Int} (hx : Big x) : wide_Int_size.f (x / 18446744073709551616) (x % 18446744073709551616) = some (ab x / 18446744073709551616, ab x % 18446744073709551616) := by
  unfold Big at hx
  unfold wide_Int_size.f ab
  by_cases h : x < 0
  · obtain ⟨g, e, e2⟩ := flip_neg h hx.1
    rw [if_pos (by omega), e, if_pos h]
    simp only [Option.bind_some]
    rw [e2]
  · rw [if_neg (by omega), if_neg h, u64w]
    congr 2
    omega
theorem div_eq {x b : Int} {k : Nat} (hk : 10 ≤ k) (hx : Big x) (hb : 0 < b) (hb' : b < 18446744073709551616) :
    wide_Int_Div.f k (x / 18446744073709551616) (x % 18446744073709551616) b = some (x / b / 18446744073709551616, x / b % 18446744073709551616, x % b, true) := by
  unfold wide_Int_Div.f
  rw [if_neg (by omega), size_eq hx]
  simp only [Option.bind_some]
  have hm0 : 0 ≤ ab x ∧ ab x ≤ 170141183460469231731687303715884105728 := by unfold Big at hx; unfold ab; split <;> omega
  have hs : x = if x < 0 then -ab x else ab x := by unfold ab; split <;> omega
  generalize ab x = m at *
  have t0 : 0 ≤ m / 18446744073709551616 := by omega
  rw [Int.tmod_eq_emod_of_nonneg t0, Int.tdiv_eq_ediv_of_nonneg t0]
  have r0 := Int.emod_nonneg (m / 18446744073709551616) (show b ≠ 0 by omega)
  have r1 := Int.emod_lt_of_pos (m / 18446744073709551616) hb
  rw [div64 hk r0 r1 (by omega) (by omega) hb']
  simp only [Option.bind_some]
  have a0 := Int.emod_add_ediv_mul (m / 18446744073709551616) b
  have qh0 := Int.ediv_nonneg t0 (show 0 ≤ b by omega)
  have qh1 := Int.ediv_le_self b t0
  have eh : IntKind.u64.wrap (m / 18446744073709551616 / b) = m / 18446744073709551616 / b := u64_id qh0 (by omega)
  rw [eh]
  -- q, r
  have hq : m / b = m / 18446744073709551616 / b * 18446744073709551616 + (m / 18446744073709551616 % b * 18446744073709551616 + m % 18446744073709551616) / b := by
    have e : m = (m / 18446744073709551616 % b * 18446744073709551616 + m % 18446744073709551616) + b * (m / 18446744073709551616 / b * 18446744073709551616) := by
      have : m / 18446744073709551616 / b * b * 18446744073709551616 = b * (m / 18446744073709551616 / b * 18446744073709551616) := by grind
      omega
    have e2 := Int.add_mul_ediv_left (m / 18446744073709551616 % b * 18446744073709551616 + m % 18446744073709551616) (m / 18446744073709551616 / b * 18446744073709551616) (show b ≠ 0 by omega)
    rw [← e] at e2
    omega
  have hr : m % b = (m / 18446744073709551616 % b * 18446744073709551616 + m % 18446744073709551616) % b := by
    have e : m = (m / 18446744073709551616 % b * 18446744073709551616 + m % 18446744073709551616) + b * (m / 18446744073709551616 / b * 18446744073709551616) := by
      have : m / 18446744073709551616 / b * b * 18446744073709551616 = b * (m / 18446744073709551616 / b * 18446744073709551616) := by grind
      omega
    have e2 := Int.add_mul_emod_self_left (m / 18446744073709551616 % b * 18446744073709551616 + m % 18446744073709551616) b (m / 18446744073709551616 / b * 18446744073709551616)
    rw [← e] at e2
    exact e2
  rw [← hr]
  have lo0 := Int.ediv_nonneg (a := m / 18446744073709551616 % b * 18446744073709551616 + m % 18446744073709551616) (b := b) (by omega) (by omega)
  have lo1 : (m / 18446744073709551616 % b * 18446744073709551616 + m % 18446744073709551616) / b < 18446744073709551616 := by
    apply Int.ediv_lt_of_lt_mul hb
    omega
  generalize (m / 18446744073709551616 % b * 18446744073709551616 + m % 18446744073709551616) / b = lo at *
  have rm0 := Int.emod_nonneg m (show b ≠ 0 by omega)
  have rm1 := Int.emod_lt_of_pos m hb
  have hm := Int.emod_add_ediv_mul m b
  have qm0 := Int.ediv_nonneg hm0.1 (show 0 ≤ b by omega)
  have qm1 := Int.ediv_le_self b hm0.1
  generalize m / 18446744073709551616 / b = hi at *
  by_cases hneg : x < 0
  · rw [if_pos hneg] at hs
    rw [if_neg (by omega)]
    by_cases hz : m % b > 0
    · rw [if_pos hz]
      have hb2 : 2 ≤ b := by omega
      have hq2 : m / b * 2 ≤ m := by
        have := Int.mul_le_mul_of_nonneg_left hb2 qm0
        omega
      rw [addHi_eq (by omega) (by omega) (by omega), addLo_eq (by omega) (by omega) (by omega), u64w]
      have e1 : wrap64 ((hi + (lo + 1 + 0) / 18446744073709551616) % 18446744073709551616) = wrap64 ((m / b + 1) / 18446744073709551616) := by
        congr 1; omega
      have e2 : (lo + 1 + 0) % 18446744073709551616 = (m / b + 1) % 18446744073709551616 := by omega
      rw [e1, e2, flip_size (by omega) (by omega)]
      simp only [Option.bind_some]
      have exq : x / b = -(m / b + 1) := by
        rw [Int.ediv_eq_iff_of_pos hb]
        have : -(m / b + 1) * b = -(m / b * b) - b := by grind
        omega
      have exr : x % b = b - m % b := by
        rw [Int.emod_def, exq]
        have : b * -(m / b + 1) = -(m / b * b) - b := by grind
        omega
      rw [exq, exr, u64_id (n := b - m % b) (by omega) (by omega)]
    · rw [if_neg hz]
      have e1 : hi = m / b / 18446744073709551616 := by omega
      have e2 : lo = m / b % 18446744073709551616 := by omega
      rw [e1, e2, flip_size (by omega) (by omega)]
      simp only [Option.bind_some]
      have exq : x / b = -(m / b) := by
        rw [Int.ediv_eq_iff_of_pos hb]
        have : -(m / b) * b = -(m / b * b) := by grind
        omega
      have exr : x % b = m % b := by
        rw [Int.emod_def, exq]
        have : b * -(m / b) = -(m / b * b) := by grind
        omega
      rw [exq, exr]
  · rw [if_neg hneg] at hs
    subst hs
    rw [if_pos (by omega), w64]
    unfold Big at hx
    congr 2
    · omega
    · congr 1; omega
theorem div_zero (h l : Int) (k : Nat) : wide_Int_Div.f k h l 0 = some (0, 0, 0, false) := by
  unfold wide_Int_Div.f
  rw [if_pos rfl]
end Go.Proofs.YtfbkamgdkdnpoaaGreatDoor.Th
