/- The product of 64 bits, in whole numbers. -/
import Derived.Test.YtfbkamgdkdnpoaaGreatDoorThBase
import Derived.Test.YtfbkamgdkdnpoaaGreatDoorPrint1001
import Derived.Lib.Mul64
import Derived.Laws.Bits64b
namespace Go.Proofs.YtfbkamgdkdnpoaaGreatDoor.Th
open Go.RowKit Go.Proofs.YtfbkamgdkdnpoaaGreatDoor.Print Go.Proofs.YtfbkamgdkdnpoaaGreatDoorW.PrintWords Go.Proofs.YtfbkamgdkdnpoaaGreatDoorW.PrintLast Go.Proofs.YtfbkamgdkdnpoaaGreatDoorW.PrintMore Go.Proofs.YtfbkamgdkdnpoaaGreatDoor.Bits
set_option linter.unusedVariables false
set_option linter.unusedSimpArgs false
theorem mul64 {a b : Int} (ha : 0 ≤ a) (ha2 : a < 18446744073709551616) (hb : 0 ≤ b) (hb2 : b < 18446744073709551616) :
    bits_Mul64.f a b = some (a * b / 18446744073709551616, a * b % 18446744073709551616) := by
  obtain ⟨x, rfl⟩ := Int.eq_ofNat_of_zero_le ha
  obtain ⟨y, rfl⟩ := Int.eq_ofNat_of_zero_le hb
  have hx : x < 18446744073709551616 := by omega
  have hy : y < 18446744073709551616 := by omega
  obtain ⟨bd, bt, bw, hhi⟩ := Lib.mul64_hi x y hx hy
  have ba := Lib.half_mul_le (a := x / 4294967296) (b := y / 4294967296) (by omega) (by omega)
  have bb := Lib.half_mul_le (a := x / 4294967296) (b := y % 4294967296) (by omega) (by omega)
  have bc := Lib.half_mul_le (a := x % 4294967296) (b := y / 4294967296) (by omega) (by omega)
  have maskN : ∀ a : Nat, a < 18446744073709551616 → Go.bits .and .u64 (a : Int) 4294967295 = ((a % 4294967296 : Nat) : Int) := by
    intro a ha
    have h := bits_and_u64_nat a 4294967295 ha (by omega)
    have e : a &&& 4294967295 = a % 4294967296 := Nat.and_two_pow_sub_one_eq_mod a 32
    rw [e] at h
    exact h
  have wn : ∀ a : Nat, a < 18446744073709551616 → IntKind.u64.wrap (a : Int) = (a : Int) := by intro a h; rw [u64w]; omega
  have dn : ∀ a : Nat, (a : Int) / 4294967296 = ((a / 4294967296 : Nat) : Int) := by intro a; omega
  have mn : ∀ a b : Nat, (a : Int) * (b : Int) = ((a * b : Nat) : Int) := fun a b => (Int.natCast_mul a b).symm
  have an : ∀ a b : Nat, (a : Int) + (b : Int) = ((a + b : Nat) : Int) := fun a b => (Int.natCast_add a b).symm
  unfold bits_Mul64.f
  rw [maskN x hx, maskN y hy]
  simp only [dn, mn]
  rw [wn _ (by omega), wn _ (by omega), wn _ (by omega), wn _ (by omega)]
  simp only [dn, an]
  rw [wn _ bt, maskN _ bt]
  simp only [dn, an]
  rw [wn _ bw, wn (_ + _) (by omega)]
  simp only [dn, an]
  have e0 : x / 4294967296 * (y / 4294967296) + (x / 4294967296 * (y % 4294967296) + x % 4294967296 * (y % 4294967296) / 4294967296) / 4294967296 + ((x / 4294967296 * (y % 4294967296) + x % 4294967296 * (y % 4294967296) / 4294967296) % 4294967296 + x % 4294967296 * (y / 4294967296)) / 4294967296 < 18446744073709551616 := by omega
  rw [wn _ e0, hhi, u64w]
  congr 2
end Go.Proofs.YtfbkamgdkdnpoaaGreatDoor.Th
