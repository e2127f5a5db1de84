/- What the document's printed functions over virtual times answer: the difference, which is ahead, a number modulo 2^64. For times of the kind uint64. -/
import Derived.Test.YtimgiiceipjpaaaThBig
import Derived.Test.YtimgiiceipjpaaaPrint1003
import Derived.Test.YtimgiiceipjpaaaPrint1001
namespace Go.Proofs.Ytimgiiceipjpaaa.Th
open Go.RowKit Go.Proofs.Ytimgiiceipjpaaa.Print Go.Proofs.YtimgiiceipjpaaaW.PrintWords Go.Proofs.YtimgiiceipjpaaaW.PrintLast Go.Proofs.YtimgiiceipjpaaaW.PrintMore Go.Proofs.Ytimgiiceipjpaaa.Bits
set_option linter.unusedVariables false
set_option linter.unusedSimpArgs false
theorem Sm.sz {x : Int} (h : Sm x) : Sz x := by unfold Sm at h; unfold Sz; omega
theorem bsince {t u : Int} (ht : 0 ≤ t ∧ t < 18446744073709551616) (hu : 0 ≤ u ∧ u < 18446744073709551616) {k : Nat} (hk : 400 ≤ k) : turnstoneref03_Since.f k t u = some (bn (wrap64 (t - u)), bl (wrap64 (t - u))) := by
  have zt : Sz t := by unfold Sz; omega
  have zu : Sz u := by unfold Sz; omega
  have zd : Sz (t - u) := by unfold Sz; omega
  have z63 : Sz 9223372036854775808 := by unfold Sz; omega
  have z64 : Sz 18446744073709551616 := by unfold Sz; omega
  unfold turnstoneref03_Since.f
  rw [bU ht.1 ht.2 (by omega), Option.bind_some, bU hu.1 hu.2 (by omega), Option.bind_some, bsub zt zu (by omega), Option.bind_some, bpow63 hk, Option.bind_some, bcmp zd z63 (by omega), Option.bind_some]
  by_cases h1 : t - u - 9223372036854775808 ≥ 0
  · rw [if_pos (by rw [sgn_nonneg]; exact h1), bpow64 hk, Option.bind_some, bsub zd z64 (by omega), Option.bind_some]
    have e : wrap64 (t - u) = t - u - 18446744073709551616 := by rw [w64]; omega
    rw [e]
  · rw [if_neg (by rw [sgn_nonneg]; exact h1), Option.bind_some, bneg z63 (by omega), Option.bind_some, bcmp zd z63.neg (by omega), Option.bind_some]
    by_cases h2 : t - u - -9223372036854775808 < 0
    · rw [if_pos (by rw [sgn_neg]; exact h2), bpow64 hk, Option.bind_some, badd zd z64 (by omega), Option.bind_some]
      have e : wrap64 (t - u) = t - u + 18446744073709551616 := by rw [w64]; omega
      rw [e]
    · rw [if_neg (by rw [sgn_neg]; exact h2)]
      have e : wrap64 (t - u) = t - u := by rw [w64]; omega
      rw [e]
theorem round_l1 {k : Nat} (hk : 101 ≤ k) {x : Int} (h0 : 0 ≤ x) (h1 : x < 18446744073709551616) : turnstoneref03_Round.l1 k (bn x) (bl x) (bn 18446744073709551616) (bl 18446744073709551616) = some (bn x, bl x) := by
  obtain ⟨k, rfl⟩ : ∃ j, k = j + 1 := ⟨k - 1, by omega⟩
  have zx : Sz x := by unfold Sz; omega
  have z64 : Sz 18446744073709551616 := by unfold Sz; omega
  rw [turnstoneref03_Round.l1, bcmp zx z64 (by omega), Option.bind_some, if_neg (by rw [sgn_nonneg]; omega)]
theorem round_l1' {k : Nat} (hk : 102 ≤ k) {x : Int} (h0 : 0 ≤ x) (h1 : x < 36893488147419103232) : turnstoneref03_Round.l1 k (bn x) (bl x) (bn 18446744073709551616) (bl 18446744073709551616) = some (bn (x % 18446744073709551616), bl (x % 18446744073709551616)) := by
  by_cases h : x < 18446744073709551616
  · rw [round_l1 (by omega) h0 h, Int.emod_eq_of_lt h0 h]
  · obtain ⟨k, rfl⟩ : ∃ j, k = j + 1 := ⟨k - 1, by omega⟩
    have zx : Sz x := by unfold Sz; omega
    have z64 : Sz 18446744073709551616 := by unfold Sz; omega
    have e : x % 18446744073709551616 = x - 18446744073709551616 := by omega
    rw [turnstoneref03_Round.l1, bcmp zx z64 (by omega), Option.bind_some, if_pos (by rw [sgn_nonneg]; omega), bsub zx z64 (by omega), Option.bind_some, round_l1 (by omega) (by omega) (by omega), e]
/-- A number modulo 2^64. -/
theorem bround {x : Int} (h0 : -18446744073709551616 ≤ x) (h1 : x < 36893488147419103232) {k : Nat} (hk : 400 ≤ k) : turnstoneref03_Round.f k (bn x) (bl x) = some (bn (x % 18446744073709551616), bl (x % 18446744073709551616)) := by
  have zx : Sz x := by unfold Sz; omega
  have z64 : Sz 18446744073709551616 := by unfold Sz; omega
  unfold turnstoneref03_Round.f
  rw [bpow64 hk, Option.bind_some]
  obtain ⟨k, rfl⟩ : ∃ j, k = j + 2 := ⟨k - 2, by omega⟩
  rw [turnstoneref03_Round.l0, bsign, Option.bind_some]
  by_cases h : x < 0
  · rw [if_pos (by rw [sgn_neg]; exact h), badd zx z64 (by omega), Option.bind_some, turnstoneref03_Round.l0, bsign, Option.bind_some, if_neg (by rw [sgn_neg]; omega), round_l1' (by omega) (by omega) (by omega)]
    have e : (x + 18446744073709551616) % 18446744073709551616 = x % 18446744073709551616 := by omega
    rw [e]
  · rw [if_neg (by rw [sgn_neg]; exact h), round_l1' (by omega) (by omega) h1]
end Go.Proofs.Ytimgiiceipjpaaa.Th
