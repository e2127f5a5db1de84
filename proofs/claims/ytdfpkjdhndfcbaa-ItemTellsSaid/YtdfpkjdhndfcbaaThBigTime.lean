/- What the document's printed functions over virtual times answer: the difference, which is ahead, a number modulo 2^64. For times of the kind uint64. -/
import Derived.Test.YtdfpkjdhndfcbaaThBig
import Derived.Test.YtdfpkjdhndfcbaaPrint1009
namespace Go.Proofs.Ytdfpkjdhndfcbaa.Th
open Go.RowKit Go.Proofs.Ytdfpkjdhndfcbaa.Print Go.Proofs.YtdfpkjdhndfcbaaW.PrintWords Go.Proofs.YtdfpkjdhndfcbaaW.PrintLast Go.Proofs.YtdfpkjdhndfcbaaW.PrintMore Go.Proofs.Ytdfpkjdhndfcbaa.Bits
set_option linter.unusedVariables false
set_option linter.unusedSimpArgs false
theorem Sm.sz {x : Int} (h : Sm x) : Sz x := by unfold Sm at h; unfold Sz; omega
theorem bsince {t u : Int} (ht : 0 ≤ t ∧ t < 18446744073709551616) (hu : 0 ≤ u ∧ u < 18446744073709551616) {k : Nat} (hk : 400 ≤ k) : turnstoneref03_Since.f k t u = some (bn (wrap64 (t - u)), bl (wrap64 (t - u))) := by
  have zt : Sz t := by unfold Sz; omega
  have zu : Sz u := by unfold Sz; omega
  have zd : Sz (t - u) := by unfold Sz; omega
  have z63 : Sz 9223372036854775808 := by unfold Sz; omega
  have z64 : Sz 18446744073709551616 := by unfold Sz; omega
  unfold turnstoneref03_Since.f
  rw [bU ht.1 ht.2 (by omega), Option.bind_some, bU hu.1 hu.2 (by omega), Option.bind_some, bsub zt zu (by omega), Option.bind_some, bpow63 hk, Option.bind_some, bcmp zd z63 (by omega), Option.bind_some]
  by_cases h1 : t - u - 9223372036854775808 ≥ 0
  · rw [if_pos (by rw [sgn_nonneg]; exact h1), bpow64 hk, Option.bind_some, bsub zd z64 (by omega), Option.bind_some]
    have e : wrap64 (t - u) = t - u - 18446744073709551616 := by rw [w64]; omega
    rw [e]
  · rw [if_neg (by rw [sgn_nonneg]; exact h1), Option.bind_some, bneg z63 (by omega), Option.bind_some, bcmp zd z63.neg (by omega), Option.bind_some]
    by_cases h2 : t - u - -9223372036854775808 < 0
    · rw [if_pos (by rw [sgn_neg]; exact h2), bpow64 hk, Option.bind_some, badd zd z64 (by omega), Option.bind_some]
      have e : wrap64 (t - u) = t - u + 18446744073709551616 := by rw [w64]; omega
      rw [e]
    · rw [if_neg (by rw [sgn_neg]; exact h2)]
      have e : wrap64 (t - u) = t - u := by rw [w64]; omega
      rw [e]
end Go.Proofs.Ytdfpkjdhndfcbaa.Th
