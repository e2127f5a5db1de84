/- What the document's printed functions over positions answer, in whole numbers: may a position be, its distance, which is ahead. For fields of their kinds. -/
import Derived.Test.YtdfpkjdhndfcbaaThMul
import Derived.Test.YtdfpkjdhndfcbaaThRight
import Derived.Test.YtdfpkjdhndfcbaaThPosCmp
import Derived.Test.YtdfpkjdhndfcbaaThBigTime
import Derived.Test.YtdfpkjdhndfcbaaPrint1009
import Derived.Test.YtdfpkjdhndfcbaaPrint1010
namespace Go.Proofs.Ytdfpkjdhndfcbaa.Th
open Go.RowKit Go.Proofs.Ytdfpkjdhndfcbaa.Print Go.Proofs.YtdfpkjdhndfcbaaW.PrintWords Go.Proofs.YtdfpkjdhndfcbaaW.PrintLast Go.Proofs.YtdfpkjdhndfcbaaW.PrintMore Go.Proofs.Ytdfpkjdhndfcbaa.Bits
set_option linter.unusedVariables false
set_option linter.unusedSimpArgs false
theorem rright_eq {r : Int} (t w : Int) (hr : 0 ≤ r) : turnstoneref04_Right.f t r w = some (decide (RP r w)) := by
  unfold turnstoneref04_Right.f
  by_cases h1 : w ≥ 1
  · rw [if_pos h1]
    by_cases h2 : w ≤ 1048576
    · rw [if_pos h2]
      congr 1
      rw [decide_eq_decide]; unfold RP; omega
    · rw [if_neg h2]
      congr 1; symm; rw [decide_eq_false_iff_not]; unfold RP; omega
  · rw [if_neg h1]
    congr 1; symm; rw [decide_eq_false_iff_not]; unfold RP; omega
theorem rcmp_eq {t r w t' r' w' : Int} {k : Nat} (hk : 2000 ≤ k) (ht : 0 ≤ t ∧ t < 18446744073709551616) (hr : 0 ≤ r ∧ r < 4294967296) (hw : 0 ≤ w ∧ w < 4294967296) (ht2 : 0 ≤ t' ∧ t' < 18446744073709551616) (hr2 : 0 ≤ r' ∧ r' < 4294967296) (hw2 : 0 ≤ w' ∧ w' < 4294967296) :
    turnstoneref04_Cmp.f k t r w t' r' w' = some (posCmp t r w t' r' w') := by
  have p1 := mul_below (c := 4294967295) (d := 4294967295) hr.1 (by omega) hw2.1 (by omega)
  have p2 := mul_below (c := 4294967295) (d := 4294967295) hr2.1 (by omega) hw.1 (by omega)
  have z : ∀ x : Int, 0 ≤ x → x < 18446744073709551616 → Sz x := by intro x h0 h1; unfold Sz; omega
  unfold turnstoneref04_Cmp.f posCmp
  rw [u64_id hr.1 (by omega), u64_id hw2.1 (by omega), u64_id hr2.1 (by omega), u64_id hw.1 (by omega), bsince ht2 ht (by omega), Option.bind_some, bsign, Option.bind_some]
  generalize wrap64 (t' - t) = d
  by_cases h : d = 0
  · subst h
    rw [if_pos (show sgn 0 = 0 by decide), if_pos rfl, bU hr.1 (by omega) (by omega), Option.bind_some, bU hw2.1 (by omega) (by omega), Option.bind_some, bmul (z r hr.1 (by omega)) (z w' hw2.1 (by omega)) hk, Option.bind_some, bU hr2.1 (by omega) (by omega), Option.bind_some, bU hw.1 (by omega) (by omega), Option.bind_some, bmul (z r' hr2.1 (by omega)) (z w hw.1 (by omega)) hk, Option.bind_some, bcmp (z _ p1.1 (by omega)) (z _ p2.1 (by omega)) (by omega), Option.bind_some]
    congr 1
    unfold sgn sg
    split
    · rw [if_pos (by omega)]
    · split
      · rw [if_neg (by omega), if_pos (by omega)]
      · rw [if_neg (by omega), if_neg (by omega)]
  · rw [if_neg h]
    have : sgn d ≠ 0 := by unfold sgn; split <;> (try split) <;> omega
    rw [if_neg this]
    congr 1
    unfold sgn sg
    rcases Int.lt_trichotomy d 0 with h1 | h1 | h1
    · rw [if_pos h1, if_neg (by omega), if_pos (by omega), w64]; omega
    · exact absurd h1 h
    · rw [if_neg (by omega), if_pos h1, if_pos (by omega), w64]; omega
end Go.Proofs.Ytdfpkjdhndfcbaa.Th
