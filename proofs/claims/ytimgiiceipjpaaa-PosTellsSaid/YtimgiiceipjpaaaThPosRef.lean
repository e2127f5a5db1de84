/- What the document's printed functions over positions answer, in whole numbers: may a position be, its distance, which is ahead. For fields of their kinds. -/
import Derived.Test.YtimgiiceipjpaaaThMul
import Derived.Test.YtimgiiceipjpaaaThDist
import Derived.Test.YtimgiiceipjpaaaThRight
import Derived.Test.YtimgiiceipjpaaaThPosCmp
import Derived.Test.YtimgiiceipjpaaaThWideRef
import Derived.Test.YtimgiiceipjpaaaThBigTime
import Derived.Test.YtimgiiceipjpaaaPrint1006
import Derived.Test.YtimgiiceipjpaaaPrint1005
namespace Go.Proofs.Ytimgiiceipjpaaa.Th
open Go.RowKit Go.Proofs.Ytimgiiceipjpaaa.Print Go.Proofs.YtimgiiceipjpaaaW.PrintWords Go.Proofs.YtimgiiceipjpaaaW.PrintLast Go.Proofs.YtimgiiceipjpaaaW.PrintMore Go.Proofs.Ytimgiiceipjpaaa.Bits
set_option linter.unusedVariables false
set_option linter.unusedSimpArgs false
theorem rright_eq {r : Int} (t w : Int) (hr : 0 ≤ r) : turnstoneref04_Right.f t r w = some (decide (RP r w)) := by
  unfold turnstoneref04_Right.f
  by_cases h1 : w ≥ 1
  · rw [if_pos h1]
    by_cases h2 : w ≤ 1048576
    · rw [if_pos h2]
      congr 1
      rw [decide_eq_decide]; unfold RP; omega
    · rw [if_neg h2]
      congr 1; symm; rw [decide_eq_false_iff_not]; unfold RP; omega
  · rw [if_neg h1]
    congr 1; symm; rw [decide_eq_false_iff_not]; unfold RP; omega
theorem same_eq {x y : Int} (hx : Big x) (hy : Sz y) {k : Nat} (hk : 2300 ≤ k) : turnstonelaw01_Same.f k (x / 18446744073709551616) (x % 18446744073709551616) (bn y) (bl y) = some (decide (x = y)) := by
  unfold turnstonelaw01_Same.f
  rw [ofw_eq hx hk, Option.bind_some, bcmp hx.sz hy (by omega), Option.bind_some]
  congr 1
  rw [Bool.eq_iff_iff, beq_iff_eq, decide_eq_true_eq]
  have := sgn_zero (x := x - y)
  rw [eq_iff_iff] at this
  rw [this]; omega
theorem rdist_eq {t r w base : Int} {k : Nat} (hk : 2000 ≤ k) (ht : 0 ≤ t ∧ t < 18446744073709551616) (hr : 0 ≤ r ∧ r < 4294967296) (hw : 0 ≤ w ∧ w < 4294967296) (hb : 0 ≤ base ∧ base < 18446744073709551616) :
    turnstoneref04_Distance.f k t r w base = some (bn (dist t r w base), bl (dist t r w base)) := by
  obtain ⟨h1, h2⟩ := dist_big (t := t) (base := base) hr hw
  have s1 := Sm_wrap (t - base)
  unfold turnstoneref04_Distance.f
  rw [u64_id hw.1 (by omega), u64_id hr.1 (by omega), bU hw.1 (by omega) (by omega), Option.bind_some, bsince ht hb (by omega), Option.bind_some, bmul (by unfold Sz; omega) s1.sz hk, Option.bind_some, bU hr.1 (by omega) (by omega), Option.bind_some, badd h1.sz (by unfold Sz; omega) (by omega), Option.bind_some]
  rfl
theorem rcmp_eq {t r w t' r' w' : Int} {k : Nat} (hk : 2000 ≤ k) (ht : 0 ≤ t ∧ t < 18446744073709551616) (hr : 0 ≤ r ∧ r < 4294967296) (hw : 0 ≤ w ∧ w < 4294967296) (ht2 : 0 ≤ t' ∧ t' < 18446744073709551616) (hr2 : 0 ≤ r' ∧ r' < 4294967296) (hw2 : 0 ≤ w' ∧ w' < 4294967296) :
    turnstoneref04_Cmp.f k t r w t' r' w' = some (posCmp t r w t' r' w') := by
  have p1 := mul_below (c := 4294967295) (d := 4294967295) hr.1 (by omega) hw2.1 (by omega)
  have p2 := mul_below (c := 4294967295) (d := 4294967295) hr2.1 (by omega) hw.1 (by omega)
  have z : ∀ x : Int, 0 ≤ x → x < 18446744073709551616 → Sz x := by intro x h0 h1; unfold Sz; omega
  unfold turnstoneref04_Cmp.f posCmp
  rw [u64_id hr.1 (by omega), u64_id hw2.1 (by omega), u64_id hr2.1 (by omega), u64_id hw.1 (by omega), bsince ht2 ht (by omega), Option.bind_some, bsign, Option.bind_some]
  generalize wrap64 (t' - t) = d
  by_cases h : d = 0
  · subst h
    rw [if_pos (show sgn 0 = 0 by decide), if_pos rfl, bU hr.1 (by omega) (by omega), Option.bind_some, bU hw2.1 (by omega) (by omega), Option.bind_some, bmul (z r hr.1 (by omega)) (z w' hw2.1 (by omega)) hk, Option.bind_some, bU hr2.1 (by omega) (by omega), Option.bind_some, bU hw.1 (by omega) (by omega), Option.bind_some, bmul (z r' hr2.1 (by omega)) (z w hw.1 (by omega)) hk, Option.bind_some, bcmp (z _ p1.1 (by omega)) (z _ p2.1 (by omega)) (by omega), Option.bind_some]
    congr 1
    unfold sgn sg
    split
    · rw [if_pos (by omega)]
    · split
      · rw [if_neg (by omega), if_pos (by omega)]
      · rw [if_neg (by omega), if_neg (by omega)]
  · rw [if_neg h]
    have : sgn d ≠ 0 := by unfold sgn; split <;> (try split) <;> omega
    rw [if_neg this]
    congr 1
    unfold sgn sg
    rcases Int.lt_trichotomy d 0 with h1 | h1 | h1
    · rw [if_pos h1, if_neg (by omega), if_pos (by omega), w64]; omega
    · exact absurd h1 h
    · rw [if_neg (by omega), if_pos h1, if_pos (by omega), w64]; omega
end Go.Proofs.Ytimgiiceipjpaaa.Th
