/- The document's position of a distance, in whole numbers. For fields of their kinds. -/
import Derived.Test.YtimgiiceipjpaaaThMul
import Derived.Test.YtimgiiceipjpaaaThMove
import Derived.Test.YtimgiiceipjpaaaThDiv
import Derived.Test.YtimgiiceipjpaaaThWideRef
import Derived.Test.YtimgiiceipjpaaaThBigTime
import Derived.Test.YtimgiiceipjpaaaPrint1002
import Derived.Test.YtimgiiceipjpaaaPrint1001
import Derived.Test.YtimgiiceipjpaaaPrint1005
namespace Go.Proofs.Ytimgiiceipjpaaa.Th
open Go.RowKit Go.Proofs.Ytimgiiceipjpaaa.Print Go.Proofs.YtimgiiceipjpaaaW.PrintWords Go.Proofs.YtimgiiceipjpaaaW.PrintLast Go.Proofs.YtimgiiceipjpaaaW.PrintMore Go.Proofs.Ytimgiiceipjpaaa.Bits
set_option linter.unusedVariables false
set_option linter.unusedSimpArgs false
theorem V_drop_le {l : List Int} (h : OKd l) : ∀ m : Nat, 0 ≤ V (l.drop m) ∧ V (l.drop m) ≤ V l
  | 0 => ⟨V_nonneg _ (h.drop 0), by rw [List.drop_zero]; exact Int.le_refl _⟩
  | m + 1 => by
    have ih := V_drop_le h m
    have v := V_drop l m
    have d := getD_range h m
    have n := V_nonneg _ (h.drop (m + 1))
    omega
theorem word_l0 (n : Bool) {l : List Int} (h : OKd l) (hl : l.length ≤ 200) (hv : V l < 18446744073709551616) (m : Nat) : ∀ k : Nat, m ≤ l.length → m < k → turnstoneref04_Word.l0 k (V (l.drop m)) ((m : Int) - 1) n l = some (V l) := by
  induction m with
  | zero =>
    intro k hm hk
    obtain ⟨k, rfl⟩ : ∃ j, k = j + 1 := ⟨k - 1, by omega⟩
    rw [turnstoneref04_Word.l0, if_neg (by omega), List.drop_zero]
  | succ m ih =>
    intro k hm hk
    obtain ⟨k, rfl⟩ : ∃ j, k = j + 1 := ⟨k - 1, by omega⟩
    have e0 : ((m + 1 : Nat) : Int) - 1 = (m : Int) := by omega
    have w : wrap64 ((m : Int) - 1) = (m : Int) - 1 := by rw [w64]; omega
    have er : rd l (m : Int) = l.getD m 0 := by unfold rd; simp
    have v := V_drop l m
    have d := getD_range h m
    have a := V_drop_le h m
    have b := V_drop_le h (m + 1)
    rw [e0, turnstoneref04_Word.l0, if_pos (by omega), if_pos (by omega), if_pos (by omega), er, w, u64_id (n := 10000 * V (l.drop (m + 1))) (by omega) (by omega), u64_id (n := l.getD m 0) (by omega) (by omega), u64_id (by omega) (by omega), show 10000 * V (l.drop (m + 1)) + l.getD m 0 = V (l.drop m) by omega]
    exact ih k (by omega) (by omega)
theorem bword {x : Int} (h0 : 0 ≤ x) (h1 : x < 18446744073709551616) {k : Nat} (hk : 100 ≤ k) : turnstoneref04_Word.f k (bn x) (bl x) = some x := by
  have lx := len_bl (x := x) (by unfold Sz; omega)
  unfold turnstoneref04_Word.f
  have w : wrap64 (((bl x).length : Int) - 1) = ((bl x).length : Int) - 1 := by rw [w64]; omega
  have hv : V (bl x) = x := by rw [V_bl]; omega
  rw [w]
  have := word_l0 (bn x) (OKd_bl x) (by omega) (by omega) (bl x).length k (Nat.le_refl _) (by omega)
  rw [List.drop_of_length_le (Nat.le_refl _)] at this
  rw [hv] at this
  exact this
theorem bsmall {a : Int} (ha : Sz a) {k : Nat} (hk : 400 ≤ k) : turnstoneref01_Small.f k (bn a) (bl a) = some (decide (Sm a)) := by
  unfold turnstoneref01_Small.f
  have k1 : 100 ≤ k := by omega
  have z : Sz 9223372036854775808 := by unfold Sz; decide
  have z' : Sz (-9223372036854775808) := by unfold Sz; decide
  rw [bpow63 hk, Option.bind_some, bcmp ha z k1, Option.bind_some]
  by_cases h1 : a < 9223372036854775808
  · rw [if_pos (by rw [sgn_neg]; omega), bneg z k1, Option.bind_some, bcmp ha z' k1, Option.bind_some]
    congr 1
    rw [decide_eq_decide, sgn_nonneg]
    unfold Sm
    clear ha z z' k1 hk
    omega
  · rw [if_neg (by rw [sgn_neg]; omega)]
    congr 1; symm; rw [decide_eq_false_iff_not]; unfold Sm; omega
theorem rat_no {k : Nat} (hk : 1 ≤ k) (a b : Int) (c : Bool) (d : List Int) : turnstoneref04_At.j0 k a b true c d = some (0, 0, 0, false) := by
  obtain ⟨k, rfl⟩ : ∃ j, k = j + 1 := ⟨k - 1, by omega⟩
  rw [turnstoneref04_At.j0, if_pos rfl]
theorem rat_eq {base d w : Int} {k : Nat} (hk : 1000 ≤ k) (hd : Sz d) (hw : 0 ≤ w) (hw' : w < 4294967296) (hb : 0 ≤ base ∧ base < 18446744073709551616) : turnstoneref04_At.f k base (bn d) (bl d) w = place base d w := by
  unfold turnstoneref04_At.f place
  by_cases h1 : w < 1
  · rw [if_pos h1, rat_no (by omega), if_neg (by omega)]
  · rw [if_neg h1]
    by_cases h2 : w > 1048576
    · rw [decide_eq_true h2, rat_no (by omega), if_neg (by omega)]
    · obtain ⟨k, rfl⟩ : ∃ j, k = j + 1 := ⟨k - 1, by omega⟩
      have m0 := Int.emod_nonneg d (show w ≠ 0 by omega)
      have m1 := Int.emod_lt_of_pos d (show 0 < w by omega)
      have hq : Sz (d / w) := by
        unfold Sz at *
        constructor
        · have := Int.le_ediv_of_mul_le (a := -999999999999999999999999999999999999999999999999999999999999999999999999999999999999999999999999999999999999999999999999) (b := d) (c := w) (by omega) (by have := Int.mul_le_mul_of_nonneg_left (show 1 ≤ w by omega) (show (0 : Int) ≤ 999999999999999999999999999999999999999999999999999999999999999999999999999999999999999999999999999999999999999999999999 by omega); omega)
          omega
        · apply Int.ediv_lt_of_lt_mul (by omega)
          have := Int.mul_le_mul_of_nonneg_left (show 1 ≤ w by omega) (show (0 : Int) ≤ 1000000000000000000000000000000000000000000000000000000000000000000000000000000000000000000000000000000000000000000000000 by omega)
          omega
      rw [decide_eq_false h2, turnstoneref04_At.j0, if_neg (by simp), w_id (n := w) (by omega) (by omega), bdiv hd (by omega) (by omega) (by omega), Option.bind_some, bsmall hq (by omega), Option.bind_some, if_pos (show 1 ≤ w ∧ w ≤ 1048576 by omega)]
      by_cases hs : Sm (d / w)
      · have hs' := hs
        unfold Sm at hs'
        rw [decide_eq_true hs, if_pos rfl, if_pos hs, bU hb.1 hb.2 (by omega), Option.bind_some, badd (by unfold Sz; omega) hq (by omega), Option.bind_some, bround (x := base + d / w) (by omega) (by omega) (by omega), Option.bind_some, bword (x := (base + d / w) % 18446744073709551616) (by omega) (by omega) (by omega), Option.bind_some, Int.emod_eq_of_lt m0 (show d % w < 4294967296 by omega)]
      · rw [decide_eq_false hs, if_neg (by simp), if_neg hs]
end Go.Proofs.Ytimgiiceipjpaaa.Th
