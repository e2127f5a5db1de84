/- What the printed functions over positions answer: may a position be, the position of a distance, some grains further, which is ahead; and that the chapter's example holds. For fields of their kinds. -/
import Derived.Test.YtccokfebebmaeaaGreatDoorThTime
import Derived.Test.YtccokfebebmaeaaGreatDoorThSum
import Derived.Test.YtccokfebebmaeaaGreatDoorPrint3
import Derived.Test.YtccokfebebmaeaaGreatDoorPrint10
import Derived.Test.YtccokfebebmaeaaGreatDoorPrint9
namespace Go.Proofs.YtccokfebebmaeaaGreatDoor.Th
open Go.RowKit Go.Proofs.YtccokfebebmaeaaGreatDoor.Print Go.Proofs.YtccokfebebmaeaaGreatDoorW.PrintWords Go.Proofs.YtccokfebebmaeaaGreatDoorW.PrintLast Go.Proofs.YtccokfebebmaeaaGreatDoorW.PrintMore Go.Proofs.YtccokfebebmaeaaGreatDoor.Bits
set_option linter.unusedVariables false
set_option linter.unusedSimpArgs false
/-- Fields of a position's kinds. -/
def FP (t r w : Int) : Prop := (0 ≤ t ∧ t < 18446744073709551616) ∧ (0 ≤ r ∧ r < 4294967296) ∧ (0 ≤ w ∧ w < 4294967296)
/-- A position that may be. -/
def RP (r w : Int) : Prop := 1 ≤ w ∧ w ≤ 1048576 ∧ 0 ≤ r ∧ r < w
instance (r w : Int) : Decidable (RP r w) := inferInstanceAs (Decidable (_ ∧ _))
theorem weight_eq (w : Int) : pos_weight.f w = some (decide (1 ≤ w ∧ w ≤ 1048576)) := by
  unfold pos_weight.f
  by_cases h : w ≥ 1
  · rw [if_pos h]; congr 1; rw [decide_eq_decide]; omega
  · rw [if_neg h]; congr 1; symm; rw [decide_eq_false_iff_not]; omega
theorem right_eq {r : Int} (t w : Int) (hr : 0 ≤ r) : pos_Pos_Right.f t r w = some (decide (RP r w)) := by
  unfold pos_Pos_Right.f
  rw [weight_eq]
  simp only [Option.bind_some, decide_eq_true_eq]
  by_cases h : 1 ≤ w ∧ w ≤ 1048576
  · rw [if_pos h]
    exact congrArg some (decide_eq_decide.2 (by unfold RP; omega))
  · rw [if_neg h]
    exact congrArg some (decide_eq_false (by unfold RP; omega)).symm
/-- The position of a distance. -/
def place (base d w : Int) : Option (Int × Int × Int × Bool) := if 1 ≤ w ∧ w ≤ 1048576 then if Sm (d / w) then some ((base + d / w) % 18446744073709551616, d % w, w, true) else some (0, 0, 0, false) else some (0, 0, 0, false)
/-- Which of two whole numbers is greater. -/
def sg (a b : Int) : Int := if a < b then -1 else if a > b then 1 else 0
theorem cmpI_eq (a b : Int) : cmp_Compare_int64.f a b = some (sg a b) := by
  unfold cmp_Compare_int64.f cmp_isNaN_int64.f sg
  simp only [bne_self_eq_false, Option.bind_some, Bool.false_eq_true, if_false]
  split
  · rfl
  · split <;> rfl
theorem cmpU_eq (a b : Int) : cmp_Compare_uint64.f a b = some (sg a b) := by
  unfold cmp_Compare_uint64.f cmp_isNaN_uint64.f sg
  simp only [bne_self_eq_false, Option.bind_some, Bool.false_eq_true, if_false]
  split
  · rfl
  · split <;> rfl
theorem or2_eq {k : Nat} (hk : 4 ≤ k) (a b : Int) : cmp_Or_int.f k [a, b] = some (if a = 0 then b else a) := by
  obtain ⟨k, rfl⟩ : ∃ j, k = j + 3 := ⟨k - 3, by omega⟩
  unfold cmp_Or_int.f
  have r0 : rd [a, b] 0 = a := rfl
  have r1 : rd [a, b] 1 = b := rfl
  have w0 : wrap64 (0 + 1) = 1 := by rw [w64]; rfl
  have w1 : wrap64 (1 + 1) = 2 := by rw [w64]; rfl
  have hl : (([a, b] : List Int).length : Int) = 2 := rfl
  rw [hl, cmp_Or_int.l0, if_pos (by omega), if_pos (by omega), if_pos (by rw [hl]; omega), r0, w0]
  by_cases h : a = 0
  · rw [if_pos h, if_pos h, cmp_Or_int.l0, if_pos (by omega), if_pos (by omega), if_pos (by rw [hl]; omega), r1, w1]
    by_cases h2 : b = 0
    · rw [if_pos h2, cmp_Or_int.l0, if_neg (by omega), h2]
    · rw [if_neg h2]
  · rw [if_neg h, if_neg h]
/-- Which of two positions is ahead. -/
def posCmp (t r w t' r' w' : Int) : Int := if wrap64 (t' - t) = 0 then sg (r * w') (r' * w) else sg 0 (wrap64 (t' - t))
theorem cmp_eq {t r w t' r' w' : Int} {k : Nat} (hk : 4 ≤ k) (hr : 0 ≤ r ∧ r < 4294967296) (hw : 0 ≤ w ∧ w < 4294967296) (hr2 : 0 ≤ r' ∧ r' < 4294967296) (hw2 : 0 ≤ w' ∧ w' < 4294967296) :
    pos_Pos_Cmp.f k t r w t' r' w' = some (posCmp t r w t' r' w') := by
  unfold pos_Pos_Cmp.f posCmp
  have p1 := mul_below (c := 4294967295) (d := 4294967295) hr.1 (by omega) hw2.1 (by omega)
  have p2 := mul_below (c := 4294967295) (d := 4294967295) hr2.1 (by omega) hw.1 (by omega)
  rw [u64_id hr.1 (by omega), u64_id hw2.1 (by omega), u64_id hr2.1 (by omega), u64_id hw.1 (by omega), u64_id p1.1 (by omega), u64_id p2.1 (by omega)]
  simp only [since_eq, cmpI_eq, cmpU_eq, Option.bind_some, or2_eq hk]
  congr 1
  generalize wrap64 (t' - t) = d
  unfold sg
  by_cases h : d = 0
  · subst h; simp
  · rw [if_neg h]
    by_cases h1 : 0 < d
    · simp [h1]
    · have : 0 > d := by omega
      simp [h1, this]
end Go.Proofs.YtccokfebebmaeaaGreatDoor.Th
