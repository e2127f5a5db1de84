/- The order of positions, in whole numbers. -/
import Derived.Test.YtdfpkjdhndfcbaaThPos
import Derived.Test.YtdfpkjdhndfcbaaThCmp
import Derived.Test.YtdfpkjdhndfcbaaPrint1000
namespace Go.Proofs.Ytdfpkjdhndfcbaa.Th
open Go.RowKit Go.Proofs.Ytdfpkjdhndfcbaa.Print Go.Proofs.YtdfpkjdhndfcbaaW.PrintWords Go.Proofs.YtdfpkjdhndfcbaaW.PrintLast Go.Proofs.YtdfpkjdhndfcbaaW.PrintMore Go.Proofs.Ytdfpkjdhndfcbaa.Bits
set_option linter.unusedVariables false
set_option linter.unusedSimpArgs false
/-- Which of two positions is ahead. -/
def posCmp (t r w t' r' w' : Int) : Int := if wrap64 (t' - t) = 0 then sg (r * w') (r' * w) else sg 0 (wrap64 (t' - t))
theorem cmp_eq {t r w t' r' w' : Int} {k : Nat} (hk : 4 ≤ k) (hr : 0 ≤ r ∧ r < 4294967296) (hw : 0 ≤ w ∧ w < 4294967296) (hr2 : 0 ≤ r' ∧ r' < 4294967296) (hw2 : 0 ≤ w' ∧ w' < 4294967296) :
    pos_Pos_Cmp.f k t r w t' r' w' = some (posCmp t r w t' r' w') := by
  unfold pos_Pos_Cmp.f posCmp
  have p1 := mul_below (c := 4294967295) (d := 4294967295) hr.1 (by omega) hw2.1 (by omega)
  have p2 := mul_below (c := 4294967295) (d := 4294967295) hr2.1 (by omega) hw.1 (by omega)
  rw [u64_id hr.1 (by omega), u64_id hw2.1 (by omega), u64_id hr2.1 (by omega), u64_id hw.1 (by omega), u64_id p1.1 (by omega), u64_id p2.1 (by omega)]
  simp only [since_eq, cmpI_eq, cmpU_eq, Option.bind_some, or2_eq hk]
  congr 1
  generalize wrap64 (t' - t) = d
  unfold sg
  by_cases h : d = 0
  · subst h; simp
  · rw [if_neg h]
    by_cases h1 : 0 < d
    · simp [h1]
    · have : 0 > d := by omega
      simp [h1, this]
end Go.Proofs.Ytdfpkjdhndfcbaa.Th
