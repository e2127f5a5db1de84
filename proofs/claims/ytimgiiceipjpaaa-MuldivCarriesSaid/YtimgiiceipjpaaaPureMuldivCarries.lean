/- MuldivCarries, over numbers alone: any amounts, one behind the other, are carried as all at once, as the document says. For at most 40 amounts. -/
import Derived.Test.YtimgiiceipjpaaaThMdRef
import Derived.Test.YtimgiiceipjpaaaPrint16
namespace Go.Proofs.Ytimgiiceipjpaaa.Pure
open Go.RowKit Go.Proofs.Ytimgiiceipjpaaa.Print Go.Proofs.YtimgiiceipjpaaaW.PrintWords Go.Proofs.YtimgiiceipjpaaaW.PrintLast Go.Proofs.YtimgiiceipjpaaaW.PrintMore Go.Proofs.Ytimgiiceipjpaaa.Th
set_option linter.unusedVariables false
theorem carries_none {den : Int} (n : Bool) (l : List Int) {k : Nat} (hk : 1 ≤ k) : turnstonelaw02_MuldivCarries.j0 k den 0 0 false true n l = some true := by
  obtain ⟨k, rfl⟩ : ∃ m, k = m + 1 := ⟨k - 1, by omega⟩
  rw [turnstonelaw02_MuldivCarries.j0, if_pos rfl, if_neg (by simp), if_pos rfl]
  rfl
theorem sum_le : ∀ l : List Int, (∀ x ∈ l, U x) → sum l ≤ l.length * 18446744073709551616
  | [], _ => by simp [sum]
  | x :: l, h => by
    have a := (h x (by simp)).2
    have b := sum_le l (fun y hy => h y (by simp [hy]))
    rw [sum, List.length_cons]; omega
theorem MuldivCarries : turnstonelaw02_MuldivCarries.Pure := by
  intro num den rem l hn hd hr _ _ hl
  have hn : U num := wf_u64 hn
  have hd : U den := wf_u64 hd
  have hr : U rem := wf_u64 hr
  have hl : ∀ x ∈ l, U x := fun x hx => wf_u64 (hl x hx)
  refine ⟨2500, ?_⟩
  unfold turnstonelaw02_MuldivCarries.f
  rw [awake2, Option.bind_some, if_pos rfl]
  by_cases h40 : (l.length : Int) > 40
  · rw [if_pos h40]
  rw [if_neg h40, steps_eq hn hd hr l hl (by omega) (by omega), all_eq hn hr l hl (by omega) (by omega)]
  have hn' := hn
  have hd' := hd
  have hr' := hr
  unfold U at hd' hr' hn'
  have s0 := sum_pos l hl
  have s1 := sum_le l hl
  have s2 : sum l ≤ 40 * 18446744073709551616 := by omega
  have p0 : 0 ≤ sum l * num := Int.mul_nonneg s0 hn'.1
  have p1 : sum l * num ≤ 40 * 18446744073709551616 * 18446744073709551616 := Int.mul_le_mul s2 (by omega) hn'.1 (by decide)
  by_cases h : rem < den
  · rw [if_pos h]
    have hg := great_eq (a := sum l * num + rem) (k := 2500) (by unfold Sz; omega) hd (by omega)
    unfold carried
    by_cases hgt : sum l * num + rem < den * 18446744073709551616
    · rw [decide_eq_false (show ¬ den * 18446744073709551616 ≤ sum l * num + rem by omega)] at hg
      obtain ⟨uq, ur, e⟩ := isq_carried (A := sum l * num + rem) (k := 2499) (by omega) hd (by omega) hgt (by omega)
      rw [if_pos hgt, Option.bind_some, Option.bind_some, if_neg (show ¬ rem ≥ den by omega), hg, Option.bind_some, turnstonelaw02_MuldivCarries.j0, if_neg (by simp), if_pos rfl, bU uq.1 uq.2 (by omega), Option.bind_some, bU ur.1 ur.2 (by omega), Option.bind_some, e, Option.bind_some]
    · rw [decide_eq_true (show den * 18446744073709551616 ≤ sum l * num + rem by omega)] at hg
      rw [if_neg hgt, Option.bind_some, Option.bind_some, if_neg (show ¬ rem ≥ den by omega), hg, Option.bind_some]
      exact carries_none _ _ (by omega)
  · rw [if_neg h, Option.bind_some, Option.bind_some, if_pos (show rem ≥ den by omega)]
    exact carries_none _ _ (by omega)
end Go.Proofs.Ytimgiiceipjpaaa.Pure
