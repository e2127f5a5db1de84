/- MuldivSteps, over numbers alone: the quotient, and what is left, of any step is the document's, or there is none. For any numbers of 64 bits. -/
import Derived.Test.YtimgiiceipjpaaaThMdRef
import Derived.Test.YtimgiiceipjpaaaPrint22
namespace Go.Proofs.Ytimgiiceipjpaaa.Pure
open Go.RowKit Go.Proofs.Ytimgiiceipjpaaa.Print Go.Proofs.YtimgiiceipjpaaaW.PrintWords Go.Proofs.YtimgiiceipjpaaaW.PrintLast Go.Proofs.YtimgiiceipjpaaaW.PrintMore Go.Proofs.Ytimgiiceipjpaaa.Th
set_option linter.unusedVariables false
theorem steps_none {den : Int} (n : Bool) (l : List Int) {k : Nat} (hk : 1 ≤ k) : turnstonelaw02_MuldivSteps.j0 k den 0 0 false true n l = some true := by
  obtain ⟨k, rfl⟩ : ∃ m, k = m + 1 := ⟨k - 1, by omega⟩
  rw [turnstonelaw02_MuldivSteps.j0, if_pos rfl, if_neg (by simp), if_pos rfl]
  rfl
theorem MuldivSteps : turnstonelaw02_MuldivSteps.Pure := by
  intro a num den rem ha hn hd hr
  have ha : U a := wf_u64 ha
  have hn : U num := wf_u64 hn
  have hd : U den := wf_u64 hd
  have hr : U rem := wf_u64 hr
  refine ⟨2400, ?_⟩
  unfold turnstonelaw02_MuldivSteps.f
  rw [awake2 (by omega), Option.bind_some, if_pos rfl, step_eq (by omega) ha hn hd hr, all_eq hn hr [a] (by intro x hx; rw [List.mem_singleton.1 hx]; exact ha) (by simp) (by omega)]
  have es : sum [a] = a := by unfold sum sum; omega
  rw [es]
  by_cases h : rem < den
  · obtain ⟨p0, p1⟩ := mul_u ha hn
    have hd' := hd
    have hr' := hr
    unfold U at hd' hr'
    rw [if_pos h]
    have hk : 2300 ≤ 2400 := by decide
    have hg := great_eq (a := a * num + rem) (k := 2400) (by unfold Sz; omega) hd (by omega)
    unfold carried
    by_cases hgt : a * num + rem < den * 18446744073709551616
    · rw [decide_eq_false (show ¬ den * 18446744073709551616 ≤ a * num + rem by omega)] at hg
      obtain ⟨uq, ur, e⟩ := isq_carried (A := a * num + rem) (k := 2399) (by omega) hd (by omega) hgt (by omega)
      rw [if_pos hgt, Option.bind_some, Option.bind_some, if_neg (show ¬ rem ≥ den by omega), hg, Option.bind_some, turnstonelaw02_MuldivSteps.j0, if_neg (by simp), if_pos rfl, bU uq.1 uq.2 (by omega), Option.bind_some, bU ur.1 ur.2 (by omega), Option.bind_some, e, Option.bind_some]
    · rw [decide_eq_true (show den * 18446744073709551616 ≤ a * num + rem by omega)] at hg
      rw [if_neg hgt, Option.bind_some, Option.bind_some, if_neg (show ¬ rem ≥ den by omega), hg, Option.bind_some]
      exact steps_none _ _ (by omega)
  · rw [if_neg h, Option.bind_some, Option.bind_some, if_pos (show rem ≥ den by omega)]
    exact steps_none _ _ (by omega)
end Go.Proofs.Ytimgiiceipjpaaa.Pure
