/- ClampRises, over numbers alone: the window of a longer slice, and of a longer tick, is wider. -/
import Derived.Test.YtfbkamgdkdnpoaaGreatDoorThClamp
import Derived.Test.YtfbkamgdkdnpoaaGreatDoorPrint1027
namespace Go.Proofs.YtfbkamgdkdnpoaaGreatDoor.Pure
open Go.RowKit Go.Proofs.YtfbkamgdkdnpoaaGreatDoor.Print Go.Proofs.YtfbkamgdkdnpoaaGreatDoorW.PrintWords Go.Proofs.YtfbkamgdkdnpoaaGreatDoorW.PrintLast Go.Proofs.YtfbkamgdkdnpoaaGreatDoorW.PrintMore Go.Proofs.YtfbkamgdkdnpoaaGreatDoor.Th
set_option linter.unusedVariables false
set_option linter.unusedSimpArgs false
theorem ClampRises : turnstonelaw12_ClampRises.Pure := by
  intro s t hs ht
  have hs := wf_u64 hs
  have ht := wf_u64 ht
  unfold turnstonelaw12_ClampRises.f
  rw [show turnstonelaw12_awake.f = some true from rfl, Option.bind_some, if_pos rfl, window_eq]
  by_cases h : WOK s t
  · have h' := h
    unfold WOK at h'
    rw [if_pos h, Option.bind_some, if_pos rfl, u64_id (n := s + 1) (by omega) (by omega), u64_id (n := t + 1) (by omega) (by omega), window_eq, window_eq]
    have e1 : wrap64 ((2 * s + t) * 1048576 + 2097152) = (2 * (s + 1) + t) * 1048576 := by rw [w_id (by omega) (by omega)]; omega
    have e2 : wrap64 ((2 * s + t) * 1048576 + 1048576) = (2 * s + (t + 1)) * 1048576 := by rw [w_id (by omega) (by omega)]; omega
    have e3 : decide ((2 * s + t) * 1048576 ≥ 3145728) = true := by rw [decide_eq_true_eq]; omega
    by_cases h1 : s < 1099511627776
    · by_cases h2 : t < 1099511627776
      · rw [if_pos (show WOK (s + 1) t by unfold WOK; omega), Option.bind_some, if_pos (show WOK s (t + 1) by unfold WOK; omega), Option.bind_some, decide_eq_true h1, decide_eq_true h2]
        simp only [e1, e2, e3, if_true, beq_self_eq_true, if_pos, Bool.false_eq_true, if_false]
      · rw [if_pos (show WOK (s + 1) t by unfold WOK; omega), Option.bind_some, if_neg (show ¬ WOK s (t + 1) by unfold WOK; omega), Option.bind_some, decide_eq_true h1, decide_eq_false h2]
        simp only [e1, e2, e3, if_true, beq_self_eq_true, if_pos, Bool.false_eq_true, if_false]
    · by_cases h2 : t < 1099511627776
      · rw [if_neg (show ¬ WOK (s + 1) t by unfold WOK; omega), Option.bind_some, if_pos (show WOK s (t + 1) by unfold WOK; omega), Option.bind_some, decide_eq_false h1, decide_eq_true h2]
        simp only [e1, e2, e3, if_true, beq_self_eq_true, if_pos, Bool.false_eq_true, if_false]
      · rw [if_neg (show ¬ WOK (s + 1) t by unfold WOK; omega), Option.bind_some, if_neg (show ¬ WOK s (t + 1) by unfold WOK; omega), Option.bind_some, decide_eq_false h1, decide_eq_false h2]
        simp only [e1, e2, e3, if_true, beq_self_eq_true, if_pos, Bool.false_eq_true, if_false]
  · rw [if_neg h, Option.bind_some, if_neg (by simp)]
    rfl
end Go.Proofs.YtfbkamgdkdnpoaaGreatDoor.Pure
