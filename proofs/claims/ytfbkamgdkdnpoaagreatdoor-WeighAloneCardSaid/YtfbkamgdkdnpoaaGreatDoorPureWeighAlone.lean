/- WeighAlone, over numbers alone: who is alone has no lag, and where it is stays, whatever its weight. -/
import Derived.Test.YtfbkamgdkdnpoaaGreatDoorThWeigh
import Derived.Test.YtfbkamgdkdnpoaaGreatDoorPrint1025
import Derived.Test.YtfbkamgdkdnpoaaGreatDoorPrint1012
namespace Go.Proofs.YtfbkamgdkdnpoaaGreatDoor.Pure
open Go.RowKit Go.Proofs.YtfbkamgdkdnpoaaGreatDoor.Print Go.Proofs.YtfbkamgdkdnpoaaGreatDoorW.PrintWords Go.Proofs.YtfbkamgdkdnpoaaGreatDoorW.PrintLast Go.Proofs.YtfbkamgdkdnpoaaGreatDoorW.PrintMore Go.Proofs.YtfbkamgdkdnpoaaGreatDoor.Th
set_option linter.unusedVariables false
set_option linter.unusedSimpArgs false
theorem WeighAlone : turnstonelaw11_WeighAlone.Pure := by
  intro t r v w ht hr hv hw
  have ht := wf_u64 ht
  have hr := wf_u32 hr
  have hv := wf_u32 hv
  have hw := wf_u32 hw
  refine ⟨100, ?_⟩
  unfold turnstonelaw11_WeighAlone.f
  rw [show turnstonelaw11_awake.f = some true from rfl, Option.bind_some, if_pos rfl, right_eq t v hr.1, Option.bind_some]
  have no : turnstonelaw11_WeighAlone.j0 100 w true t r v = some true := by rw [turnstonelaw11_WeighAlone.j0, if_pos rfl]
  by_cases hp : RP r v
  rotate_left
  · rw [decide_eq_false hp, if_neg (by simp), no]
  rw [decide_eq_true hp, if_pos rfl]
  by_cases c1 : w < 1
  · rw [if_pos c1, no]
  rw [if_neg c1]
  by_cases c2 : w > 1048576
  · rw [decide_eq_true c2, no]
  rw [decide_eq_false c2, turnstonelaw11_WeighAlone.j0, if_neg (by simp)]
  have hpp := hp
  unfold RP at hpp
  have hd : dist t r v t = r := by
    unfold dist
    have : wrap64 (t - t) = 0 := by rw [Int.sub_self, w64]; omega
    rw [this]; omega
  have hm : mean_Of.f 99 t [(⟨t, r, v⟩ : S28)] = some (t, r / 18446744073709551616, r % 18446744073709551616, v, 1, true) := by
    have hs : stepM 0 0 0 (dof t (⟨t, r, v⟩ : S28)) r v = some (r, v, 1) := by
      unfold stepM dof
      rw [hd, if_pos ⟨Or.inl ⟨rfl, rfl, rfl⟩, hp, by omega, by unfold Big; omega⟩]
      simp
    rw [of_mean (by simp) (by intro p hq; rw [List.mem_singleton.1 hq]; exact ⟨ht, hr, hv⟩) t (by simp)]
    simp only [foldM, hs, Option.bind_some]
    rfl
  have hR : RM r v 1 := by unfold RM; omega
  obtain ⟨t', r', q1, q2, q3, q4, q5, q6, q7⟩ := weighed (b := t) (A := r) (W := v) (N := 1) (t := t) (r := r) (v := v) (w := w) (k := 99) (by omega) ht hR (by omega) hp (by omega) (by omega) (by omega) (by omega) (by omega) (by omega)
  rw [hd] at q4 q5
  have ey : r * (w - v) / v = r * w / v - r := by
    have : r * (w - v) = r * w + v * (-r) := by grind
    rw [this, Int.add_mul_ediv_left _ _ (by omega)]; omega
  have hq : 0 ≤ r * w / v ∧ r * w / v < w := by
    have a1 : 0 ≤ r * w := Int.mul_nonneg hr.1 (by omega)
    have a2 : r * w < w * v := by
      have : r * w < v * w := Int.mul_lt_mul_of_pos_right (by omega) (by omega)
      rw [Int.mul_comm w v]; exact this
    exact ⟨Int.ediv_nonneg a1 (by omega), Int.ediv_lt_of_lt_mul (by omega) a2⟩
  have ed : r + r * (w - v) / v = r * w / v := by omega
  rw [ed] at q4 q5
  generalize r * w / v = d at *
  rw [Int.ediv_eq_zero_of_lt hq.1 hq.2] at q5
  have et : t' = t := by omega
  have hrp := q3
  unfold RP at hrp
  have sh := shifted_eq (b := t) (A := r) (W := v) (N := 1) (t := t) (r := r) (v := v) (t' := t') (r' := r') (w := w) (k := 99) (by omega) ht (by unfold Big; omega) hR (by omega) hp (by omega) (by rw [hd]; unfold Big; omega) (by rw [hd]; unfold RM; omega) q3 (by rw [hd, q4]; unfold Big; omega)
  rw [hd, q4] at sh
  have e1 : r - r + d = d := by omega
  have e2 : v - v + w = w := by omega
  rw [e1, e2] at sh
  rw [hm, Option.bind_some]
  dsimp only
  rw [q1, Option.bind_some]
  dsimp only
  rw [sh, Option.bind_some]
  dsimp only
  have m1 := mul_below (a := d) (b := w) (c := 1048576) (d := 1048576) hq.1 (by omega) (by omega) (by omega)
  have ov : overM d w 1 d r' w = some 0 := by
    unfold overM
    rw [if_pos ⟨by unfold RM; omega, by omega, q3, by unfold Big; omega, by unfold Big; omega, by rw [Int.sub_self]; unfold Big; omega⟩, Int.sub_self]
  rw [lsign_eq (by omega) (by unfold Big; omega) (by unfold Sm; omega) ⟨by omega, by omega⟩ hw, q4, ov, Option.bind_some]
  simp [et, sg]
end Go.Proofs.YtfbkamgdkdnpoaaGreatDoor.Pure
