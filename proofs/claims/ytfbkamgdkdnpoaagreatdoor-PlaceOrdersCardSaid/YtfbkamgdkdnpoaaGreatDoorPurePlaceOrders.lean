/- PlaceOrders, over numbers alone: who is owed more comes in no further behind; of no weight that isn't there anything is told. -/
import Derived.Test.YtfbkamgdkdnpoaaGreatDoorThPlace
import Derived.Test.YtfbkamgdkdnpoaaGreatDoorThPosCmp
import Derived.Test.YtfbkamgdkdnpoaaGreatDoorPrint1001
namespace Go.Proofs.YtfbkamgdkdnpoaaGreatDoor.Pure
open Go.RowKit Go.Proofs.YtfbkamgdkdnpoaaGreatDoor.Print Go.Proofs.YtfbkamgdkdnpoaaGreatDoorW.PrintWords Go.Proofs.YtfbkamgdkdnpoaaGreatDoorW.PrintLast Go.Proofs.YtfbkamgdkdnpoaaGreatDoorW.PrintMore Go.Proofs.YtfbkamgdkdnpoaaGreatDoor.Th
set_option linter.unusedVariables false
set_option linter.unusedSimpArgs false
theorem PlaceOrders : turnstonelaw10_PlaceOrders.Pure := by
  intro at_ l w a b hat _ hl hw ha hb
  have hat := wf_u64 hat
  have hw32 := wf_u32 hw
  have ha := wf_i64 ha
  have hb := wf_i64 hb
  have hf : ∀ p ∈ l, FS p := fun p hp => wf_pos (hl p hp)
  refine ⟨1000, ?_⟩
  unfold turnstonelaw10_PlaceOrders.f
  rw [show turnstonelaw10_awake.f = some true from rfl, Option.bind_some, if_pos rfl]
  have no : ∀ c d e f g, turnstonelaw10_PlaceOrders.j0 1000 w a b true c d e f g = some true := by intro c d e f g; rw [turnstonelaw10_PlaceOrders.j0, if_pos rfl]
  rcases near_cases hf (k := 1000) (by omega) with e | ⟨l1, l2, hn, e⟩
  · rw [e, Option.bind_some, if_neg (by simp), no]
  rw [e, Option.bind_some, if_pos rfl]
  dsimp only
  obtain ⟨hR, hN, w1, w2, h1, h2⟩ := near_facts hn l1 (by omega)
  generalize SA (dof at_) l = A at *
  generalize SW l = W at *
  generalize (l.length : Int) = N at *
  by_cases c1 : w < 1
  · rw [if_pos c1, no]
  rw [if_neg c1]
  by_cases c2 : w > 1048576
  · rw [if_pos c2, no]
  rw [if_neg c2]
  by_cases c3 : mn a b ≤ -1125899906842624
  · rw [if_pos c3, no]
  rw [if_neg c3]
  by_cases c4 : mx a b ≥ 1125899906842624
  · rw [decide_eq_true c4, no]
  rw [decide_eq_false c4, turnstonelaw10_PlaceOrders.j0, if_neg (by simp)]
  have hA : Big A := by unfold Big; omega
  have hmm : mn a b ≤ mx a b := by unfold mn mx; split <;> split <;> omega
  obtain ⟨t, r, p1, p2, p3, p4, p5, p6, p7, p8⟩ := placed (c := 0) (k := 999) (by omega) hat hR hN (show 1 ≤ w by omega) (by omega) h1 h2 (show -1125899906842624 ≤ mx a b by omega) (by omega)
  obtain ⟨t', r', q1, q2, q3, q4, q5, q6, q7, q8⟩ := placed (c := 0) (k := 999) (by omega) hat hR hN (show 1 ≤ w by omega) (by omega) h1 h2 (show -1125899906842624 ≤ mn a b by omega) (by omega)
  rw [p1, Option.bind_some, q1, Option.bind_some, place_no (by omega) hA hR (by omega), Option.bind_some, place_no (by omega) hA hR (by omega), Option.bind_some, if_pos rfl, if_pos rfl]
  dsimp only
  have rp := p3; have rq := q3
  unfold RP at rp rq
  rw [cmp_eq (by omega) ⟨by omega, by omega⟩ hw32 ⟨by omega, by omega⟩ hw32, Option.bind_some]
  have hd : (A * w - mx a b * (W + w)) / W ≤ (A * w - mn a b * (W + w)) / W := by
    apply Int.ediv_le_ediv (by omega)
    have : mn a b * (W + w) ≤ mx a b * (W + w) := Int.mul_le_mul_of_nonneg_right hmm (by omega)
    omega
  have heq : a = b → t = t' ∧ r = r' := by
    intro h
    have : mx a b = mn a b := by subst h; unfold mx mn; simp
    rw [this] at p5 p6
    exact ⟨by rw [p5, q5], by rw [p6, q6]⟩
  generalize (A * w - mx a b * (W + w)) / W = d at *
  generalize (A * w - mn a b * (W + w)) / W = d' at *
  have hq : d / w ≤ d' / w := Int.ediv_le_ediv (by omega) hd
  have e1 : wrap64 (t' - t) = d' / w - d / w := by rw [w64, p5, q5]; omega
  have hle : posCmp t r w t' r' w ≤ 0 := by
    unfold posCmp
    rw [e1]
    by_cases h0 : d' / w - d / w = 0
    · rw [if_pos h0]
      have hr : r ≤ r' := by
        have a1 := Int.mul_ediv_add_emod d w
        have a2 := Int.mul_ediv_add_emod d' w
        have a3 : d' / w = d / w := by omega
        rw [a3] at a2
        rw [p6, q6]; omega
      have : r * w ≤ r' * w := Int.mul_le_mul_of_nonneg_right hr (by omega)
      unfold sg
      split
      · omega
      · rw [if_neg (by omega)]; omega
    · rw [if_neg h0]
      unfold sg
      rw [if_pos (by omega)]; omega
  rw [if_pos hle]
  by_cases hab : a = b
  · obtain ⟨e2, e3⟩ := heq hab
    rw [if_pos hab, e2, e3]
    simp
  · rw [if_neg hab]
    simp
end Go.Proofs.YtfbkamgdkdnpoaaGreatDoor.Pure
