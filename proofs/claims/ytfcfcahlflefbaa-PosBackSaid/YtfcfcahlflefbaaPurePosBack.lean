/- PosBack, over numbers alone: a position that may be is where its distance, from any time near it, tells; moved by what its weight is it is one time later. For times nearer than 2^62. -/
import Derived.Test.YtfcfcahlflefbaaThDist
import Derived.Test.YtfcfcahlflefbaaPrint17
import Derived.Test.YtfcfcahlflefbaaPrint14
namespace Go.Proofs.Ytfcfcahlflefbaa.Pure
open Go.RowKit Go.Proofs.Ytfcfcahlflefbaa.Print Go.Proofs.YtfcfcahlflefbaaW.PrintWords Go.Proofs.YtfcfcahlflefbaaW.PrintLast Go.Proofs.YtfcfcahlflefbaaW.PrintMore Go.Proofs.Ytfcfcahlflefbaa.Th
set_option linter.unusedVariables false
set_option linter.unusedSimpArgs false
theorem floors_two {k : Nat} (hk : 4 ≤ k) (base : Int) (p q : S26) (hp : wrap64 (p.f0 - base) = 0) (hq : wrap64 (q.f0 - base) = 1) : pos_Floors.f k base [p, q] = some (0, 1) := by
  obtain ⟨k, rfl⟩ : ∃ j, k = j + 3 := ⟨k - 3, by omega⟩
  unfold pos_Floors.f
  have hl : (([p, q] : List S26).length : Int) = 2 := rfl
  have r0 : rd_T26 [p, q] 0 = p := rfl
  have r1 : rd_T26 [p, q] 1 = q := rfl
  have w0 : wrap64 (0 + 1) = 1 := w_id (by omega) (by omega)
  have w1 : wrap64 (1 + 1) = 2 := w_id (by omega) (by omega)
  have m0 : mn 0 0 = 0 := rfl
  have m1 : mx 0 0 = 0 := rfl
  have m2 : mn 0 1 = 0 := rfl
  have m3 : mx 0 1 = 1 := rfl
  rw [hl, pos_Floors.l0, if_pos (by omega), if_pos (by omega), if_pos (by rw [hl]; omega), r0, since_eq, hp, Option.bind_some, if_pos rfl, w0, m0, m1]
  rw [pos_Floors.l0, if_pos (by omega), if_pos (by omega), if_pos (by rw [hl]; omega), r1, since_eq, hq, Option.bind_some, if_neg (by omega), w1, m2, m3]
  rw [pos_Floors.l0, if_neg (by omega)]
theorem back_j0 {t r w base : Int} {k : Nat} (hk : 40 ≤ k) (ht : 0 ≤ t ∧ t < 18446744073709551616) (hb : 0 ≤ base ∧ base < 18446744073709551616) (hR : RP r w) (h0 : -4611686018427387904 < wrap64 (t - base)) (h1 : wrap64 (t - base) < 4611686018427387904) :
    turnstonelaw04_PosBack.j0 k base false t r w = some true := by
  obtain ⟨k, rfl⟩ : ∃ j, k = j + 1 := ⟨k - 1, by omega⟩
  unfold RP at hR
  have hr : 0 ≤ r ∧ r < 4294967296 := by omega
  have hw : 0 ≤ w ∧ w < 4294967296 := by omega
  obtain ⟨_, hD⟩ := dist_big (t := t) (base := base) hr hw
  have q1 : dist t r w base / w = wrap64 (t - base) := by
    unfold dist
    rw [Int.add_comm, Int.add_mul_ediv_left _ _ (by omega), Int.ediv_eq_zero_of_lt (by omega) (by omega), Int.zero_add]
  have q2 : dist t r w base % w = r := by
    unfold dist
    rw [Int.add_comm, Int.add_mul_emod_self_left, Int.emod_eq_of_lt (by omega) (by omega)]
  have e0 : (base + wrap64 (t - base)) % 18446744073709551616 = t := by rw [w64]; omega
  have q3 : (w + r) / w = 1 := by
    rw [show w + r = r + w * 1 by omega, Int.add_mul_ediv_left _ _ (by omega), Int.ediv_eq_zero_of_lt (by omega) (by omega)]; rfl
  have q4 : (w + r) % w = r := by
    rw [show w + r = r + w * 1 by omega, Int.add_mul_emod_self_left, Int.emod_eq_of_lt (by omega) (by omega)]
  have s1 : Sm (wrap64 (t - base)) := Sm_wrap _
  have p1 : place base (dist t r w base) w = some (t, r, w, true) := by
    unfold place
    rw [if_pos ⟨hR.1, hR.2.1⟩, q1, if_pos s1, e0, q2]
  have p2 : place t (w + r) w = some ((t + 1) % 18446744073709551616, r, w, true) := by
    unfold place
    rw [if_pos ⟨hR.1, hR.2.1⟩, q3, if_pos (by unfold Sm; omega), q4]
  rw [turnstonelaw04_PosBack.j0, if_neg (by simp), dist_eq (by omega) hr hw, Option.bind_some, at_eq (by omega) hD hw.1 hw.2, p1, Option.bind_some, u64_id hw.1 (by omega), move_eq (by omega) hr.1 hr.2 hw.1 hw.2 hw.1 (by omega), p2, Option.bind_some]
  rw [floors_two (by omega) t _ _ (by show wrap64 (t - t) = 0; rw [w64]; omega) (by show wrap64 ((t + 1) % 18446744073709551616 - t) = 1; rw [w64]; omega), Option.bind_some]
  simp only [beq_self_eq_true, Bool.and_self, if_true]
  rw [shift_eq, Option.bind_some]
  simp only [beq_self_eq_true, Bool.and_self, if_true]
  rw [cmp_eq (by omega) hr hw hr hw, Option.bind_some, cmp_eq (by omega) hr hw hr hw]
  have c1 : posCmp t r w ((t + 1) % 18446744073709551616) r w = -1 := by
    have e : wrap64 ((t + 1) % 18446744073709551616 - t) = 1 := by rw [w64]; omega
    unfold posCmp sg
    rw [e, if_neg (by omega), if_pos (by omega)]
  have c2 : posCmp t r w t r w = 0 := by
    have e : wrap64 (t - t) = 0 := by rw [w64]; omega
    unfold posCmp sg
    rw [e, if_pos rfl, if_neg (by omega), if_neg (by omega)]
  rw [c1, c2, if_pos rfl]
  rfl
theorem PosBack : turnstonelaw04_PosBack.Pure := by
  intro t r w base ht hr hw hb
  have ht := wf_u64 ht
  have hr := wf_u32 hr
  have hw := wf_u32 hw
  have hb := wf_u64 hb
  refine ⟨100, ?_⟩
  unfold turnstonelaw04_PosBack.f
  rw [awake4 (by omega), Option.bind_some, if_pos rfl, since_eq, Option.bind_some, right_eq _ _ hr.1, Option.bind_some]
  by_cases hR : RP r w
  · rw [if_pos (by simpa using hR)]
    by_cases h1 : wrap64 (t - base) ≤ -4611686018427387904
    · rw [if_pos h1, turnstonelaw04_PosBack.j0, if_pos rfl]
    · rw [if_neg h1]
      by_cases h2 : wrap64 (t - base) ≥ 4611686018427387904
      · rw [decide_eq_true h2, turnstonelaw04_PosBack.j0, if_pos rfl]
      · rw [decide_eq_false h2]
        exact back_j0 (by omega) ht hb hR (by omega) (by omega)
  · rw [if_neg (by simpa using hR), turnstonelaw04_PosBack.j0, if_pos rfl]
end Go.Proofs.Ytfcfcahlflefbaa.Pure
