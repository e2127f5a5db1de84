/- PosMoves, over numbers alone: in two parts a position moves as at once; each step brings it no further back; two of one weight stay in their order. For at most 2^61 grains each, and positions nearer than 2^61. -/
import Derived.Test.YtimgiiceipjpaaaThPos
import Derived.Test.YtimgiiceipjpaaaPrint19
namespace Go.Proofs.Ytimgiiceipjpaaa.Pure
open Go.RowKit Go.Proofs.Ytimgiiceipjpaaa.Print Go.Proofs.YtimgiiceipjpaaaW.PrintWords Go.Proofs.YtimgiiceipjpaaaW.PrintLast Go.Proofs.YtimgiiceipjpaaaW.PrintMore Go.Proofs.Ytimgiiceipjpaaa.Th
set_option linter.unusedVariables false
set_option linter.unusedSimpArgs false
theorem sg_shift (a b c : Int) : sg (a + c) (b + c) = sg a b := by
  unfold sg
  have e1 : (a + c < b + c) = (a < b) := by rw [eq_iff_iff]; omega
  have e2 : (a + c > b + c) = (a > b) := by rw [eq_iff_iff]; omega
  simp only [e1, e2]
/-- Of one weight: where the one stands from the other. -/
theorem cmp_same {t r w t' r' E : Int} (hE : wrap64 (t' - t) = E) (hw : 1 ≤ w) (hr : 0 ≤ r) (hr' : r < w) (h2 : 0 ≤ r') (h2' : r' < w) : posCmp t r w t' r' w = sg r (E * w + r') := by
  unfold posCmp
  rw [hE]
  by_cases h : E = 0
  · subst h
    rw [if_pos rfl, Int.zero_mul, Int.zero_add]
    unfold sg
    have e1 : (r * w < r' * w) = (r < r') := by
      rw [eq_iff_iff]; exact ⟨fun h => Int.lt_of_mul_lt_mul_right h (by omega), fun h => Int.mul_lt_mul_of_pos_right h (by omega)⟩
    have e2 : (r * w > r' * w) = (r > r') := by
      rw [eq_iff_iff]; exact ⟨fun h => Int.lt_of_mul_lt_mul_right h (by omega), fun h => Int.mul_lt_mul_of_pos_right h (by omega)⟩
    simp only [e1, e2]
  · rw [if_neg h]
    unfold sg
    by_cases h1 : 0 < E
    · have := Int.mul_le_mul_of_nonneg_right (show 1 ≤ E by omega) (show 0 ≤ w by omega)
      rw [if_pos h1, if_pos (by omega)]
    · have := Int.mul_le_mul_of_nonneg_right (show E ≤ -1 by omega) (show 0 ≤ w by omega)
      rw [if_neg h1, if_pos (by omega), if_neg (by omega), if_pos (by omega)]
/-- Some grains further, of a position that may be. -/
theorem place_near {t r w g : Int} (hR : RP r w) (hg : 0 ≤ g) (hg' : g ≤ 4611686018427387904) : place t (g + r) w = some ((t + (g + r) / w) % 18446744073709551616, (g + r) % w, w, true) ∧ 0 ≤ (g + r) / w ∧ (g + r) / w ≤ g + r ∧ 0 ≤ (g + r) % w ∧ (g + r) % w < w ∧ (g + r) / w * w + (g + r) % w = g + r := by
  unfold RP at hR
  have a := Int.ediv_nonneg (a := g + r) (b := w) (by omega) (by omega)
  have b := Int.ediv_le_self w (show 0 ≤ g + r by omega)
  have c := Int.emod_nonneg (g + r) (show w ≠ 0 by omega)
  have d := Int.emod_lt_of_pos (g + r) (show 0 < w by omega)
  refine ⟨?_, a, b, c, d, Int.ediv_mul_add_emod _ _⟩
  unfold place
  rw [if_pos ⟨hR.1, hR.2.1⟩, if_pos]
  unfold Sm
  omega
theorem quot_two {r w a b : Int} (hw : 0 < w) : (a + b + r) / w = (a + r) / w + (b + (a + r) % w) / w ∧ (a + b + r) % w = (b + (a + r) % w) % w := by
  have e : a + b + r = (b + (a + r) % w) + w * ((a + r) / w) := by
    have := Int.emod_add_mul_ediv (a + r) w
    omega
  constructor
  · rw [e, Int.add_mul_ediv_left _ _ (by omega)]; omega
  · rw [e, Int.add_mul_emod_self_left]
section
variable {t r w t' r' a b : Int}
theorem moves_j3 {k : Nat} (hk : 40 ≤ k) (ht : 0 ≤ t ∧ t < 18446744073709551616) (ht' : 0 ≤ t' ∧ t' < 18446744073709551616) (hR : RP r w) (hR' : RP r' w) (ha : 0 ≤ a ∧ a ≤ 2305843009213693952)
    (hn : wrap64 (t' - t) < 2305843009213693952) (hn' : -2305843009213693952 < wrap64 (t' - t)) :
    turnstonelaw04_PosMoves.j3 k a false t r w t' r' w ((t + (a + r) / w) % 18446744073709551616) ((a + r) % w) w = some true := by
  obtain ⟨k, rfl⟩ : ∃ j, k = j + 1 := ⟨k - 1, by omega⟩
  obtain ⟨_, x1, x2, x3, x4, x5⟩ := place_near (t := t) hR ha.1 (by omega)
  obtain ⟨e, y1, y2, y3, y4, y5⟩ := place_near (t := t') hR' ha.1 (by omega)
  have hR0 := hR
  have hR0' := hR'
  unfold RP at hR hR'
  rw [turnstonelaw04_PosMoves.j3, if_neg (by simp), move_eq (by omega) (by omega) (by omega) (by omega) (by omega) ha.1 (by omega), e]
  simp only [Option.bind_some, if_true]
  rw [cmp_eq (by omega) (by omega) (by omega) (by omega) (by omega), cmp_eq (by omega) (by omega) (by omega) (by omega) (by omega)]
  simp only [Option.bind_some]
  congr 1
  rw [beq_iff_eq]
  generalize hq1 : (a + r) / w = q1 at *
  generalize hq2 : (a + r') / w = q2 at *
  generalize (a + r) % w = m1 at *
  generalize (a + r') % w = m2 at *
  rw [w64] at hn hn'
  generalize hD : (t' - t + 9223372036854775808) % 18446744073709551616 - 9223372036854775808 = D at *
  rw [cmp_same (E := q1 - D - q2) (by rw [w64]; omega) (by omega) y3 y4 x3 x4, cmp_same (E := -D) (by rw [w64]; omega) (by omega) (by omega) (by omega) (by omega) (by omega)]
  rw [← sg_shift m2 _ (q2 * w), ← sg_shift r' _ a]
  congr 1
  · omega
  · have : (q1 - D - q2) * w = q1 * w - D * w - q2 * w := by grind
    have : -D * w = -(D * w) := by grind
    omega
theorem moves_j0 {k : Nat} (hk : 60 ≤ k) (ht : 0 ≤ t ∧ t < 18446744073709551616) (ht' : 0 ≤ t' ∧ t' < 18446744073709551616) (hR : RP r w) (hr' : 0 ≤ r' ∧ r' < 4294967296) (w' : Int) (ha : 0 ≤ a ∧ a ≤ 2305843009213693952) (hb : 0 ≤ b ∧ b ≤ 2305843009213693952) :
    turnstonelaw04_PosMoves.j0 k a b false t r w t' r' w' = some true := by
  obtain ⟨k, rfl⟩ : ∃ j, k = j + 3 := ⟨k - 3, by omega⟩
  obtain ⟨ex, x1, x2, x3, x4, x5⟩ := place_near (t := t) hR ha.1 (by omega)
  have hR0 := hR
  unfold RP at hR
  have hRx : RP ((a + r) % w) w := ⟨hR.1, hR.2.1, x3, x4⟩
  obtain ⟨ey, y1, y2, y3, y4, y5⟩ := place_near (t := (t + (a + r) / w) % 18446744073709551616) hRx hb.1 (by omega)
  obtain ⟨ez, z1, z2, z3, z4, z5⟩ := place_near (t := t) (g := a + b) hR0 (by omega) (by omega)
  obtain ⟨qq, qr⟩ := quot_two (r := r) (a := a) (b := b) (show 0 < w by omega)
  rw [turnstonelaw04_PosMoves.j0, if_neg (by simp), move_eq (by omega) (by omega) (by omega) (by omega) (by omega) ha.1 (by omega), ex]
  simp only [Option.bind_some]
  rw [move_eq (by omega) (by omega) (by omega) (by omega) (by omega) hb.1 (by omega), ey, u64_id (n := a + b) (by omega) (by omega), move_eq (by omega) (by omega) (by omega) (by omega) (by omega) (by omega) (by omega), ez]
  simp only [Option.bind_some, if_true]
  have e1 : ((t + (a + r) / w) % 18446744073709551616 + (b + (a + r) % w) / w) % 18446744073709551616 = (t + (a + b + r) / w) % 18446744073709551616 := by rw [qq]; omega
  rw [e1, ← qr, if_neg (by simp), right_eq _ _ x3]
  simp only [Option.bind_some]
  rw [decide_eq_true hRx, turnstonelaw04_PosMoves.j1, if_neg (by simp), since_eq]
  simp only [Option.bind_some]
  have e2 : wrap64 ((t + (a + r) / w) % 18446744073709551616 - t) = (a + r) / w := by rw [w64]; omega
  rw [e2, if_neg (by omega), cmp_eq (by omega) (by omega) (by omega) (by omega) (by omega)]
  simp only [Option.bind_some]
  have e3 : posCmp ((t + (a + r) / w) % 18446744073709551616) ((a + r) % w) w t r w = mn 1 (wrap64 a) := by
    rw [cmp_same (E := -((a + r) / w)) (by rw [w64]; omega) (by omega) x3 x4 (by omega) (by omega)]
    have e4 : wrap64 a = a := by rw [w64]; omega
    rw [e4, ← sg_shift _ _ ((a + r) / w * w)]
    have e5 : -((a + r) / w) * w + r + (a + r) / w * w = r := by
      have : -((a + r) / w) * w = -((a + r) / w * w) := by grind
      omega
    rw [e5]
    unfold sg mn
    by_cases h : 1 ≤ a
    · rw [if_neg (by omega), if_pos (by omega), if_neg (by omega)]
    · rw [if_neg (by omega), if_neg (by omega), if_pos (by omega)]; omega
  rw [e3, bne_self_eq_false, turnstonelaw04_PosMoves.j2, if_neg (by simp), right_eq _ _ hr'.1]
  simp only [Option.bind_some, decide_eq_true_eq]
  by_cases hR' : RP r' w
  · rw [if_pos hR', since_eq]
    simp only [Option.bind_some]
    by_cases h1 : wrap64 (t' - t) ≥ 2305843009213693952
    · rw [if_pos h1]
      obtain ⟨k, rfl⟩ : ∃ j, k = j + 1 := ⟨k - 1, by omega⟩
      rw [turnstonelaw04_PosMoves.j3, if_pos rfl]
    · rw [if_neg h1]
      by_cases h2 : wrap64 (t' - t) ≤ -2305843009213693952
      · rw [decide_eq_true h2]
        obtain ⟨k, rfl⟩ : ∃ j, k = j + 1 := ⟨k - 1, by omega⟩
        rw [turnstonelaw04_PosMoves.j3, if_pos rfl]
      · rw [decide_eq_false h2]
        exact moves_j3 (by omega) ht ht' hR0 hR' ha (by omega) (by omega)
  · rw [if_neg hR']
    obtain ⟨k, rfl⟩ : ∃ j, k = j + 1 := ⟨k - 1, by omega⟩
    rw [turnstonelaw04_PosMoves.j3, if_pos rfl]
end
theorem PosMoves : turnstonelaw04_PosMoves.Pure := by
  intro t r w t' r' w' a b ht hr hw ht' hr' hw' ha hb
  have ht := wf_u64 ht
  have hr := wf_u32 hr
  have hw := wf_u32 hw
  have ht' := wf_u64 ht'
  have hr' := wf_u32 hr'
  have ha := wf_u64 ha
  have hb := wf_u64 hb
  refine ⟨100, ?_⟩
  unfold turnstonelaw04_PosMoves.f
  rw [awake4 (by omega), Option.bind_some, if_pos rfl, right_eq _ _ hr.1]
  simp only [Option.bind_some, decide_eq_true_eq]
  by_cases hR : RP r w
  · rw [if_pos hR]
    by_cases h1 : a > 2305843009213693952
    · rw [if_pos h1, turnstonelaw04_PosMoves.j0, if_pos rfl]
    · rw [if_neg h1]
      by_cases h2 : b > 2305843009213693952
      · rw [decide_eq_true h2, turnstonelaw04_PosMoves.j0, if_pos rfl]
      · rw [decide_eq_false h2]
        exact moves_j0 (by omega) ht ht' hR hr' w' ⟨ha.1, by omega⟩ ⟨hb.1, by omega⟩
  · rw [if_neg hR, turnstonelaw04_PosMoves.j0, if_pos rfl]
end Go.Proofs.Ytimgiiceipjpaaa.Pure
