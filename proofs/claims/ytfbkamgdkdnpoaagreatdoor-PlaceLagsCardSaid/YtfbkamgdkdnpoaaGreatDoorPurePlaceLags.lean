/- PlaceLags, over numbers alone: whoever comes in has just the lag that was said; the lags of all others move by no more than that, and a grain. -/
import Derived.Test.YtfbkamgdkdnpoaaGreatDoorThPlace
import Derived.Test.YtfbkamgdkdnpoaaGreatDoorPrint1021
namespace Go.Proofs.YtfbkamgdkdnpoaaGreatDoor.Pure
open Go.RowKit Go.Proofs.YtfbkamgdkdnpoaaGreatDoor.Print Go.Proofs.YtfbkamgdkdnpoaaGreatDoorW.PrintWords Go.Proofs.YtfbkamgdkdnpoaaGreatDoorW.PrintLast Go.Proofs.YtfbkamgdkdnpoaaGreatDoorW.PrintMore Go.Proofs.YtfbkamgdkdnpoaaGreatDoor.Th
set_option linter.unusedVariables false
set_option linter.unusedSimpArgs false
theorem lags_l0 {at_ A W N A' W' N' o : Int} {l : List PS} (ho : -1125899906842624 < o ∧ o < 1125899906842624) (hn : ∀ p ∈ l, Near 576460752303423488 at_ p) (hl : l.length ≤ 32) (hR : RM A W N) (hN : N ≠ 0) (hR' : RM A' W' N') (hN' : N' ≠ 0) (a1 : -1237940039285380274899124224 ≤ A) (a2 : A ≤ 1237940039285380274899124224) (b1 : -1237940039285380274899124224 ≤ A') (b2 : A' ≤ 1237940039285380274899124224)
    (hs : ∀ p ∈ l, (0 ≤ o → A' * p.f2 / W' ≤ A * p.f2 / W ∧ A * p.f2 / W - o - 1 ≤ A' * p.f2 / W') ∧ (o ≤ 0 → A' * p.f2 / W' + o ≤ A * p.f2 / W ∧ A * p.f2 / W - 1 ≤ A' * p.f2 / W')) (d : Nat) : ∀ (k i : Nat), l.length - i = d → i ≤ l.length → d + 30 ≤ k →
    turnstonelaw10_PlaceLags.l0 k o (mx o (wrap64 (-o))) l (l.length : Int) (i : Int) at_ (A / 18446744073709551616) (A % 18446744073709551616) W N at_ (A' / 18446744073709551616) (A' % 18446744073709551616) W' N' = some true := by
  induction d with
  | zero =>
    intro k i hd hi hk
    obtain ⟨k, rfl⟩ : ∃ j, k = j + 1 := ⟨k - 1, by omega⟩
    rw [turnstonelaw10_PlaceLags.l0, if_neg (by omega)]
  | succ d ih =>
    intro k i hd hi hk
    obtain ⟨k, rfl⟩ : ∃ j, k = j + 1 := ⟨k - 1, by omega⟩
    have h : i < l.length := by omega
    have hm := List.getElem_mem h
    have hp := hn _ hm
    have c1 := hp.dof_C (by decide)
    unfold dof at c1
    obtain ⟨s1, s2⟩ := hs _ hm
    have r1 := read_near (b := at_) (A := A) (W := W) (N := N) (t := l[i].f0) (r := l[i].f1) (w := l[i].f2) (k := k) (by omega) hp.1.2.1 hR hN hp.2.1 a1 a2 (by omega) (by omega)
    have r2 := read_near (b := at_) (A := A') (W := W') (N := N') (t := l[i].f0) (r := l[i].f1) (w := l[i].f2) (k := k) (by omega) hp.1.2.1 hR' hN' hp.2.1 b1 b2 (by omega) (by omega)
    have o1 := (over_near (A := A) (W := W) (N := N) (D := dist l[i].f0 l[i].f1 l[i].f2 at_) hR hN hp.2.1 a1 a2 (by omega) (by omega)).2.2
    have o2 := (over_near (A := A') (W := W') (N := N') (D := dist l[i].f0 l[i].f1 l[i].f2 at_) hR' hN' hp.2.1 b1 b2 (by omega) (by omega)).2.2
    rw [turnstonelaw10_PlaceLags.l0, if_pos (by omega), if_pos (by omega), if_pos (by omega), rdp l i h, r1, Option.bind_some, r2, Option.bind_some, sub_eq o2 o1]
    have ez : (A' * l[i].f2 / W' - dist l[i].f0 l[i].f1 l[i].f2 at_) - (A * l[i].f2 / W - dist l[i].f0 l[i].f1 l[i].f2 at_) = A' * l[i].f2 / W' - A * l[i].f2 / W := by omega
    rw [ez]
    have hz : (0 ≤ o → -o - 1 ≤ A' * l[i].f2 / W' - A * l[i].f2 / W ∧ A' * l[i].f2 / W' - A * l[i].f2 / W ≤ 0) ∧ (o ≤ 0 → -1 ≤ A' * l[i].f2 / W' - A * l[i].f2 / W ∧ A' * l[i].f2 / W' - A * l[i].f2 / W ≤ -o) := by
      constructor
      · intro h0; have := s1 h0; omega
      · intro h0; have := s2 h0; omega
    generalize A' * l[i].f2 / W' - A * l[i].f2 / W = z at *
    have hz' : -1125899906842626 ≤ z ∧ z ≤ 1125899906842626 := by
      rcases Int.le_total 0 o with h0 | h0
      · have := hz.1 h0; omega
      · have := hz.2 h0; omega
    have sz : Sm z := by unfold Sm; omega
    have wz : wrap64 (-z) = -z := w_id (by omega) (by omega)
    have wo : wrap64 (-o) = -o := w_id (by omega) (by omega)
    have bo : 0 ≤ mx o (-o) ∧ o ≤ mx o (-o) ∧ -o ≤ mx o (-o) ∧ mx o (-o) ≤ 1125899906842624 := by unfold mx; split <;> omega
    have hmx : ¬ mx z (-z) > wrap64 (mx o (-o) + 2) := by
      rw [w_id (by omega) (by omega)]
      rcases Int.le_total 0 o with h0 | h0
      · have := hz.1 h0; unfold mx at bo ⊢; split <;> split <;> omega
      · have := hz.2 h0; unfold mx at bo ⊢; split <;> split <;> omega
    have hk' := ih k (i + 1) (by omega) (by omega) (by omega)
    rw [wo] at hk' ⊢
    rw [told_big sz.big, Option.bind_some, small_eq sz.big, if_pos sz, Option.bind_some, if_pos rfl]
    dsimp only
    rw [wz, if_neg hmx, wrap_succ h (by omega)]
    by_cases g1 : o > 0
    · have := hz.1 (by omega)
      rw [if_pos g1, if_neg (by omega), if_neg (by omega)]
      exact hk'
    · rw [if_neg g1]
      by_cases g2 : o < 0
      · have := hz.2 (by omega)
        rw [if_pos g2, if_neg (by omega)]
        exact hk'
      · rw [if_neg g2]
        exact hk'
theorem PlaceLags : turnstonelaw10_PlaceLags.Pure := by
  intro at_ l w o hat _ hl hw hob
  have hat := wf_u64 hat
  have hw32 := wf_u32 hw
  have hob := wf_i64 hob
  have hf : ∀ p ∈ l, FS p := fun p hp => wf_pos (hl p hp)
  refine ⟨1000, ?_⟩
  unfold turnstonelaw10_PlaceLags.f
  rw [show turnstonelaw10_awake.f = some true from rfl, Option.bind_some, if_pos rfl]
  have no : ∀ c d e f g, turnstonelaw10_PlaceLags.j0 1000 l w o true c d e f g = some true := by intro c d e f g; rw [turnstonelaw10_PlaceLags.j0, if_pos rfl]
  rcases near_cases hf (k := 1000) (by omega) with e | ⟨l1, l2, hn, e⟩
  · rw [e, Option.bind_some, if_neg (by simp), no]
  rw [e, Option.bind_some, if_pos rfl]
  dsimp only
  obtain ⟨hR, hN, w1, w2, h1, h2⟩ := near_facts hn l1 (by omega)
  have hmem : ∀ p ∈ l, 1 ≤ p.f2 ∧ p.f2 ≤ SW l := fun p hp => ⟨(hn p hp).2.1.1, SW_mem (fun q hq => (hn q hq).2.1) hp⟩
  have hlen : (l.length : Int) ≤ 31 := by omega
  generalize SA (dof at_) l = A at *
  generalize SW l = W at *
  by_cases c1 : w < 1
  · rw [if_pos c1, no]
  rw [if_neg c1]
  by_cases c2 : w > 1048576
  · rw [if_pos c2, no]
  rw [if_neg c2]
  by_cases c3 : o ≤ -1125899906842624
  · rw [if_pos c3, no]
  rw [if_neg c3]
  by_cases c4 : o ≥ 1125899906842624
  · rw [decide_eq_true c4, no]
  rw [decide_eq_false c4, turnstonelaw10_PlaceLags.j0, if_neg (by simp)]
  have hA : Big A := by unfold Big; omega
  obtain ⟨t, r, p1, p2, p3, p4, p5, p6, p7, p8⟩ := placed (c := 0) (o := o) (k := 999) (by omega) hat hR hN (show 1 ≤ w by omega) (by omega) h1 h2 (by omega) (by omega)
  have rp := p3
  unfold RP at rp
  have hm := place_mean (A := A) (W := W) (w := w) (o := o) (by omega)
  have own := place_own (A := A) (W := W) (w := w) (o := o) (by omega) (by omega)
  have m0 := Int.emod_nonneg (A * w - o * (W + w)) (show W ≠ 0 by omega)
  have m1 := Int.emod_lt_of_pos (A * w - o * (W + w)) (show 0 < W by omega)
  generalize (A * w - o * (W + w)) / W = d at *
  generalize (A * w - o * (W + w)) % W = ρ at *
  have hA' : Big (A + d) := by unfold Big; omega
  have hst : stepM A W (l.length : Int) d r w = some (A + d, W + w, (l.length : Int) + 1) := by
    unfold stepM
    rw [if_pos ⟨hR, p3, by omega, hA'⟩]
  have hR' : RM (A + d) (W + w) ((l.length : Int) + 1) := by unfold RM at *; omega
  have rd := read_near (b := at_) (A := A + d) (W := W + w) (N := (l.length : Int) + 1) (t := t) (r := r) (w := w) (k := 999) (by omega) ⟨by omega, by omega⟩ hR' (by omega) p3 (by omega) (by omega) (by omega) (by omega)
  have eo : (A + d) * w / (W + w) - d = o := by
    have : (A + d) * w - d * (W + w) = (A + d) * w + (W + w) * (-d) := by grind
    rw [this, Int.add_mul_ediv_left _ _ (by omega)] at own
    omega
  rw [p4, eo] at rd
  rw [p1, Option.bind_some]
  dsimp only
  rw [madd_eq (by omega) hA (by unfold Sm; omega) ⟨by omega, by omega⟩ hw32, p4, hst, Option.bind_some]
  dsimp only [tellM]
  rw [rd, Option.bind_some]
  simp only [reduceIte]
  rw [of_eq hob, Option.bind_some]
  simp only [beq_self_eq_true, Bool.not_true, Bool.or_self]
  rw [turnstonelaw10_PlaceLags.j1, if_neg (by simp)]
  exact lags_l0 (by omega) hn (by omega) hR hN hR' (by omega) (by omega) (by omega) (by omega) (by omega) (fun p hp => by
    obtain ⟨u1, u2⟩ := hmem p hp
    exact ⟨fun h0 => ⟨other_hi0 (by omega) (by omega) hm m0 (by omega) h0, other_lo (by omega) (by omega) hm m0 (by omega) (by omega) (by omega) u2 h0⟩, fun h0 => ⟨other_hi (by omega) (by omega) hm m0 (by omega) u2 h0, other_lo1 (by omega) (by omega) hm m0 (by omega) (by omega) (by omega) h0⟩⟩) l.length 998 0 (by omega) (by omega) (by omega)
end Go.Proofs.YtfbkamgdkdnpoaaGreatDoor.Pure
