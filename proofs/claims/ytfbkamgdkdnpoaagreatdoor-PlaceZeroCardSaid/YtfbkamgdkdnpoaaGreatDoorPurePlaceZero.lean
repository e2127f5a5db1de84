/- PlaceZero, over numbers alone: who comes in without a lag leaves all lags as they were, but for a grain. -/
import Derived.Test.YtfbkamgdkdnpoaaGreatDoorThPlace
import Derived.Test.YtfbkamgdkdnpoaaGreatDoorThFloor
import Derived.Test.YtfbkamgdkdnpoaaGreatDoorPrint1022
namespace Go.Proofs.YtfbkamgdkdnpoaaGreatDoor.Pure
open Go.RowKit Go.Proofs.YtfbkamgdkdnpoaaGreatDoor.Print Go.Proofs.YtfbkamgdkdnpoaaGreatDoorW.PrintWords Go.Proofs.YtfbkamgdkdnpoaaGreatDoorW.PrintLast Go.Proofs.YtfbkamgdkdnpoaaGreatDoorW.PrintMore Go.Proofs.YtfbkamgdkdnpoaaGreatDoor.Th
set_option linter.unusedVariables false
set_option linter.unusedSimpArgs false
theorem zero_l0 {at_ A W N A' W' N' : Int} {l : List PS} (hn : ∀ p ∈ l, Near 576460752303423488 at_ p) (hl : l.length ≤ 32) (hR : RM A W N) (hN : N ≠ 0) (hR' : RM A' W' N') (hN' : N' ≠ 0) (a1 : -1237940039285380274899124224 ≤ A) (a2 : A ≤ 1237940039285380274899124224) (b1 : -1237940039285380274899124224 ≤ A') (b2 : A' ≤ 1237940039285380274899124224)
    (hs : ∀ p ∈ l, A' * p.f2 / W' ≤ A * p.f2 / W ∧ A * p.f2 / W - 1 ≤ A' * p.f2 / W') (d : Nat) : ∀ (k i : Nat), l.length - i = d → i ≤ l.length → d + 30 ≤ k →
    turnstonelaw10_PlaceZero.l0 k l (l.length : Int) (i : Int) at_ (A / 18446744073709551616) (A % 18446744073709551616) W N at_ (A' / 18446744073709551616) (A' % 18446744073709551616) W' N' = some true := by
  induction d with
  | zero =>
    intro k i hd hi hk
    obtain ⟨k, rfl⟩ : ∃ j, k = j + 1 := ⟨k - 1, by omega⟩
    rw [turnstonelaw10_PlaceZero.l0, if_neg (by omega)]
  | succ d ih =>
    intro k i hd hi hk
    obtain ⟨k, rfl⟩ : ∃ j, k = j + 1 := ⟨k - 1, by omega⟩
    have h : i < l.length := by omega
    have hm := List.getElem_mem h
    have hp := hn _ hm
    have c1 := hp.dof_C (by decide)
    unfold dof at c1
    obtain ⟨s1, s2⟩ := hs _ hm
    have r1 := read_near (b := at_) (A := A) (W := W) (N := N) (t := l[i].f0) (r := l[i].f1) (w := l[i].f2) (k := k) (by omega) hp.1.2.1 hR hN hp.2.1 a1 a2 (by omega) (by omega)
    have r2 := read_near (b := at_) (A := A') (W := W') (N := N') (t := l[i].f0) (r := l[i].f1) (w := l[i].f2) (k := k) (by omega) hp.1.2.1 hR' hN' hp.2.1 b1 b2 (by omega) (by omega)
    have o1 := (over_near (A := A) (W := W) (N := N) (D := dist l[i].f0 l[i].f1 l[i].f2 at_) hR hN hp.2.1 a1 a2 (by omega) (by omega)).2.2
    have o2 := (over_near (A := A') (W := W') (N := N') (D := dist l[i].f0 l[i].f1 l[i].f2 at_) hR' hN' hp.2.1 b1 b2 (by omega) (by omega)).2.2
    rw [turnstonelaw10_PlaceZero.l0, if_pos (by omega), if_pos (by omega), if_pos (by omega), rdp l i h, r1, Option.bind_some, r2, Option.bind_some, sub_eq o1 o2]
    have ez : (A * l[i].f2 / W - dist l[i].f0 l[i].f1 l[i].f2 at_) - (A' * l[i].f2 / W' - dist l[i].f0 l[i].f1 l[i].f2 at_) = A * l[i].f2 / W - A' * l[i].f2 / W' := by omega
    rw [ez]
    generalize A * l[i].f2 / W - A' * l[i].f2 / W' = z at *
    have hz : 0 ≤ z ∧ z ≤ 1 := by omega
    have sz : Sm z := by unfold Sm; omega
    rw [told_big sz.big, Option.bind_some, small_eq sz.big, if_pos sz, Option.bind_some, if_pos rfl, if_neg (by omega), if_neg (by omega), wrap_succ h (by omega)]
    exact ih k (i + 1) (by omega) (by omega) (by omega)
theorem PlaceZero : turnstonelaw10_PlaceZero.Pure := by
  intro at_ l w hat _ hl hw
  have hat := wf_u64 hat
  have hw32 := wf_u32 hw
  have hf : ∀ p ∈ l, FS p := fun p hp => wf_pos (hl p hp)
  refine ⟨1000, ?_⟩
  unfold turnstonelaw10_PlaceZero.f
  rw [show turnstonelaw10_awake.f = some true from rfl, Option.bind_some, if_pos rfl]
  have no : ∀ c d e f g, turnstonelaw10_PlaceZero.j0 1000 l w true c d e f g = some true := by intro c d e f g; rw [turnstonelaw10_PlaceZero.j0, if_pos rfl]
  rcases near_cases hf (k := 1000) (by omega) with e | ⟨l1, l2, hn, e⟩
  · rw [e, Option.bind_some, if_neg (by simp), no]
  rw [e, Option.bind_some, if_pos rfl]
  dsimp only
  obtain ⟨hR, hN, w1, w2, h1, h2⟩ := near_facts hn l1 (by omega)
  have hmem : ∀ p ∈ l, 1 ≤ p.f2 ∧ p.f2 ≤ SW l := fun p hp => ⟨(hn p hp).2.1.1, SW_mem (fun q hq => (hn q hq).2.1) hp⟩
  have hlen : (l.length : Int) ≤ 31 := by omega
  generalize SA (dof at_) l = A at *
  generalize SW l = W at *
  by_cases c1 : w < 1
  · rw [if_pos c1, no]
  rw [if_neg c1]
  by_cases c2 : w > 1048576
  · rw [decide_eq_true c2, no]
  rw [decide_eq_false c2, turnstonelaw10_PlaceZero.j0, if_neg (by simp)]
  have hA : Big A := by unfold Big; omega
  obtain ⟨t, r, p1, p2, p3, p4, p5, p6, p7, p8⟩ := placed (c := 0) (o := 0) (k := 999) (by omega) hat hR hN (show 1 ≤ w by omega) (by omega) h1 h2 (by omega) (by omega)
  have rp := p3
  unfold RP at rp
  have hm := place_mean (A := A) (W := W) (w := w) (o := 0) (by omega)
  have m0 := Int.emod_nonneg (A * w - 0 * (W + w)) (show W ≠ 0 by omega)
  have m1 := Int.emod_lt_of_pos (A * w - 0 * (W + w)) (show 0 < W by omega)
  generalize (A * w - 0 * (W + w)) / W = d at *
  generalize (A * w - 0 * (W + w)) % W = ρ at *
  have hA' : Big (A + d) := by unfold Big; omega
  have hst : stepM A W (l.length : Int) d r w = some (A + d, W + w, (l.length : Int) + 1) := by
    unfold stepM
    rw [if_pos ⟨hR, p3, by omega, hA'⟩]
  have hR' : RM (A + d) (W + w) ((l.length : Int) + 1) := by unfold RM at *; omega
  have f1 := other_hi0 (u := 1) (by omega) (by omega) hm m0 (by omega) (by omega)
  have f2 := other_lo1 (u := 1) (by omega) (by omega) hm m0 (by omega) (by omega) (by omega) (by omega)
  rw [Int.mul_one, Int.mul_one] at f1 f2
  have g1 : -576460752303423488 ≤ A / W ∧ A / W ≤ 576460752303423488 := by
    constructor
    · apply Int.le_ediv_of_mul_le (by omega)
      omega
    · apply Int.le_of_lt_add_one
      apply Int.ediv_lt_of_lt_mul (by omega)
      omega
  rw [p1, Option.bind_some]
  dsimp only
  rw [madd_eq (by omega) hA (by unfold Sm; omega) ⟨by omega, by omega⟩ hw32, p4, hst, Option.bind_some]
  dsimp only [tellM]
  rw [mfloor_eq (by omega) hA (by unfold Sm; omega), Option.bind_some, mfloor_eq (by omega) hA' (by unfold Sm; omega), Option.bind_some]
  unfold floorM
  rw [if_pos (show RM A W (l.length : Int) ∧ (l.length : Int) ≠ 0 ∧ Sm (A / W) from ⟨hR, hN, by unfold Sm; omega⟩), if_pos (show RM (A + d) (W + w) ((l.length : Int) + 1) ∧ (l.length : Int) + 1 ≠ 0 ∧ Sm ((A + d) / (W + w)) from ⟨hR', by omega, by unfold Sm; omega⟩)]
  simp only [reduceIte]
  rw [since_eq, Option.bind_some]
  have es : wrap64 ((at_ + A / W) % 18446744073709551616 - (at_ + (A + d) / (W + w)) % 18446744073709551616) = A / W - (A + d) / (W + w) := by rw [w64]; omega
  rw [es, if_neg (by omega), decide_eq_false (by omega), turnstonelaw10_PlaceZero.j1, if_neg (by simp)]
  exact zero_l0 hn (by omega) hR hN hR' (by omega) (by omega) (by omega) (by omega) (by omega) (fun p hp => by
    obtain ⟨u1, u2⟩ := hmem p hp
    exact ⟨other_hi0 (by omega) (by omega) hm m0 (by omega) (by omega), other_lo1 (by omega) (by omega) hm m0 (by omega) (by omega) (by omega) (by omega)⟩) l.length 998 0 (by omega) (by omega) (by omega)
end Go.Proofs.YtfbkamgdkdnpoaaGreatDoor.Pure
