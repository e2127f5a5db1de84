/- LagMoves, over numbers alone: who is served some grains is owed no more than ahead, and less by at most these; all others are owed no less, and more by at most these. -/
import Derived.Test.YtfbkamgdkdnpoaaGreatDoorThErase
import Derived.Test.YtfbkamgdkdnpoaaGreatDoorThWeigh
import Derived.Test.YtfbkamgdkdnpoaaGreatDoorThMove
import Derived.Test.YtfbkamgdkdnpoaaGreatDoorPrint1006
namespace Go.Proofs.YtfbkamgdkdnpoaaGreatDoor.Pure
open Go.RowKit Go.Proofs.YtfbkamgdkdnpoaaGreatDoor.Print Go.Proofs.YtfbkamgdkdnpoaaGreatDoorW.PrintWords Go.Proofs.YtfbkamgdkdnpoaaGreatDoorW.PrintLast Go.Proofs.YtfbkamgdkdnpoaaGreatDoorW.PrintMore Go.Proofs.YtfbkamgdkdnpoaaGreatDoor.Th
set_option linter.unusedVariables false
set_option linter.unusedSimpArgs false
theorem moves_l0 {i8 g : Int} {at_ : Int} {l : List PS} (hf : ∀ p ∈ l, FS p) (hl : l.length ≤ 32) {R} (hend : ∀ k, 300 ≤ k → (∀ p ∈ l, Near 576460752303423488 at_ p) → turnstonelaw09_LagMoves.l0 (k + 1) at_ l i8 g l (l.length : Int) (l.length : Int) = R) (d : Nat) : ∀ (k i : Nat), l.length - i = d → i ≤ l.length → (∀ p ∈ l.take i, Near 576460752303423488 at_ p) → d + 301 ≤ k →
    turnstonelaw09_LagMoves.l0 k at_ l i8 g l (l.length : Int) (i : Int) = R ∨ turnstonelaw09_LagMoves.l0 k at_ l i8 g l (l.length : Int) (i : Int) = some true := by
  induction d with
  | zero =>
    intro k i hd hi hn hk
    obtain ⟨k, rfl⟩ : ∃ j, k = j + 1 := ⟨k - 1, by omega⟩
    have : i = l.length := by omega
    subst this
    rw [List.take_length] at hn
    exact Or.inl (hend k (by omega) hn)
  | succ d ih =>
    intro k i hd hi hn hk
    obtain ⟨k, rfl⟩ : ∃ j, k = j + 1 := ⟨k - 1, by omega⟩
    have h : i < l.length := by omega
    have hF := hf _ (List.getElem_mem h)
    have e : turnstonelaw09_LagMoves.l0 (k + 1) at_ l i8 g l (l.length : Int) (i : Int) = if RP l[i].f1 l[i].f2 then (if wrap64 (l[i].f0 - at_) ≤ -576460752303423488 then some true else if wrap64 (l[i].f0 - at_) ≥ 576460752303423488 then some true else turnstonelaw09_LagMoves.l0 k at_ l i8 g l (l.length : Int) ((i + 1 : Nat) : Int)) else some true := by
      rw [turnstonelaw09_LagMoves.l0, if_pos (by omega), if_pos (by omega), if_pos (by omega), rdp l i h, since_eq, Option.bind_some, right_eq _ _ hF.2.1.1, Option.bind_some, wrap_succ h (by omega)]
      by_cases hR : RP l[i].f1 l[i].f2
      · rw [decide_eq_true hR, if_pos rfl, if_pos hR]
      · rw [decide_eq_false hR, if_neg (by simp), if_neg hR]
    rw [e]
    by_cases hR : RP l[i].f1 l[i].f2
    · rw [if_pos hR]
      by_cases h1 : wrap64 (l[i].f0 - at_) ≤ -576460752303423488
      · rw [if_pos h1]; exact Or.inr rfl
      · rw [if_neg h1]
        by_cases h2 : wrap64 (l[i].f0 - at_) ≥ 576460752303423488
        · rw [if_pos h2]; exact Or.inr rfl
        · rw [if_neg h2]
          refine ih k (i + 1) (by omega) (by omega) ?_ (by omega)
          intro p hp
          rw [List.take_succ_eq_append_getElem h] at hp
          rcases List.mem_append.1 hp with hp | hp
          · exact hn p hp
          · rw [List.mem_singleton.1 hp]
            exact ⟨hF, hR, by omega, by omega⟩
    · rw [if_neg hR]; exact Or.inr rfl
theorem moves_l1 {at_ g : Int} {l : List PS} {j : Nat} {t r : Int} (hj : j < l.length) (hg : 0 ≤ g ∧ g ≤ 288230376151711744) (hn : ∀ p ∈ l, Near 576460752303423488 at_ p) (hl : l.length ≤ 32) (hr : RP r l[j].f2) (hD : dist t r l[j].f2 at_ = dof at_ l[j] + g) (d : Nat) : ∀ (k i : Nat), l.length - i = d → i ≤ l.length → 2 * d + 60 ≤ k →
    turnstonelaw09_LagMoves.l1 k g (j : Int) l (l.length : Int) (i : Int) t r l[j].f2 at_ (SA (dof at_) l / 18446744073709551616) (SA (dof at_) l % 18446744073709551616) (SW l) (l.length : Int) at_ ((SA (dof at_) l + g) / 18446744073709551616) ((SA (dof at_) l + g) % 18446744073709551616) (SW l) (l.length : Int) = some true := by
  obtain ⟨hR, a1, a2⟩ := near_RM (by decide) hn hl
  have hSW := SW_le (l := l) (fun p hp => (hn p hp).2.1)
  have hmem : ∀ p ∈ l, 1 ≤ p.f2 ∧ p.f2 ≤ SW l := fun p hp => ⟨(hn p hp).2.1.1, SW_mem (fun q hq => (hn q hq).2.1) hp⟩
  generalize SA (dof at_) l = A at *
  generalize SW l = W at *
  induction d with
  | zero =>
    intro k i hd hi hk
    obtain ⟨k, rfl⟩ : ∃ j, k = j + 1 := ⟨k - 1, by omega⟩
    rw [turnstonelaw09_LagMoves.l1, if_neg (by omega)]
  | succ d ih =>
    intro k i hd hi hk
    obtain ⟨k, rfl⟩ : ∃ j, k = j + 2 := ⟨k - 2, by omega⟩
    have h : i < l.length := by omega
    have hm := List.getElem_mem h
    have hp := hn _ hm
    have c1 := hp.dof_C (by decide)
    have cj := (hn _ (List.getElem_mem hj)).dof_C (by decide)
    obtain ⟨u1, u2⟩ := hmem _ hm
    have hN0 : (l.length : Int) ≠ 0 := by omega
    have hW : 0 < W := by omega
    have hR' : RM (A + g) W (l.length : Int) := by unfold RM at *; omega
    have hmn : (A + g) * W = A * W - -g * W - 0 := by grind
    have y1 := other_lo0 (u := l[i].f2) hW hW hmn (by omega) (by omega)
    have y2 := other_hi (u := l[i].f2) hW hW hmn (by omega) (by omega) u2 (by omega)
    have hk' := ih k (i + 1) (by omega) (by omega) (by omega)
    have ed : dof at_ l[i] = dist l[i].f0 l[i].f1 l[i].f2 at_ := rfl
    rw [ed] at c1
    have r1 := read_near (b := at_) (A := A) (W := W) (N := (l.length : Int)) (t := l[i].f0) (r := l[i].f1) (w := l[i].f2) (k := k) (by omega) hp.1.2.1 hR hN0 hp.2.1 (by omega) (by omega) (by omega) (by omega)
    have o1 := (over_near (A := A) (W := W) (N := (l.length : Int)) (D := dist l[i].f0 l[i].f1 l[i].f2 at_) hR hN0 hp.2.1 (by omega) (by omega) (by omega) (by omega)).2.2
    have w1 : wrap64 g = g := w_id (by omega) (by omega)
    have w2 : wrap64 (-g) = -g := w_id (by omega) (by omega)
    have w3 : wrap64 (g + 1) = g + 1 := w_id (by omega) (by omega)
    rw [turnstonelaw09_LagMoves.l1, if_pos (by omega), if_pos (by omega), if_pos (by omega), rdp l i h]
    by_cases hij : i = j
    · subst hij
      rw [if_pos rfl, turnstonelaw09_LagMoves.j4, r1, Option.bind_some]
      have hrr := hr
      unfold RP at hrr
      have r2 := read_near (b := at_) (A := A + g) (W := W) (N := (l.length : Int)) (t := t) (r := r) (w := l[i].f2) (k := k) (by omega) ⟨by omega, by omega⟩ hR' hN0 hr (by omega) (by omega) (by omega) (by omega)
      have o2 := (over_near (A := A + g) (W := W) (N := (l.length : Int)) (D := dist t r l[i].f2 at_) hR' hN0 hr (by omega) (by omega) (by omega) (by omega)).2.2
      rw [r2, Option.bind_some]
      dsimp only
      rw [sub_eq o2 o1, diff_told (z := (A + g) * l[i].f2 / W - A * l[i].f2 / W - g) o1 o2 (by rw [hD, ed]; omega) (by omega) (by omega), Option.bind_some]
      dsimp only
      have sz : Sm ((A + g) * l[i].f2 / W - A * l[i].f2 / W - g) := by unfold Sm; omega
      rw [small_eq sz.big, if_pos sz, Option.bind_some, if_pos rfl, if_pos rfl]
      dsimp only
      rw [if_neg (by omega), w1, w2, if_neg (by omega), wrap_succ h (by omega)]
      exact hk'
    · rw [if_neg (by omega), turnstonelaw09_LagMoves.j4, r1, Option.bind_some]
      have r2 := read_near (b := at_) (A := A + g) (W := W) (N := (l.length : Int)) (t := l[i].f0) (r := l[i].f1) (w := l[i].f2) (k := k) (by omega) hp.1.2.1 hR' hN0 hp.2.1 (by omega) (by omega) (by omega) (by omega)
      have o2 := (over_near (A := A + g) (W := W) (N := (l.length : Int)) (D := dist l[i].f0 l[i].f1 l[i].f2 at_) hR' hN0 hp.2.1 (by omega) (by omega) (by omega) (by omega)).2.2
      rw [r2, Option.bind_some]
      dsimp only
      rw [sub_eq o2 o1, diff_told (z := (A + g) * l[i].f2 / W - A * l[i].f2 / W) o1 o2 (by omega) (by omega) (by omega), Option.bind_some]
      dsimp only
      have sz : Sm ((A + g) * l[i].f2 / W - A * l[i].f2 / W) := by unfold Sm; omega
      rw [small_eq sz.big, if_pos sz, Option.bind_some, if_pos rfl, if_neg (by omega)]
      dsimp only
      rw [if_neg (by omega), w1, w3, if_neg (by omega), wrap_succ h (by omega)]
      exact hk'
theorem LagMoves : turnstonelaw09_LagMoves.Pure := by
  intro at_ l i8 g hat _ hl hi8 hg
  have hat := wf_u64 hat
  have hi8 := wf_u8 hi8
  have hg := wf_u64 hg
  have hf : ∀ p ∈ l, FS p := fun p hp => wf_pos (hl p hp)
  refine ⟨1000, ?_⟩
  unfold turnstonelaw09_LagMoves.f
  rw [show turnstonelaw09_awake.f = some true from rfl, Option.bind_some, if_pos rfl]
  have no : turnstonelaw09_LagMoves.j0 1000 at_ l i8 g true = some true := by rw [turnstonelaw09_LagMoves.j0, if_pos rfl]
  by_cases h : (l.length : Int) > 32
  · rw [if_pos h, no]
  rw [if_neg h]
  by_cases h0 : (l.length : Int) = 0
  · rw [if_pos h0, no]
  rw [if_neg h0]
  by_cases h2 : g > 288230376151711744
  · rw [decide_eq_true h2, no]
  rw [decide_eq_false h2, turnstonelaw09_LagMoves.j0, if_neg (by simp)]
  have := moves_l0 (i8 := i8) (g := g) (at_ := at_) hf (by omega) (R := some true) (fun k hk hn => by
    obtain ⟨j, hj, ej⟩ := index hi8.1 hi8.2 (show 0 < l.length by omega)
    obtain ⟨k, rfl⟩ : ∃ j, k = j + 1 := ⟨k - 1, by omega⟩
    obtain ⟨hR, a1, a2⟩ := near_RM (by decide) hn (by omega)
    obtain ⟨s1, _, s3⟩ := rest_RM (by decide) hn (by omega) j hj
    have hp := hn _ (List.getElem_mem hj)
    have c1 := hp.dof_C (by decide)
    have hRp := hp.2.1
    have hRp' := hRp
    unfold RP at hRp'
    obtain ⟨_, _, n1, n2⟩ := hp
    have hF := hf _ (List.getElem_mem hj)
    have q : 0 ≤ (g + l[j].f1) / l[j].f2 ∧ (g + l[j].f1) / l[j].f2 ≤ 288230376152760320 := by
      constructor
      · exact Int.ediv_nonneg (by omega) (by omega)
      · apply Int.le_of_lt_add_one
        apply Int.ediv_lt_of_lt_mul (by omega)
        omega
    have em := Int.mul_ediv_add_emod (g + l[j].f1) l[j].f2
    have r0 := Int.emod_nonneg (g + l[j].f1) (show l[j].f2 ≠ 0 by omega)
    have r1 := Int.emod_lt_of_pos (g + l[j].f1) (show 0 < l[j].f2 by omega)
    have hmv : pos_Pos_Move.f (k + 1) l[j].f0 l[j].f1 l[j].f2 g = some ((l[j].f0 + (g + l[j].f1) / l[j].f2) % 18446744073709551616, (g + l[j].f1) % l[j].f2, l[j].f2, true) := by
      rw [move_eq (by omega) hF.2.1.1 hF.2.1.2 hF.2.2.1 hF.2.2.2 hg.1 hg.2]
      unfold place
      rw [if_pos ⟨hRp'.1, hRp'.2.1⟩, if_pos (by unfold Sm; omega)]
    have hD : dist ((l[j].f0 + (g + l[j].f1) / l[j].f2) % 18446744073709551616) ((g + l[j].f1) % l[j].f2) l[j].f2 at_ = dof at_ l[j] + g := by
      have e : wrap64 ((l[j].f0 + (g + l[j].f1) / l[j].f2) % 18446744073709551616 - at_) = wrap64 (l[j].f0 - at_) + (g + l[j].f1) / l[j].f2 := by
        rw [w64] at n1 n2 ⊢
        rw [w64]; omega
      unfold dof dist
      rw [e, Int.mul_add]; omega
    have ed : dof at_ l[j] = dist l[j].f0 l[j].f1 l[j].f2 at_ := rfl
    have hA : Big (SA (dof at_) l) := by unfold Big; omega
    have tk := mtake_eq (k := k + 1) (by omega) hat hA hR (by omega) hRp s3 (by rw [← ed]; unfold Big; omega) (by rw [← ed]; exact s1)
    rw [← ed] at tk
    have hst : stepM (SA (dof at_) l - dof at_ l[j]) (SW l - l[j].f2) ((l.length : Int) - 1) (dof at_ l[j] + g) ((g + l[j].f1) % l[j].f2) l[j].f2 = some (SA (dof at_) l + g, SW l, (l.length : Int)) := by
      unfold stepM
      have e1 : SA (dof at_) l - dof at_ l[j] + (dof at_ l[j] + g) = SA (dof at_) l + g := by omega
      have e2 : SW l - l[j].f2 + l[j].f2 = SW l := by omega
      have e3 : (l.length : Int) - 1 + 1 = (l.length : Int) := by omega
      rw [if_pos ⟨s1, ⟨hRp'.1, hRp'.2.1, r0, r1⟩, by omega, by rw [e1]; unfold Big; omega⟩, e1, e2, e3]
    rw [turnstonelaw09_LagMoves.l0, if_neg (by omega), if_neg h0, ej, if_pos (by omega), if_pos (by omega), rdp l j hj, hmv, Option.bind_some, near_of (by decide) hn (by omega) (by omega), Option.bind_some]
    dsimp only
    rw [tk, Option.bind_some]
    dsimp only
    rw [madd_eq (by omega) (by unfold Big; omega) (by unfold Sm; omega) ⟨by omega, by omega⟩ hF.2.2, hD, hst, Option.bind_some]
    dsimp only [tellM]
    simp only [reduceIte, Bool.not_true]
    rw [turnstonelaw09_LagMoves.j2, if_neg (by simp)]
    exact moves_l1 hj ⟨hg.1, by omega⟩ hn (by omega) ⟨hRp'.1, hRp'.2.1, r0, r1⟩ hD l.length k 0 (by omega) (by omega) (by omega)) l.length 999 0 (by omega) (by omega) (by intro p hp; simp at hp) (by omega)
  rcases this with h | h <;> exact h
end Go.Proofs.YtfbkamgdkdnpoaaGreatDoor.Pure
