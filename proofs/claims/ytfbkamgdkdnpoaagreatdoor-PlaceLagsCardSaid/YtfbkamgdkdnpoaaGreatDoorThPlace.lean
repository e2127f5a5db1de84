/- Where a task comes in, in whole numbers. -/
import Derived.Test.YtfbkamgdkdnpoaaGreatDoorThNear
import Derived.Test.YtfbkamgdkdnpoaaGreatDoorThAt
import Derived.Test.YtfbkamgdkdnpoaaGreatDoorPrint1020
namespace Go.Proofs.YtfbkamgdkdnpoaaGreatDoor.Th
open Go.RowKit Go.Proofs.YtfbkamgdkdnpoaaGreatDoor.Print Go.Proofs.YtfbkamgdkdnpoaaGreatDoorW.PrintWords Go.Proofs.YtfbkamgdkdnpoaaGreatDoorW.PrintLast Go.Proofs.YtfbkamgdkdnpoaaGreatDoorW.PrintMore Go.Proofs.YtfbkamgdkdnpoaaGreatDoor.Bits
set_option linter.unusedVariables false
set_option linter.unusedSimpArgs false
theorem place_no {b A W N c w o : Int} {k : Nat} (hk : 2 ≤ k) (hA : Big A) (hR : RM A W N) (hw : ¬ (1 ≤ w ∧ w ≤ 1048576)) : place_Place.f k b (A / 18446744073709551616) (A % 18446744073709551616) W N c w o = some (0, 0, 0, false) := by
  obtain ⟨k, rfl⟩ : ∃ j, k = j + 1 := ⟨k - 1, by omega⟩
  unfold place_Place.f
  rw [mright_eq hA (by unfold RM at hR; unfold Sm; omega), decide_eq_true hR, Option.bind_some, if_pos rfl]
  by_cases h : w < 1
  · rw [if_pos h, place_Place.j0, if_pos rfl]
  · rw [if_neg h, decide_eq_true (show w > 1048576 by omega), place_Place.j0, if_pos rfl]
/-- The distance is near. -/
theorem place_bound {A W w o B : Int} (hW : 1 ≤ W) (hw : 1 ≤ w) (h1 : -(B * W) ≤ A) (h2 : A ≤ B * W) (h3 : -1125899906842624 ≤ o) (h4 : o ≤ 1125899906842624) : -((B + 2251799813685248) * w) ≤ (A * w - o * (W + w)) / W ∧ (A * w - o * (W + w)) / W ≤ (B + 2251799813685248) * w := by
  have a1 : A * w ≤ B * W * w := Int.mul_le_mul_of_nonneg_right h2 (by omega)
  have a2 : -(B * W) * w ≤ A * w := Int.mul_le_mul_of_nonneg_right h1 (by omega)
  have b1 : o * (W + w) ≤ 1125899906842624 * (W + w) := Int.mul_le_mul_of_nonneg_right h4 (by omega)
  have b2 : -1125899906842624 * (W + w) ≤ o * (W + w) := Int.mul_le_mul_of_nonneg_right h3 (by omega)
  have c1 : W * 1 ≤ W * w := Int.mul_le_mul_of_nonneg_left hw (by omega)
  have c2 : 1 * w ≤ W * w := Int.mul_le_mul_of_nonneg_right hW (by omega)
  have e1 : (B + 2251799813685248) * w * W = B * W * w + 2251799813685248 * (W * w) := by grind
  have e2 : -(B * W) * w = -(B * W * w) := by rw [Int.neg_mul]
  constructor
  · apply Int.le_ediv_of_mul_le (by omega)
    rw [Int.neg_mul, e1]; omega
  · apply Int.le_of_lt_add_one
    apply Int.ediv_lt_of_lt_mul (by omega)
    rw [Int.add_mul, e1]; omega
/-- Where it is. -/
theorem placed {b A W N c w o : Int} {k : Nat} (hk : 14 ≤ k) (hb : 0 ≤ b ∧ b < 18446744073709551616) (hR : RM A W N) (hN : N ≠ 0) (hw : 1 ≤ w) (hw' : w ≤ 1048576) (h1 : -(576460752303423488 * W) ≤ A) (h2 : A ≤ 576460752303423488 * W) (h3 : -1125899906842624 ≤ o) (h4 : o ≤ 1125899906842624) :
    ∃ t r, place_Place.f k b (A / 18446744073709551616) (A % 18446744073709551616) W N c w o = some (t, r, w, true) ∧ (0 ≤ t ∧ t < 18446744073709551616) ∧ RP r w ∧ dist t r w b = (A * w - o * (W + w)) / W ∧ t = (b + (A * w - o * (W + w)) / W / w) % 18446744073709551616 ∧ r = (A * w - o * (W + w)) / W % w ∧ (-578712552117108736 ≤ (A * w - o * (W + w)) / W / w ∧ (A * w - o * (W + w)) / W / w ≤ 578712552117108736) ∧ (-606824093048749409959936 ≤ (A * w - o * (W + w)) / W ∧ (A * w - o * (W + w)) / W ≤ 606824093048749409959936) := by
  have hW : 1 ≤ W ∧ W ≤ 33554432 := by unfold RM at hR; omega
  obtain ⟨d1, d2⟩ := place_bound hW.1 hw h1 h2 h3 h4
  have hA : -19342813113834066795298816 ≤ A ∧ A ≤ 19342813113834066795298816 := by omega
  have m1 : -20282409603651670423947251286016 ≤ A * w ∧ A * w ≤ 20282409603651670423947251286016 := by
    have a1 : A * w ≤ 19342813113834066795298816 * w := Int.mul_le_mul_of_nonneg_right hA.2 (by omega)
    have a2 : -19342813113834066795298816 * w ≤ A * w := Int.mul_le_mul_of_nonneg_right hA.1 (by omega)
    omega
  have m2 : -38959760613976719130624 ≤ o * (W + w) ∧ o * (W + w) ≤ 38959760613976719130624 := by
    have b1 : o * (W + w) ≤ 1125899906842624 * (W + w) := Int.mul_le_mul_of_nonneg_right h4 (by omega)
    have b2 : -1125899906842624 * (W + w) ≤ o * (W + w) := Int.mul_le_mul_of_nonneg_right h3 (by omega)
    omega
  have hAb : Big A := by unfold Big; omega
  have g1 : Big (A * w) := by unfold Big; omega
  have g2 : Big (o * (W + w)) := by unfold Big; omega
  have g3 : Big (A * w - o * (W + w)) := by unfold Big; omega
  have so : Sm o := by unfold Sm; omega
  have sw : Sm w := by unfold Sm; omega
  have sWw : Sm (W + w) := by unfold Sm; omega
  have gd : Big ((A * w - o * (W + w)) / W) := by unfold Big; omega
  have q : -578712552117108736 ≤ (A * w - o * (W + w)) / W / w ∧ (A * w - o * (W + w)) / W / w ≤ 578712552117108736 := by
    constructor
    · apply Int.le_ediv_of_mul_le (by omega)
      omega
    · apply Int.le_of_lt_add_one
      apply Int.ediv_lt_of_lt_mul (by omega)
      omega
  have dd : -606824093048749409959936 ≤ (A * w - o * (W + w)) / W ∧ (A * w - o * (W + w)) / W ≤ 606824093048749409959936 := by omega
  have sq : Sm ((A * w - o * (W + w)) / W / w) := by unfold Sm; omega
  have r0 := Int.emod_nonneg ((A * w - o * (W + w)) / W) (show w ≠ 0 by omega)
  have r1 := Int.emod_lt_of_pos ((A * w - o * (W + w)) / W) (show 0 < w by omega)
  refine ⟨(b + (A * w - o * (W + w)) / W / w) % 18446744073709551616, (A * w - o * (W + w)) / W % w, ?_, by omega, ⟨hw, hw', r0, r1⟩, ?_, rfl, rfl, q, dd⟩
  · obtain ⟨k, rfl⟩ : ∃ j, k = j + 2 := ⟨k - 2, by omega⟩
    unfold place_Place.f
    rw [mright_eq hAb (by unfold RM at hR; unfold Sm; omega), decide_eq_true hR, Option.bind_some, if_pos rfl, if_neg (by omega), decide_eq_false (by omega), place_Place.j0, if_neg (by simp), if_neg hN, w_id (n := w) (by omega) (by omega), w_id (n := W) (by omega) (by omega), w_id (n := W + w) (by omega) (by omega), mul_eq (by omega) hAb sw, told_big g1, Option.bind_some, of_eq so, Option.bind_some, mul_eq (by omega) so.big sWw, told_big g2, Option.bind_some, sub_eq g1 g2, told_big g3, Option.bind_some, if_pos rfl, if_pos rfl]
    rw [place_Place.j1]
    dsimp only
    rw [if_neg (by simp), div_eq (by omega) g3 (by omega) (by omega), Option.bind_some]
    dsimp only
    rw [at_eq (by omega) gd (by omega) (by omega)]
    unfold place
    rw [if_pos ⟨hw, hw'⟩, if_pos sq, Option.bind_some]
  · unfold dist
    have : wrap64 ((b + (A * w - o * (W + w)) / W / w) % 18446744073709551616 - b) = (A * w - o * (W + w)) / W / w := by rw [w64]; omega
    rw [this]
    exact Int.mul_ediv_add_emod _ _
theorem near_l0  {at_ : Int} {l : List PS} (hf : ∀ p ∈ l, FS p) (hl : l.length ≤ 32) {R} (hend : ∀ k, 300 ≤ k → (∀ p ∈ l, Near 576460752303423488 at_ p) → turnstonelaw10_near.l0 (k + 1) at_ l l (l.length : Int) (l.length : Int) = R) (d : Nat) : ∀ (k i : Nat), l.length - i = d → i ≤ l.length → (∀ p ∈ l.take i, Near 576460752303423488 at_ p) → d + 301 ≤ k →
    turnstonelaw10_near.l0 k at_ l l (l.length : Int) (i : Int) = R ∨ turnstonelaw10_near.l0 k at_ l l (l.length : Int) (i : Int) = some (0, 0, 0, 0, 0, false) := by
  induction d with
  | zero =>
    intro k i hd hi hn hk
    obtain ⟨k, rfl⟩ : ∃ j, k = j + 1 := ⟨k - 1, by omega⟩
    have : i = l.length := by omega
    subst this
    rw [List.take_length] at hn
    exact Or.inl (hend k (by omega) hn)
  | succ d ih =>
    intro k i hd hi hn hk
    obtain ⟨k, rfl⟩ : ∃ j, k = j + 1 := ⟨k - 1, by omega⟩
    have h : i < l.length := by omega
    have hF := hf _ (List.getElem_mem h)
    have e : turnstonelaw10_near.l0 (k + 1) at_ l l (l.length : Int) (i : Int) = if RP l[i].f1 l[i].f2 then (if wrap64 (l[i].f0 - at_) ≤ -576460752303423488 then some (0, 0, 0, 0, 0, false) else if wrap64 (l[i].f0 - at_) ≥ 576460752303423488 then some (0, 0, 0, 0, 0, false) else turnstonelaw10_near.l0 k at_ l l (l.length : Int) ((i + 1 : Nat) : Int)) else some (0, 0, 0, 0, 0, false) := by
      rw [turnstonelaw10_near.l0, if_pos (by omega), if_pos (by omega), if_pos (by omega), rdp l i h, since_eq, Option.bind_some, right_eq _ _ hF.2.1.1, Option.bind_some, wrap_succ h (by omega)]
      by_cases hR : RP l[i].f1 l[i].f2
      · rw [decide_eq_true hR, if_pos rfl, if_pos hR]
      · rw [decide_eq_false hR, if_neg (by simp), if_neg hR]
    rw [e]
    by_cases hR : RP l[i].f1 l[i].f2
    · rw [if_pos hR]
      by_cases h1 : wrap64 (l[i].f0 - at_) ≤ -576460752303423488
      · rw [if_pos h1]; exact Or.inr rfl
      · rw [if_neg h1]
        by_cases h2 : wrap64 (l[i].f0 - at_) ≥ 576460752303423488
        · rw [if_pos h2]; exact Or.inr rfl
        · rw [if_neg h2]
          refine ih k (i + 1) (by omega) (by omega) ?_ (by omega)
          intro p hp
          rw [List.take_succ_eq_append_getElem h] at hp
          rcases List.mem_append.1 hp with hp | hp
          · exact hn p hp
          · rw [List.mem_singleton.1 hp]
            exact ⟨hF, hR, by omega, by omega⟩
    · rw [if_neg hR]; exact Or.inr rfl
theorem near_cases {at_ : Int} {l : List PS} (hf : ∀ p ∈ l, FS p) {k : Nat} (hk : 400 ≤ k) :
    turnstonelaw10_near.f k at_ l = some (0, 0, 0, 0, 0, false) ∨ (1 ≤ l.length ∧ l.length ≤ 31 ∧ (∀ p ∈ l, Near 576460752303423488 at_ p) ∧ turnstonelaw10_near.f k at_ l = some (at_, SA (dof at_) l / 18446744073709551616, SA (dof at_) l % 18446744073709551616, SW l, (l.length : Int), true)) := by
  obtain ⟨k, rfl⟩ : ∃ j, k = j + 1 := ⟨k - 1, by omega⟩
  unfold turnstonelaw10_near.f
  have no : turnstonelaw10_near.j0 (k + 1) at_ l true = some (0, 0, 0, 0, 0, false) := by rw [turnstonelaw10_near.j0, if_pos rfl]
  by_cases h : (l.length : Int) > 31
  · rw [if_pos h, no]; exact Or.inl rfl
  rw [if_neg h]
  by_cases h0 : (l.length : Int) = 0
  · rw [show ((l.length : Int) == 0) = true by simp [h0], no]; exact Or.inl rfl
  rw [show ((l.length : Int) == 0) = false by simpa using h0, turnstonelaw10_near.j0, if_neg (by simp)]
  by_cases hall : ∀ p ∈ l, Near 576460752303423488 at_ p
  · rcases near_l0 (at_ := at_) hf (by omega) (R := some (at_, SA (dof at_) l / 18446744073709551616, SA (dof at_) l % 18446744073709551616, SW l, (l.length : Int), true)) (fun k hk hn => by
      rw [turnstonelaw10_near.l0, if_neg (by omega), near_of (by decide) hn (by omega) (by omega), Option.bind_some]) l.length k 0 (by omega) (by omega) (by intro p hp; simp at hp) (by omega) with e | e
    · exact Or.inr ⟨by omega, by omega, hall, e⟩
    · exact Or.inl e
  · rcases near_l0 (at_ := at_) hf (by omega) (R := some (0, 0, 0, 0, 0, false)) (fun k hk hn => absurd hn hall) l.length k 0 (by omega) (by omega) (by intro p hp; simp at hp) (by omega) with e | e
    · exact Or.inl e
    · exact Or.inl e
/-- What positions nearer than 2^59 to a time have together. -/
theorem near_facts {at_ : Int} {l : List PS} (hn : ∀ p ∈ l, Near 576460752303423488 at_ p) (h1 : 1 ≤ l.length) (h2 : l.length ≤ 32) : RM (SA (dof at_) l) (SW l) l.length ∧ (l.length : Int) ≠ 0 ∧ 1 ≤ SW l ∧ SW l ≤ 33554432 ∧ -(576460752303423488 * SW l) ≤ SA (dof at_) l ∧ SA (dof at_) l ≤ 576460752303423488 * SW l := by
  obtain ⟨hR, a1, a2⟩ := near_RM (by decide) hn h2
  have hSW := SW_le (l := l) (fun p hp => (hn p hp).2.1)
  have hSA := SA_le (f := dof at_) (B := 576460752303423488) (l := l) (fun p hp => (hn p hp).dof_le)
  exact ⟨hR, by omega, by omega, by omega, hSA.1, hSA.2⟩
end Go.Proofs.YtfbkamgdkdnpoaaGreatDoor.Th
