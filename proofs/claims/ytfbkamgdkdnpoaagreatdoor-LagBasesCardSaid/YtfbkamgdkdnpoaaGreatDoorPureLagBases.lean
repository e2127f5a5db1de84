/- LagBases, over numbers alone: the lag hangs on no base. For at most 32 positions nearer than 2^60 to a time. -/
import Derived.Test.YtfbkamgdkdnpoaaGreatDoorThNear
import Derived.Test.YtfbkamgdkdnpoaaGreatDoorPrint1013
import Derived.Test.YtfbkamgdkdnpoaaGreatDoorPrint1003
namespace Go.Proofs.YtfbkamgdkdnpoaaGreatDoor.Pure
open Go.RowKit Go.Proofs.YtfbkamgdkdnpoaaGreatDoor.Print Go.Proofs.YtfbkamgdkdnpoaaGreatDoorW.PrintWords Go.Proofs.YtfbkamgdkdnpoaaGreatDoorW.PrintLast Go.Proofs.YtfbkamgdkdnpoaaGreatDoorW.PrintMore Go.Proofs.YtfbkamgdkdnpoaaGreatDoor.Th
set_option linter.unusedVariables false
set_option linter.unusedSimpArgs false
theorem bases_l0 {g : Int} {at_ : Int} {l : List PS} (hf : ∀ p ∈ l, FS p) (hl : l.length ≤ 32) {R} (hend : ∀ k, 300 ≤ k → (∀ p ∈ l, Near 1152921504606846976 at_ p) → turnstonelaw09_LagBases.l0 (k + 1) at_ l g l (l.length : Int) (l.length : Int) = R) (d : Nat) : ∀ (k i : Nat), l.length - i = d → i ≤ l.length → (∀ p ∈ l.take i, Near 1152921504606846976 at_ p) → d + 301 ≤ k →
    turnstonelaw09_LagBases.l0 k at_ l g l (l.length : Int) (i : Int) = R ∨ turnstonelaw09_LagBases.l0 k at_ l g l (l.length : Int) (i : Int) = some true := by
  induction d with
  | zero =>
    intro k i hd hi hn hk
    obtain ⟨k, rfl⟩ : ∃ j, k = j + 1 := ⟨k - 1, by omega⟩
    have : i = l.length := by omega
    subst this
    rw [List.take_length] at hn
    exact Or.inl (hend k (by omega) hn)
  | succ d ih =>
    intro k i hd hi hn hk
    obtain ⟨k, rfl⟩ : ∃ j, k = j + 1 := ⟨k - 1, by omega⟩
    have h : i < l.length := by omega
    have hF := hf _ (List.getElem_mem h)
    have e : turnstonelaw09_LagBases.l0 (k + 1) at_ l g l (l.length : Int) (i : Int) = if RP l[i].f1 l[i].f2 then (if wrap64 (l[i].f0 - at_) ≤ -1152921504606846976 then some true else if wrap64 (l[i].f0 - at_) ≥ 1152921504606846976 then some true else turnstonelaw09_LagBases.l0 k at_ l g l (l.length : Int) ((i + 1 : Nat) : Int)) else some true := by
      rw [turnstonelaw09_LagBases.l0, if_pos (by omega), if_pos (by omega), if_pos (by omega), rdp l i h, since_eq, Option.bind_some, right_eq _ _ hF.2.1.1, Option.bind_some, wrap_succ h (by omega)]
      by_cases hR : RP l[i].f1 l[i].f2
      · rw [decide_eq_true hR, if_pos rfl, if_pos hR]
      · rw [decide_eq_false hR, if_neg (by simp), if_neg hR]
    rw [e]
    by_cases hR : RP l[i].f1 l[i].f2
    · rw [if_pos hR]
      by_cases h1 : wrap64 (l[i].f0 - at_) ≤ -1152921504606846976
      · rw [if_pos h1]; exact Or.inr rfl
      · rw [if_neg h1]
        by_cases h2 : wrap64 (l[i].f0 - at_) ≥ 1152921504606846976
        · rw [if_pos h2]; exact Or.inr rfl
        · rw [if_neg h2]
          refine ih k (i + 1) (by omega) (by omega) ?_ (by omega)
          intro p hp
          rw [List.take_succ_eq_append_getElem h] at hp
          rcases List.mem_append.1 hp with hp | hp
          · exact hn p hp
          · rw [List.mem_singleton.1 hp]
            exact ⟨hF, hR, by omega, by omega⟩
    · rw [if_neg hR]; exact Or.inr rfl
theorem bases_l1 {at_ g : Int} {l : List PS} (hN : ∀ p ∈ l, Near 1152921504606846976 at_ p) (hl : l.length ≤ 32) (hg : -1152921504606846976 ≤ g ∧ g ≤ 1152921504606846976) (d : Nat) : ∀ (k i : Nat), l.length - i = d → i ≤ l.length → d + 60 ≤ k →
    turnstonelaw09_LagBases.l1 k true true l (l.length : Int) (i : Int) at_ (SA (dof at_) l / 18446744073709551616) (SA (dof at_) l % 18446744073709551616) (SW l) (l.length : Int) ((at_ + g) % 18446744073709551616) ((SA (dof at_) l - SW l * g) / 18446744073709551616) ((SA (dof at_) l - SW l * g) % 18446744073709551616) (SW l) (l.length : Int) = some true := by
  obtain ⟨hR, a1, a2⟩ := near_RM (by decide) hN hl
  have hSW := SW_le (l := l) (fun p hp => (hN p hp).2.1)
  generalize hS : SA (dof at_) l = S at *
  generalize hW : SW l = W at *
  induction d with
  | zero =>
    intro k i hd hi hk
    obtain ⟨k, rfl⟩ : ∃ j, k = j + 1 := ⟨k - 1, by omega⟩
    rw [turnstonelaw09_LagBases.l1, if_neg (by omega), if_pos rfl]
  | succ d ih =>
    intro k i hd hi hk
    obtain ⟨k, rfl⟩ : ∃ j, k = j + 1 := ⟨k - 1, by omega⟩
    have h : i < l.length := by omega
    have hp := hN _ (List.getElem_mem h)
    obtain ⟨sh, _⟩ := hp.shift (by decide) hg
    have c1 := hp.dof_C (by decide)
    have hw : 1 ≤ l[i].f2 ∧ l[i].f2 ≤ 1048576 := by have := hp.2.1; unfold RP at this; omega
    have m1 : -1208925819614629174706176 ≤ l[i].f2 * g ∧ l[i].f2 * g ≤ 1208925819614629174706176 := by
      rcases Int.lt_or_le g 0 with hx | hx
      · have := mul_w (B := -g) (w := l[i].f2) (by omega) (by omega) (by omega) (by omega)
        have m := mul_below (a := -g) (b := l[i].f2) (c := 1152921504606846976) (d := 1048576) (by omega) (by omega) (by omega) (by omega)
        rw [Int.neg_mul, Int.mul_comm] at m; omega
      · have m := mul_below (a := g) (b := l[i].f2) (c := 1152921504606846976) (d := 1048576) (by omega) (by omega) (by omega) (by omega)
        rw [Int.mul_comm] at m; omega
    have m2 : -38685626227668133590597632 ≤ W * g ∧ W * g ≤ 38685626227668133590597632 := by
      rcases Int.lt_or_le g 0 with hx | hx
      · have m := mul_below (a := -g) (b := W) (c := 1152921504606846976) (d := 33554432) (by omega) (by omega) (by omega) (by omega)
        rw [Int.neg_mul, Int.mul_comm] at m; omega
      · have m := mul_below (a := g) (b := W) (c := 1152921504606846976) (d := 33554432) (by omega) (by omega) (by omega) (by omega)
        rw [Int.mul_comm] at m; omega
    have hN0 : (l.length : Int) ≠ 0 := by omega
    have hR' : RM (S - W * g) W l.length := by unfold RM at hR ⊢; omega
    have r1 := read_near (b := at_) (A := S) (W := W) (N := l.length) (t := l[i].f0) (r := l[i].f1) (w := l[i].f2) (k := k) (by omega) hp.1.2.1 hR hN0 hp.2.1 (by omega) (by omega) (by unfold dof at c1; omega) (by unfold dof at c1; omega)
    have r2 := read_near (b := (at_ + g) % 18446744073709551616) (A := S - W * g) (W := W) (N := l.length) (t := l[i].f0) (r := l[i].f1) (w := l[i].f2) (k := k) (by omega) hp.1.2.1 hR' hN0 hp.2.1 (by omega) (by omega) (by unfold dof at sh c1; omega) (by unfold dof at sh c1; omega)
    have eq : (S - W * g) * l[i].f2 / W - dist l[i].f0 l[i].f1 l[i].f2 ((at_ + g) % 18446744073709551616) = S * l[i].f2 / W - dist l[i].f0 l[i].f1 l[i].f2 at_ := by
      have e : (S - W * g) * l[i].f2 = S * l[i].f2 + W * (-(l[i].f2 * g)) := by grind
      rw [e, Int.add_mul_ediv_left _ _ (by omega)]
      unfold dof at sh; rw [sh]; omega
    rw [eq] at r2
    have hA : Big S := by unfold Big; omega
    have hA' : Big (S - W * g) := by unfold Big; omega
    have hSm : Sm (l.length : Int) := by unfold Sm; omega
    have hw' : 0 ≤ l[i].f2 ∧ l[i].f2 < 4294967296 := by omega
    have o1 := (over_near (A := S) (W := W) (N := l.length) (D := dist l[i].f0 l[i].f1 l[i].f2 at_) hR hN0 hp.2.1 (by omega) (by omega) (by unfold dof at c1; omega) (by unfold dof at c1; omega)).1
    have o2 := (over_near (A := S - W * g) (W := W) (N := l.length) (D := dist l[i].f0 l[i].f1 l[i].f2 ((at_ + g) % 18446744073709551616)) hR' hN0 hp.2.1 (by omega) (by omega) (by unfold dof at sh c1; omega) (by unfold dof at sh c1; omega)).1
    have eo : (S - W * g) * l[i].f2 - dist l[i].f0 l[i].f1 l[i].f2 ((at_ + g) % 18446744073709551616) * W = S * l[i].f2 - dist l[i].f0 l[i].f1 l[i].f2 at_ * W := by
      unfold dof at sh; rw [sh]; grind
    rw [eo] at o2
    rw [turnstonelaw09_LagBases.l1, if_pos (by omega), if_pos (by omega), if_pos (by omega), rdp l i h, r1, Option.bind_some, r2, Option.bind_some, elig_eq (by omega) hA hSm hp.1.2.1 hw', o1, elig_eq (by omega) hA' hSm hp.1.2.1 hw', o2, wrap_succ h (by omega)]
    simp only [if_true, beq_self_eq_true, Bool.not_true, Bool.or_self, Bool.false_eq_true, if_false, Option.bind_some, bne_self_eq_false]
    exact ih k (i + 1) (by omega) (by omega) (by omega)
theorem LagBases : turnstonelaw09_LagBases.Pure := by
  intro at_ l g hat _ hl hg
  have hat := wf_u64 hat
  have hg := wf_i64 hg
  have hf : ∀ p ∈ l, FS p := fun p hp => wf_pos (hl p hp)
  refine ⟨1000, ?_⟩
  unfold turnstonelaw09_LagBases.f
  rw [show turnstonelaw09_awake.f = some true from rfl, Option.bind_some, if_pos rfl]
  have no : turnstonelaw09_LagBases.j0 1000 at_ l g true = some true := by rw [turnstonelaw09_LagBases.j0, if_pos rfl]
  by_cases h : (l.length : Int) > 32
  · rw [if_pos h, no]
  rw [if_neg h]
  by_cases h1 : g ≤ -1152921504606846976
  · rw [if_pos h1, no]
  rw [if_neg h1]
  by_cases h2 : g ≥ 1152921504606846976
  · rw [decide_eq_true h2, no]
  rw [decide_eq_false h2, turnstonelaw09_LagBases.j0, if_neg (by simp)]
  have := bases_l0 (g := g) (at_ := at_) hf (by omega) (R := some true) (fun k hk hn => by
    obtain ⟨hR, a1, a2⟩ := near_RM (by decide) hn (by omega)
    have hSW := SW_le (l := l) (fun p hp => (hn p hp).2.1)
    have hA : Big (SA (dof at_) l) := by unfold Big; omega
    have m2 : -38685626227668133590597632 ≤ SW l * g ∧ SW l * g ≤ 38685626227668133590597632 := by
      rcases Int.lt_or_le g 0 with hx | hx
      · have m := mul_below (a := -g) (b := SW l) (c := 1152921504606846976) (d := 33554432) (by omega) (by omega) (by omega) (by omega)
        rw [Int.neg_mul, Int.mul_comm] at m; omega
      · have m := mul_below (a := g) (b := SW l) (c := 1152921504606846976) (d := 33554432) (by omega) (by omega) (by omega) (by omega)
        rw [Int.mul_comm] at m; omega
    have s1 : wrap64 ((at_ + g) % 18446744073709551616 - at_) = g := by rw [w64]; omega
    have b1 : Big (SW l) := by unfold Big; omega
    have b2 : Big (SW l * g) := by unfold Big; omega
    have b3 : Big (SA (dof at_) l - SW l * g) := by unfold Big; omega
    rw [turnstonelaw09_LagBases.l0, if_neg (by omega), near_of (by decide) hn (by omega) (by omega), Option.bind_some, later_eq, Option.bind_some]
    dsimp only
    unfold mean_Mean_Rebase.f
    rw [mright_eq hA (by unfold Sm; omega), decide_eq_true hR, Option.bind_some, if_pos rfl, ofU_eq (by omega) (by omega), Option.bind_some, since_eq, s1, Option.bind_some, mul_eq (by omega) b1 hg, told_big b2, Option.bind_some, sub_eq hA b2, told_big b3]
    exact bases_l1 hn (by omega) (by omega) l.length k 0 (by omega) (by omega) (by omega)) l.length 999 0 (by omega) (by omega) (by intro p hp; simp at hp) (by omega)
  rcases this with h | h <;> exact h
end Go.Proofs.YtfbkamgdkdnpoaaGreatDoor.Pure
