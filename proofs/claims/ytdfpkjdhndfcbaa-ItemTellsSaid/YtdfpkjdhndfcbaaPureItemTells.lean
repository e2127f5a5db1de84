/- ItemTells, over numbers alone: whether an item may be, how it is shifted, and of two that may be which stands, and is due, ahead, are the document's. -/
import Derived.Test.YtdfpkjdhndfcbaaThPosRef
import Derived.Test.YtdfpkjdhndfcbaaThRight
import Derived.Test.YtdfpkjdhndfcbaaThPosCmp
import Derived.Test.YtdfpkjdhndfcbaaPrint1011
import Derived.Test.YtdfpkjdhndfcbaaPrint1005
import Derived.Test.YtdfpkjdhndfcbaaPrint1000
import Derived.Test.YtdfpkjdhndfcbaaPrint1001
import Derived.Test.YtdfpkjdhndfcbaaPrint1009
import Derived.Test.YtdfpkjdhndfcbaaPrint1010
namespace Go.Proofs.Ytdfpkjdhndfcbaa.Pure
open Go.RowKit Go.Proofs.Ytdfpkjdhndfcbaa.Print Go.Proofs.YtdfpkjdhndfcbaaW.PrintWords Go.Proofs.YtdfpkjdhndfcbaaW.PrintLast Go.Proofs.YtdfpkjdhndfcbaaW.PrintMore Go.Proofs.Ytdfpkjdhndfcbaa.Th
set_option linter.unusedVariables false
set_option linter.unusedSimpArgs false
theorem chain {A B C D E F : Prop} [Decidable C] [Decidable D] [Decidable E] [Decidable F] [Decidable (A ∧ B ∧ C ∧ D ∧ E ∧ F)] (a : A) (b : B) : (if C then (if D then (if E then some (decide F) else some false) else some false) else some false) = some (decide (A ∧ B ∧ C ∧ D ∧ E ∧ F)) := by
  by_cases c : C <;> by_cases d : D <;> by_cases e : E <;> simp [a, b, c, d, e]
theorem iright_eq {t r w id x y z : Int} (hr : 0 ≤ r) (hy : 0 ≤ y) : item_Item_Right.f t r w id x y z = some (decide (RP r w ∧ RP y z ∧ w = z ∧ id > 0 ∧ 0 ≤ wrap64 (x - t) ∧ wrap64 (x - t) ≤ 1152921504606846976)) := by
  unfold item_Item_Right.f
  rw [since_eq, Option.bind_some, right_eq t w hr, Option.bind_some]
  by_cases hp : RP r w
  · rw [decide_eq_true hp, if_pos rfl, right_eq x z hy, Option.bind_some]
    by_cases hq : RP y z
    · rw [decide_eq_true hq, if_pos rfl]
      exact chain hp hq
    · rw [decide_eq_false hq, if_neg (by simp), decide_eq_false (fun h => hq h.2.1)]
  · rw [decide_eq_false hp, if_neg (by simp), decide_eq_false (fun h => hp h.1)]
theorem rright5_eq {t r w id x y z : Int} {k : Nat} (hk : 2000 ≤ k) (ht : 0 ≤ t ∧ t < 18446744073709551616) (hx : 0 ≤ x ∧ x < 18446744073709551616) (hr : 0 ≤ r) (hy : 0 ≤ y) : turnstoneref05_Right.f k t r w id x y z = some (decide (RP r w ∧ RP y z ∧ w = z ∧ id > 0 ∧ 0 ≤ wrap64 (x - t) ∧ wrap64 (x - t) ≤ 1152921504606846976)) := by
  unfold turnstoneref05_Right.f
  have hs := (Sm_wrap (x - t)).sz
  have hp60 := bpow 60 (by omega) (k := k) (by omega)
  rw [show (2 : Int) ^ 60 = 1152921504606846976 by decide, show ((60 : Nat) : Int) = 60 from rfl] at hp60
  rw [bsince hx ht (by omega), Option.bind_some, rright_eq t w hr, Option.bind_some]
  dsimp only
  by_cases hp : RP r w
  · rw [decide_eq_true hp, if_pos rfl, rright_eq x z hy, Option.bind_some]
    by_cases hq : RP y z
    · rw [decide_eq_true hq, if_pos rfl, bsign, Option.bind_some, hp60, Option.bind_some]
      dsimp only
      rw [bcmp hs (by unfold Sz; omega) (by omega), Option.bind_some]
      have e : (sgn (wrap64 (x - t) - 1152921504606846976) ≤ 0) = (wrap64 (x - t) ≤ 1152921504606846976) := by
        rw [eq_iff_iff]; unfold sgn; split <;> (try split) <;> omega
      have hc := chain (C := w = z) (D := id > 0) (E := sgn (wrap64 (x - t)) ≥ 0) (F := sgn (wrap64 (x - t) - 1152921504606846976) ≤ 0) hp hq
      rw [hc]
      congr 1
      rw [decide_eq_decide, sgn_nonneg, e]
    · rw [decide_eq_false hq, if_neg (by simp), decide_eq_false (fun h => hq h.2.1)]
  · rw [decide_eq_false hp, if_neg (by simp), decide_eq_false (fun h => hp h.1)]
theorem ItemTells : turnstonelaw05_ItemTells.Pure := by
  intro t1 r1 w1 id1 x1 y1 z1 t2 r2 w2 id2 x2 y2 z2 by_ a1 a2 a3 a4 a5 a6 a7 b1 b2 b3 b4 b5 b6 b7 c1
  have a1 := wf_u64 a1
  have a2 := wf_u32 a2
  have a3 := wf_u32 a3
  have a5 := wf_u64 a5
  have a6 := wf_u32 a6
  have a7 := wf_u32 a7
  have b1 := wf_u64 b1
  have b2 := wf_u32 b2
  have b3 := wf_u32 b3
  have b5 := wf_u64 b5
  have b6 := wf_u32 b6
  have b7 := wf_u32 b7
  have of5 : ∀ t r w id x y z : Int, turnstonelaw05_Of.f t r w id x y z = some (t, r, w, id, x, y, z) := fun _ _ _ _ _ _ _ => rfl
  obtain ⟨⟨s1, s2, s3⟩, hs⟩ : ∃ s, pos_Pos_Shift.f t1 r1 w1 by_ = some s := ⟨_, rfl⟩
  obtain ⟨⟨u1, u2, u3⟩, hu⟩ : ∃ s, pos_Pos_Shift.f x1 y1 z1 by_ = some s := ⟨_, rfl⟩
  refine ⟨3000, ?_⟩
  unfold turnstonelaw05_ItemTells.f
  rw [show turnstonelaw05_awake.f = some true from rfl, Option.bind_some, if_pos rfl]
  unfold item_Item_Shift.f
  rw [hs, Option.bind_some, hu, Option.bind_some, Option.bind_some, iright_eq a2.1 a6.1, Option.bind_some, of5, Option.bind_some]
  dsimp only
  rw [rright5_eq (by omega) a1 a5 a2.1 a6.1, Option.bind_some, if_neg (by simp), Option.bind_some]
  simp only [beq_self_eq_true, Bool.not_true, Bool.or_self, Bool.false_eq_true, if_false, Option.bind_some, bne_self_eq_false]
  rw [turnstonelaw05_ItemTells.j0, if_neg (by simp), of5, Option.bind_some]
  dsimp only
  rw [rright5_eq (by omega) a1 a5 a2.1 a6.1, Option.bind_some, of5, Option.bind_some]
  dsimp only
  rw [rright5_eq (by omega) b1 b5 b2.1 b6.1, Option.bind_some]
  have e1 : item_Item_Ahead.f 2999 t1 r1 w1 id1 x1 y1 z1 t2 r2 w2 id2 x2 y2 z2 = turnstoneref05_Ahead.f 2999 t1 r1 w1 id1 x1 y1 z1 t2 r2 w2 id2 x2 y2 z2 := by
    unfold item_Item_Ahead.f turnstoneref05_Ahead.f
    rw [cmp_eq (by omega) a2 a3 b2 b3, rcmp_eq (by omega) a1 a2 a3 b1 b2 b3]
  have e2 : item_Item_Due.f 2999 t1 r1 w1 id1 x1 y1 z1 t2 r2 w2 id2 x2 y2 z2 = turnstoneref05_Due.f 2999 t1 r1 w1 id1 x1 y1 z1 t2 r2 w2 id2 x2 y2 z2 := by
    unfold item_Item_Due.f turnstoneref05_Due.f
    rw [cmp_eq (by omega) a6 a7 b6 b7, rcmp_eq (by omega) a5 a6 a7 b5 b6 b7, e1]
  have x1' : ∃ b, turnstoneref05_Ahead.f 2999 t1 r1 w1 id1 x1 y1 z1 t2 r2 w2 id2 x2 y2 z2 = some b := by
    unfold turnstoneref05_Ahead.f
    rw [rcmp_eq (by omega) a1 a2 a3 b1 b2 b3, Option.bind_some]
    repeat' split
    all_goals exact ⟨_, rfl⟩
  obtain ⟨b, hb⟩ := x1'
  have x2' : ∃ c, turnstoneref05_Due.f 2999 t1 r1 w1 id1 x1 y1 z1 t2 r2 w2 id2 x2 y2 z2 = some c := by
    unfold turnstoneref05_Due.f
    rw [rcmp_eq (by omega) a5 a6 a7 b5 b6 b7, Option.bind_some, hb, Option.bind_some]
    repeat' split
    all_goals exact ⟨_, rfl⟩
  obtain ⟨c, hc⟩ := x2'
  split
  · split
    · simp only [e1, e2, hb, hc, of5, Option.bind_some, beq_self_eq_true, if_true]
    · rfl
  · rfl
end Go.Proofs.Ytdfpkjdhndfcbaa.Pure
