/- PosFloors, over numbers alone: the least and the greatest difference of any positions' times are the document's. For at most 100 positions. -/
import Derived.Test.YtimgiiceipjpaaaThBigTime
import Derived.Test.YtimgiiceipjpaaaPrint1008
import Derived.Test.YtimgiiceipjpaaaPrint1007
namespace Go.Proofs.Ytimgiiceipjpaaa.Pure
open Go.RowKit Go.Proofs.Ytimgiiceipjpaaa.Print Go.Proofs.YtimgiiceipjpaaaW.PrintWords Go.Proofs.YtimgiiceipjpaaaW.PrintLast Go.Proofs.YtimgiiceipjpaaaW.PrintMore Go.Proofs.Ytimgiiceipjpaaa.Th
set_option linter.unusedVariables false
set_option linter.unusedSimpArgs false
abbrev PF := S67
theorem rdf (l : List PF) (i : Nat) (h : i < l.length) : rd_T67 l (i : Int) = l[i] := by
  unfold rd_T67
  simp [h]
/-- The least and the greatest of what is still to come, and of what was (lo, hi), unless there was none. -/
def ends (base : Int) : Nat → Int → Int → List PF → Int × Int
  | _, lo, hi, [] => (lo, hi)
  | 0, lo, hi, p :: l => ends base 1 (wrap64 (p.f0 - base)) (wrap64 (p.f0 - base)) l
  | n + 1, lo, hi, p :: l => ends base (n + 2) (mn lo (wrap64 (p.f0 - base))) (mx hi (wrap64 (p.f0 - base))) l
theorem floors_l0 {base : Int} {l : List PF} (hl : l.length ≤ 1000) (d : Nat) : ∀ (k i : Nat) (lo hi : Int), l.length - i = d → i ≤ l.length → d < k → pos_Floors.l0 k base lo hi l (l.length : Int) (i : Int) = some (ends base i lo hi (l.drop i)) := by
  induction d with
  | zero =>
    intro k i lo hi hd hi' hk
    obtain ⟨k, rfl⟩ : ∃ j, k = j + 1 := ⟨k - 1, by omega⟩
    rw [pos_Floors.l0, if_neg (by omega), List.drop_of_length_le (by omega)]
    cases i <;> rfl
  | succ d ih =>
    intro k i lo hi hd hi' hk
    obtain ⟨k, rfl⟩ : ∃ j, k = j + 1 := ⟨k - 1, by omega⟩
    have h : i < l.length := by omega
    rw [pos_Floors.l0, if_pos (by omega), if_pos (by omega), if_pos (by omega), rdf l i h, since_eq, Option.bind_some, wrap_succ h (by omega), List.drop_eq_getElem_cons h]
    cases i with
    | zero =>
      have m1 : mn (wrap64 (l[0].f0 - base)) (wrap64 (l[0].f0 - base)) = wrap64 (l[0].f0 - base) := by unfold mn; split <;> rfl
      have m2 : mx (wrap64 (l[0].f0 - base)) (wrap64 (l[0].f0 - base)) = wrap64 (l[0].f0 - base) := by unfold mx; split <;> rfl
      rw [if_pos (by omega), m1, m2]
      exact ih k 1 _ _ (by omega) (by omega) (by omega)
    | succ i =>
      rw [if_neg (by omega)]
      exact ih k (i + 2) _ _ (by omega) (by omega) (by omega)
theorem sgn_pos {x : Int} : (sgn x > 0) = (x > 0) := by unfold sgn; rw [eq_iff_iff]; split <;> (try split) <;> omega
theorem floors_law {base : Int} (hb : 0 ≤ base ∧ base < 18446744073709551616) {l : List PF} (hl : l.length ≤ 100) (hf : ∀ p ∈ l, 0 ≤ p.f0 ∧ p.f0 < 18446744073709551616) {A B : Int} (hA : Sm A) (hB : Sm B) (d : Nat) : ∀ (k i : Nat) (lo hi : Int), l.length - i = d → i ≤ l.length → 2 * d + 600 ≤ k → Sm lo → Sm hi → ends base i lo hi (l.drop i) = (A, B) →
    turnstonelaw04_PosFloors.l0 k base A B l (l.length : Int) (i : Int) (bn lo) (bl lo) (bn hi) (bl hi) = some true := by
  induction d with
  | zero =>
    intro k i lo hi hd hi' hk hlo hhi he
    obtain ⟨k, rfl⟩ : ∃ j, k = j + 1 := ⟨k - 1, by omega⟩
    rw [List.drop_of_length_le (by omega)] at he
    have he : (lo, hi) = (A, B) := by cases i <;> exact he
    obtain ⟨rfl, rfl⟩ := Prod.mk.inj he
    rw [turnstonelaw04_PosFloors.l0, if_neg (by omega), bN hlo (by omega), Option.bind_some, bcmp hlo.sz hlo.sz (by omega), Option.bind_some, Int.sub_self, if_pos (show sgn 0 = 0 by decide), bN hhi (by omega), Option.bind_some, bcmp hhi.sz hhi.sz (by omega), Option.bind_some, Int.sub_self]
    rfl
  | succ d ih =>
    intro k i lo hi hd hi' hk hlo hhi he
    obtain ⟨k, rfl⟩ : ∃ j, k = j + 2 := ⟨k - 2, by omega⟩
    have h : i < l.length := by omega
    have hp := hf _ (List.getElem_mem h)
    have hs := Sm_wrap (l[i].f0 - base)
    rw [List.drop_eq_getElem_cons h] at he
    rw [turnstonelaw04_PosFloors.l0, if_pos (by omega), if_pos (by omega), if_pos (by omega), rdf l i h, bsince hp hb (by omega), Option.bind_some]
    cases i with
    | zero =>
      rw [if_pos (by omega), turnstonelaw04_PosFloors.j1, if_pos rfl, if_pos (by omega), wrap_succ h (by omega)]
      exact ih k 1 _ _ (by omega) (by omega) (by omega) hs hs he
    | succ i =>
      simp only [ends] at he
      rw [if_neg (by omega), bcmp hs.sz hlo.sz (by omega), Option.bind_some, turnstonelaw04_PosFloors.j1, if_neg (show ¬ (((i + 1 : Nat) : Int) = 0) by omega), if_neg (show ¬ (((i + 1 : Nat) : Int) = 0) by omega), bcmp hs.sz hhi.sz (by omega), Option.bind_some, wrap_succ h (by omega)]
      generalize wrap64 (l[i + 1].f0 - base) = x at *
      by_cases h1 : x < lo
      · have e1 : mn lo x = x := by unfold mn; split <;> omega
        rw [decide_eq_true (show sgn (x - lo) < 0 by rw [sgn_neg]; omega), if_pos rfl]
        by_cases h2 : x > hi
        · have e2 : mx hi x = x := by unfold mx; split <;> omega
          (try rw [Option.bind_some]); rw [if_pos (show sgn (x - hi) > 0 by rw [sgn_pos]; omega)]
          rw [e1, e2] at he
          exact ih k (i + 2) _ _ (by omega) (by omega) (by omega) hs hs he
        · have e2 : mx hi x = hi := by unfold mx; split <;> omega
          (try rw [Option.bind_some]); rw [if_neg (show ¬ sgn (x - hi) > 0 by rw [sgn_pos]; omega)]
          rw [e1, e2] at he
          exact ih k (i + 2) _ _ (by omega) (by omega) (by omega) hs hhi he
      · have e1 : mn lo x = lo := by unfold mn; split <;> omega
        rw [decide_eq_false (show ¬ sgn (x - lo) < 0 by rw [sgn_neg]; omega), if_neg (by simp)]
        by_cases h2 : x > hi
        · have e2 : mx hi x = x := by unfold mx; split <;> omega
          (try rw [Option.bind_some]); rw [if_pos (show sgn (x - hi) > 0 by rw [sgn_pos]; omega)]
          rw [e1, e2] at he
          exact ih k (i + 2) _ _ (by omega) (by omega) (by omega) hlo hs he
        · have e2 : mx hi x = hi := by unfold mx; split <;> omega
          (try rw [Option.bind_some]); rw [if_neg (show ¬ sgn (x - hi) > 0 by rw [sgn_pos]; omega)]
          rw [e1, e2] at he
          exact ih k (i + 2) _ _ (by omega) (by omega) (by omega) hlo hhi he
theorem ends_sm (base : Int) : ∀ (l : List PF) (n : Nat) (lo hi : Int), Sm lo → Sm hi → Sm (ends base n lo hi l).1 ∧ Sm (ends base n lo hi l).2
  | [], n, lo, hi, h1, h2 => by cases n <;> exact ⟨h1, h2⟩
  | p :: l, 0, lo, hi, h1, h2 => ends_sm base l 1 _ _ (Sm_wrap _) (Sm_wrap _)
  | p :: l, n + 1, lo, hi, h1, h2 => by
    have h3 := Sm_wrap (p.f0 - base)
    exact ends_sm base l (n + 2) _ _ (by unfold mn; split <;> assumption) (by unfold mx; split <;> assumption)
theorem PosFloors : turnstonelaw04_PosFloors.Pure := by
  intro base l hb _ hl
  have hb := wf_u64 hb
  have hf : ∀ p ∈ l, 0 ≤ p.f0 ∧ p.f0 < 18446744073709551616 := fun p hp => wf_u64 (hl p hp).1
  refine ⟨2000, ?_⟩
  unfold turnstonelaw04_PosFloors.f
  rw [show turnstonelaw04_awake.f = some true from rfl, Option.bind_some, if_pos rfl]
  by_cases h : (l.length : Int) > 100
  · rw [if_pos h]
  · rw [if_neg h]
    unfold pos_Floors.f
    have e := floors_l0 (base := base) (l := l) (by omega) l.length 2000 0 0 0 (by omega) (by omega) (by omega)
    have z : Sm 0 := by unfold Sm; omega
    rw [show ((0 : Nat) : Int) = 0 from rfl] at e
    rw [e, Option.bind_some, List.drop_zero]
    have hs := ends_sm base l 0 0 0 z z
    have := floors_law hb (l := l) (by omega) hf hs.1 hs.2 l.length 2000 0 0 0 (by omega) (by omega) (by omega) z z (by rw [List.drop_zero])
    rw [show ((0 : Nat) : Int) = 0 from rfl, show bn 0 = false from by unfold bn; decide, show bl 0 = [] from by unfold bl; simp [digs]] at this
    exact this
end Go.Proofs.Ytimgiiceipjpaaa.Pure
