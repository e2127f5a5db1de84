/- VtimeEnds, over numbers alone: the first and the last one of any times are the document's. For at most 100 times. -/
import Derived.Test.YtimgiiceipjpaaaThBigTime
import Derived.Test.YtimgiiceipjpaaaThEnds
import Derived.Test.YtimgiiceipjpaaaPrint31
namespace Go.Proofs.Ytimgiiceipjpaaa.Pure
open Go.RowKit Go.Proofs.Ytimgiiceipjpaaa.Print Go.Proofs.YtimgiiceipjpaaaW.PrintWords Go.Proofs.YtimgiiceipjpaaaW.PrintLast Go.Proofs.YtimgiiceipjpaaaW.PrintMore Go.Proofs.Ytimgiiceipjpaaa.Th
set_option linter.unusedVariables false
def U64s (l : List Int) : Prop := ∀ x ∈ l, 0 ≤ x ∧ x < 18446744073709551616
theorem ref_first (l : List Int) (hu : U64s l) (hl : l.length ≤ 1000) (d : Nat) : ∀ (k i : Nat) (t : Int), l.length - i = d → i ≤ l.length → d + 401 ≤ k → 0 ≤ t ∧ t < 18446744073709551616 →
    turnstoneref03_First.l0 k t l (l.length : Int) (i : Int) = some ((l.drop i).foldl fstep t) := by
  induction d with
  | zero =>
    intro k i t hd hi hk ht
    obtain ⟨k, rfl⟩ : ∃ m, k = m + 1 := ⟨k - 1, by omega⟩
    rw [turnstoneref03_First.l0, if_neg (by omega), List.drop_of_length_le (by omega)]
    rfl
  | succ d ih =>
    intro k i t hd hi hk ht
    obtain ⟨k, rfl⟩ : ∃ m, k = m + 1 := ⟨k - 1, by omega⟩
    have h : i < l.length := by omega
    have hx := hu _ (List.getElem_mem h)
    rw [turnstoneref03_First.l0, if_pos (by omega), if_pos (by omega), if_pos (by omega), rd_nat l i h, bbefore hx ht (by omega), wrap_succ h (by omega), drop_cons l i h, List.foldl_cons]
    simp only [Option.bind_some]
    unfold fstep
    by_cases hb : wrap64 (l[i] - t) < 0
    · rw [if_pos (by simpa using hb), if_pos hb]
      exact ih k (i + 1) _ (by omega) (by omega) (by omega) hx
    · rw [if_neg (by simpa using hb), if_neg hb]
      exact ih k (i + 1) _ (by omega) (by omega) (by omega) ht
theorem ref_last (l : List Int) (hu : U64s l) (hl : l.length ≤ 1000) (d : Nat) : ∀ (k i : Nat) (t : Int), l.length - i = d → i ≤ l.length → d + 401 ≤ k → 0 ≤ t ∧ t < 18446744073709551616 →
    turnstoneref03_Last.l0 k t l (l.length : Int) (i : Int) = some ((l.drop i).foldl lstep t) := by
  induction d with
  | zero =>
    intro k i t hd hi hk ht
    obtain ⟨k, rfl⟩ : ∃ m, k = m + 1 := ⟨k - 1, by omega⟩
    rw [turnstoneref03_Last.l0, if_neg (by omega), List.drop_of_length_le (by omega)]
    rfl
  | succ d ih =>
    intro k i t hd hi hk ht
    obtain ⟨k, rfl⟩ : ∃ m, k = m + 1 := ⟨k - 1, by omega⟩
    have h : i < l.length := by omega
    have hx := hu _ (List.getElem_mem h)
    rw [turnstoneref03_Last.l0, if_pos (by omega), if_pos (by omega), if_pos (by omega), rd_nat l i h, bbefore ht hx (by omega), wrap_succ h (by omega), drop_cons l i h, List.foldl_cons]
    simp only [Option.bind_some]
    unfold lstep
    by_cases hb : wrap64 (t - l[i]) < 0
    · rw [if_pos (by simpa using hb), if_pos hb]
      exact ih k (i + 1) _ (by omega) (by omega) (by omega) hx
    · rw [if_neg (by simpa using hb), if_neg hb]
      exact ih k (i + 1) _ (by omega) (by omega) (by omega) ht
theorem ends_from (a : Int) (l : List Int) (hu : U64s (a :: l)) (hl : l.length ≤ 100) (d : Nat) : ∀ (k i : Nat), l.length - i = d → i ≤ l.length → d + 700 ≤ k →
    turnstonelaw03_VtimeEnds.l0 k (a :: l) (l.take i) l (l.length : Int) (i : Int) = some true := by
  induction d with
  | zero =>
    intro k i hd hi hk
    obtain ⟨k, rfl⟩ : ∃ m, k = m + 1 := ⟨k - 1, by omega⟩
    have e : l.take i = l := List.take_of_length_le (by omega)
    have ha := hu a (by simp)
    have r : rd (a :: l) 0 = a := rfl
    have f1 : turnstoneref03_First.f k (a :: l) = some (l.foldl fstep a) := by
      unfold turnstoneref03_First.f
      rw [if_pos (by simp), r]
      have := ref_first (a :: l) hu (by simp; omega) (a :: l).length k 0 a (by simp) (by simp) (by simp; omega) ha
      rw [show ((0 : Nat) : Int) = 0 from rfl, List.drop_zero, List.foldl_cons] at this
      rw [this]
      have e2 : fstep a a = a := by unfold fstep; rw [Int.sub_self, w64, if_neg (by omega)]
      rw [e2]
    have f2 : turnstoneref03_Last.f k (a :: l) = some (l.foldl lstep a) := by
      unfold turnstoneref03_Last.f
      rw [if_pos (by simp), r]
      have := ref_last (a :: l) hu (by simp; omega) (a :: l).length k 0 a (by simp) (by simp) (by simp; omega) ha
      rw [show ((0 : Nat) : Int) = 0 from rfl, List.drop_zero, List.foldl_cons] at this
      rw [this]
      have e2 : lstep a a = a := by unfold lstep; rw [Int.sub_self, w64, if_neg (by omega)]
      rw [e2]
    rw [turnstonelaw03_VtimeEnds.l0, if_neg (by omega), if_pos (by simp), e, r, first_eq (by omega) (by omega), Option.bind_some, f1, Option.bind_some, if_pos rfl, last_eq (by omega) (by omega), Option.bind_some, f2, Option.bind_some, beq_self_eq_true]
  | succ d ih =>
    intro k i hd hi hk
    obtain ⟨k, rfl⟩ : ∃ m, k = m + 1 := ⟨k - 1, by omega⟩
    have h : i < l.length := by omega
    have t : l.take (i + 1) = l.take i ++ [l[i]] := List.take_succ_eq_append_getElem h
    rw [turnstonelaw03_VtimeEnds.l0, if_pos (by omega), if_pos (by omega), if_pos (by omega), if_pos (by rw [List.length_take]; omega), rd_nat _ _ h, wrap_succ h (by omega), ← t]
    exact ih k (i + 1) (by omega) (by omega) (by omega)
theorem VtimeEnds : turnstonelaw03_VtimeEnds.Pure := by
  intro l _ _ hw
  refine ⟨1000, ?_⟩
  unfold turnstonelaw03_VtimeEnds.f
  rw [awake3 (by omega), Option.bind_some, if_pos rfl]
  have hsp : ∀ k, turnstonelaw03_VtimeEnds.j0 (k + 1) l true = some true := by
    intro k
    rw [turnstonelaw03_VtimeEnds.j0, if_pos rfl]
    unfold vtime_Spread.f
    rw [if_pos (by simp)]
    rfl
  by_cases h : (l.length : Int) > 100
  · rw [if_pos h]; exact hsp _
  · rw [if_neg h]
    cases l with
    | nil => exact hsp _
    | cons a l =>
      have e : ((((a :: l).length : Nat) : Int) == 0) = false := by rw [beq_eq_false_iff_ne, List.length_cons]; omega
      rw [e, turnstonelaw03_VtimeEnds.j0, if_neg (by simp), if_pos (by rw [List.length_cons]; omega)]
      exact ends_from a l (fun x hx => wf_u64 (hw x hx)) (by simp at h; omega) l.length 999 0 (by omega) (by omega) (by simp at h; omega)
end Go.Proofs.Ytimgiiceipjpaaa.Pure
