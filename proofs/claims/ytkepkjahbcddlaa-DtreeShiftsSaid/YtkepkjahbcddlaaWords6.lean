/- Words for items: which of two is ahead, or due ahead; the soonest of some. -/
import Derived.Test.YtkepkjahbcddlaaWords5
namespace Go.Proofs.Ytkepkjahbcddlaa.Fn
open Go Go.Proofs.Ytkepkjahbcddlaa.Sy
set_option linter.unusedVariables false
set_option linter.unusedSimpArgs false
/-- Which of two places is ahead. -/
def pcI (t r w u q v : Int) : Int := if 0 < s64 (u - t) then -1 else if s64 (u - t) < 0 then 1 else if r * v < q * w then -1 else if q * w < r * v then 1 else 0
theorem pcI_of {t r w u q v c : Int} (h : (0 < s64 (u - t) → c = -1) ∧ (s64 (u - t) < 0 → c = 1) ∧ (s64 (u - t) = 0 → (r * v < q * w → c = -1) ∧ (r * v = q * w → c = 0) ∧ (q * w < r * v → c = 1))) : c = pcI t r w u q v := by
  unfold pcI
  generalize s64 (u - t) = d at *
  generalize r * v = a at *
  generalize q * w = b at *
  obtain ⟨h1, h2, h3⟩ := h
  split
  · exact h1 (by assumption)
  · split
    · exact h2 (by assumption)
    · have h3 := h3 (by omega)
      split
      · exact h3.1 (by assumption)
      · split
        · exact h3.2.2 (by assumption)
        · exact h3.2.1 (by omega)
theorem pcI_self (t r w : Int) : pcI t r w t r w = 0 := by
  unfold pcI
  simp only [s64]
  split
  · omega
  · split
    · omega
    · split
      · omega
      · rfl
def AHI (t r w i u q v j : Int) : Prop := pcI t r w u q v < 0 ∨ pcI t r w u q v = 0 ∧ i < j
def DUI (t r w i dt dr dw u q v j du dq dv : Int) : Prop := pcI dt dr dw du dq dv < 0 ∨ pcI dt dr dw du dq dv = 0 ∧ AHI t r w i u q v j
instance (t r w i u q v j : Int) : Decidable (AHI t r w i u q v j) := by unfold AHI; infer_instance
instance (t r w i dt dr dw u q v j du dq dv : Int) : Decidable (DUI t r w i dt dr dw u q v j du dq dv) := by unfold DUI; infer_instance
def g7 (a : List Int) (c : Nat) : Int := a.getD c 0
def DUR (a b : List Int) : Prop := DUI (g7 a 0) (g7 a 1) (g7 a 2) (g7 a 3) (g7 a 4) (g7 a 5) (g7 a 6) (g7 b 0) (g7 b 1) (g7 b 2) (g7 b 3) (g7 b 4) (g7 b 5) (g7 b 6)
instance (a b : List Int) : Decidable (DUR a b) := by unfold DUR; infer_instance
theorem DUR_self (a : List Int) : ¬ DUR a a := by
  unfold DUR DUI AHI
  rw [pcI_self, pcI_self]
  omega
/-- The soonest of a first one and k more. -/
def sn (f : Nat → List Int) (a : List Int) : Nat → List Int
  | 0 => a
  | k + 1 => if DUR (f k) (sn f a k) then f k else sn f a k
def rw7 (L : List (List Int)) (k : Nat) : List Int := [Sy.rowAt L k 0, Sy.rowAt L k 1, Sy.rowAt L k 2, Sy.rowAt L k 3, Sy.rowAt L k 4, Sy.rowAt L k 5, Sy.rowAt L k 6]
theorem sn_skip (f : Nat → List Int) : ∀ k : Nat, sn f (f 0) (k + 1) = sn (fun j => f (j + 1)) (f 0) k
  | 0 => by
    show (if DUR (f 0) (f 0) then f 0 else f 0) = f 0
    split <;> rfl
  | k + 1 => by
    rw [show sn f (f 0) (k + 1 + 1) = if DUR (f (k + 1)) (sn f (f 0) (k + 1)) then f (k + 1) else sn f (f 0) (k + 1) from rfl, sn_skip f k]
    rfl
theorem rowAt_drop1 (L : List (List Int)) (k c : Nat) : Sy.rowAt (L.drop 1) k c = Sy.rowAt L (k + 1 : Nat) c := by
  simp [Sy.rowAt, List.getD_eq_getElem?_getD, List.getElem?_drop, Nat.add_comm]
theorem rw7_drop (L : List (List Int)) (k : Nat) : rw7 (L.drop 1) k = rw7 L (k + 1) := by
  simp only [rw7, rowAt_drop1]
theorem sn_ind {P : List Int → Prop} {f : Nat → List Int} {a : List Int} (h0 : P a) (hf : ∀ k, P (f k)) : ∀ k, P (sn f a k)
  | 0 => h0
  | k + 1 => by
    simp only [sn]
    split
    · exact hf k
    · exact sn_ind h0 hf k
/-- The numbers of an item are of their kinds. -/
def K7 (a : List Int) : Prop := U64 (g7 a 0) ∧ U32 (g7 a 1) ∧ U32 (g7 a 2) ∧ U64 (g7 a 4) ∧ U32 (g7 a 5) ∧ U32 (g7 a 6)
theorem K7_row {L : List (List Int)} (h : RI L) (k : Nat) : K7 (rw7 L k) := h k
theorem K7_sn {L : List (List Int)} {a : List Int} (h : RI L) (ha : K7 a) (k : Nat) : K7 (sn (rw7 L) a k) := sn_ind ha (K7_row h) k
theorem RI_drop {L : List (List Int)} (h : RI L) : RI (L.drop 1) := by
  intro k
  rw [rowAt_drop1, rowAt_drop1, rowAt_drop1, rowAt_drop1, rowAt_drop1, rowAt_drop1]
  exact h (k + 1)
theorem sn_rest {L : List (List Int)} (h : 0 < L.length) : sn (rw7 (L.drop 1)) (rw7 L 0) (L.drop 1).length = sn (rw7 L) (rw7 L 0) L.length := by
  have e : rw7 (L.drop 1) = fun j => rw7 L (j + 1) := funext (rw7_drop L)
  have l : L.length = (L.drop 1).length + 1 := by rw [List.length_drop]; omega
  rw [e, l, sn_skip]
end Go.Proofs.Ytkepkjahbcddlaa.Fn
