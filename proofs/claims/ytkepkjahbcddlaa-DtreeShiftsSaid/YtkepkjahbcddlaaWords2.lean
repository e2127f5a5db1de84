/- Words for the laws of means, lags and weights: plain sums over rows. -/
import Derived.Test.YtkepkjahbcddlaaWords
namespace Go.Proofs.Ytkepkjahbcddlaa.Fn
open Go Go.Proofs.Ytkepkjahbcddlaa.Sy
set_option linter.unusedVariables false
set_option linter.unusedSimpArgs false
theorem div_le {a a' W W' c : Int} (hW : 0 < W) (hW' : 0 < W') (h : a * W' + c * (W * W') ≤ a' * W) : a / W + c ≤ a' / W' := by
  apply Int.le_ediv_of_mul_le hW'
  have q : a / W * W ≤ a := Int.ediv_mul_le a (by omega)
  have q2 : a / W * W * W' ≤ a * W' := Int.mul_le_mul_of_nonneg_right q (by omega)
  have e : (a / W + c) * W' * W = a / W * W * W' + c * (W * W') := by grind
  exact Int.le_of_mul_le_mul_right (by rw [e]; omega) hW
/-- What another's quotient is: its numerator. -/
theorem other_eq {A A' W W' o ρ u : Int} (h : A' * W = A * W' - o * W' - ρ) : A' * u * W = A * u * W' - o * (u * W') - u * ρ := by
  have : A' * u * W = u * (A' * W) := by grind
  rw [this, h]; grind
theorem other_hi0 {A A' W W' o ρ u : Int} (hW : 0 < W) (hW' : 0 < W') (h : A' * W = A * W' - o * W' - ρ) (h0 : 0 ≤ ρ) (hu : 0 ≤ u) (ho : 0 ≤ o) : A' * u / W' ≤ A * u / W := by
  have e := other_eq (u := u) h
  have p1 : 0 ≤ o * (u * W') := Int.mul_nonneg ho (Int.mul_nonneg hu (by omega))
  have p2 : 0 ≤ u * ρ := Int.mul_nonneg hu h0
  have := div_le (a := A' * u) (a' := A * u) (c := 0) hW' hW (by rw [e]; omega)
  omega
theorem other_hi {A A' W W' o ρ u : Int} (hW : 0 < W) (hW' : 0 < W') (h : A' * W = A * W' - o * W' - ρ) (h0 : 0 ≤ ρ) (hu : 0 ≤ u) (hu2 : u ≤ W) (ho : o ≤ 0) : A' * u / W' + o ≤ A * u / W := by
  have e := other_eq (u := u) h
  have p1 : o * (W * W') ≤ o * (u * W') := Int.mul_le_mul_of_nonpos_left ho (Int.mul_le_mul_of_nonneg_right hu2 (by omega))
  have p2 : 0 ≤ u * ρ := Int.mul_nonneg hu h0
  have e2 : o * (W' * W) = o * (W * W') := by grind
  exact div_le (a := A' * u) (a' := A * u) (c := o) hW' hW (by rw [e, e2]; omega)
theorem other_lo1 {A A' W W' o ρ u : Int} (hW : 0 < W) (hW' : 0 < W') (h : A' * W = A * W' - o * W' - ρ) (h0 : 0 ≤ ρ) (h1 : ρ ≤ W) (hu : 0 ≤ u) (hu2 : u ≤ W') (ho : o ≤ 0) : A * u / W - 1 ≤ A' * u / W' := by
  have e := other_eq (u := u) h
  have p1 : o * (u * W') ≤ 0 := Int.mul_nonpos_of_nonpos_of_nonneg ho (Int.mul_nonneg hu (by omega))
  have p2 : u * ρ ≤ W' * W := Int.mul_le_mul hu2 h1 h0 (by omega)
  have e2 : W' * W = W * W' := Int.mul_comm _ _
  have := div_le (a := A * u) (a' := A' * u) (c := -1) hW hW' (by rw [e]; omega)
  omega
theorem other_lo {A A' W W' o ρ u : Int} (hW : 0 < W) (hW' : 0 < W') (h : A' * W = A * W' - o * W' - ρ) (h0 : 0 ≤ ρ) (h1 : ρ ≤ W) (hu : 0 ≤ u) (hu2 : u ≤ W') (hu3 : u ≤ W) (ho : 0 ≤ o) : A * u / W - o - 1 ≤ A' * u / W' := by
  have e := other_eq (u := u) h
  have p1 : o * (u * W') ≤ o * (W * W') := Int.mul_le_mul_of_nonneg_left (Int.mul_le_mul_of_nonneg_right hu3 (by omega)) ho
  have p2 : u * ρ ≤ W' * W := Int.mul_le_mul hu2 h1 h0 (by omega)
  have e2 : W' * W = W * W' := Int.mul_comm _ _
  have e3 : (-o - 1) * (W * W') = -(o * (W * W')) - W * W' := by grind
  have := div_le (a := A * u) (a' := A' * u) (c := -o - 1) hW hW' (by rw [e, e3]; omega)
  omega
theorem other_lo0 {A A' W W' o u : Int} (hW : 0 < W) (hW' : 0 < W') (h : A' * W = A * W' - o * W' - 0) (hu : 0 ≤ u) (ho : o ≤ 0) : A * u / W ≤ A' * u / W' := by
  have e := other_eq (u := u) h
  have p1 : o * (u * W') ≤ 0 := Int.mul_nonpos_of_nonpos_of_nonneg ho (Int.mul_nonneg hu (by omega))
  have := div_le (a := A * u) (a' := A' * u) (c := 0) hW hW' (by rw [e]; omega)
  omega
theorem quot_mul (a W : Int) : a / W * W = a - a % W := by
  have := Int.mul_ediv_add_emod a W
  rw [Int.mul_comm] at this
  omega
/-- Who comes in for what is owed. -/
theorem place_mean {A W w o : Int} (hW : 0 < W) : (A + (A * w - o * (W + w)) / W) * W = A * (W + w) - o * (W + w) - (A * w - o * (W + w)) % W := by
  have := quot_mul (A * w - o * (W + w)) W
  have e : (A + (A * w - o * (W + w)) / W) * W = A * W + (A * w - o * (W + w)) / W * W := Int.add_mul _ _ _
  rw [e, this, Int.mul_add A]; omega
theorem place_own {A W w o : Int} (hW : 0 < W) (hw : 0 < w) : ((A + (A * w - o * (W + w)) / W) * w - (A * w - o * (W + w)) / W * (W + w)) / (W + w) = o := by
  have h1 := quot_mul (A * w - o * (W + w)) W
  have h2 := Int.emod_nonneg (A * w - o * (W + w)) (show W ≠ 0 by omega)
  have h3 := Int.emod_lt_of_pos (A * w - o * (W + w)) hW
  generalize (A * w - o * (W + w)) / W = d at *
  generalize (A * w - o * (W + w)) % W = r at *
  have e : (A + d) * w - d * (W + w) = r + (W + w) * o := by grind
  rw [e, Int.add_mul_ediv_left _ _ (by omega), Int.ediv_eq_zero_of_lt h2 (by omega), Int.zero_add]
/-- Another weight. -/
theorem weigh_mean {A W w v : Int} (hW : 0 < W) : (A + A * (w - v) / W) * W = A * (W - v + w) - 0 * (W - v + w) - A * (w - v) % W := by
  have := quot_mul (A * (w - v)) W
  have e : (A + A * (w - v) / W) * W = A * W + A * (w - v) / W * W := Int.add_mul _ _ _
  rw [e, this]; grind
theorem weigh_own {A W w v : Int} (hW : 0 < W) (hv : v ≤ W) (hw : 0 < w) : A * v / W ≤ (A + A * (w - v) / W) * w / (W - v + w) - A * (w - v) / W ∧ (A + A * (w - v) / W) * w / (W - v + w) - A * (w - v) / W ≤ A * v / W + 1 := by
  have h1 := quot_mul (A * (w - v)) W
  have h2 := Int.emod_nonneg (A * (w - v)) (show W ≠ 0 by omega)
  have h3 := Int.emod_lt_of_pos (A * (w - v)) hW
  generalize A * (w - v) / W = b at *
  generalize A * (w - v) % W = r at *
  have hW' : 0 < W - v + w := by omega
  have e0 : (A + b) * w / (W - v + w) - b = ((A + b) * w - b * (W - v + w)) / (W - v + w) := by
    have : (A + b) * w - b * (W - v + w) = (A + b) * w + (W - v + w) * (-b) := by grind
    rw [this, Int.add_mul_ediv_left _ _ (by omega)]; omega
  have e1 : ((A + b) * w - b * (W - v + w)) * W = A * v * (W - v + w) + r * (W - v) := by grind
  have p1 : 0 ≤ r * (W - v) := Int.mul_nonneg h2 (by omega)
  have p2 : r * (W - v) ≤ W * (W - v + w) := Int.mul_le_mul (by omega) (by omega) (by omega) (by omega)
  have e2 : W * (W - v + w) = (W - v + w) * W := Int.mul_comm _ _
  rw [e0]
  constructor
  · have := div_le (a := A * v) (a' := (A + b) * w - b * (W - v + w)) (c := 0) hW hW' (by rw [e1]; omega)
    omega
  · have := div_le (a := (A + b) * w - b * (W - v + w)) (a' := A * v) (c := -1) hW' hW (by rw [e1]; omega)
    omega

/-- The first k rows lie near the base. -/
def AN (at_ : Int) (L : List (List Int)) (k : Nat) : Prop := ∀ j : Nat, j < k → -274877906944 < s64 (Sy.rowAt L j 0 - at_) ∧ s64 (Sy.rowAt L j 0 - at_) < 274877906944
theorem AN.succ {at_ : Int} {L : List (List Int)} {k : Nat} : AN at_ L (k + 1) ↔ AN at_ L k ∧ -274877906944 < s64 (Sy.rowAt L k 0 - at_) ∧ s64 (Sy.rowAt L k 0 - at_) < 274877906944 := by
  constructor
  · exact fun h => ⟨fun j hj => h j (by omega), h k (by omega)⟩
  · rintro ⟨h, h2⟩ j hj
    by_cases e : j = k
    · subst e; exact h2
    · exact h j (by omega)
theorem near_dist {v s r : Int} (hp : PR r v) (h0 : 0 ≤ r) (s0 : -274877906944 < s) (s1 : s < 274877906944) : -(274877906944 * v) ≤ v * s + r ∧ v * s + r ≤ 274877906944 * v := by
  have a := Int.mul_le_mul_of_nonneg_left (show s ≤ 274877906943 by omega) (show 0 ≤ v by omega)
  have b := Int.mul_le_mul_of_nonneg_left (show -274877906943 ≤ s by omega) (show 0 ≤ v by omega)
  omega
theorem SA_near {b : Int} {L : List (List Int)} (hk : RK L) : ∀ {k : Nat}, AP L k → AN b L k → -(274877906944 * SW L k) ≤ SA b L k ∧ SA b L k ≤ 274877906944 * SW L k
  | 0, _, _ => by simp [SA, SW]
  | k + 1, h, g => by
    have h := AP.succ.1 h
    have g := AN.succ.1 g
    have i := SA_near (b := b) hk h.1 g.1
    have d := near_dist h.2 (hk k).2.1.1 g.2.1 g.2.2
    simp only [SA, SW, rdist]
    omega
/-- Without one of them. -/
theorem SW_rest {L : List (List Int)} : ∀ {k : Nat}, AP L k → ∀ j : Nat, j < k → (k : Int) - 1 ≤ SW L k - Sy.rowAt L j 2 ∧ SW L k - Sy.rowAt L j 2 ≤ ((k : Int) - 1) * 1048576 ∧ ∀ i : Nat, i < k → i ≠ j → Sy.rowAt L i 2 ≤ SW L k - Sy.rowAt L j 2
  | 0, _, j, hj => by omega
  | k + 1, h, j, hj => by
    have h := AP.succ.1 h
    have w := SW_le h.1
    simp only [SW]
    by_cases e : j = k
    · subst e
      refine ⟨by omega, by omega, fun i hi hij => ?_⟩
      have hi : i < j := by omega
      have := (SW_rest h.1 i hi).1
      omega
    · obtain ⟨a, b, c⟩ := SW_rest h.1 j (by omega)
      refine ⟨by omega, by omega, fun i hi hij => ?_⟩
      by_cases e2 : i = k
      · subst e2
        omega
      · have := c i (by omega) hij
        omega
theorem SW_mem {L : List (List Int)} {k : Nat} (h : AP L k) {j : Nat} (hj : j < k) : Sy.rowAt L j 2 ≤ SW L k := by
  have := (SW_rest h j hj).1
  omega
theorem mul_le2 {a b X Y : Int} (a0 : -X ≤ a) (a1 : a ≤ X) (b0 : -Y ≤ b) (b1 : b ≤ Y) : -(X * Y) ≤ a * b ∧ a * b ≤ X * Y := by
  by_cases ha : 0 ≤ a <;> by_cases hb : 0 ≤ b
  · have := mul_below ha a1 hb b1
    omega
  · have := mul_below ha a1 (show 0 ≤ -b by omega) (show -b ≤ Y by omega)
    rw [Int.mul_neg] at this
    omega
  · have := mul_below (show 0 ≤ -a by omega) (show -a ≤ X by omega) hb b1
    rw [Int.neg_mul] at this
    omega
  · have := mul_below (show 0 ≤ -a by omega) (show -a ≤ X by omega) (show 0 ≤ -b by omega) (show -b ≤ Y by omega)
    rw [Int.neg_mul_neg] at this
    omega
/-- A lag's numbers are told, and what it is. -/
theorem over_told {A W D w : Int} (a0 : -18446744073709551616 ≤ A) (a1 : A ≤ 18446744073709551616) (d0 : -1152921504606846976 ≤ D) (d1 : D ≤ 1152921504606846976) (W0 : 0 < W) (W1 : W ≤ 67108864) (w0 : 0 ≤ w) (w1 : w ≤ 1048576) :
    Big (A * w) ∧ Big (D * W) ∧ Big (A * w - D * W) ∧ (A * w - D * W) / W = A * w / W - D := by
  have p := mul_le2 (X := 18446744073709551616) (Y := 1048576) (by omega) a1 (show -1048576 ≤ w by omega) w1
  have q := mul_le2 (X := 1152921504606846976) (Y := 67108864) (by omega) d1 (show -67108864 ≤ W by omega) W1
  refine ⟨by omega, by omega, by omega, ?_⟩
  have e : A * w - D * W = A * w + W * (-D) := by grind
  rw [e, Int.add_mul_ediv_left _ _ (by omega)]
  omega
/-- How far the mean goes when one has another weight: not far. -/
theorem by_le {A W z : Int} (a0 : -(274877906944 * W) ≤ A) (a1 : A ≤ 274877906944 * W) (W0 : 0 < W) (z0 : -1048576 ≤ z) (z1 : z ≤ 1048576) : -288230376151711744 ≤ A * z / W ∧ A * z / W ≤ 288230376151711744 := by
  have p := mul_le2 (X := 274877906944 * W) (Y := 1048576) a0 a1 z0 z1
  constructor
  · apply Int.le_ediv_of_mul_le W0
    omega
  · have : A * z / W < 288230376151711745 := by
      apply Int.ediv_lt_of_lt_mul W0
      omega
    omega
end Go.Proofs.Ytkepkjahbcddlaa.Fn
