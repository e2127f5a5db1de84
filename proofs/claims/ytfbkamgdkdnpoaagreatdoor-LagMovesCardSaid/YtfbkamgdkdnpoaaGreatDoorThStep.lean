/- How quotients of means move, in whole numbers alone: a mean A/W becomes A'/W' with A'·W = A·W' − o·W' − ρ. -/
namespace Go.Proofs.YtfbkamgdkdnpoaaGreatDoor.Th
set_option linter.unusedVariables false
theorem div_le {a a' W W' c : Int} (hW : 0 < W) (hW' : 0 < W') (h : a * W' + c * (W * W') ≤ a' * W) : a / W + c ≤ a' / W' := by
  apply Int.le_ediv_of_mul_le hW'
  have q : a / W * W ≤ a := Int.ediv_mul_le a (by omega)
  have q2 : a / W * W * W' ≤ a * W' := Int.mul_le_mul_of_nonneg_right q (by omega)
  have e : (a / W + c) * W' * W = a / W * W * W' + c * (W * W') := by grind
  exact Int.le_of_mul_le_mul_right (by rw [e]; omega) hW
/-- What another's quotient is: its numerator. -/
theorem other_eq {A A' W W' o ρ u : Int} (h : A' * W = A * W' - o * W' - ρ) : A' * u * W = A * u * W' - o * (u * W') - u * ρ := by
  have : A' * u * W = u * (A' * W) := by grind
  rw [this, h]; grind
theorem other_hi0 {A A' W W' o ρ u : Int} (hW : 0 < W) (hW' : 0 < W') (h : A' * W = A * W' - o * W' - ρ) (h0 : 0 ≤ ρ) (hu : 0 ≤ u) (ho : 0 ≤ o) : A' * u / W' ≤ A * u / W := by
  have e := other_eq (u := u) h
  have p1 : 0 ≤ o * (u * W') := Int.mul_nonneg ho (Int.mul_nonneg hu (by omega))
  have p2 : 0 ≤ u * ρ := Int.mul_nonneg hu h0
  have := div_le (a := A' * u) (a' := A * u) (c := 0) hW' hW (by rw [e]; omega)
  omega
theorem other_hi {A A' W W' o ρ u : Int} (hW : 0 < W) (hW' : 0 < W') (h : A' * W = A * W' - o * W' - ρ) (h0 : 0 ≤ ρ) (hu : 0 ≤ u) (hu2 : u ≤ W) (ho : o ≤ 0) : A' * u / W' + o ≤ A * u / W := by
  have e := other_eq (u := u) h
  have p1 : o * (W * W') ≤ o * (u * W') := Int.mul_le_mul_of_nonpos_left ho (Int.mul_le_mul_of_nonneg_right hu2 (by omega))
  have p2 : 0 ≤ u * ρ := Int.mul_nonneg hu h0
  have e2 : o * (W' * W) = o * (W * W') := by grind
  exact div_le (a := A' * u) (a' := A * u) (c := o) hW' hW (by rw [e, e2]; omega)
theorem other_lo1 {A A' W W' o ρ u : Int} (hW : 0 < W) (hW' : 0 < W') (h : A' * W = A * W' - o * W' - ρ) (h0 : 0 ≤ ρ) (h1 : ρ ≤ W) (hu : 0 ≤ u) (hu2 : u ≤ W') (ho : o ≤ 0) : A * u / W - 1 ≤ A' * u / W' := by
  have e := other_eq (u := u) h
  have p1 : o * (u * W') ≤ 0 := Int.mul_nonpos_of_nonpos_of_nonneg ho (Int.mul_nonneg hu (by omega))
  have p2 : u * ρ ≤ W' * W := Int.mul_le_mul hu2 h1 h0 (by omega)
  have e2 : W' * W = W * W' := Int.mul_comm _ _
  have := div_le (a := A * u) (a' := A' * u) (c := -1) hW hW' (by rw [e]; omega)
  omega
theorem other_lo {A A' W W' o ρ u : Int} (hW : 0 < W) (hW' : 0 < W') (h : A' * W = A * W' - o * W' - ρ) (h0 : 0 ≤ ρ) (h1 : ρ ≤ W) (hu : 0 ≤ u) (hu2 : u ≤ W') (hu3 : u ≤ W) (ho : 0 ≤ o) : A * u / W - o - 1 ≤ A' * u / W' := by
  have e := other_eq (u := u) h
  have p1 : o * (u * W') ≤ o * (W * W') := Int.mul_le_mul_of_nonneg_left (Int.mul_le_mul_of_nonneg_right hu3 (by omega)) ho
  have p2 : u * ρ ≤ W' * W := Int.mul_le_mul hu2 h1 h0 (by omega)
  have e2 : W' * W = W * W' := Int.mul_comm _ _
  have e3 : (-o - 1) * (W * W') = -(o * (W * W')) - W * W' := by grind
  have := div_le (a := A * u) (a' := A' * u) (c := -o - 1) hW hW' (by rw [e, e3]; omega)
  omega
theorem other_lo0 {A A' W W' o u : Int} (hW : 0 < W) (hW' : 0 < W') (h : A' * W = A * W' - o * W' - 0) (hu : 0 ≤ u) (ho : o ≤ 0) : A * u / W ≤ A' * u / W' := by
  have e := other_eq (u := u) h
  have p1 : o * (u * W') ≤ 0 := Int.mul_nonpos_of_nonpos_of_nonneg ho (Int.mul_nonneg hu (by omega))
  have := div_le (a := A * u) (a' := A' * u) (c := 0) hW hW' (by rw [e]; omega)
  omega
theorem quot_mul (a W : Int) : a / W * W = a - a % W := by
  have := Int.mul_ediv_add_emod a W
  rw [Int.mul_comm] at this
  omega
/-- Who comes in for what is owed. -/
theorem place_mean {A W w o : Int} (hW : 0 < W) : (A + (A * w - o * (W + w)) / W) * W = A * (W + w) - o * (W + w) - (A * w - o * (W + w)) % W := by
  have := quot_mul (A * w - o * (W + w)) W
  have e : (A + (A * w - o * (W + w)) / W) * W = A * W + (A * w - o * (W + w)) / W * W := Int.add_mul _ _ _
  rw [e, this, Int.mul_add A]; omega
theorem place_own {A W w o : Int} (hW : 0 < W) (hw : 0 < w) : ((A + (A * w - o * (W + w)) / W) * w - (A * w - o * (W + w)) / W * (W + w)) / (W + w) = o := by
  have h1 := quot_mul (A * w - o * (W + w)) W
  have h2 := Int.emod_nonneg (A * w - o * (W + w)) (show W ≠ 0 by omega)
  have h3 := Int.emod_lt_of_pos (A * w - o * (W + w)) hW
  generalize (A * w - o * (W + w)) / W = d at *
  generalize (A * w - o * (W + w)) % W = r at *
  have e : (A + d) * w - d * (W + w) = r + (W + w) * o := by grind
  rw [e, Int.add_mul_ediv_left _ _ (by omega), Int.ediv_eq_zero_of_lt h2 (by omega), Int.zero_add]
/-- Another weight. -/
theorem weigh_mean {A W w v : Int} (hW : 0 < W) : (A + A * (w - v) / W) * W = A * (W - v + w) - 0 * (W - v + w) - A * (w - v) % W := by
  have := quot_mul (A * (w - v)) W
  have e : (A + A * (w - v) / W) * W = A * W + A * (w - v) / W * W := Int.add_mul _ _ _
  rw [e, this]; grind
theorem weigh_own {A W w v : Int} (hW : 0 < W) (hv : v ≤ W) (hw : 0 < w) : A * v / W ≤ (A + A * (w - v) / W) * w / (W - v + w) - A * (w - v) / W ∧ (A + A * (w - v) / W) * w / (W - v + w) - A * (w - v) / W ≤ A * v / W + 1 := by
  have h1 := quot_mul (A * (w - v)) W
  have h2 := Int.emod_nonneg (A * (w - v)) (show W ≠ 0 by omega)
  have h3 := Int.emod_lt_of_pos (A * (w - v)) hW
  generalize A * (w - v) / W = b at *
  generalize A * (w - v) % W = r at *
  have hW' : 0 < W - v + w := by omega
  have e0 : (A + b) * w / (W - v + w) - b = ((A + b) * w - b * (W - v + w)) / (W - v + w) := by
    have : (A + b) * w - b * (W - v + w) = (A + b) * w + (W - v + w) * (-b) := by grind
    rw [this, Int.add_mul_ediv_left _ _ (by omega)]; omega
  have e1 : ((A + b) * w - b * (W - v + w)) * W = A * v * (W - v + w) + r * (W - v) := by grind
  have p1 : 0 ≤ r * (W - v) := Int.mul_nonneg h2 (by omega)
  have p2 : r * (W - v) ≤ W * (W - v + w) := Int.mul_le_mul (by omega) (by omega) (by omega) (by omega)
  have e2 : W * (W - v + w) = (W - v + w) * W := Int.mul_comm _ _
  rw [e0]
  constructor
  · have := div_le (a := A * v) (a' := (A + b) * w - b * (W - v + w)) (c := 0) hW hW' (by rw [e1]; omega)
    omega
  · have := div_le (a := (A + b) * w - b * (W - v + w)) (a' := A * v) (c := -1) hW' hW (by rw [e1]; omega)
    omega
end Go.Proofs.YtfbkamgdkdnpoaaGreatDoor.Th
