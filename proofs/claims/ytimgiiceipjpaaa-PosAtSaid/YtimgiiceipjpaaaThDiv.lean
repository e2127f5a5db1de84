/- The document's quotient of a number in digits of base 10000 by a small one above 0, and what is left, in whole numbers. -/
import Derived.Test.YtimgiiceipjpaaaThBig
import Derived.Test.YtimgiiceipjpaaaPrint1001
namespace Go.Proofs.Ytimgiiceipjpaaa.Th
open Go.RowKit Go.Proofs.Ytimgiiceipjpaaa.Print Go.Proofs.YtimgiiceipjpaaaW.PrintWords Go.Proofs.YtimgiiceipjpaaaW.PrintLast Go.Proofs.YtimgiiceipjpaaaW.PrintMore Go.Proofs.Ytimgiiceipjpaaa.Bits
set_option linter.unusedVariables false
set_option linter.unusedSimpArgs false
theorem set_rep : ∀ (m : Nat) (x : Int) (qs : List Int), (List.replicate (m + 1) 0 ++ qs).set m x = List.replicate m 0 ++ x :: qs
  | 0, x, qs => rfl
  | m + 1, x, qs => by
    rw [List.replicate_succ, List.cons_append, List.set_cons_succ, set_rep m x qs, List.replicate_succ, List.cons_append]
theorem div_step {rest d b : Int} (hb : 0 < b) (hb' : b ≤ 35184372088832) (r0 : 0 ≤ rest) (r1 : rest < b) (d0 : 0 ≤ d) (d1 : d < 10000) :
    wrap64 (wrap64 (rest * 10000) + d) = rest * 10000 + d ∧ 0 ≤ (rest * 10000 + d) / b ∧ (rest * 10000 + d) / b < 10000 ∧ wrap64 (Int.tdiv (rest * 10000 + d) b) = (rest * 10000 + d) / b ∧ Int.tmod (rest * 10000 + d) b = (rest * 10000 + d) % b := by
  have e1 : wrap64 (rest * 10000) = rest * 10000 := w_id (by omega) (by omega)
  have e2 : wrap64 (rest * 10000 + d) = rest * 10000 + d := w_id (by omega) (by omega)
  have s0 : 0 ≤ rest * 10000 + d := by omega
  have q0 : 0 ≤ (rest * 10000 + d) / b := Int.ediv_nonneg s0 (by omega)
  have q1 : (rest * 10000 + d) / b < 10000 := Int.ediv_lt_of_lt_mul hb (by omega)
  refine ⟨by rw [e1, e2], q0, q1, ?_, Int.tmod_eq_emod_of_nonneg s0⟩
  rw [Int.tdiv_eq_ediv_of_nonneg s0]
  exact w_id (by omega) (by omega)
theorem div_l0 (n : Bool) {l : List Int} (ho : OKd l) (hl : l.length ≤ 200) {b : Int} (hb : 0 < b) (hb' : b ≤ 35184372088832) (K : Nat) (m : Nat) : ∀ (k : Nat) (rest : Int) (qs : List Int), m ≤ l.length → K + m ≤ k → 0 ≤ rest → rest < b → OKd qs → qs.length + m = l.length → V qs * b + rest = V (l.drop m) →
    ∃ k' q rest', K ≤ k' ∧ turnstoneref01_Div.l0 k b (List.replicate m 0 ++ qs) rest ((m : Int) - 1) n l = turnstoneref01_Div.l0 k' b q rest' (-1) n l ∧ OKd q ∧ q.length = l.length ∧ 0 ≤ rest' ∧ rest' < b ∧ V q * b + rest' = V l := by
  induction m with
  | zero =>
    intro k rest qs hm hk r0 r1 oq ol hv
    exact ⟨k, qs, rest, by omega, rfl, oq, by omega, r0, r1, by simpa using hv⟩
  | succ m ih =>
    intro k rest qs hm hk r0 r1 oq ol hv
    obtain ⟨k, rfl⟩ : ∃ j, k = j + 1 := ⟨k - 1, by omega⟩
    obtain ⟨d0, d1⟩ := getD_range ho m
    have er : rd l (m : Int) = l.getD m 0 := by unfold rd; simp
    obtain ⟨e1, q0, q1, e2, e3⟩ := div_step hb hb' r0 r1 d0 d1
    have e0 : ((m + 1 : Nat) : Int) - 1 = (m : Int) := by omega
    have w : wrap64 ((m : Int) - 1) = (m : Int) - 1 := by rw [w64]; omega
    have et : ((m : Int)).toNat = m := by omega
    have hlen : (List.replicate (m + 1) (0 : Int) ++ qs).length = l.length := by simp; omega
    have hdm := V_drop l m
    have hdiv := Int.emod_add_mul_ediv (rest * 10000 + l.getD m 0) b
    rw [e0, turnstoneref01_Div.l0, if_pos (by omega), if_pos (by omega), if_pos (by omega), if_neg (by omega), if_pos (by rw [hlen]; omega), er, e1, e2, e3, w, et, set_rep]
    refine ih k _ ((rest * 10000 + l.getD m 0) / b :: qs) (by omega) (by omega) (Int.emod_nonneg _ (by omega)) (Int.emod_lt_of_pos _ hb) ?_ ?_ ?_
    · intro x hx
      rcases List.mem_cons.1 hx with rfl | hx
      · exact ⟨q0, q1⟩
      · exact oq x hx
    · rw [List.length_cons]; omega
    · rw [V, hdm, ← hv]
      generalize (rest * 10000 + l.getD m 0) / b = q at *
      generalize (rest * 10000 + l.getD m 0) % b = r at *
      generalize V qs = z at *
      have h1 : b * q = q * b := Int.mul_comm _ _
      have h2 : (q + 10000 * z) * b = q * b + 10000 * (z * b) := by rw [Int.add_mul, Int.mul_assoc]
      rw [h2]
      generalize z * b = y at *
      omega
theorem bdiv {x b : Int} (hx : Sz x) (hb : 0 < b) (hb' : b ≤ 35184372088832) {k : Nat} (hk : 300 ≤ k) : turnstoneref01_Div.f k (bn x) (bl x) b = some (bn (x / b), bl (x / b), x % b) := by
  have lx := len_bl hx
  unfold turnstoneref01_Div.f
  have w : wrap64 (((bl x).length : Int) - 1) = ((bl x).length : Int) - 1 := by rw [w64]; omega
  have et : (((bl x).length : Int)).toNat = (bl x).length := by omega
  rw [if_pos (by omega), if_pos (by omega), w, et]
  obtain ⟨k', q, rest, hk', he, oq, lq, r0, r1, hv⟩ := div_l0 (bn x) (OKd_bl x) (by omega) hb hb' 200 (bl x).length k 0 [] (by omega) (by omega) (by omega) hb (by intro d hd; simp at hd) (by simp) (by rw [List.drop_of_length_le (Nat.le_refl _)]; simp [V])
  rw [List.append_nil] at he
  rw [he]
  obtain ⟨k', rfl⟩ : ∃ j, k' = j + 1 := ⟨k' - 1, by omega⟩
  have hq0 := V_nonneg q oq
  rw [V_bl] at hv
  have hn : (x.natAbs : Int) / b = V q := by
    rw [← hv, Int.add_comm, Int.mul_comm, Int.add_mul_ediv_left _ _ (by omega), Int.ediv_eq_zero_of_lt r0 r1, Int.zero_add]
  have hr : (x.natAbs : Int) % b = rest := by
    rw [← hv, Int.add_comm, Int.mul_comm, Int.add_mul_emod_self_left, Int.emod_eq_of_lt r0 r1]
  have hsz : Sz (V q) := by
    have : V q ≤ x.natAbs := by
      have : V q * 1 ≤ V q * b := Int.mul_le_mul_of_nonneg_left (by omega) hq0
      omega
    unfold Sz at *; omega
  rw [turnstoneref01_Div.l0, if_neg (by omega), trim_eq false q.length q k' rfl (by omega) (by omega) oq, Option.bind_some]
  have ht := trimmed (n := false) (x := V q) (by simp) oq
  rw [ht]
  rcases Int.lt_or_le x 0 with hneg | hpos
  · have hb1 : bn x = true := by unfold bn; simpa using hneg
    have hxa : x = -(x.natAbs : Int) := by omega
    rw [hb1, if_pos rfl]
    by_cases hrp : rest > 0
    · have hv1 : Sz (V q + 1) := by
        have : V q * 1 ≤ V q * b := Int.mul_le_mul_of_nonneg_left (by omega) hq0
        unfold Sz at *; omega
      rw [if_pos hrp, bN (x := 1) ⟨by omega, by omega⟩ (by omega), Option.bind_some, badd hsz (y := 1) (by unfold Sz; omega) (by omega), Option.bind_some, bneg hv1 (by omega), Option.bind_some]
      have e1 : x / b = -(V q + 1) := by
        have : x = (b - rest) + b * (-(V q + 1)) := by
          have h2 : b * (-(V q + 1)) = -(V q * b) - b := by rw [Int.mul_neg, Int.mul_add, Int.mul_one, Int.mul_comm]; omega
          omega
        rw [this, Int.add_mul_ediv_left _ _ (by omega), Int.ediv_eq_zero_of_lt (by omega) (by omega), Int.zero_add]
      have e2 : x % b = b - rest := by
        have : x = (b - rest) + b * (-(V q + 1)) := by
          have h2 : b * (-(V q + 1)) = -(V q * b) - b := by rw [Int.mul_neg, Int.mul_add, Int.mul_one, Int.mul_comm]; omega
          omega
        rw [this, Int.add_mul_emod_self_left, Int.emod_eq_of_lt (by omega) (by omega)]
      rw [e1, e2, w_id (n := b - rest) (by omega) (by omega)]
    · have hr0 : rest = 0 := by omega
      rw [if_neg hrp, bneg hsz (by omega), Option.bind_some]
      have hx2 : x = b * (-(V q)) := by rw [Int.mul_neg, Int.mul_comm]; omega
      have e1 : x / b = -V q := by rw [hx2, Int.mul_ediv_cancel_left _ (by omega)]
      have e2 : x % b = rest := by rw [hx2, Int.mul_emod_right, hr0]
      rw [e1, e2]
  · have hb1 : bn x = false := by unfold bn; simpa using hpos
    have hxa : (x.natAbs : Int) = x := by omega
    rw [hxa] at hn hr
    rw [hb1, if_neg (by simp), hn, hr]
end Go.Proofs.Ytimgiiceipjpaaa.Th
