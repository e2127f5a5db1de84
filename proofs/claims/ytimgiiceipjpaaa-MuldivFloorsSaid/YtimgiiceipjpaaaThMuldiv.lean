/- What the printed muldiv.Step and Steps answer, in whole numbers, and that the chapter's example holds. For numbers of the kind uint64. -/
import Derived.Test.YtimgiiceipjpaaaThTime
import Derived.Test.YtimgiiceipjpaaaPrint5
import Derived.Test.YtimgiiceipjpaaaPrint6
namespace Go.Proofs.Ytimgiiceipjpaaa.Th
open Go.RowKit Go.Proofs.Ytimgiiceipjpaaa.Print Go.Proofs.YtimgiiceipjpaaaW.PrintWords Go.Proofs.YtimgiiceipjpaaaW.PrintLast Go.Proofs.YtimgiiceipjpaaaW.PrintMore Go.Proofs.Ytimgiiceipjpaaa.Bits
set_option linter.unusedVariables false
set_option linter.unusedSimpArgs false
/-- A number of the kind uint64. -/
def U (x : Int) : Prop := 0 ≤ x ∧ x < 18446744073709551616
/-- A number, divided; or that there is no quotient of 64 bits. -/
def carried (A den : Int) : Option (Int × Int × Bool) := if A < den * 18446744073709551616 then some (A / den, A % den, true) else some (0, 0, false)
theorem step_eq {a num den rem : Int} {k : Nat} (hk : 10 ≤ k) (ha : U a) (hn : U num) (hd : U den) (hr : U rem) :
    muldiv_Step.f k a num den rem = if rem < den then carried (a * num + rem) den else some (0, 0, false) := by
  unfold U at *
  unfold muldiv_Step.f
  by_cases h : rem < den
  · rw [if_neg (by omega), if_pos h, mul64 ha.1 ha.2 hn.1 hn.2]
    simp only [Option.bind_some]
    have p := mul_below (c := 18446744073709551615) (d := 18446744073709551615) ha.1 (by omega) hn.1 (by omega)
    rw [addHi_eq (by omega) (by omega) (by omega), addLo_eq (by omega) (by omega) (by omega), u64w]
    generalize a * num = M at *
    have e1 : (M / 18446744073709551616 + (M % 18446744073709551616 + rem + 0) / 18446744073709551616) % 18446744073709551616 = (M + rem) / 18446744073709551616 := by omega
    have e2 : (M % 18446744073709551616 + rem + 0) % 18446744073709551616 = (M + rem) % 18446744073709551616 := by omega
    rw [e1, e2]
    unfold carried
    by_cases h2 : (M + rem) / 18446744073709551616 ≥ den
    · rw [if_pos h2, if_neg (by omega)]
    · rw [if_neg h2, if_pos (by omega), div64 hk (by omega) (by omega) (by omega) (by omega) hd.2]
      simp only [Option.bind_some]
      have e3 : (M + rem) / 18446744073709551616 * 18446744073709551616 + (M + rem) % 18446744073709551616 = M + rem := by omega
      rw [e3]
  · rw [if_pos (by omega), if_neg h]
def sum : List Int → Int
  | [] => 0
  | x :: l => x + sum l
theorem sum_pos : ∀ l : List Int, (∀ x ∈ l, U x) → 0 ≤ sum l
  | [], _ => Int.le_refl 0
  | x :: l, h => by
    have a := (h x (by simp)).1
    have b := sum_pos l (fun y hy => h y (by simp [hy]))
    unfold sum; omega
theorem steps_l0 {num den : Int} (hn : U num) (hd : U den) (l : List Int) (hl : ∀ x ∈ l, U x) (hlen : l.length ≤ 4611686018427387904) (d : Nat) : ∀ (k i : Nat) (rem q : Int), l.length - i = d → i ≤ l.length → d + 11 ≤ k → 0 ≤ rem → rem < den → U q →
    muldiv_Steps.l0 k num den rem q l (l.length : Int) (i : Int) = carried (q * den + (sum (l.drop i) * num + rem)) den := by
  unfold U at hd
  induction d with
  | zero =>
    intro k i rem q he hi hk r0 r1 hq
    obtain ⟨k, rfl⟩ : ∃ m, k = m + 1 := ⟨k - 1, by omega⟩
    unfold U at hq
    rw [muldiv_Steps.l0, if_neg (by omega), List.drop_of_length_le (by omega)]
    unfold sum carried
    have b : q * den ≤ 18446744073709551615 * den := Int.mul_le_mul_of_nonneg_right (by omega) (by omega)
    have e0 : q * den + (0 * num + rem) = rem + q * den := by omega
    rw [e0, if_pos (by omega), Int.add_mul_ediv_right _ _ (by omega), Int.add_mul_emod_self_right, Int.ediv_eq_zero_of_lt r0 r1, Int.emod_eq_of_lt r0 r1]
    simp
  | succ d ih =>
    intro k i rem q he hi hk r0 r1 hq
    obtain ⟨k, rfl⟩ : ∃ m, k = m + 1 := ⟨k - 1, by omega⟩
    have h : i < l.length := by omega
    have hx := hl _ (List.getElem_mem h)
    have hU : U rem := ⟨r0, by omega⟩
    rw [muldiv_Steps.l0, if_pos (by omega), if_pos (by omega), if_pos (by omega), rd_nat _ _ h, step_eq (by omega) hx hn hd hU, if_pos r1, drop_cons l i h]
    have hs := sum_pos (l.drop (i + 1)) (fun y hy => hl y (List.mem_of_mem_drop hy))
    generalize l[i] = x at *
    have hsp := Int.mul_nonneg hs hn.1
    have hxp := Int.mul_nonneg hx.1 hn.1
    have hqp := Int.mul_nonneg hq.1 hd.1
    have es : sum (x :: l.drop (i + 1)) * num = x * num + sum (l.drop (i + 1)) * num := by show (x + sum _) * num = _; rw [Int.add_mul]
    rw [es]
    generalize hS : sum (l.drop (i + 1)) * num = S at *
    generalize hX : x * num = X at *
    unfold carried
    by_cases h1 : X + rem < den * 18446744073709551616
    · rw [if_pos h1]
      simp only [Option.bind_some, if_true]
      have a0 := Int.emod_add_ediv_mul (X + rem) den
      have q0 := Int.ediv_nonneg (a := X + rem) (b := den) (by omega) (by omega)
      have m0 := Int.emod_nonneg (X + rem) (show den ≠ 0 by omega)
      have m1 := Int.emod_lt_of_pos (X + rem) (show 0 < den by omega)
      generalize (X + rem) / den = q1 at *
      generalize (X + rem) % den = r' at *
      unfold U at hq
      rw [addHi_eq hq.1 q0 (by omega), addLo_eq hq.1 q0 (by omega)]
      have q1lt : q1 < 18446744073709551616 := by
        apply Int.lt_of_mul_lt_mul_right (a := den) _ hd.1
        rw [Int.mul_comm 18446744073709551616]; omega
      have eT : q * den + (X + S + rem) = (q + q1) * den + (S + r') := by rw [Int.add_mul]; omega
      rw [eT]
      by_cases h2 : (q + q1 + 0) / 18446744073709551616 = 0
      · rw [if_pos h2]
        have e3 : (q + q1 + 0) % 18446744073709551616 = q + q1 := by omega
        rw [e3, wrap_succ h hlen, ih k (i + 1) r' (q + q1) (by omega) (by omega) (by omega) m0 m1 ⟨by omega, by omega⟩, hS]
        rfl
      · rw [if_neg h2, if_neg]
        have : 18446744073709551616 * den ≤ (q + q1) * den := Int.mul_le_mul_of_nonneg_right (by omega) hd.1
        rw [Int.mul_comm 18446744073709551616] at this
        omega
    · rw [if_neg h1, if_neg (by omega)]
      rfl
theorem steps_eq {num den rem : Int} {k : Nat} (hn : U num) (hd : U den) (hr : U rem) (l : List Int) (hl : ∀ x ∈ l, U x) (hlen : l.length ≤ 4611686018427387904) (hk : l.length + 11 ≤ k) :
    muldiv_Steps.f k num den rem l = if rem < den then carried (sum l * num + rem) den else some (0, 0, false) := by
  unfold muldiv_Steps.f
  by_cases h : rem < den
  · rw [if_neg (by omega), if_pos h]
    have := steps_l0 hn hd l hl hlen l.length k 0 rem 0 (by omega) (by omega) (by omega) hr.1 h ⟨by omega, by omega⟩
    rw [Int.zero_mul, Int.zero_add] at this
    exact this
  · rw [if_pos (by omega), if_neg h]
theorem awake2 : turnstonelaw02_awake.f = some true := rfl
end Go.Proofs.Ytimgiiceipjpaaa.Th
