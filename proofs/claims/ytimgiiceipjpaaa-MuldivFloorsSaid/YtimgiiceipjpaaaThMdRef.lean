/- The document's answers of muldiv, over whole numbers: amounts carried together, what is too great, a quotient and what is left. -/
import Derived.Test.YtimgiiceipjpaaaThMul
import Derived.Test.YtimgiiceipjpaaaThMuldiv
import Derived.Test.YtimgiiceipjpaaaPrint12
import Derived.Test.YtimgiiceipjpaaaPrint13
import Derived.Test.YtimgiiceipjpaaaPrint14
namespace Go.Proofs.Ytimgiiceipjpaaa.Th
open Go.RowKit Go.Proofs.Ytimgiiceipjpaaa.Print Go.Proofs.YtimgiiceipjpaaaW.PrintWords Go.Proofs.YtimgiiceipjpaaaW.PrintLast Go.Proofs.YtimgiiceipjpaaaW.PrintMore Go.Proofs.Ytimgiiceipjpaaa.Bits
set_option linter.unusedVariables false
set_option linter.unusedSimpArgs false
theorem mul_u {a b : Int} (ha : U a) (hb : U b) : 0 ≤ a * b ∧ a * b ≤ 340282366920938463426481119284349108225 := by
  unfold U at *
  exact ⟨Int.mul_nonneg ha.1 hb.1, Int.le_trans (Int.mul_le_mul (c := 18446744073709551615) (d := 18446744073709551615) (by omega) (by omega) hb.1 (by decide)) (by decide)⟩
theorem U.sz {a : Int} (h : U a) : Sz a := by unfold U at h; unfold Sz; omega
theorem all_l0 {num : Int} (hn : U num) (l : List Int) (hl : ∀ x ∈ l, U x) (hlen : l.length ≤ 100) (d : Nat) : ∀ (k i : Nat) (s : Int), l.length - i = d → i ≤ l.length → d + 2100 ≤ k → 0 ≤ s → s ≤ ((i : Int) + 1) * 340282366920938463463374607431768211456 →
    turnstoneref02_All.l0 k num l (l.length : Int) (i : Int) (bn s) (bl s) = some (bn (s + sum (l.drop i) * num), bl (s + sum (l.drop i) * num)) := by
  induction d with
  | zero =>
    intro k i s he hi hk h0 h1
    obtain ⟨k, rfl⟩ : ∃ m, k = m + 1 := ⟨k - 1, by omega⟩
    rw [turnstoneref02_All.l0, if_neg (by omega), List.drop_of_length_le (by omega), sum, Int.zero_mul, Int.add_zero]
  | succ d ih =>
    intro k i s he hi hk h0 h1
    obtain ⟨k, rfl⟩ : ∃ m, k = m + 1 := ⟨k - 1, by omega⟩
    have k1 : 100 ≤ k := by omega
    have k2 : 400 ≤ k := by omega
    have k3 : 2000 ≤ k := by omega
    have h : i < l.length := by omega
    have hx := hl _ (List.getElem_mem h)
    obtain ⟨p0, p1⟩ := mul_u hx hn
    have hs : Sz s := by unfold Sz; omega
    have hp : Sz (l[i] * num) := by unfold Sz; omega
    rw [turnstoneref02_All.l0, if_pos (by omega), if_pos (by omega), if_pos (by omega), rd_nat l i h, bU hx.1 hx.2 k1]
    rw [Option.bind_some]
    rw [bU hn.1 hn.2 k1]
    rw [Option.bind_some]
    rw [bmul hx.sz hn.sz k3]
    rw [Option.bind_some]
    rw [badd hs hp k1]
    rw [Option.bind_some]
    rw [wrap_succ h (by omega), ih k (i + 1) (s + l[i] * num) (by omega) (by omega) (by omega) (by omega) (by omega), drop_cons l i h, sum, Int.add_mul, Int.add_assoc]
theorem all_eq {num rem : Int} (hn : U num) (hr : U rem) (l : List Int) (hl : ∀ x ∈ l, U x) (hlen : l.length ≤ 100) {k : Nat} (hk : 2300 ≤ k) :
    turnstoneref02_All.f k num rem l = some (bn (sum l * num + rem), bl (sum l * num + rem)) := by
  unfold turnstoneref02_All.f
  have k1 : 100 ≤ k := by omega
  have k2 : 400 ≤ k := by omega
  have k3 : 2000 ≤ k := by omega
  rw [bU hr.1 hr.2 k1]
  rw [Option.bind_some]
  have hr' := hr
  unfold U at hr'
  have := all_l0 hn l hl hlen l.length k 0 rem (by omega) (by omega) (by omega) (by omega) (by omega)
  rw [show ((0 : Nat) : Int) = 0 from rfl, List.drop_zero, Int.add_comm rem] at this
  exact this
theorem great_eq {a den : Int} (ha : Sz a) (hd : U den) {k : Nat} (hk : 2300 ≤ k) : turnstoneref02_Great.f k (bn a) (bl a) den = some (decide (den * 18446744073709551616 ≤ a)) := by
  unfold turnstoneref02_Great.f
  have k1 : 100 ≤ k := by clear ha hd; omega
  have k2 : 400 ≤ k := by clear ha hd; omega
  have k3 : 2000 ≤ k := by clear ha hd; omega
  have hd' := hd
  unfold U at hd'
  rw [bU hd.1 hd.2 k1]
  rw [Option.bind_some]
  rw [bpow64 k2]
  rw [Option.bind_some]
  rw [bmul hd.sz (show Sz 18446744073709551616 by unfold Sz; decide) k3]
  rw [Option.bind_some]
  rw [bcmp ha (by unfold Sz; omega) k1]
  rw [Option.bind_some]
  congr 1
  rw [decide_eq_decide, sgn_nonneg]
  clear ha hd hd' k1 k2 k3 hk; omega
theorem isq_eq {a den q r : Int} (ha : Sz a) (hd : U den) (hq : Sz q) (hr : Sz r) (hp : Sz (q * den)) (hs : Sz (q * den + r)) {k : Nat} (hk : 2300 ≤ k) :
    turnstoneref02_Is.f k (bn a) (bl a) den (bn q) (bl q) (bn r) (bl r) = some (decide (0 ≤ r ∧ r < den ∧ q * den + r = a)) := by
  unfold turnstoneref02_Is.f
  have k1 : 100 ≤ k := by clear ha hd hq hr hp hs; omega
  have k2 : 400 ≤ k := by clear ha hd hq hr hp hs; omega
  have k3 : 2000 ≤ k := by clear ha hd hq hr hp hs; omega
  rw [bsign]
  rw [Option.bind_some]
  by_cases h1 : 0 ≤ r
  · rw [if_pos (by rw [sgn_nonneg]; exact h1), bU hd.1 hd.2 k1]
    rw [Option.bind_some]
    rw [bcmp hr hd.sz k1]
    rw [Option.bind_some]
    by_cases h2 : r < den
    · rw [if_pos (by rw [sgn_neg]; omega), Option.bind_some]
      rw [bmul hq hd.sz k3]
      rw [Option.bind_some]
      rw [badd hp hr k1]
      rw [Option.bind_some]
      rw [bcmp hs ha k1]
      rw [Option.bind_some]
      congr 1
      rw [Bool.eq_iff_iff, beq_iff_eq, sgn_zero, decide_eq_true_iff]
      constructor
      · intro h; exact ⟨h1, h2, by omega⟩
      · intro h; omega
    · rw [if_neg (by rw [sgn_neg]; omega)]
      congr 1; symm; rw [decide_eq_false_iff_not]; omega
  · rw [if_neg (by rw [sgn_nonneg]; omega)]
    congr 1; symm; rw [decide_eq_false_iff_not]; omega
/-- A quotient of 64 bits is what the document says. -/
theorem isq_carried {A den : Int} (hA : 0 ≤ A) (hd : U den) (h0 : 0 < den) (hlt : A < den * 18446744073709551616) {k : Nat} (hk : 2300 ≤ k) :
    U (A / den) ∧ U (A % den) ∧ turnstoneref02_Is.f k (bn A) (bl A) den (bn (A / den)) (bl (A / den)) (bn (A % den)) (bl (A % den)) = some true := by
  have q0 : 0 ≤ A / den := Int.ediv_nonneg hA (by omega)
  have q1 : A / den < 18446744073709551616 := Int.ediv_lt_of_lt_mul h0 (by rw [Int.mul_comm]; exact hlt)
  have r0 := Int.emod_nonneg A (show den ≠ 0 by omega)
  have r1 := Int.emod_lt_of_pos A h0
  have e := Int.ediv_mul_add_emod A den
  have hd' := hd
  unfold U at hd'
  have uq : U (A / den) := ⟨q0, q1⟩
  have ur : U (A % den) := ⟨r0, by omega⟩
  obtain ⟨p0, p1⟩ := mul_u uq hd
  have sA : Sz A := by unfold Sz; omega
  refine ⟨uq, ur, ?_⟩
  rw [isq_eq sA hd uq.sz ur.sz (by unfold Sz; omega) (by rw [e]; exact sA) hk]
  congr 1
  rw [decide_eq_true_iff]
  exact ⟨r0, r1, e⟩
end Go.Proofs.Ytimgiiceipjpaaa.Th
