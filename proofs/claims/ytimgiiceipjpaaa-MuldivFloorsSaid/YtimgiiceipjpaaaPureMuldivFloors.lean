/- MuldivFloors, over numbers alone: the whole quotient of any wide product is the document's, or there is none. For any numbers. -/
import Derived.Test.YtimgiiceipjpaaaThMdRef
import Derived.Test.YtimgiiceipjpaaaThWideRef
import Derived.Test.YtimgiiceipjpaaaThWide
import Derived.Test.YtimgiiceipjpaaaPrint19
import Derived.Test.YtimgiiceipjpaaaPrint16
namespace Go.Proofs.Ytimgiiceipjpaaa.Pure
open Go.RowKit Go.Proofs.Ytimgiiceipjpaaa.Print Go.Proofs.YtimgiiceipjpaaaW.PrintWords Go.Proofs.YtimgiiceipjpaaaW.PrintLast Go.Proofs.YtimgiiceipjpaaaW.PrintMore Go.Proofs.Ytimgiiceipjpaaa.Th
set_option linter.unusedVariables false
theorem floors_none {den : Int} (n : Bool) (l : List Int) {k : Nat} (hk : 1 ≤ k) : turnstonelaw02_MuldivFloors.j0 k den false true 0 0 n l = some true := by
  obtain ⟨k, rfl⟩ : ∃ m, k = m + 1 := ⟨k - 1, by omega⟩
  rw [turnstonelaw02_MuldivFloors.j0, if_pos rfl, if_neg (by simp)]
  rfl
theorem wrap_small {n : Int} (h0 : 0 ≤ n) (h1 : n ≤ 9223372036854775807) : wrap64 n = n := by rw [w64]; omega
theorem floor_not {x num den : Int} {k : Nat} (hk : 10 ≤ k) (hx : Big x) (hn : U num) (hd : U den) (h : den = 0 ∨ num ≥ 9223372036854775808 ∨ ¬ Big (x * num)) :
    muldiv_Floor.f k (x / 18446744073709551616) (x % 18446744073709551616) num den = some (0, 0, false) := by
  unfold muldiv_Floor.f
  unfold U at hn hd
  by_cases h1 : num > 9223372036854775807
  · rw [if_pos h1]
  · have e := wrap_small hn.1 (show num ≤ 9223372036854775807 by clear h; omega)
    have sn : Sm num := by clear e h; unfold Sm; omega
    rw [if_neg h1, e, mul_eq (by omega) hx sn]
    by_cases hb : Big (x * num)
    · rw [told_big hb, Option.bind_some, if_pos rfl]
      rcases h with h | h | h
      · subst h
        rw [div_zero, Option.bind_some]
      · clear e; omega
      · exact absurd hb h
    · rw [told_not hb, Option.bind_some, if_neg (by simp)]
theorem floor_ok {x num den : Int} {k : Nat} (hk : 10 ≤ k) (hx : Big x) (hn : U num) (hd : U den) (h0 : 0 < den) (h1 : num < 9223372036854775808) (hb : Big (x * num)) :
    muldiv_Floor.f k (x / 18446744073709551616) (x % 18446744073709551616) num den = some (x * num / den / 18446744073709551616, x * num / den % 18446744073709551616, true) := by
  unfold muldiv_Floor.f
  unfold U at hn hd
  have sn : Sm num := by unfold Sm; omega
  have e := wrap_small hn.1 (show num ≤ 9223372036854775807 by omega)
  rw [if_neg (by clear e; omega), e, mul_eq (by omega) hx sn, told_big hb, Option.bind_some, if_pos rfl, div_eq hk hb h0 hd.2, Option.bind_some]
theorem big_div {p den : Int} (hp : Big p) (h0 : 0 < den) : Big (p / den) := by
  unfold Big at *
  have e := Int.ediv_mul_add_emod p den
  have r0 := Int.emod_nonneg p (show den ≠ 0 by omega)
  have r1 := Int.emod_lt_of_pos p h0
  constructor
  · apply Int.le_ediv_of_mul_le h0
    have : -170141183460469231731687303715884105728 * den ≤ -170141183460469231731687303715884105728 * 1 := Int.mul_le_mul_of_nonpos_left (by decide) (by omega)
    omega
  · apply Int.ediv_lt_of_lt_mul h0
    have : 170141183460469231731687303715884105728 * 1 ≤ 170141183460469231731687303715884105728 * den := Int.mul_le_mul_of_nonneg_left (by omega) (by decide)
    omega
theorem prod_sz {x num : Int} (hx : Big x) (hn : U num) : Sz (x * num) := by
  unfold Big at hx
  unfold U at hn
  have a : x * num ≤ 170141183460469231731687303715884105728 * num := Int.mul_le_mul_of_nonneg_right (by omega) hn.1
  have b : -170141183460469231731687303715884105728 * num ≤ x * num := Int.mul_le_mul_of_nonneg_right (by omega) hn.1
  unfold Sz
  omega
theorem MuldivFloors : turnstonelaw02_MuldivFloors.Pure := by
  intro h l num den hh hl hn hd
  have hh : Sm h := wf_i64 hh
  have hl : U l := wf_u64 hl
  have hn : U num := wf_u64 hn
  have hd : U den := wf_u64 hd
  obtain ⟨x, hx, e1, e2⟩ : ∃ x : Int, Big x ∧ h = x / 18446744073709551616 ∧ l = x % 18446744073709551616 := by
    unfold Sm at hh
    unfold U at hl
    exact ⟨h * 18446744073709551616 + l, by unfold Big; omega, by omega, by omega⟩
  subst e1 e2
  refine ⟨2400, ?_⟩
  unfold turnstonelaw02_MuldivFloors.f
  have sp := prod_sz hx hn
  have a0 := awake2
  have a1 := ofw_eq hx (k := 2400) (by decide)
  have a2 := bU hn.1 hn.2 (k := 2400) (by decide)
  have a3 := bmul hx.sz hn.sz (k := 2400) (by decide)
  have a4 := isw_eq sp (k := 2400) (by decide)
  by_cases hc : den = 0 ∨ num ≥ 9223372036854775808 ∨ ¬ Big (x * num)
  · rw [a0, Option.bind_some, if_pos rfl, floor_not (by decide) hx hn hd hc, Option.bind_some, a1, Option.bind_some, a2, Option.bind_some, a3, Option.bind_some]
    by_cases c1 : den = 0
    · rw [if_pos c1]; exact floors_none _ _ (by decide)
    rw [if_neg c1]
    by_cases c2 : num ≥ 9223372036854775808
    · rw [if_pos c2]; exact floors_none _ _ (by decide)
    rw [if_neg c2, a4, Option.bind_some, decide_eq_false ((hc.resolve_left c1).resolve_left c2)]
    exact floors_none _ _ (by decide)
  · have c1 : den ≠ 0 := fun e => hc (.inl e)
    have c2 : ¬ num ≥ 9223372036854775808 := fun e => hc (.inr (.inl e))
    have c3 : Big (x * num) := Decidable.byContradiction fun e => hc (.inr (.inr e))
    clear hc
    have d0 : 0 < den := by unfold U at hd; omega
    have hq := big_div c3 d0
    have e := Int.ediv_mul_add_emod (x * num) den
    have r0 := Int.emod_nonneg (x * num) c1
    have r1 := Int.emod_lt_of_pos (x * num) d0
    have sr : Sz (x * num % den) := by unfold U at hd; unfold Sz; omega
    have sqd : Sz (x * num / den * den) := by
      have : x * num / den * den = x * num - x * num % den := by omega
      rw [this]
      unfold U at hd
      unfold Big at c3
      unfold Sz; omega
    have er : x * num - x * num / den * den = x * num % den := by omega
    have b1 := ofw_eq hq (k := 2399) (by decide)
    have b2 := bU hd.1 hd.2 (k := 2399) (by decide)
    have b3 := bmul hq.sz hd.sz (k := 2399) (by decide)
    have b4 := bsub sp sqd (k := 2399) (by decide)
    rw [er] at b4
    have b5 := isq_eq sp hd hq.sz sr sqd (by rw [e]; exact sp) (k := 2399) (by decide)
    rw [decide_eq_true ⟨r0, r1, e⟩] at b5
    rw [a0, Option.bind_some, if_pos rfl, floor_ok (by decide) hx hn hd d0 (by omega) c3, Option.bind_some, a1, Option.bind_some, a2, Option.bind_some, a3, Option.bind_some, if_neg c1, if_neg c2, a4, Option.bind_some, decide_eq_true c3]
    rw [turnstonelaw02_MuldivFloors.j0, if_neg (by simp), if_pos rfl, b1, Option.bind_some, Option.bind_some, b2, Option.bind_some, b3, Option.bind_some, b4, Option.bind_some, b5, Option.bind_some]
end Go.Proofs.Ytimgiiceipjpaaa.Pure
