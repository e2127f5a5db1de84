/- The size of a lag, and what lags carry, in whole numbers. -/
import Derived.Test.YtfbkamgdkdnpoaaGreatDoorThClamp
import Derived.Test.YtfbkamgdkdnpoaaGreatDoorThFlip
import Derived.Test.YtfbkamgdkdnpoaaGreatDoorPrint1005
import Derived.Test.YtfbkamgdkdnpoaaGreatDoorPrint1000
namespace Go.Proofs.YtfbkamgdkdnpoaaGreatDoor.Th
open Go.RowKit Go.Proofs.YtfbkamgdkdnpoaaGreatDoor.Print Go.Proofs.YtfbkamgdkdnpoaaGreatDoorW.PrintWords Go.Proofs.YtfbkamgdkdnpoaaGreatDoorW.PrintLast Go.Proofs.YtfbkamgdkdnpoaaGreatDoorW.PrintMore Go.Proofs.YtfbkamgdkdnpoaaGreatDoor.Bits
set_option linter.unusedVariables false
set_option linter.unusedSimpArgs false
abbrev WS := S31
def wv (p : WS) : Int := p.f0 * 18446744073709551616 + p.f1
def FW (p : WS) : Prop := Sm p.f0 ∧ 0 ≤ p.f1 ∧ p.f1 < 18446744073709551616
theorem FW.eqs {p : WS} (h : FW p) : Big (wv p) ∧ p.f0 = wv p / 18446744073709551616 ∧ p.f1 = wv p % 18446744073709551616 := by
  obtain ⟨h0, h1, h2⟩ := h
  unfold Sm at h0
  unfold wv Big
  omega
theorem wrap_nat {i n : Nat} (h : i < n) (hn : n ≤ 4611686018427387904) : wrap64 ((i : Int) + 1) = ((i + 1 : Nat) : Int) := by rw [w64]; omega
theorem rdw (l : List WS) (i : Nat) (h : i < l.length) : rd_T31 l (i : Int) = l[i] := by
  unfold rd_T31
  simp [h]
theorem flip_mid {x : Int} (h0 : x < 0) (h1 : -170141183460469231731687303715884105728 < x) : wide_Int_flip.f (x / 18446744073709551616) (x % 18446744073709551616) = some ((-x) / 18446744073709551616, (-x) % 18446744073709551616) := by
  rw [flip_at (by omega) (by omega)]
  simp only [w64]
  split <;> (congr 2 <;> omega)
/-- The size. -/
def sizeZ (x : Int) : Int := if 0 ≤ x then x else if x = -170141183460469231731687303715884105728 then 170141183460469231731687303715884105727 else -x
theorem sizeZ_in {x : Int} (h : Big x) : 0 ≤ sizeZ x ∧ sizeZ x ≤ 170141183460469231731687303715884105727 := by
  unfold Big at h; unfold sizeZ; split
  · omega
  · split <;> omega
theorem csize_eq {x : Int} {k : Nat} (hk : 4 ≤ k) (hx : Big x) : clamp_Size.f k (x / 18446744073709551616) (x % 18446744073709551616) = some (sizeZ x / 18446744073709551616, sizeZ x % 18446744073709551616) := by
  unfold clamp_Size.f sizeZ
  rw [wsign_eq hk, Option.bind_some]
  unfold Big at hx
  by_cases h : 0 ≤ x
  · rw [if_pos (show sg x 0 ≥ 0 by unfold sg; rw [if_neg (by omega)]; split <;> omega), if_pos h]
  · rw [if_neg (show ¬ sg x 0 ≥ 0 by unfold sg; rw [if_pos (by omega)]; omega), if_neg h]
    unfold wide_Int_Neg.f
    by_cases hm : x = -170141183460469231731687303715884105728
    · subst hm
      rw [if_pos rfl, if_pos (by decide), Option.bind_some]
      unfold clamp_greatest.f
      rfl
    · have : ((x / 18446744073709551616 == -9223372036854775808) && (x % 18446744073709551616 == 0)) = false := by
        rw [Bool.and_eq_false_iff]
        rcases Decidable.em (x / 18446744073709551616 = -9223372036854775808) with h1 | h1
        · right; rw [beq_eq_false_iff_ne]; omega
        · left; rw [beq_eq_false_iff_ne]; exact h1
      rw [this, if_neg (by simp), flip_mid (by omega) (by omega), if_neg hm, Option.bind_some, Option.bind_some]
      dsimp only
      rw [if_pos rfl]
theorem sum3 {a b c : Int} {k : Nat} (hk : 5 ≤ k) (ha : Big a) (hb : Big b) (hc : Big c) :
    wide_Sum.f k [(⟨a / 18446744073709551616, a % 18446744073709551616⟩ : WS), ⟨b / 18446744073709551616, b % 18446744073709551616⟩, ⟨c / 18446744073709551616, c % 18446744073709551616⟩] = some (if Big (a + b) ∧ Big (a + b + c) then ((a + b + c) / 18446744073709551616, (a + b + c) % 18446744073709551616, true) else (0, 0, false)) := by
  obtain ⟨k, rfl⟩ : ∃ j, k = j + 4 := ⟨k - 4, by omega⟩
  unfold wide_Sum.f
  have z : Big 0 := by unfold Big; omega
  have i1 : wrap64 (0 + 1) = ((1 : Nat) : Int) := by rw [w64]; rfl
  have i2 : wrap64 (((1 : Nat) : Int) + 1) = ((2 : Nat) : Int) := by rw [w64]; rfl
  have i3 : wrap64 (((2 : Nat) : Int) + 1) = ((3 : Nat) : Int) := by rw [w64]; rfl
  have a0 := add_eq z ha
  rw [show (0 : Int) / 18446744073709551616 = 0 from rfl, show (0 : Int) % 18446744073709551616 = 0 from rfl, Int.zero_add, told_big ha] at a0
  generalize hA : (⟨a / 18446744073709551616, a % 18446744073709551616⟩ : WS) = A
  generalize hB : (⟨b / 18446744073709551616, b % 18446744073709551616⟩ : WS) = B
  generalize hC : (⟨c / 18446744073709551616, c % 18446744073709551616⟩ : WS) = C
  have r0 : rd_T31 [A, B, C] 0 = A := rfl
  have r1 : rd_T31 [A, B, C] ((1 : Nat) : Int) = B := rfl
  have r2 : rd_T31 [A, B, C] ((2 : Nat) : Int) = C := rfl
  have ln : (([A, B, C] : List WS).length : Int) = 3 := rfl
  rw [ln, wide_Sum.l0, if_pos (by omega), if_pos (by omega), if_pos (by rw [ln]; omega), r0, ← hA]
  dsimp only
  rw [a0, Option.bind_some, if_pos rfl, i1, hA]
  dsimp only
  rw [wide_Sum.l0, if_pos (by omega), if_pos (by omega), if_pos (by rw [ln]; omega), r1, ← hB]
  dsimp only
  rw [add_eq ha hb, hB]
  by_cases h1 : Big (a + b)
  · rw [told_big h1, Option.bind_some, if_pos rfl, i2]
    dsimp only
    rw [wide_Sum.l0, if_pos (by omega), if_pos (by omega), if_pos (by rw [ln]; omega), r2, ← hC]
    dsimp only
    rw [add_eq h1 hc, hC]
    by_cases h2 : Big (a + b + c)
    · rw [told_big h2, Option.bind_some, if_pos rfl, i3]
      dsimp only
      rw [wide_Sum.l0, if_neg (by omega), if_pos ⟨h1, h2⟩]
    · rw [told_not h2, Option.bind_some, if_neg (by simp), if_neg (fun h => h2 h.2)]
  · rw [told_not h1, Option.bind_some, if_neg (by simp), if_neg (fun h => h1 h.1)]
/-- What lags carry, from what is carried. -/
def car : Int → List WS → Int
  | o, [] => o
  | o, p :: l => if Big (o + sizeZ (wv p) + 2) then car (o + sizeZ (wv p) + 2) l else 170141183460469231731687303715884105727
theorem car_in : ∀ {l : List WS} {o : Int}, (∀ p ∈ l, FW p) → 0 ≤ o → o ≤ 170141183460469231731687303715884105727 → 0 ≤ car o l ∧ car o l ≤ 170141183460469231731687303715884105727
  | [], o, h, h0, h1 => ⟨h0, h1⟩
  | p :: l, o, h, h0, h1 => by
    have hs := sizeZ_in (h p (List.mem_cons_self ..)).eqs.1
    rw [car]
    by_cases hb : Big (o + sizeZ (wv p) + 2)
    · rw [if_pos hb]
      unfold Big at hb
      exact car_in (fun q hq => h q (List.mem_cons_of_mem _ hq)) (by omega) (by omega)
    · rw [if_neg hb]; omega
theorem car_app : ∀ {l : List WS} {o : Int} {p : WS}, (∀ q ∈ l, FW q) → FW p → 0 ≤ o → car o (l ++ [p]) = if Big (car o l + sizeZ (wv p) + 2) then car o l + sizeZ (wv p) + 2 else 170141183460469231731687303715884105727
  | [], o, p, h, hp, h0 => by rw [List.nil_append, car]; rfl
  | q :: l, o, p, h, hp, h0 => by
    have hs := sizeZ_in (h q (List.mem_cons_self ..)).eqs.1
    have hs2 := sizeZ_in hp.eqs.1
    rw [List.cons_append, car, car]
    by_cases hb : Big (o + sizeZ (wv q) + 2)
    · rw [if_pos hb, if_pos hb]
      exact car_app (fun r hr => h r (List.mem_cons_of_mem _ hr)) hp (by omega)
    · rw [if_neg hb, if_neg hb, if_neg (by unfold Big; omega)]
theorem carried_l0 {l : List WS} (hl : l.length ≤ 4611686018427387904) (hf : ∀ p ∈ l, FW p) (d : Nat) : ∀ (k i : Nat) (o : Int), l.length - i = d → i ≤ l.length → d + 10 ≤ k → 0 ≤ o → o ≤ 170141183460469231731687303715884105727 →
    clamp_Carried.l0 k l (l.length : Int) (i : Int) (o / 18446744073709551616) (o % 18446744073709551616) = some (car o (l.drop i) / 18446744073709551616, car o (l.drop i) % 18446744073709551616) := by
  induction d with
  | zero =>
    intro k i o hd hi hk h0 h1
    obtain ⟨k, rfl⟩ : ∃ j, k = j + 1 := ⟨k - 1, by omega⟩
    rw [clamp_Carried.l0, if_neg (by omega), List.drop_of_length_le (by omega)]; rfl
  | succ d ih =>
    intro k i o hd hi hk h0 h1
    obtain ⟨k, rfl⟩ : ∃ j, k = j + 1 := ⟨k - 1, by omega⟩
    have h : i < l.length := by omega
    obtain ⟨e0, e1, e2⟩ := (hf _ (List.getElem_mem h)).eqs
    have hs := sizeZ_in e0
    have so : Big o := by unfold Big; omega
    have ss : Big (sizeZ (wv l[i])) := by unfold Big; omega
    have s2 : Big 2 := by unfold Big; omega
    rw [clamp_Carried.l0, if_pos (by omega), if_pos (by omega), if_pos (by omega), rdw l i h, e1, e2, csize_eq (by omega) e0, Option.bind_some, of_eq (by unfold Sm; omega), Option.bind_some]
    dsimp only
    rw [sum3 (by omega) so ss s2, Option.bind_some, List.drop_eq_getElem_cons h, car, wrap_nat h hl]
    by_cases hb : Big (o + sizeZ (wv l[i]) + 2)
    · have hb1 : Big (o + sizeZ (wv l[i])) := by unfold Big at *; omega
      rw [if_pos (show Big (o + sizeZ (wv l[i])) ∧ Big (o + sizeZ (wv l[i]) + 2) from ⟨hb1, hb⟩), if_pos hb]
      dsimp only
      rw [if_pos rfl]
      unfold Big at hb
      exact ih k (i + 1) _ (by omega) (by omega) (by omega) (by omega) (by omega)
    · rw [if_neg (show ¬ (Big (o + sizeZ (wv l[i])) ∧ Big (o + sizeZ (wv l[i]) + 2)) from fun h => hb h.2), if_neg hb]
      dsimp only
      rw [if_neg (by simp)]
      unfold clamp_greatest.f
      rfl
theorem carried_eq {l : List WS} (hl : l.length ≤ 4611686018427387904) (hf : ∀ p ∈ l, FW p) {k : Nat} (hk : l.length + 10 ≤ k) : clamp_Carried.f k l = some (car 0 l / 18446744073709551616, car 0 l % 18446744073709551616) := by
  unfold clamp_Carried.f
  exact carried_l0 hl hf l.length k 0 0 (by omega) (by omega) hk (by omega) (by omega)
end Go.Proofs.YtfbkamgdkdnpoaaGreatDoor.Th
