/- Words for numbers without bounds, in digits of base 10000. -/
import Derived.Test.YtkepkjahbcddlaaWords2
namespace Go.Proofs.Ytkepkjahbcddlaa.Fn
open Go Go.Proofs.Ytkepkjahbcddlaa.Sy
set_option linter.unusedVariables false
set_option linter.unusedSimpArgs false
/-- The greater, the less of two numbers. -/
def mxI (x y : Int) : Int := if y > x then y else x
def mnI (x y : Int) : Int := if y < x then y else x
theorem eo_add (x y : Int) : Sy.EO.den .add x y = x + y := rfl
theorem eo_sub (x y : Int) : Sy.EO.den .sub x y = x - y := rfl
theorem eo_mul (x y : Int) : Sy.EO.den .mul x y = x * y := rfl
theorem eo_quo (x y : Int) : Sy.EO.den .quo x y = x.tdiv y := rfl
theorem eo_rem (x y : Int) : Sy.EO.den .rem x y = x.tmod y := rfl
theorem eo_fdv (x y : Int) : Sy.EO.den .fdv x y = x.fdiv y := rfl
theorem eo_mn (x y : Int) : Sy.EO.den .mn x y = mnI x y := rfl
theorem eo_mx (x y : Int) : Sy.EO.den .mx x y = mxI x y := rfl
theorem eo_land (k : IntKind) (x y : Int) : Sy.EO.den (.land k) x y = landk k x y := rfl
theorem eo_lor (k : IntKind) (x y : Int) : Sy.EO.den (.lor k) x y = lork k x y := rfl
theorem eo_lxor (k : IntKind) (x y : Int) : Sy.EO.den (.lxor k) x y = lxork k x y := rfl
theorem eo_landn (k : IntKind) (x y : Int) : Sy.EO.den (.landn k) x y = landnk k x y := rfl
theorem eo_shl (k : IntKind) (x y : Int) : Sy.EO.den (.shl k) x y = x * 2 ^ (min y.toNat k.bits) := rfl
theorem eo_shr (k : IntKind) (x y : Int) : Sy.EO.den (.shr k) x y = x.fdiv (2 ^ (min y.toNat k.bits)) := rfl
/-- What rows of one digit each are, the lowest first. -/
def dval : List (List Int) → Int
  | [] => 0
  | r :: t => r.getD 0 0 + 10000 * dval t
def P4 : Nat → Int
  | 0 => 1
  | n + 1 => 10000 * P4 n
/-- The digits are digits. -/
def dig (L : List (List Int)) : Prop := ∀ k : Nat, 0 ≤ Sy.rowAt L k 0 ∧ Sy.rowAt L k 0 < 10000
/-- A number as it is to be: no nought ahead of the highest digit, 0 without a sign. -/
structure BOK (n : Bool) (L : List (List Int)) : Prop where
  d : dig L
  h : L.length ≠ 0 → Sy.rowAt L ((L.length : Int) - 1) 0 ≠ 0
  z : L.length = 0 → n = false
def bval (n : Bool) (L : List (List Int)) : Int := bif n then - dval L else dval L
/-- A number, not a great one. -/
abbrev Bg (n : Bool) (L : List (List Int)) : Prop := BOK n L ∧ -1000000000000000000000000000000000000000000000000000000000000000000000000000000000000000000000000 < bval n L ∧ bval n L < 1000000000000000000000000000000000000000000000000000000000000000000000000000000000000000000000000
theorem rowAt_nat (L : List (List Int)) (k c : Nat) : Sy.rowAt L (k : Int) c = (L.getD k []).getD c 0 := by simp [Sy.rowAt]
theorem rowAt_out {L : List (List Int)} {i : Int} (h : (L.length : Int) ≤ i) (c : Nat) : Sy.rowAt L i c = 0 := by
  have : L.length ≤ i.toNat := by omega
  simp [Sy.rowAt, List.getD_eq_getElem?_getD, List.getElem?_eq_none this]
theorem P4_pos : ∀ n, 0 < P4 n
  | 0 => by decide
  | n + 1 => by have := P4_pos n; simp only [P4]; omega
theorem P4_add : ∀ m n, P4 (m + n) = P4 m * P4 n
  | 0, n => by simp [P4]
  | m + 1, n => by
    have := P4_add m n
    rw [show m + 1 + n = (m + n) + 1 by omega]
    simp only [P4, this]
    grind
theorem P4_mono {m n : Nat} (h : m ≤ n) : P4 m ≤ P4 n := by
  obtain ⟨k, rfl⟩ := Nat.le.dest h
  rw [P4_add]
  have a := P4_pos m
  have b := P4_pos k
  have := Int.mul_le_mul_of_nonneg_left (show 1 ≤ P4 k by omega) (show 0 ≤ P4 m by omega)
  omega
theorem dig_nil : dig [] := fun k => by simp [Sy.rowAt]
theorem dig_cons {r : List Int} {t : List (List Int)} : dig (r :: t) ↔ (0 ≤ r.getD 0 0 ∧ r.getD 0 0 < 10000) ∧ dig t := by
  constructor
  · intro h
    refine ⟨by have := h 0; simpa [Sy.rowAt] using this, fun k => ?_⟩
    have := h (k + 1)
    simpa [Sy.rowAt] using this
  · rintro ⟨a, b⟩ k
    cases k with
    | zero => simpa [Sy.rowAt] using a
    | succ k => have := b k; simpa [Sy.rowAt] using this
theorem dval_nonneg : ∀ {L : List (List Int)}, dig L → 0 ≤ dval L
  | [], _ => by simp [dval]
  | r :: t, h => by
    have h := dig_cons.1 h
    have := dval_nonneg h.2
    simp only [dval]
    omega
theorem dval_lt : ∀ {L : List (List Int)}, dig L → dval L < P4 L.length
  | [], _ => by simp [dval, P4]
  | r :: t, h => by
    have h := dig_cons.1 h
    have := dval_lt h.2
    simp only [dval, List.length_cons, P4]
    omega
theorem dval_app : ∀ (A B : List (List Int)), dval (A ++ B) = dval A + P4 A.length * dval B
  | [], B => by simp [dval, P4]
  | r :: t, B => by
    simp only [List.cons_append, dval, List.length_cons, P4, dval_app t B]
    grind
theorem dval_snoc (A : List (List Int)) (d : Int) : dval (A ++ [[d]]) = dval A + P4 A.length * d := by
  rw [dval_app]; simp [dval]
theorem rowAt_app_left {A B : List (List Int)} {k : Nat} (h : k < A.length) : Sy.rowAt (A ++ B) k 0 = Sy.rowAt A k 0 := by
  simp [Sy.rowAt, List.getD_eq_getElem?_getD, List.getElem?_append_left h]
theorem rowAt_snoc (A : List (List Int)) (d : Int) : Sy.rowAt (A ++ [[d]]) (A.length : Int) 0 = d := by
  simp [Sy.rowAt, List.getD_eq_getElem?_getD]
theorem dig_snoc {A : List (List Int)} {d : Int} (h : dig A) (h0 : 0 ≤ d) (h1 : d < 10000) : dig (A ++ [[d]]) := by
  intro k
  by_cases hk : k < A.length
  · rw [rowAt_app_left hk]; exact h k
  · by_cases e : k = A.length
    · subst e; rw [rowAt_snoc]; exact ⟨h0, h1⟩
    · rw [rowAt_out (by simp; omega)]; omega
theorem dval_drop : ∀ (L : List (List Int)) (k : Nat), dval (L.drop k) = Sy.rowAt L k 0 + 10000 * dval (L.drop (k + 1))
  | [], k => by simp [dval, Sy.rowAt]
  | r :: t, 0 => by simp [dval, Sy.rowAt]
  | r :: t, k + 1 => by
    have := dval_drop t k
    simpa [Sy.rowAt] using this
theorem dig_drop {L : List (List Int)} (h : dig L) (k : Nat) : dig (L.drop k) := by
  intro j
  have := h (k + j)
  rw [rowAt_nat] at this ⊢
  simpa [List.getD_eq_getElem?_getD, List.getElem?_drop] using this
theorem dig_take {L : List (List Int)} (h : dig L) (k : Nat) : dig (L.take k) := by
  intro j
  by_cases hj : j < k
  · have := h j
    simpa [Sy.rowAt, List.getD_eq_getElem?_getD, List.getElem?_take, hj] using this
  · rw [rowAt_out (by simp only [List.length_take]; omega)]; omega
theorem dval_split (L : List (List Int)) (k : Nat) (h : k ≤ L.length) : dval L = dval (L.take k) + P4 k * dval (L.drop k) := by
  have := dval_app (L.take k) (L.drop k)
  rw [List.take_append_drop, List.length_take, Nat.min_eq_left h] at this
  exact this
/-- Without a nought ahead. -/
theorem dval_trim {L : List (List Int)} {n : Nat} (hn : L.length = n + 1) (h0 : Sy.rowAt L n 0 = 0) : dval (L.take n) = dval L := by
  have a := dval_split L n (by omega)
  have b := dval_drop L n
  rw [List.drop_of_length_le (show L.length ≤ n + 1 by omega), h0] at b
  simp only [dval] at b
  rw [b] at a
  omega
theorem rowAt_take {L : List (List Int)} {n k : Nat} (h : k < n) : Sy.rowAt (L.take n) k 0 = Sy.rowAt L k 0 := by
  simp [Sy.rowAt, List.getD_eq_getElem?_getD, List.getElem?_take, h]
/-- A highest digit that isn't nought. -/
theorem dval_high {L : List (List Int)} {n : Nat} (h : dig L) (hn : L.length = n + 1) (h0 : Sy.rowAt L n 0 ≠ 0) : P4 n ≤ dval L := by
  have a := dval_split L n (by omega)
  have b := dval_drop L n
  rw [List.drop_of_length_le (show L.length ≤ n + 1 by omega)] at b
  simp only [dval] at b
  have c := h n
  have d := dval_nonneg (dig_take h n)
  have p := P4_pos n
  rw [b] at a
  have := Int.mul_le_mul_of_nonneg_left (show 1 ≤ Sy.rowAt L n 0 + 10000 * 0 by omega) (show 0 ≤ P4 n by omega)
  omega
theorem bval_abs {n : Bool} {L : List (List Int)} (h : dig L) : (n = true → bval n L = - dval L) ∧ (n = false → bval n L = dval L) := by
  cases n <;> simp [bval]
theorem BOK.len {n : Bool} {L : List (List Int)} (h : BOK n L) {k : Nat} (h0 : - P4 k < bval n L) (h1 : bval n L < P4 k) : L.length ≤ k := by
  refine Classical.byContradiction fun hn => ?_
  obtain ⟨m, hm⟩ : ∃ m, L.length = m + 1 := ⟨L.length - 1, by omega⟩
  have hh := dval_high h.d hm (by have := h.h (by omega); rw [hm] at this; simpa using this)
  have := P4_mono (show k ≤ m by omega)
  cases n <;> simp only [bval, cond_true, cond_false] at h0 h1 <;> omega
theorem P4_24 : P4 24 = 1000000000000000000000000000000000000000000000000000000000000000000000000000000000000000000000000 := by decide
theorem Bg.len {n : Bool} {L : List (List Int)} (h : Bg n L) : L.length ≤ 24 := h.1.len (by rw [P4_24]; exact h.2.1) (by rw [P4_24]; exact h.2.2)
theorem BOK.zero {n : Bool} {L : List (List Int)} (h : BOK n L) : bval n L = 0 ↔ L.length = 0 := by
  constructor
  · intro hz
    have := h.len (k := 0) (by simp only [P4]; omega) (by simp only [P4]; omega)
    omega
  · intro hl
    rw [List.eq_nil_of_length_eq_zero hl, h.z hl]; rfl
theorem BOK.pos {n : Bool} {L : List (List Int)} (h : BOK n L) : (0 < bval n L ↔ L.length ≠ 0 ∧ n = false) ∧ (bval n L < 0 ↔ L.length ≠ 0 ∧ n = true) := by
  have a := dval_nonneg h.d
  have z := h.zero
  by_cases hl : L.length = 0
  · have := z.2 hl
    cases n <;> simp_all
  · have : bval n L ≠ 0 := fun e => hl (z.1 e)
    cases n <;> simp only [bval, cond_true, cond_false] at * <;> simp [hl] <;> omega
theorem BOK_nil : BOK false [] := ⟨dig_nil, by simp, by simp⟩
theorem bval_nil : bval false [] = 0 := rfl
/-- A digit that is written. -/
theorem rowSet_len (L : List (List Int)) (i : Int) (x : Int) : (Sy.rowSet L i 0 [x]).length = L.length := by simp [Sy.rowSet]
theorem rowAt_set {L : List (List Int)} {i : Int} (h0 : 0 ≤ i) (h1 : i < L.length) (x : Int) (k : Nat) : Sy.rowAt (Sy.rowSet L i 0 [x]) k 0 = if (k : Int) = i then x else Sy.rowAt L k 0 := by
  obtain ⟨j, rfl⟩ := Int.eq_ofNat_of_zero_le h0
  have hj : j < L.length := by omega
  simp only [Sy.rowAt, Sy.rowSet, Int.toNat_natCast, List.getD_eq_getElem?_getD, List.getElem?_set]
  by_cases e : j = k
  · subst e
    simp [hj, Sy.rowPut]
  · have : ¬ (k : Int) = (j : Int) := by omega
    rw [if_neg e, if_neg this]
theorem dval_set {L : List (List Int)} : ∀ {j : Nat}, j < L.length → ∀ x : Int, dval (Sy.rowSet L (j : Int) 0 [x]) = dval L + P4 j * (x - Sy.rowAt L j 0) := by
  intro j hj x
  have hl := rowSet_len L j x
  have a := dval_split L j (by omega)
  have b := dval_split (Sy.rowSet L j 0 [x]) j (by omega)
  have c := dval_drop L j
  have d := dval_drop (Sy.rowSet L j 0 [x]) j
  rw [rowAt_set (by omega) (by omega) x j, if_pos rfl] at d
  have e1 : (Sy.rowSet L j 0 [x]).take j = L.take j := by simp [Sy.rowSet, List.take_set_of_le]
  have e2 : (Sy.rowSet L j 0 [x]).drop (j + 1) = L.drop (j + 1) := by simp [Sy.rowSet, List.drop_set_of_lt]
  rw [e1] at b
  rw [e2] at d
  rw [a, b, c, d]
  grind
theorem dig_set {L : List (List Int)} (h : dig L) {i : Int} (h0 : 0 ≤ i) (h1 : i < L.length) {x : Int} (x0 : 0 ≤ x) (x1 : x < 10000) : dig (Sy.rowSet L i 0 [x]) := by
  intro k
  rw [rowAt_set h0 h1]
  split
  · exact ⟨x0, x1⟩
  · exact h k
theorem rowAt_rep (n k : Nat) : Sy.rowAt (List.replicate n [0]) k 0 = 0 := by
  simp only [Sy.rowAt, Int.toNat_natCast, List.getD_eq_getElem?_getD, List.getElem?_replicate]
  split <;> simp
theorem dig_rep (n : Nat) : dig (List.replicate n [0]) := fun k => by rw [rowAt_rep]; omega
theorem dval_rep : ∀ n, dval (List.replicate n [0]) = 0
  | 0 => rfl
  | n + 1 => by simp [List.replicate_succ, dval, dval_rep n]
theorem dval_le_of_top {A B : List (List Int)} (hA : dig A) (hB : dig B) {k : Nat} (e : dval (A.drop (k + 1)) = dval (B.drop (k + 1))) (h : Sy.rowAt A k 0 < Sy.rowAt B k 0) : dval A < dval B := by
  have split : ∀ (L : List (List Int)), dval L = dval (L.take k) + P4 k * dval (L.drop k) := by
    intro L
    by_cases hk : k ≤ L.length
    · exact dval_split L k hk
    · rw [List.take_of_length_le (by omega), List.drop_of_length_le (by omega)]; simp [dval]
  have a := split A
  have b := split B
  rw [dval_drop A k, e] at a
  rw [dval_drop B k] at b
  have ha := dval_lt (dig_take hA k)
  have hb := dval_nonneg (dig_take hB k)
  have hp := P4_mono (show (A.take k).length ≤ k by simp only [List.length_take]; omega)
  have p := P4_pos k
  generalize dval (B.drop (k + 1)) = D at *
  have := Int.mul_le_mul_of_nonneg_left (show Sy.rowAt A k 0 + 10000 * D + 1 ≤ Sy.rowAt B k 0 + 10000 * D by omega) (show 0 ≤ P4 k by omega)
  rw [Int.mul_add] at this
  omega
/-- One digit of a product. -/
theorem mul_step {o o0 bl : List (List Int)} {m n : Nat} {c x V : Int} (ho : dig o) (hb : dig bl) (c0 : 0 ≤ c) (c1 : c < 10000) (x0 : 0 ≤ x) (x1 : x < 10000) (hl : m + n < o.length)
    (same : ∀ j : Nat, m + n ≤ j → Sy.rowAt o j 0 = Sy.rowAt o0 j 0) (hv : dval o + P4 (m + n) * (c + x * dval (bl.drop n)) = V) (s : Int) (hs : s = Sy.rowAt o ((m + n : Nat) : Int) 0 + x * Sy.rowAt bl n 0 + c) :
    0 ≤ s ∧ s < 100000000 ∧ dig (Sy.rowSet o ((m + n : Nat) : Int) 0 [s % 10000]) ∧ (∀ j : Nat, m + n + 1 ≤ j → Sy.rowAt (Sy.rowSet o ((m + n : Nat) : Int) 0 [s % 10000]) j 0 = Sy.rowAt o0 j 0) ∧
      dval (Sy.rowSet o ((m + n : Nat) : Int) 0 [s % 10000]) + P4 (m + n + 1) * (s / 10000 + x * dval (bl.drop (n + 1))) = V := by
  have d1 := ho (m + n)
  have d2 := hb n
  have p := mul_below x0 (show x ≤ 9999 by omega) d2.1 (show Sy.rowAt bl n 0 ≤ 9999 by omega)
  have s0 : 0 ≤ s := by omega
  have s1 : s < 100000000 := by omega
  refine ⟨s0, s1, dig_set ho (by omega) (by omega) (Int.emod_nonneg s (by omega)) (Int.emod_lt_of_pos s (by omega)), fun j hj => ?_, ?_⟩
  · rw [rowAt_set (by omega) (by omega), if_neg (by omega)]
    exact same j (by omega)
  · rw [dval_set hl, ← hv, dval_drop bl n]
    have em : s = 10000 * (s / 10000) + s % 10000 := by omega
    simp only [P4]
    generalize s / 10000 = q at *
    generalize s % 10000 = r at *
    generalize Sy.rowAt o ((m + n : Nat) : Int) 0 = u at *
    generalize Sy.rowAt bl n 0 = v at *
    generalize dval (bl.drop (n + 1)) = D at *
    have : c = 10000 * q + r - u - x * v := by omega
    subst this
    grind
theorem p2_pos : ∀ n : Nat, (0 : Int) < 2 ^ n
  | 0 => by decide
  | n + 1 => by have := p2_pos n; rw [Int.pow_succ]; omega
theorem p2_mono {m n : Nat} (h : m ≤ n) : (2 : Int) ^ m ≤ 2 ^ n := by
  obtain ⟨k, rfl⟩ := Nat.le.dest h
  induction k with
  | zero => exact Int.le_refl _
  | succ k ih =>
    have := ih (by omega)
    have p := p2_pos (m + k)
    rw [show m + (k + 1) = (m + k) + 1 by omega, Int.pow_succ]
    omega
theorem p2_200 : (2 : Int) ^ 200 = 1606938044258990275541962092341162602522202993782792835301376 := by rfl
theorem p2_127 : (2 : Int) ^ (Int.toNat 127) = 170141183460469231731687303715884105728 := by rfl
theorem p2_64 : (2 : Int) ^ (Int.toNat 64) = 18446744073709551616 := by rfl
theorem p2_63 : (2 : Int) ^ (Int.toNat 63) = 9223372036854775808 := by rfl
theorem p2_62 : (2 : Int) ^ (Int.toNat 62) = 4611686018427387904 := by rfl
theorem p2_60 : (2 : Int) ^ (Int.toNat 60) = 1152921504606846976 := by rfl
/-- The document's mean: its sum, its weights, how many. -/
abbrev MB (a w n : Int) : Prop := (n = 0 ∧ w = 0 ∧ a = 0) ∨ (0 < n ∧ n ≤ 32 ∧ n ≤ w ∧ w ≤ n * 1048576)
theorem MB_MR {h l w n : Int} (hw : W h l) : MB (wv h l) w n ↔ MR h l w n := by
  have e : h * 18446744073709551616 + l = 0 ↔ h = 0 ∧ l = 0 := by omega
  simp only [MB, MR, wv, e]
/-- Of 128 bits; a mean that is right; a place that is right: as words that stay folded. -/
def Bi (x : Int) : Prop := Big x
def Mq (a w n : Int) : Prop := MB a w n
def Pq (r w : Int) : Prop := PR r w
theorem Bi_eq (x : Int) : Bi x = Big x := rfl
theorem Pq_eq (r w : Int) : Pq r w = PR r w := rfl
theorem Mq_eq {h l w n : Int} (hw : W h l) : Mq (wv h l) w n = MR h l w n := propext (MB_MR hw)
/-- The first k rows are right, and lie nearer than Q to a time. -/
def AQ (Q at_ : Int) (L : List (List Int)) (k : Nat) : Prop := ∀ j : Nat, j < k → -Q < s64 (Sy.rowAt L j 0 - at_) ∧ s64 (Sy.rowAt L j 0 - at_) < Q
theorem AQ.nil (Q at_ : Int) (L : List (List Int)) : AQ Q at_ L 0 := fun j hj => absurd hj (by omega)
theorem AQ.succ {Q at_ : Int} {L : List (List Int)} {k : Nat} : AQ Q at_ L (k + 1) ↔ AQ Q at_ L k ∧ -Q < s64 (Sy.rowAt L k 0 - at_) ∧ s64 (Sy.rowAt L k 0 - at_) < Q := by
  constructor
  · exact fun h => ⟨fun j hj => h j (by omega), h k (by omega)⟩
  · rintro ⟨h, h2⟩ j hj
    by_cases e : j = k
    · subst e; exact h2
    · exact h j (by omega)
theorem AP.nil (L : List (List Int)) : AP L 0 := fun j hj => absurd hj (by omega)
theorem near_distQ {Q v s r : Int} (hp : PR r v) (h0 : 0 ≤ r) (s0 : -Q < s) (s1 : s < Q) : -(Q * v) ≤ v * s + r ∧ v * s + r ≤ Q * v := by
  have a := Int.mul_le_mul_of_nonneg_left (show s ≤ Q - 1 by omega) (show 0 ≤ v by omega)
  have b := Int.mul_le_mul_of_nonneg_left (show -(Q - 1) ≤ s by omega) (show 0 ≤ v by omega)
  have e1 : v * (Q - 1) = Q * v - v := by grind
  have e2 : v * -(Q - 1) = -(Q * v) + v := by grind
  omega
theorem SA_nearQ {Q b : Int} {L : List (List Int)} (hk : RK L) : ∀ {k : Nat}, AP L k → AQ Q b L k → -(Q * SW L k) ≤ SA b L k ∧ SA b L k ≤ Q * SW L k
  | 0, _, _ => by simp [SA, SW]
  | k + 1, h, g => by
    have h := AP.succ.1 h
    have g := AQ.succ.1 g
    have i := SA_nearQ (b := b) hk h.1 g.1
    have d := near_distQ h.2 (hk k).2.1.1 g.2.1 g.2.2
    simp only [SA, SW, rdist, Int.mul_add]
    omega
theorem SW_mono {L : List (List Int)} {n : Nat} (h : AP L n) : ∀ {k : Nat}, k ≤ n → 0 ≤ SW L k ∧ SW L k ≤ SW L n := by
  intro k hk
  obtain ⟨d, rfl⟩ := Nat.le.dest hk
  clear hk
  induction d with
  | zero => exact ⟨by have := SW_le h; simp only [Nat.add_zero] at *; omega, Int.le_refl _⟩
  | succ d ih =>
    have h1 := (AP.succ (k := k + d)).1 h
    have := ih h1.1
    have e : SW L (k + (d + 1)) = SW L (k + d) + Sy.rowAt L ((k + d : Nat) : Int) 2 := rfl
    rw [e]
    have p := h1.2
    omega
end Go.Proofs.Ytkepkjahbcddlaa.Fn
