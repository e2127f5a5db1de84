/- Words for numbers of 64 and 128 bits. -/
import Derived.Laws.Bits64
import Derived.Laws.BitsLemmas
import Derived.Laws.BitsAllLaws
import Derived.Laws.Externs
import Derived.Laws.Bits64b
import Derived.Lib.Strings
import Derived.Lib.Slices
import Derived.Lib.Small
import Derived.Lib.Walk
import Derived.Lib.Mul64
import Derived.Lib.BitFns
import Derived.Test.YtkepkjahbcddlaaSyBase
namespace Go.Proofs.Ytkepkjahbcddlaa.Fn
open Go Go.Proofs.Ytkepkjahbcddlaa.Sy
set_option linter.unusedVariables false
set_option linter.unusedSimpArgs false
abbrev U64 (x : Int) : Prop := 0 ≤ x ∧ x < 18446744073709551616
abbrev U32 (x : Int) : Prop := 0 ≤ x ∧ x < 4294967296
abbrev I64 (x : Int) : Prop := -9223372036854775808 ≤ x ∧ x < 9223372036854775808
abbrev Big (x : Int) : Prop := -170141183460469231731687303715884105728 ≤ x ∧ x < 170141183460469231731687303715884105728
/-- A wide number of a high and a low half. -/
abbrev W (h l : Int) : Prop := -9223372036854775808 ≤ h ∧ h < 9223372036854775808 ∧ 0 ≤ l ∧ l < 18446744073709551616
abbrev wv (h l : Int) : Int := h * 18446744073709551616 + l
/-- The number, or that it is none of 128 bits. -/
abbrev Told (z h l : Int) (ok : Bool) : Prop := W h l ∧ (ok = true → wv h l = z ∧ Big z) ∧ (ok = false → h = 0 ∧ l = 0 ∧ ¬ Big z)
/-- Of 64 bits, with a sign. -/
abbrev s64 (n : Int) : Int := (n + 9223372036854775808) % 18446744073709551616 - 9223372036854775808
abbrev WT (w : Int) : Prop := 1 ≤ w ∧ w ≤ 1048576
abbrev PR (r w : Int) : Prop := 1 ≤ w ∧ w ≤ 1048576 ∧ r < w
/-- A mean's numbers are right. -/
abbrev MR (h l w n : Int) : Prop := (n = 0 ∧ w = 0 ∧ h = 0 ∧ l = 0) ∨ (0 < n ∧ n ≤ 32 ∧ n ≤ w ∧ w ≤ n * 1048576)
theorem mul_below {a b c d : Int} (ha : 0 ≤ a) (hac : a ≤ c) (hb : 0 ≤ b) (hbd : b ≤ d) : 0 ≤ a * b ∧ a * b ≤ c * d :=
  ⟨Int.mul_nonneg ha hb, Int.mul_le_mul hac hbd hb (by omega)⟩
/-- Div64: what holds while a digit is guessed: a and b are the divisor's halves, u and v what is divided. -/
def DInv (a b u v q h : Int) : Prop := 2147483648 ≤ a ∧ a < 4294967296 ∧ 0 ≤ b ∧ b < 4294967296 ∧ 0 ≤ v ∧ v < 4294967296 ∧ 0 ≤ u ∧ u < a * 4294967296 + b ∧
  (u * 4294967296 + v) / (a * 4294967296 + b) ≤ q ∧ q ≤ 4294967297 ∧ 0 ≤ h ∧ h < 4294967296 ∧ q * a + h = u
theorem land_mask {x : Int} (h : 0 ≤ x) (h' : x < 18446744073709551616) : landk .u64 x 4294967295 = x % 4294967296 := by
  obtain ⟨a, rfl⟩ := Int.eq_ofNat_of_zero_le h
  have := bits_and_u64_nat a 4294967295 (by omega) (by omega)
  have e : a &&& 4294967295 = a % 4294967296 := Nat.and_two_pow_sub_one_eq_mod a 32
  rw [e] at this
  exact this
theorem lor_sum {a b : Nat} (s : Nat) (hb : b < 2 ^ s) (h : a * 2 ^ s < 18446744073709551616) (hb' : b < 18446744073709551616) : lork .u64 ((a : Int) * 2 ^ s) (b : Int) = (a : Int) * 2 ^ s + b := by
  have := bits_or_u64_nat (a * 2 ^ s) b h hb'
  have e : a * 2 ^ s ||| b = a * 2 ^ s + b := by
    rw [← Nat.shiftLeft_eq]
    exact (Nat.shiftLeft_add_eq_or_of_lt hb a).symm
  rw [e] at this
  have c : ((a * 2 ^ s : Nat) : Int) = (a : Int) * 2 ^ s := by
    rw [Int.natCast_mul, Int.natCast_pow]; rfl
  rw [c] at this
  have t : lork .u64 ((a : Int) * 2 ^ s) (b : Int) = ((a * 2 ^ s + b : Nat) : Int) := this
  rw [t, Int.natCast_add, c]
theorem mul_sign {v b m0 m1 n : Int} (h1 : v < 0 → m0 * 18446744073709551616 + m1 = -v) (h2 : 0 ≤ v → m0 * 18446744073709551616 + m1 = v) (h3 : b < 0 → n = -b) (h4 : 0 ≤ b → n = b) :
    ((v < 0 ↔ b < 0) → v * b = m0 * n * 18446744073709551616 + m1 * n) ∧ (¬ (v < 0 ↔ b < 0) → v * b = -(m0 * n * 18446744073709551616 + m1 * n)) := by
  have e : m0 * n * 18446744073709551616 + m1 * n = (m0 * 18446744073709551616 + m1) * n := by grind
  rw [e]
  by_cases s1 : v < 0 <;> by_cases s2 : b < 0 <;> simp only [s1, s2, iff_self, iff_true, iff_false, not_true_eq_false, true_imp_iff, false_imp_iff, not_false_eq_true, and_true, true_and]
  · rw [h1 s1, h3 s2]; grind
  · rw [h1 s1, h4 (by omega)]; grind
  · rw [h2 (by omega), h3 s2]; grind
  · rw [h2 (by omega), h4 (by omega)]
theorem fdv {a b : Int} (h : 0 ≤ b) : a.fdiv b = a / b := Int.fdiv_eq_ediv_of_nonneg a h
theorem mul_abs {w s A : Int} (h0 : 0 ≤ w) (h1 : w ≤ A) (s0 : -9223372036854775808 ≤ s) (s1 : s < 9223372036854775808) : -(A * 9223372036854775808) ≤ w * s ∧ w * s ≤ A * 9223372036854775808 := by
  by_cases c : 0 ≤ s
  · have p := mul_below h0 h1 c (show s ≤ 9223372036854775808 by omega)
    have q := Int.mul_nonneg (show 0 ≤ A by omega) (show (0 : Int) ≤ 9223372036854775808 by omega)
    omega
  · have p := mul_below h0 h1 (show 0 ≤ -s by omega) (show -s ≤ 9223372036854775808 by omega)
    have q := Int.mul_nonneg (show 0 ≤ A by omega) (show (0 : Int) ≤ 9223372036854775808 by omega)
    rw [Int.mul_neg] at p
    omega
theorem div_at {a b q r : Int} (hb : 0 < b) (h : a = q * b + r) (h0 : 0 ≤ r) (h1 : r < b) : a / b = q ∧ a % b = r := by
  have e : a / b = q := by
    rw [Int.ediv_eq_iff_of_pos hb]
    have : (q + 1) * b = q * b + b := by grind
    omega
  refine ⟨e, ?_⟩
  rw [Int.emod_def, e, Int.mul_comm]
  omega
theorem div_neg {v m b : Int} (hb : 0 < b) (hv : v = -m) : (m % b = 0 → v / b = -(m / b) ∧ v % b = 0) ∧ (m % b ≠ 0 → v / b = -(m / b) - 1 ∧ v % b = b - m % b) := by
  have e := Int.emod_add_ediv_mul m b
  have r0 := Int.emod_nonneg m (show b ≠ 0 by omega)
  have r1 := Int.emod_lt_of_pos m hb
  refine ⟨fun h => div_at hb ?_ (by omega) (by omega), fun h => div_at hb ?_ (by omega) (by omega)⟩
  · rw [Int.neg_mul]; omega
  · have : (-(m / b) - 1) * b = -(m / b * b) - b := by grind
    omega
theorem div_of {s0 s1 b : Int} (h0 : 0 ≤ s0) (l0 : 0 ≤ s1) (l1 : s1 < 18446744073709551616) (b0 : 0 < b) (b1 : b < 18446744073709551616) :
    s0.tdiv b * 18446744073709551616 + (s0.tmod b * 18446744073709551616 + s1) / b = (s0 * 18446744073709551616 + s1) / b ∧ (s0.tmod b * 18446744073709551616 + s1) % b = (s0 * 18446744073709551616 + s1) % b ∧
    0 ≤ (s0 * 18446744073709551616 + s1) % b ∧ (s0 * 18446744073709551616 + s1) % b < b ∧ 0 ≤ s0.tdiv b ∧ s0.tdiv b ≤ s0 ∧ 0 ≤ s0.tmod b ∧ s0.tmod b < b ∧ 0 ≤ (s0.tmod b * 18446744073709551616 + s1) / b ∧ (s0.tmod b * 18446744073709551616 + s1) / b < 18446744073709551616 ∧ (s0 * 18446744073709551616 + s1) / b ≤ s0 * 18446744073709551616 + s1 ∧
    ((s0 * 18446744073709551616 + s1) % b ≠ 0 → 2 * ((s0 * 18446744073709551616 + s1) / b) ≤ s0 * 18446744073709551616 + s1) := by
  rw [Int.tdiv_eq_ediv_of_nonneg h0, Int.tmod_eq_emod_of_nonneg h0]
  have e := Int.emod_add_ediv_mul s0 b
  have r0 := Int.emod_nonneg s0 (show b ≠ 0 by omega)
  have r1 := Int.emod_lt_of_pos s0 b0
  have d0 := Int.ediv_nonneg h0 (show 0 ≤ b by omega)
  have d1 := Int.ediv_le_self b h0
  have d4 := Int.ediv_le_self b (show 0 ≤ s0 * 18446744073709551616 + s1 by omega)
  generalize s0 % b = R at *
  generalize hQ : s0 / b = Q at *
  have e2 := Int.emod_add_ediv_mul (R * 18446744073709551616 + s1) b
  have r2 := Int.emod_nonneg (R * 18446744073709551616 + s1) (show b ≠ 0 by omega)
  have r3 := Int.emod_lt_of_pos (R * 18446744073709551616 + s1) b0
  have d2 := Int.ediv_nonneg (show 0 ≤ R * 18446744073709551616 + s1 by omega) (show 0 ≤ b by omega)
  have d3 : (R * 18446744073709551616 + s1) / b < 18446744073709551616 := by
    apply Int.ediv_lt_of_lt_mul b0
    omega
  generalize (R * 18446744073709551616 + s1) % b = r at *
  generalize (R * 18446744073709551616 + s1) / b = q at *
  have hm : s0 * 18446744073709551616 + s1 = (Q * 18446744073709551616 + q) * b + r := by
    have : (Q * 18446744073709551616 + q) * b = Q * b * 18446744073709551616 + q * b := by grind
    omega
  obtain ⟨a1, a2⟩ := div_at b0 hm r2 r3
  rw [a1] at d4
  rw [a1, a2]
  refine ⟨rfl, rfl, r2, r3, d0, d1, r0, r1, d2, d3, d4, fun hr => ?_⟩
  have hb2 : 2 ≤ b := by omega
  have := Int.mul_le_mul_of_nonneg_left hb2 (show 0 ≤ Q * 18446744073709551616 + q by omega)
  omega
/-! ### Lists of places -/
/-- How far a row's place lies from b, times its weight. -/
abbrev rdist (b : Int) (L : List (List Int)) (k : Nat) : Int := Sy.rowAt L k 2 * s64 (Sy.rowAt L k 0 - b) + Sy.rowAt L k 1
def SA (b : Int) (L : List (List Int)) : Nat → Int
  | 0 => 0
  | k + 1 => SA b L k + rdist b L k
def SW (L : List (List Int)) : Nat → Int
  | 0 => 0
  | k + 1 => SW L k + Sy.rowAt L k 2
/-- The rows' numbers are of their kinds. -/
def RK (L : List (List Int)) : Prop := ∀ k : Nat, U64 (Sy.rowAt L k 0) ∧ U32 (Sy.rowAt L k 1) ∧ U32 (Sy.rowAt L k 2)
/-- The first k rows are right places. -/
def AP (L : List (List Int)) (k : Nat) : Prop := ∀ j : Nat, j < k → PR (Sy.rowAt L j 1) (Sy.rowAt L j 2)
theorem AP.succ {L : List (List Int)} {k : Nat} : AP L (k + 1) ↔ AP L k ∧ PR (Sy.rowAt L k 1) (Sy.rowAt L k 2) := by
  constructor
  · exact fun h => ⟨fun j hj => h j (by omega), h k (by omega)⟩
  · rintro ⟨h, h2⟩ j hj
    by_cases e : j = k
    · subst e; exact h2
    · exact h j (by omega)
theorem rdist_le {b : Int} {L : List (List Int)} (hk : RK L) {k : Nat} (hp : PR (Sy.rowAt L k 1) (Sy.rowAt L k 2)) : -9671406556917033397649408 ≤ rdist b L k ∧ rdist b L k ≤ 9671406556917033397649408 + 1048576 := by
  have r := hk k
  simp only [rdist, s64]
  have m := mul_abs (w := Sy.rowAt L k 2) (s := (Sy.rowAt L k 0 - b + 9223372036854775808) % 18446744073709551616 - 9223372036854775808) (A := 1048576) (by omega) (by omega) (by omega) (by omega)
  omega
theorem SA_le {b : Int} {L : List (List Int)} (hk : RK L) : ∀ {k : Nat}, AP L k → -(k * 9671406556917033398697984) ≤ SA b L k ∧ SA b L k ≤ k * 9671406556917033398697984
  | 0, _ => by simp [SA]
  | k + 1, h => by
    have h := AP.succ.1 h
    have i := SA_le (b := b) hk h.1
    have d := rdist_le (b := b) hk h.2
    simp only [SA]
    omega
theorem SW_le {L : List (List Int)} : ∀ {k : Nat}, AP L k → k ≤ SW L k ∧ SW L k ≤ k * 1048576
  | 0, _ => by simp [SW]
  | k + 1, h => by
    have h := AP.succ.1 h
    have i := SW_le h.1
    simp only [SW]
    omega
/-! ### Div64 -/
theorem guess_down {yn1 yn0 un32 un1 q qh rhat : Int} (hq1 : un32 * 4294967296 + un1 < (q + 1) * (yn1 * 4294967296 + yn0)) (hinv : qh * yn1 + rhat = un32) (hy : 0 ≤ yn0) (hy1 : 0 < yn1)
    (hge : q ≤ qh) (ht : qh * yn0 ≤ 4294967296 * rhat + un1) : qh = q := by
  have h1 : qh * (yn1 * 4294967296 + yn0) ≤ un32 * 4294967296 + un1 := by grind
  have h2 : qh * (yn1 * 4294967296 + yn0) < (q + 1) * (yn1 * 4294967296 + yn0) := by omega
  have h3 : qh < q + 1 := Int.lt_of_mul_lt_mul_right h2 (by omega)
  omega
theorem guess_up {yn1 yn0 un32 un1 q qh rhat : Int} (hq0 : q * (yn1 * 4294967296 + yn0) ≤ un32 * 4294967296 + un1) (hinv : qh * yn1 + rhat = un32) (hy : 0 ≤ yn0) (hy1 : 0 < yn1)
    (ht : 4294967296 * rhat + un1 < qh * yn0) : q + 1 ≤ qh := by
  have h1 : un32 * 4294967296 + un1 < qh * (yn1 * 4294967296 + yn0) := by grind
  have h2 : q * (yn1 * 4294967296 + yn0) < qh * (yn1 * 4294967296 + yn0) := by omega
  have h3 : q < qh := Int.lt_of_mul_lt_mul_right h2 (by omega)
  omega
theorem first_guess {Y yn1 yn0 u un1 q : Int} (hY : Y = yn1 * 4294967296 + yn0) (h1 : 2147483648 ≤ yn1) (h0 : 0 ≤ yn0) (h0' : yn0 < 4294967296) (hu : 0 ≤ u) (huY : u < Y) (hu1 : 0 ≤ un1) (hu1' : un1 < 4294967296)
    (hq0 : q * Y ≤ u * 4294967296 + un1) (hqp : 0 ≤ q) : q ≤ u / yn1 ∧ u / yn1 ≤ 4294967297 ∧ u / yn1 * yn1 + u % yn1 = u := by
  refine ⟨?_, ?_, Int.ediv_mul_add_emod u yn1⟩
  · apply Int.le_ediv_of_mul_le (by omega)
    have p := Int.mul_nonneg hqp h0
    have e : q * Y = q * yn1 * 4294967296 + q * yn0 := by rw [hY, Int.mul_add, ← Int.mul_assoc]
    omega
  · have : u / yn1 < 4294967298 := by
      apply Int.ediv_lt_of_lt_mul (by omega)
      omega
    omega
theorem quot_of {Y u un1 : Int} (hY : 0 < Y) (hu : 0 ≤ u) (huY : u < Y) (hu1 : 0 ≤ un1) (hu1' : un1 < 4294967296) :
    (u * 4294967296 + un1) / Y * Y ≤ u * 4294967296 + un1 ∧ u * 4294967296 + un1 < ((u * 4294967296 + un1) / Y + 1) * Y ∧ 0 ≤ (u * 4294967296 + un1) / Y ∧ (u * 4294967296 + un1) / Y < 4294967296 := by
  have a := Int.ediv_mul_le (u * 4294967296 + un1) (show Y ≠ 0 by omega)
  have b := Int.lt_ediv_add_one_mul_self (u * 4294967296 + un1) hY
  have c := Int.ediv_nonneg (a := u * 4294967296 + un1) (b := Y) (by omega) (by omega)
  have d : (u * 4294967296 + un1) / Y < 4294967296 := by
    apply Int.ediv_lt_of_lt_mul hY
    have : (u + 1) * 4294967296 ≤ 4294967296 * Y := by omega
    omega
  exact ⟨a, b, c, d⟩
theorem bitLen_bounds : ∀ (n x : Nat), x ≤ n → x ≠ 0 → x < 2 ^ 64 → 2 ^ (Lib.bitLen x - 1) ≤ x ∧ x < 2 ^ Lib.bitLen x ∧ 1 ≤ Lib.bitLen x := by
  intro n
  induction n with
  | zero => intro x h1 h2; omega
  | succ n ih =>
    intro x hx h0 h
    have e := Lib.bitLen_half x h0 h
    by_cases h1 : x = 1
    · subst h1; decide
    · obtain ⟨a, b, c⟩ := ih (x / 2) (by omega) (by omega) (by omega)
      have e2 : 2 ^ Lib.bitLen x = 2 * 2 ^ Lib.bitLen (x / 2) := by rw [e, Nat.pow_add]
      have e3 : 2 ^ (Lib.bitLen x - 1) = 2 * 2 ^ (Lib.bitLen (x / 2) - 1) := by
        rw [e, show 1 + Lib.bitLen (x / 2) - 1 = 1 + (Lib.bitLen (x / 2) - 1) by omega, Nat.pow_add]
      omega

/-- A digit: what is divided by two halves. -/
def dg (a b u v : Int) : Int := (u * 4294967296 + v) / (a * 4294967296 + b)
structure DB (a b u v : Int) : Prop where
  a0 : 2147483648 ≤ a
  a1 : a < 4294967296
  b0 : 0 ≤ b
  b1 : b < 4294967296
  v0 : 0 ≤ v
  v1 : v < 4294967296
  u0 : 0 ≤ u
  u1 : u < a * 4294967296 + b
theorem dg_of {a b u v : Int} (D : DB a b u v) : dg a b u v * (a * 4294967296 + b) ≤ u * 4294967296 + v ∧ u * 4294967296 + v < (dg a b u v + 1) * (a * 4294967296 + b) ∧ 0 ≤ dg a b u v ∧ dg a b u v < 4294967296 := by
  obtain ⟨a0, a1, b0, b1, v0, v1, u0, u1⟩ := D
  exact quot_of (by omega) u0 u1 v0 v1
theorem DInv.db {a b u v q h : Int} (D : DInv a b u v q h) : DB a b u v := by
  obtain ⟨d1, d2, d3, d4, d5, d6, d7, d8, d9, d10, d11, d12, d13⟩ := D
  exact ⟨d1, d2, d3, d4, d5, d6, d7, d8⟩
theorem dl_init {a b u v g m : Int} (D : DB a b u v) (hm : m = g * a % 18446744073709551616) (hg : g = u.tdiv a % 18446744073709551616) : DInv a b u v g ((u - m) % 18446744073709551616) := by
  obtain ⟨q1, q2, q3, q4⟩ := dg_of D
  obtain ⟨a0, a1, b0, b1, v0, v1, u0, u1⟩ := D
  obtain ⟨g1, g2, g3⟩ := first_guess rfl a0 b0 b1 u0 u1 v0 v1 q1 q3
  have m0 := Int.emod_nonneg u (show a ≠ 0 by omega)
  have m1 := Int.emod_lt_of_pos u (show 0 < a by omega)
  have gg : 0 ≤ u / a := by omega
  have p := mul_below (a := u / a) (b := a) (c := 4294967297) (d := 4294967295) gg g2 (by omega) (by omega)
  rw [Int.tdiv_eq_ediv_of_nonneg u0] at hg
  have e1 : g = u / a := by omega
  subst e1
  have e2 : m = u / a * a := by omega
  subst e2
  have e3 : (u - u / a * a) % 18446744073709551616 = u % a := by omega
  rw [e3]
  exact ⟨a0, a1, b0, b1, v0, v1, u0, u1, g1, by omega, m0, by omega, g3⟩
theorem dl_test {a b u v q h t : Int} (D : DInv a b u v q h) (hq : q < 4294967296) (ht : t = (4294967296 * h % 18446744073709551616 + v) % 18446744073709551616) : t = 4294967296 * h + v ∧ q * b % 18446744073709551616 = q * b := by
  obtain ⟨q1, q2, q3, q4⟩ := dg_of D.db
  obtain ⟨d1, d2, d3, d4, d5, d6, d7, d8, d9, d10, d11, d12, d13⟩ := D
  have p := mul_below (a := q) (b := b) (c := 4294967295) (d := 4294967295) (by unfold dg at q3; omega) (by omega) (by omega) (by omega)
  omega
theorem dl_stop {a b u v q h t : Int} (D : DInv a b u v q h) (hq : q < 4294967296) (ht : t = (4294967296 * h % 18446744073709551616 + v) % 18446744073709551616) (hs : q * b % 18446744073709551616 ≤ t) : q = dg a b u v := by
  obtain ⟨e1, e2⟩ := dl_test D hq ht
  obtain ⟨q1, q2, q3, q4⟩ := dg_of D.db
  obtain ⟨d1, d2, d3, d4, d5, d6, d7, d8, d9, d10, d11, d12, d13⟩ := D
  exact guess_down q2 d13 d3 (by omega) d9 (by omega)
theorem dl_step {a b u v q h : Int} (D : DInv a b u v q h) (hs : 4294967296 ≤ q ∨ 4294967296 * h + v < q * b) :
    (4294967296 ≤ (h + a) % 18446744073709551616 → (q - 1) % 18446744073709551616 = dg a b u v) ∧
    ((h + a) % 18446744073709551616 < 4294967296 → DInv a b u v ((q - 1) % 18446744073709551616) ((h + a) % 18446744073709551616) ∧ (4294967296 - (h + a) % 18446744073709551616).toNat < (4294967296 - h).toNat) := by
  obtain ⟨q1, q2, q3, q4⟩ := dg_of D.db
  obtain ⟨d1, d2, d3, d4, d5, d6, d7, d8, d9, d10, d11, d12, d13⟩ := D
  have hup : dg a b u v + 1 ≤ q := by
    rcases hs with h | h
    · omega
    · exact guess_up q1 d13 d3 (by omega) h
  have e1 : (h + a) % 18446744073709551616 = h + a := by omega
  have e2 : (q - 1) % 18446744073709551616 = q - 1 := by omega
  rw [e1, e2]
  have inv : (q - 1) * a + (h + a) = u := by rw [Int.sub_mul]; omega
  refine ⟨fun hb => ?_, fun hb => ⟨⟨d1, d2, d3, d4, d5, d6, d7, d8, ?_, by omega, by omega, hb, inv⟩, by omega⟩⟩
  · have p := mul_below (a := q - 1) (b := b) (c := 4294967296) (d := 4294967295) (by omega) (by omega) (by omega) (by omega)
    exact guess_down q2 inv d3 (by omega) (by omega) (by omega)
  · have : dg a b u v = (u * 4294967296 + v) / (a * 4294967296 + b) := rfl
    omega
/-- What is left after a digit. -/
theorem dl_left {a b u v q t m Y : Int} (D : DB a b u v) (hq : q = dg a b u v) (hY : Y = a * 4294967296 + b) (ht : t = (u * 4294967296 % 18446744073709551616 + v) % 18446744073709551616) (hm : m = q * Y % 18446744073709551616) :
    (t - m) % 18446744073709551616 = (u * 4294967296 + v) % (a * 4294967296 + b) := by
  subst hq hY
  obtain ⟨a0, a1, b0, b1, v0, v1, u0, u1⟩ := D
  have e := Int.emod_add_ediv_mul (u * 4294967296 + v) (a * 4294967296 + b)
  have r0 := Int.emod_nonneg (u * 4294967296 + v) (show a * 4294967296 + b ≠ 0 by omega)
  have r1 := Int.emod_lt_of_pos (u * 4294967296 + v) (show 0 < a * 4294967296 + b by omega)
  have : dg a b u v = (u * 4294967296 + v) / (a * 4294967296 + b) := rfl
  rw [this] at hm
  generalize (u * 4294967296 + v) % (a * 4294967296 + b) = r at *
  generalize (u * 4294967296 + v) / (a * 4294967296 + b) * (a * 4294967296 + b) = z at *
  omega
theorem dl_next {a b u v w : Int} (D : DB a b u v) (w0 : 0 ≤ w) (w1 : w < 4294967296) : DB a b ((u * 4294967296 + v) % (a * 4294967296 + b)) w := by
  obtain ⟨a0, a1, b0, b1, v0, v1, u0, u1⟩ := D
  exact ⟨a0, a1, b0, b1, w0, w1, Int.emod_nonneg _ (by omega), Int.emod_lt_of_pos _ (by omega)⟩
/-- The halves of what is divided, moved up. -/
structure DF (hi lo y p a b u v w : Int) : Prop where
  hY : y * p % 18446744073709551616 = a * 4294967296 + b
  db : DB a b u v
  w0 : 0 ≤ w
  w1 : w < 4294967296
  hq : dg a b u v * 4294967296 + dg a b ((u * 4294967296 + v) % (a * 4294967296 + b)) w = (hi * 18446744073709551616 + lo) / y
  hr : (((u * 4294967296 + v) % (a * 4294967296 + b)) * 4294967296 + w) % (a * 4294967296 + b) / p = (hi * 18446744073709551616 + lo) % y
  hp : 0 ≤ p
theorem df_of {hi lo y x x20 x24 x34 x35 x43 x47 : Int} (h0 : 0 ≤ hi) (h1 : hi < y) (hl : 0 ≤ lo) (hl' : lo < 18446744073709551616) (hy : y < 18446744073709551616) (hx : x = 64 - (Lib.bitLen y.toNat : Int))
    (e20 : x20 = (y * 2 ^ min (x % 18446744073709551616).toNat IntKind.u64.bits % 18446744073709551616).fdiv 4294967296)
    (e24 : x24 = landk IntKind.u64 (y * 2 ^ min (x % 18446744073709551616).toNat IntKind.u64.bits % 18446744073709551616) 4294967295)
    (e34 : x34 = lo.fdiv (2 ^ min ((64 - x % 18446744073709551616) % 18446744073709551616).toNat IntKind.u64.bits))
    (e35 : x35 = lork IntKind.u64 (hi * 2 ^ min (x % 18446744073709551616).toNat IntKind.u64.bits % 18446744073709551616) x34)
    (e43 : x43 = (lo * 2 ^ min (x % 18446744073709551616).toNat IntKind.u64.bits % 18446744073709551616).fdiv 4294967296)
    (e47 : x47 = landk IntKind.u64 (lo * 2 ^ min (x % 18446744073709551616).toNat IntKind.u64.bits % 18446744073709551616) 4294967295) :
    DF hi lo y (2 ^ min (x % 18446744073709551616).toNat IntKind.u64.bits) x20 x24 x35 x43 x47 := by
  obtain ⟨Yn, hYn⟩ := Int.eq_ofNat_of_zero_le (show 0 ≤ y by omega)
  obtain ⟨b1, b2, b3⟩ := bitLen_bounds Yn Yn (Nat.le_refl _) (by omega) (by omega)
  have b4 : Lib.bitLen Yn ≤ 64 := Lib.bitLen_le Yn 64 (by omega) (by omega)
  have ey : y.toNat = Yn := by omega
  rw [ey] at hx
  obtain ⟨sn, hsn⟩ : ∃ sn : Nat, sn + Lib.bitLen Yn = 64 := ⟨64 - Lib.bitLen Yn, by omega⟩
  have es : x % 18446744073709551616 = (sn : Int) := by omega
  rw [es] at e20 e24 e34 e35 e43 e47 ⊢
  have hp : (2 : Int) ^ sn * 2 ^ Lib.bitLen Yn = 18446744073709551616 := by rw [← Int.pow_add, hsn]; rfl
  have hr : (2 : Int) ^ Lib.bitLen Yn = 2 * 2 ^ (Lib.bitLen Yn - 1) := by
    obtain ⟨j, hj⟩ : ∃ j, Lib.bitLen Yn = j + 1 := ⟨Lib.bitLen Yn - 1, by omega⟩
    rw [hj, Int.pow_succ, Nat.add_sub_cancel, Int.mul_comm]
  have c1 : (2 : Int) ^ (Lib.bitLen Yn - 1) ≤ y := by rw [hYn]; exact_mod_cast b1
  have c2 : y < (2 : Int) ^ Lib.bitLen Yn := by rw [hYn]; exact_mod_cast b2
  have hp0 : (0 : Int) < 2 ^ sn := Int.pow_pos (by omega)
  have hr0 : (0 : Int) < 2 ^ Lib.bitLen Yn := Int.pow_pos (by omega)
  have kb : IntKind.u64.bits = 64 := rfl
  have m1 : min ((sn : Int)).toNat IntKind.u64.bits = sn := by rw [kb]; omega
  have m2 : min ((64 - (sn : Int)) % 18446744073709551616).toNat IntKind.u64.bits = Lib.bitLen Yn := by rw [kb]; omega
  rw [m1] at e20 e24 e35 e43 e47 ⊢
  rw [m2] at e34
  have hYlo : 9223372036854775808 ≤ y * 2 ^ sn := by
    have := Int.mul_le_mul_of_nonneg_right c1 (show (0 : Int) ≤ 2 ^ sn by omega)
    have e : (2 : Int) ^ (Lib.bitLen Yn - 1) * 2 ^ sn = 9223372036854775808 := by
      have : (2 : Int) ^ sn * (2 * 2 ^ (Lib.bitLen Yn - 1)) = 18446744073709551616 := by rw [← hr]; exact hp
      grind
    omega
  have hYhi : y * 2 ^ sn < 18446744073709551616 := by
    have := Int.mul_lt_mul_of_pos_right c2 hp0
    rw [Int.mul_comm (2 ^ Lib.bitLen Yn), hp] at this
    exact this
  have hhi : hi * 2 ^ sn < y * 2 ^ sn := Int.mul_lt_mul_of_pos_right h1 hp0
  have dup : lo * 2 ^ sn / 18446744073709551616 = lo / 2 ^ Lib.bitLen Yn := by
    rw [← hp, Int.mul_comm lo, Int.mul_ediv_mul_of_pos _ _ hp0]
  have up0 : 0 ≤ lo / 2 ^ Lib.bitLen Yn := Int.ediv_nonneg hl (by omega)
  have up1 : lo / 2 ^ Lib.bitLen Yn < 2 ^ sn := by
    apply Int.ediv_lt_of_lt_mul hr0
    rw [hp]; exact hl'
  have lop := Int.mul_nonneg hl (show (0 : Int) ≤ 2 ^ sn by omega)
  have hip := Int.mul_nonneg h0 (show (0 : Int) ≤ 2 ^ sn by omega)
  have eor : lork .u64 (hi * 2 ^ sn) (lo / 2 ^ Lib.bitLen Yn) = hi * 2 ^ sn + lo / 2 ^ Lib.bitLen Yn := by
    obtain ⟨a, ha⟩ := Int.eq_ofNat_of_zero_le h0
    obtain ⟨b, hb⟩ := Int.eq_ofNat_of_zero_le up0
    rw [hb, ha]
    have q1 : b < 2 ^ sn := by
      have : (b : Int) < 2 ^ sn := by omega
      exact_mod_cast this
    have q2 : a * 2 ^ sn < 18446744073709551616 := by
      have e1 : (a : Int) * 2 ^ sn < 18446744073709551616 := by rw [← ha]; omega
      have e2 : ((a * 2 ^ sn : Nat) : Int) = (a : Int) * 2 ^ sn := by rw [Int.natCast_mul, Int.natCast_pow]; rfl
      omega
    have q3 : (2 : Int) ^ sn ≤ 18446744073709551616 := by
      have : (1 : Int) ≤ 2 ^ Lib.bitLen Yn := by omega
      have := Int.mul_le_mul_of_nonneg_left this (show (0 : Int) ≤ 2 ^ sn by omega)
      omega
    exact lor_sum sn q1 q2 (by omega)
  have eY : y * 2 ^ sn % 18446744073709551616 = y * 2 ^ sn := by omega
  have eH : hi * 2 ^ sn % 18446744073709551616 = hi * 2 ^ sn := by omega
  have hsum : (hi * 18446744073709551616 + lo) * 2 ^ sn = (hi * 2 ^ sn + lo / 2 ^ Lib.bitLen Yn) * 18446744073709551616 + lo * 2 ^ sn % 18446744073709551616 := by
    have a := Int.emod_add_ediv_mul (lo * 2 ^ sn) 18446744073709551616
    rw [dup] at a
    have b : (hi * 18446744073709551616 + lo) * 2 ^ sn = hi * 2 ^ sn * 18446744073709551616 + lo * 2 ^ sn := by grind
    omega
  have hunY : hi * 2 ^ sn + lo / 2 ^ Lib.bitLen Yn < y * 2 ^ sn := by
    have := Int.mul_le_mul_of_nonneg_right (show hi + 1 ≤ y by omega) (show (0 : Int) ≤ 2 ^ sn by omega)
    rw [Int.add_mul] at this
    omega
  have l0 := Int.emod_nonneg (lo * 2 ^ sn) (show (18446744073709551616 : Int) ≠ 0 by omega)
  have l1 := Int.emod_lt_of_pos (lo * 2 ^ sn) (show (0 : Int) < 18446744073709551616 by omega)
  rw [fdv (by omega)] at e34
  rw [eH, e34, eor] at e35
  rw [eY, fdv (by omega)] at e20
  rw [eY, land_mask (by omega) hYhi] at e24
  rw [fdv (by omega)] at e43
  rw [land_mask l0 l1] at e47
  generalize hun : hi * 2 ^ sn + lo / 2 ^ Lib.bitLen Yn = un at *
  generalize hul : lo * 2 ^ sn % 18446744073709551616 = ul at *
  generalize hYY : y * 2 ^ sn = Y at *
  have hun0 : 0 ≤ un := by omega
  have hY : x20 * 4294967296 + x24 = Y := by omega
  have hv : x43 * 4294967296 + x47 = ul := by omega
  have db : DB x20 x24 x35 x43 := ⟨by omega, by omega, by omega, by omega, by omega, by omega, by omega, by omega⟩
  refine ⟨by omega, db, by omega, by omega, ?_, ?_, by omega⟩
  all_goals
    have hm := Int.emod_add_ediv_mul (x35 * 4294967296 + x43) Y
    have n0 := Int.emod_nonneg (x35 * 4294967296 + x43) (show Y ≠ 0 by omega)
    have n1 := Int.emod_lt_of_pos (x35 * 4294967296 + x43) (show 0 < Y by omega)
    simp only [dg, hY]
    generalize (x35 * 4294967296 + x43) % Y = u21 at *
    generalize (x35 * 4294967296 + x43) / Y = q1 at *
    have hm0 := Int.emod_add_ediv_mul (u21 * 4294967296 + x47) Y
    have s0 := Int.emod_nonneg (u21 * 4294967296 + x47) (show Y ≠ 0 by omega)
    have s1 := Int.emod_lt_of_pos (u21 * 4294967296 + x47) (show 0 < Y by omega)
    generalize (u21 * 4294967296 + x47) % Y = r at *
    generalize (u21 * 4294967296 + x47) / Y = q0 at *
    generalize hu : hi * 18446744073709551616 + lo = u at *
    have hU : u * 2 ^ sn = (q1 * 4294967296 + q0) * Y + r := by
      have : (q1 * 4294967296 + q0) * Y = q1 * Y * 4294967296 + q0 * Y := by grind
      omega
    have hR : r = (u - (q1 * 4294967296 + q0) * y) * 2 ^ sn := by
      rw [← hYY] at hU
      grind
    have w0 : 0 ≤ u - (q1 * 4294967296 + q0) * y := by
      apply Int.nonneg_of_mul_nonneg_left (b := 2 ^ sn) _ hp0
      rw [← hR]; exact s0
    have w1 : u - (q1 * 4294967296 + q0) * y < y := by
      apply Int.lt_of_mul_lt_mul_right (a := 2 ^ sn) _ (by omega)
      rw [← hR, hYY]; exact s1
    have eq1 : u / y = q1 * 4294967296 + q0 := by
      rw [Int.ediv_eq_iff_of_pos (by omega)]
      grind
    first
      | exact eq1.symm
      | rw [hR, Int.mul_ediv_cancel _ (by omega), Int.emod_def, eq1, Int.mul_comm y]
/-- The two digits together, and what is left in the end. -/
theorem dl_last {hi lo y p a b u v w q1 q0 u21 t m z : Int} (F : DF hi lo y p a b u v w) (hq1 : q1 = dg a b u v) (hu : u21 = (u * 4294967296 + v) % (a * 4294967296 + b)) (hq0 : q0 = dg a b u21 w)
    (ht : t = u21 * 4294967296 % 18446744073709551616) (hm : m = q0 * (y * p % 18446744073709551616) % 18446744073709551616) (hz : z = ((t + w) % 18446744073709551616 - m) % 18446744073709551616) :
    (q1 * 4294967296 % 18446744073709551616 + q0) % 18446744073709551616 = (hi * 18446744073709551616 + lo) / y ∧ z.fdiv p = (hi * 18446744073709551616 + lo) % y := by
  have D2 := dl_next F.db F.w0 F.w1
  rw [← hu] at D2
  obtain ⟨q1a, q1b, q1c, q1d⟩ := dg_of F.db
  obtain ⟨q0a, q0b, q0c, q0d⟩ := dg_of D2
  have l := dl_left D2 hq0 F.hY (t := (t + w) % 18446744073709551616) (by rw [ht]) hm
  rw [l] at hz
  rw [fdv F.hp, hz, ← F.hq, ← F.hr, hu, ← hu, hq1, hq0]
  exact ⟨by omega, rfl⟩
end Go.Proofs.Ytkepkjahbcddlaa.Fn
