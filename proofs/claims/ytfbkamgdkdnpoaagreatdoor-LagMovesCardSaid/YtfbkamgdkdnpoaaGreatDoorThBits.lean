/- What the printed functions over 64 bits answer, in whole numbers: the product, the shifts, the quotient of a number of 128 bits. For numbers of the kind uint64; the quotient where the divisor is above the high half. -/
import Derived.Test.YtfbkamgdkdnpoaaGreatDoorThBase
import Derived.Test.YtfbkamgdkdnpoaaGreatDoorPrint1002
import Derived.Lib.Mul64
import Derived.Laws.Bits64b
namespace Go.Proofs.YtfbkamgdkdnpoaaGreatDoor.Th
open Go.RowKit Go.Proofs.YtfbkamgdkdnpoaaGreatDoor.Print Go.Proofs.YtfbkamgdkdnpoaaGreatDoorW.PrintWords Go.Proofs.YtfbkamgdkdnpoaaGreatDoorW.PrintLast Go.Proofs.YtfbkamgdkdnpoaaGreatDoorW.PrintMore Go.Proofs.YtfbkamgdkdnpoaaGreatDoor.Bits
set_option linter.unusedVariables false
set_option linter.unusedSimpArgs false

/-! ### The quotient of 128 bits by 64 -/
theorem guess_down {yn1 yn0 un32 un1 q qh rhat : Int} (hq1 : un32 * 4294967296 + un1 < (q + 1) * (yn1 * 4294967296 + yn0)) (hinv : qh * yn1 + rhat = un32) (hy : 0 ≤ yn0) (hy1 : 0 < yn1)
    (hge : q ≤ qh) (ht : qh * yn0 ≤ 4294967296 * rhat + un1) : qh = q := by
  have h1 : qh * (yn1 * 4294967296 + yn0) ≤ un32 * 4294967296 + un1 := by grind
  have h2 : qh * (yn1 * 4294967296 + yn0) < (q + 1) * (yn1 * 4294967296 + yn0) := by omega
  have h3 : qh < q + 1 := Int.lt_of_mul_lt_mul_right h2 (by omega)
  omega
theorem guess_up {yn1 yn0 un32 un1 q qh rhat : Int} (hq0 : q * (yn1 * 4294967296 + yn0) ≤ un32 * 4294967296 + un1) (hinv : qh * yn1 + rhat = un32) (hy : 0 ≤ yn0) (hy1 : 0 < yn1)
    (ht : 4294967296 * rhat + un1 < qh * yn0) : q + 1 ≤ qh := by
  have h1 : un32 * 4294967296 + un1 < qh * (yn1 * 4294967296 + yn0) := by grind
  have h2 : q * (yn1 * 4294967296 + yn0) < qh * (yn1 * 4294967296 + yn0) := by omega
  have h3 : q < qh := Int.lt_of_mul_lt_mul_right h2 (by omega)
  omega
section
variable {Y s yn1 yn0 un32 un1 un0 q : Int} (hY : Y = yn1 * 4294967296 + yn0) (h1 : 2147483648 ≤ yn1) (h1' : yn1 < 4294967296) (h0 : 0 ≤ yn0) (h0' : yn0 < 4294967296)
  (hu1 : 0 ≤ un1) (hu1' : un1 < 4294967296) (hqp : 0 ≤ q) (hqB : q < 4294967296)
include hY h1 h1' h0 h0' hu1 hu1' hqp hqB
theorem div64_l0 (hq0 : q * Y ≤ un32 * 4294967296 + un1) (hq1 : un32 * 4294967296 + un1 < (q + 1) * Y) (m : Nat) : ∀ (c k : Nat) (qh rhat : Int), 4294967296 ≤ rhat + c * 2147483648 → m + 2 * c ≤ k → q ≤ qh → qh ≤ 4294967297 → 0 ≤ rhat → rhat < 4294967296 →
    qh * yn1 + rhat = un32 → ∃ k', m ≤ k' ∧ bits_Div64.l0 k Y s yn1 yn0 un32 un1 un0 qh rhat = bits_Div64.j2 k' Y s yn1 yn0 un32 un1 un0 q := by
  subst hY
  intro c
  induction c with
  | zero => intro k qh rhat hc; omega
  | succ c ih =>
    intro k qh rhat hc hk hge hle hr0 hr1 hinv
    obtain ⟨k, rfl⟩ : ∃ j, k = j + 2 := ⟨k - 2, by omega⟩
    have hT : bits_Div64.l0 (k + 2) (yn1 * 4294967296 + yn0) s yn1 yn0 un32 un1 un0 qh rhat = bits_Div64.j1 (k + 1) (yn1 * 4294967296 + yn0) s yn1 yn0 un32 un1 un0 qh rhat (decide (4294967296 ≤ qh ∨ 4294967296 * rhat + un1 < qh * yn0)) := by
      rw [bits_Div64.l0]
      by_cases hb : qh ≥ 4294967296
      · rw [if_pos hb, decide_eq_true (Or.inl hb)]
      · rw [if_neg hb]
        have p := mul_below (a := qh) (b := yn0) (c := 4294967295) (d := 4294967295) (by omega) (by omega) (by omega) (by omega)
        rw [u64_id (n := qh * yn0) (by omega) (by omega), u64_id (n := 4294967296 * rhat) (by omega) (by omega), u64_id (by omega) (by omega)]
        congr 1
        rw [decide_eq_decide]
        omega
    rw [hT, bits_Div64.j1]
    by_cases ht : 4294967296 ≤ qh ∨ 4294967296 * rhat + un1 < qh * yn0
    · have hup : q + 1 ≤ qh := by
        rcases ht with h | h
        · omega
        · exact guess_up hq0 hinv h0 (by omega) h
      rw [decide_eq_true ht, if_pos rfl, u64_id (n := rhat + yn1) (by omega) (by omega), u64_id (n := qh - 1) (by omega) (by omega)]
      have hinv' : (qh - 1) * yn1 + (rhat + yn1) = un32 := by rw [Int.sub_mul]; omega
      by_cases hb : rhat + yn1 ≥ 4294967296
      · rw [if_pos hb]
        have p := mul_below (a := qh - 1) (b := yn0) (c := 4294967296) (d := 4294967295) (by omega) (by omega) (by omega) (by omega)
        have := guess_down hq1 hinv' h0 (by omega) (by omega) (by omega)
        rw [this]
        exact ⟨k, by omega, rfl⟩
      · rw [if_neg hb]
        exact ih k (qh - 1) (rhat + yn1) (by omega) (by omega) (by omega) (by omega) (by omega) (by omega) hinv'
    · have := guess_down hq1 hinv h0 (by omega) hge (by omega)
      subst this
      rw [decide_eq_false ht, if_neg (by simp)]
      exact ⟨k, by omega, rfl⟩
theorem div64_l1 {un21 q1 : Int} (hs : 0 ≤ s) (hq0 : q * Y ≤ un21 * 4294967296 + un1) (hq1 : un21 * 4294967296 + un1 < (q + 1) * Y) : ∀ (c k : Nat) (qh rhat : Int), 4294967296 ≤ rhat + c * 2147483648 → 2 * c ≤ k → q ≤ qh → qh ≤ 4294967297 → 0 ≤ rhat → rhat < 4294967296 →
    qh * yn1 + rhat = un21 → bits_Div64.l1 k Y s yn1 yn0 un1 q1 rhat un21 qh =
      some (IntKind.u64.wrap (IntKind.u64.wrap (q1 * 4294967296) + q), shr .u64 (IntKind.u64.wrap (IntKind.u64.wrap (IntKind.u64.wrap (un21 * 4294967296) + un1) - IntKind.u64.wrap (q * Y))) s) := by
  subst hY
  intro c
  induction c with
  | zero => intro k qh rhat hc; omega
  | succ c ih =>
    intro k qh rhat hc hk hge hle hr0 hr1 hinv
    obtain ⟨k, rfl⟩ : ∃ j, k = j + 2 := ⟨k - 2, by omega⟩
    have hT : bits_Div64.l1 (k + 2) (yn1 * 4294967296 + yn0) s yn1 yn0 un1 q1 rhat un21 qh = bits_Div64.j4 (k + 1) (yn1 * 4294967296 + yn0) s yn1 yn0 un1 q1 rhat un21 qh (decide (4294967296 ≤ qh ∨ 4294967296 * rhat + un1 < qh * yn0)) := by
      rw [bits_Div64.l1]
      by_cases hb : qh ≥ 4294967296
      · rw [if_pos hb, decide_eq_true (Or.inl hb)]
      · rw [if_neg hb]
        have p := mul_below (a := qh) (b := yn0) (c := 4294967295) (d := 4294967295) (by omega) (by omega) (by omega) (by omega)
        rw [u64_id (n := qh * yn0) (by omega) (by omega), u64_id (n := 4294967296 * rhat) (by omega) (by omega), u64_id (by omega) (by omega)]
        congr 1
        rw [decide_eq_decide]
        omega
    rw [hT, bits_Div64.j4]
    by_cases ht : 4294967296 ≤ qh ∨ 4294967296 * rhat + un1 < qh * yn0
    · have hup : q + 1 ≤ qh := by
        rcases ht with h | h
        · omega
        · exact guess_up hq0 hinv h0 (by omega) h
      rw [decide_eq_true ht, if_pos rfl, u64_id (n := rhat + yn1) (by omega) (by omega), u64_id (n := qh - 1) (by omega) (by omega)]
      have hinv' : (qh - 1) * yn1 + (rhat + yn1) = un21 := by rw [Int.sub_mul]; omega
      by_cases hb : rhat + yn1 ≥ 4294967296
      · rw [if_pos hb, if_pos hs]
        have p := mul_below (a := qh - 1) (b := yn0) (c := 4294967296) (d := 4294967295) (by omega) (by omega) (by omega) (by omega)
        have := guess_down hq1 hinv' h0 (by omega) (by omega) (by omega)
        rw [this]
      · rw [if_neg hb]
        exact ih k (qh - 1) (rhat + yn1) (by omega) (by omega) (by omega) (by omega) (by omega) (by omega) hinv'
    · have := guess_down hq1 hinv h0 (by omega) hge (by omega)
      subst this
      rw [decide_eq_false ht, if_neg (by simp), if_pos hs]
end

theorem first_guess {Y yn1 yn0 u un1 q : Int} (hY : Y = yn1 * 4294967296 + yn0) (h1 : 2147483648 ≤ yn1) (h0 : 0 ≤ yn0) (h0' : yn0 < 4294967296) (hu : 0 ≤ u) (huY : u < Y) (hu1 : 0 ≤ un1) (hu1' : un1 < 4294967296)
    (hq0 : q * Y ≤ u * 4294967296 + un1) (hqp : 0 ≤ q) : q ≤ u / yn1 ∧ u / yn1 ≤ 4294967297 ∧ u / yn1 * yn1 + u % yn1 = u := by
  refine ⟨?_, ?_, Int.ediv_mul_add_emod u yn1⟩
  · apply Int.le_ediv_of_mul_le (by omega)
    have p := Int.mul_nonneg hqp h0
    have e : q * Y = q * yn1 * 4294967296 + q * yn0 := by rw [hY, Int.mul_add, ← Int.mul_assoc]
    omega
  · have : u / yn1 < 4294967298 := by
      apply Int.ediv_lt_of_lt_mul (by omega)
      omega
    omega
theorem quot_of {Y u un1 : Int} (hY : 0 < Y) (hu : 0 ≤ u) (huY : u < Y) (hu1 : 0 ≤ un1) (hu1' : un1 < 4294967296) :
    (u * 4294967296 + un1) / Y * Y ≤ u * 4294967296 + un1 ∧ u * 4294967296 + un1 < ((u * 4294967296 + un1) / Y + 1) * Y ∧ 0 ≤ (u * 4294967296 + un1) / Y ∧ (u * 4294967296 + un1) / Y < 4294967296 := by
  have a := Int.ediv_mul_le (u * 4294967296 + un1) (show Y ≠ 0 by omega)
  have b := Int.lt_ediv_add_one_mul_self (u * 4294967296 + un1) hY
  have c := Int.ediv_nonneg (a := u * 4294967296 + un1) (b := Y) (by omega) (by omega)
  have d : (u * 4294967296 + un1) / Y < 4294967296 := by
    apply Int.ediv_lt_of_lt_mul hY
    have : (u + 1) * 4294967296 ≤ 4294967296 * Y := by omega
    omega
  exact ⟨a, b, c, d⟩
/-- The second digit. -/
theorem div64_j2 {Y s yn1 yn0 un32 un1 un0 q1 : Int} (hY : Y = yn1 * 4294967296 + yn0) (h1 : 2147483648 ≤ yn1) (h1' : yn1 < 4294967296) (h0 : 0 ≤ yn0) (h0' : yn0 < 4294967296) (hs : 0 ≤ s)
    (hu : 0 ≤ un32) (huY : un32 < Y) (hu1 : 0 ≤ un1) (hu1' : un1 < 4294967296) (hu0 : 0 ≤ un0) (hu0' : un0 < 4294967296) (hq1 : q1 = (un32 * 4294967296 + un1) / Y) {k : Nat} (hk : 5 ≤ k) :
    bits_Div64.j2 k Y s yn1 yn0 un32 un1 un0 q1 = some (q1 * 4294967296 + ((un32 * 4294967296 + un1) % Y * 4294967296 + un0) / Y, shr .u64 (((un32 * 4294967296 + un1) % Y * 4294967296 + un0) % Y) s) := by
  have hYp : 0 < Y := by omega
  have hYl : Y < 18446744073709551616 := by omega
  obtain ⟨q1a, q1b, q1c, q1d⟩ := quot_of hYp hu huY hu1 hu1'
  have hm := Int.emod_add_ediv_mul (un32 * 4294967296 + un1) Y
  rw [← hq1] at q1a q1b q1c q1d hm
  have r0 := Int.emod_nonneg (un32 * 4294967296 + un1) (show Y ≠ 0 by omega)
  have r1 := Int.emod_lt_of_pos (un32 * 4294967296 + un1) hYp
  generalize (un32 * 4294967296 + un1) % Y = u21 at *
  obtain ⟨k, rfl⟩ : ∃ j, k = j + 1 := ⟨k - 1, by omega⟩
  rw [bits_Div64.j2, if_neg (by omega)]
  have e21 : IntKind.u64.wrap (IntKind.u64.wrap (IntKind.u64.wrap (un32 * 4294967296) + un1) - IntKind.u64.wrap (q1 * Y)) = u21 := by
    simp only [u64w]
    omega
  rw [e21]
  obtain ⟨q0a, q0b, q0c, q0d⟩ := quot_of hYp r0 r1 hu0 hu0'
  have hm0 := Int.emod_add_ediv_mul (u21 * 4294967296 + un0) Y
  have s0 := Int.emod_nonneg (u21 * 4294967296 + un0) (show Y ≠ 0 by omega)
  have s1 := Int.emod_lt_of_pos (u21 * 4294967296 + un0) hYp
  generalize (u21 * 4294967296 + un0) % Y = r at *
  generalize (u21 * 4294967296 + un0) / Y = q0 at *
  obtain ⟨g1, g2, g3⟩ := first_guess hY h1 h0 h0' r0 r1 hu0 hu0' q0a q0c
  have m0 := Int.emod_nonneg u21 (show yn1 ≠ 0 by omega)
  have m1 := Int.emod_lt_of_pos u21 (show 0 < yn1 by omega)
  rw [Int.tdiv_eq_ediv_of_nonneg r0]
  have g0 : 0 ≤ u21 / yn1 := by omega
  have p := mul_below (a := u21 / yn1) (b := yn1) (c := 4294967297) (d := 4294967295) g0 g2 (by omega) (by omega)
  rw [u64_id (n := u21 / yn1) (by omega) (by omega), u64_id (n := u21 / yn1 * yn1) (by omega) (by omega), u64_id (n := u21 - u21 / yn1 * yn1) (by omega) (by omega)]
  rw [div64_l1 hY h1 h1' h0 h0' hu0 hu0' q0c q0d hs q0a q0b 2 k (u21 / yn1) (u21 - u21 / yn1 * yn1) (by omega) (by omega) g1 g2 (by omega) (by omega) (by omega)]
  rw [u64_id (n := q1 * 4294967296) (by omega) (by omega), u64_id (n := q1 * 4294967296 + q0) (by omega) (by omega)]
  have er : IntKind.u64.wrap (IntKind.u64.wrap (IntKind.u64.wrap (u21 * 4294967296) + un0) - IntKind.u64.wrap (q0 * Y)) = r := by
    simp only [u64w]
    omega
  rw [er]

theorem bitLen_bounds : ∀ (n x : Nat), x ≤ n → x ≠ 0 → x < 2 ^ 64 → 2 ^ (Lib.bitLen x - 1) ≤ x ∧ x < 2 ^ Lib.bitLen x ∧ 1 ≤ Lib.bitLen x := by
  intro n
  induction n with
  | zero => intro x h1 h2; omega
  | succ n ih =>
    intro x hx h0 h
    have e := Lib.bitLen_half x h0 h
    by_cases h1 : x = 1
    · subst h1; decide
    · obtain ⟨a, b, c⟩ := ih (x / 2) (by omega) (by omega) (by omega)
      have e2 : 2 ^ Lib.bitLen x = 2 * 2 ^ Lib.bitLen (x / 2) := by rw [e, Nat.pow_add]
      have e3 : 2 ^ (Lib.bitLen x - 1) = 2 * 2 ^ (Lib.bitLen (x / 2) - 1) := by
        rw [e, show 1 + Lib.bitLen (x / 2) - 1 = 1 + (Lib.bitLen (x / 2) - 1) by omega, Nat.pow_add]
      omega
theorem and_mask {x : Int} (h : 0 ≤ x) (h' : x < 18446744073709551616) : Go.bits .and .u64 x 4294967295 = x % 4294967296 := by
  obtain ⟨a, rfl⟩ := Int.eq_ofNat_of_zero_le h
  have := bits_and_u64_nat a 4294967295 (by omega) (by omega)
  have e : a &&& 4294967295 = a % 4294967296 := Nat.and_two_pow_sub_one_eq_mod a 32
  rw [e] at this
  exact this
theorem or_sum {a b : Nat} (s : Nat) (hb : b < 2 ^ s) (h : a * 2 ^ s < 18446744073709551616) (hb' : b < 18446744073709551616) : Go.bits .or .u64 ((a : Int) * 2 ^ s) (b : Int) = (a : Int) * 2 ^ s + b := by
  have := bits_or_u64_nat (a * 2 ^ s) b h hb'
  have e : a * 2 ^ s ||| b = a * 2 ^ s + b := by
    rw [← Nat.shiftLeft_eq]
    exact (Nat.shiftLeft_add_eq_or_of_lt hb a).symm
  rw [e] at this
  have c : ((a * 2 ^ s : Nat) : Int) = (a : Int) * 2 ^ s := by
    rw [Int.natCast_mul, Int.natCast_pow]; rfl
  rw [c] at this
  rw [this, Int.natCast_add, c]
/-- Div64: the quotient, and what is left. -/
theorem div64 {hi lo y : Int} {k : Nat} (hk : 10 ≤ k) (h0 : 0 ≤ hi) (h1 : hi < y) (hl : 0 ≤ lo) (hl' : lo < 18446744073709551616) (hy : y < 18446744073709551616) :
    bits_Div64.f k hi lo y = some ((hi * 18446744073709551616 + lo) / y, (hi * 18446744073709551616 + lo) % y) := by
  unfold bits_Div64.f
  rw [if_neg (by omega), if_neg (by omega)]
  by_cases hz : hi = 0
  · subst hz
    rw [if_pos rfl, Int.tdiv_eq_ediv_of_nonneg hl, Int.tmod_eq_emod_of_nonneg hl]
    have a := Int.ediv_nonneg hl (show 0 ≤ y by omega)
    have b := Int.ediv_le_self y hl
    rw [u64_id a (by omega)]
    simp
  rw [if_neg hz]
  obtain ⟨Yn, hYn⟩ := Int.eq_ofNat_of_zero_le (show 0 ≤ y by omega)
  obtain ⟨b1, b2, b3⟩ := bitLen_bounds Yn Yn (Nat.le_refl _) (by omega) (by omega)
  have b4 : Lib.bitLen Yn ≤ 64 := Lib.bitLen_le Yn 64 (by omega) (by omega)
  have hLZ : bits_LeadingZeros64.f y = some (64 - (Lib.bitLen Yn : Int)) := by
    unfold bits_LeadingZeros64.f bits_Len64.f
    rw [if_pos ⟨by omega, by omega⟩]
    simp only [Option.bind_some]
    congr 1
    rw [hYn]
    simp only [Int.toNat_natCast]
    unfold wrap64
    omega
  rw [hLZ]
  simp only [Option.bind_some]
  obtain ⟨sn, hsn⟩ : ∃ sn : Nat, sn + Lib.bitLen Yn = 64 := ⟨64 - Lib.bitLen Yn, by omega⟩
  have es : (64 - (Lib.bitLen Yn : Int)) = (sn : Int) := by omega
  rw [es, u64_id (n := (sn : Int)) (by omega) (by omega), u64_id (n := 64 - (sn : Int)) (by omega) (by omega), if_pos (by omega), if_pos (by omega)]
  -- the powers
  have hp : (2 : Int) ^ sn * 2 ^ Lib.bitLen Yn = 18446744073709551616 := by rw [← Int.pow_add, hsn]; rfl
  have hr2 : ∀ m : Nat, 1 ≤ m → (2 : Int) ^ m = 2 * 2 ^ (m - 1) := by
    intro m hm
    obtain ⟨j, rfl⟩ : ∃ j, m = j + 1 := ⟨m - 1, by omega⟩
    rw [Int.pow_succ, Nat.add_sub_cancel, Int.mul_comm]
  have hr := hr2 (Lib.bitLen Yn) b3
  have c1 : (2 : Int) ^ (Lib.bitLen Yn - 1) ≤ y := by rw [hYn]; exact_mod_cast b1
  have c2 : y < (2 : Int) ^ Lib.bitLen Yn := by rw [hYn]; exact_mod_cast b2
  have hp0 : (0 : Int) < 2 ^ sn := Int.pow_pos (by omega)
  have hr0 : (0 : Int) < 2 ^ Lib.bitLen Yn := Int.pow_pos (by omega)
  have m1 : min ((sn : Int)).toNat IntKind.u64.bits = sn := by simp [IntKind.bits]; omega
  have m2 : min (64 - (sn : Int)).toNat IntKind.u64.bits = Lib.bitLen Yn := by
    have : IntKind.u64.bits = 64 := rfl
    rw [this]; omega
  have eY : shl .u64 y (sn : Int) = y * 2 ^ sn := by
    unfold shl
    rw [m1]
    apply u64_id (Int.mul_nonneg (by omega) (by omega))
    have := Int.mul_lt_mul_of_pos_right c2 hp0
    rw [Int.mul_comm (2 ^ Lib.bitLen Yn), hp] at this
    exact this
  have hYlo : 9223372036854775808 ≤ y * 2 ^ sn := by
    have := Int.mul_le_mul_of_nonneg_right c1 (show (0 : Int) ≤ 2 ^ sn by omega)
    have e : (2 : Int) ^ (Lib.bitLen Yn - 1) * 2 ^ sn = 9223372036854775808 := by
      have : (2 : Int) ^ sn * (2 * 2 ^ (Lib.bitLen Yn - 1)) = 18446744073709551616 := by rw [← hr]; exact hp
      grind
    omega
  have hYhi : y * 2 ^ sn < 18446744073709551616 := by
    have := Int.mul_lt_mul_of_pos_right c2 hp0
    rw [Int.mul_comm (2 ^ Lib.bitLen Yn), hp] at this
    exact this
  have ehi : shl .u64 hi (sn : Int) = hi * 2 ^ sn := by
    unfold shl
    rw [m1]
    apply u64_id (Int.mul_nonneg (by omega) (by omega))
    have := Int.mul_lt_mul_of_pos_right h1 hp0
    omega
  have hhi : hi * 2 ^ sn < y * 2 ^ sn := Int.mul_lt_mul_of_pos_right h1 hp0
  have elo : shl .u64 lo (sn : Int) = (lo * 2 ^ sn) % 18446744073709551616 := by
    unfold shl
    rw [m1, u64w]
  have eup : shr .u64 lo (64 - (sn : Int)) = lo / 2 ^ Lib.bitLen Yn := by
    unfold shr
    rw [m2]
  have dup : lo * 2 ^ sn / 18446744073709551616 = lo / 2 ^ Lib.bitLen Yn := by
    rw [← hp, Int.mul_comm lo, Int.mul_ediv_mul_of_pos _ _ hp0]
  have up0 : 0 ≤ lo / 2 ^ Lib.bitLen Yn := Int.ediv_nonneg hl (by omega)
  have up1 : lo / 2 ^ Lib.bitLen Yn < 2 ^ sn := by
    apply Int.ediv_lt_of_lt_mul hr0
    rw [hp]; exact hl'
  have lop := Int.mul_nonneg hl (show (0 : Int) ≤ 2 ^ sn by omega)
  have hip := Int.mul_nonneg h0 (show (0 : Int) ≤ 2 ^ sn by omega)
  have eor : Go.bits .or .u64 (hi * 2 ^ sn) (lo / 2 ^ Lib.bitLen Yn) = hi * 2 ^ sn + lo / 2 ^ Lib.bitLen Yn := by
    obtain ⟨a, ha⟩ := Int.eq_ofNat_of_zero_le h0
    obtain ⟨b, hb⟩ := Int.eq_ofNat_of_zero_le up0
    rw [hb, ha]
    have q1 : b < 2 ^ sn := by
      have : (b : Int) < 2 ^ sn := by omega
      exact_mod_cast this
    have q2 : a * 2 ^ sn < 18446744073709551616 := by
      have e1 : (a : Int) * 2 ^ sn < 18446744073709551616 := by rw [← ha]; omega
      have e2 : ((a * 2 ^ sn : Nat) : Int) = (a : Int) * 2 ^ sn := by rw [Int.natCast_mul, Int.natCast_pow]; rfl
      omega
    have q3 : (2 : Int) ^ sn ≤ 18446744073709551616 := by
      have : (1 : Int) ≤ 2 ^ Lib.bitLen Yn := by omega
      have := Int.mul_le_mul_of_nonneg_left this (show (0 : Int) ≤ 2 ^ sn by omega)
      omega
    exact or_sum sn q1 q2 (by omega)
  rw [eY, ehi, elo, eup, eor]
  -- the numbers
  have hsum : (hi * 18446744073709551616 + lo) * 2 ^ sn = (hi * 2 ^ sn + lo / 2 ^ Lib.bitLen Yn) * 18446744073709551616 + lo * 2 ^ sn % 18446744073709551616 := by
    have a := Int.emod_add_ediv_mul (lo * 2 ^ sn) 18446744073709551616
    rw [dup] at a
    have b : (hi * 18446744073709551616 + lo) * 2 ^ sn = hi * 2 ^ sn * 18446744073709551616 + lo * 2 ^ sn := by grind
    omega
  have hunY : hi * 2 ^ sn + lo / 2 ^ Lib.bitLen Yn < y * 2 ^ sn := by
    have := Int.mul_le_mul_of_nonneg_right (show hi + 1 ≤ y by omega) (show (0 : Int) ≤ 2 ^ sn by omega)
    rw [Int.add_mul] at this
    omega
  have l0 := Int.emod_nonneg (lo * 2 ^ sn) (show (18446744073709551616 : Int) ≠ 0 by omega)
  have l1 := Int.emod_lt_of_pos (lo * 2 ^ sn) (show (0 : Int) < 18446744073709551616 by omega)
  have hshr : ∀ r : Int, shr .u64 r (sn : Int) = r / 2 ^ sn := by intro r; unfold shr; rw [m1]
  generalize hun : hi * 2 ^ sn + lo / 2 ^ Lib.bitLen Yn = un at *
  generalize hul : lo * 2 ^ sn % 18446744073709551616 = ul at *
  generalize hYY : y * 2 ^ sn = Y at *
  have hun0 : 0 ≤ un := by omega
  rw [and_mask (x := Y) (by omega) (by omega), and_mask (x := ul) l0 l1, if_neg (by omega)]
  have hY : Y = Y / 4294967296 * 4294967296 + Y % 4294967296 := by omega
  have hYp : 0 < Y := by omega
  obtain ⟨q1a, q1b, q1c, q1d⟩ := quot_of (un1 := ul / 4294967296) hYp hun0 hunY (by omega) (by omega)
  obtain ⟨g1, g2, g3⟩ := first_guess (un1 := ul / 4294967296) hY (by omega) (by omega) (by omega) hun0 hunY (by omega) (by omega) q1a q1c
  have m0 := Int.emod_nonneg un (show Y / 4294967296 ≠ 0 by omega)
  have m1 := Int.emod_lt_of_pos un (show 0 < Y / 4294967296 by omega)
  have p := mul_below (a := un / (Y / 4294967296)) (b := Y / 4294967296) (c := 4294967297) (d := 4294967295) (by omega) g2 (by omega) (by omega)
  rw [Int.tdiv_eq_ediv_of_nonneg hun0, u64_id (n := un / (Y / 4294967296)) (by omega) (by omega), u64_id (n := un / (Y / 4294967296) * (Y / 4294967296)) (by omega) (by omega),
    u64_id (n := un - un / (Y / 4294967296) * (Y / 4294967296)) (by omega) (by omega)]
  obtain ⟨k', hk', e⟩ := div64_l0 (s := (sn : Int)) (un0 := ul % 4294967296) hY (by omega) (by omega) (by omega) (by omega) (show 0 ≤ ul / 4294967296 by omega) (by omega) q1c q1d q1a q1b 5 2 k (un / (Y / 4294967296)) (un - un / (Y / 4294967296) * (Y / 4294967296))
    (by omega) (by omega) g1 g2 (by omega) (by omega) (by omega)
  rw [e, div64_j2 hY (by omega) (by omega) (by omega) (by omega) (by omega) hun0 hunY (by omega) (by omega) (by omega) (by omega) rfl hk', hshr]
  -- what it is
  have hm := Int.emod_add_ediv_mul (un * 4294967296 + ul / 4294967296) Y
  have n0 := Int.emod_nonneg (un * 4294967296 + ul / 4294967296) (show Y ≠ 0 by omega)
  have n1 := Int.emod_lt_of_pos (un * 4294967296 + ul / 4294967296) hYp
  generalize (un * 4294967296 + ul / 4294967296) % Y = u21 at *
  generalize (un * 4294967296 + ul / 4294967296) / Y = q1 at *
  have hm0 := Int.emod_add_ediv_mul (u21 * 4294967296 + ul % 4294967296) Y
  have s0 := Int.emod_nonneg (u21 * 4294967296 + ul % 4294967296) (show Y ≠ 0 by omega)
  have s1 := Int.emod_lt_of_pos (u21 * 4294967296 + ul % 4294967296) hYp
  generalize (u21 * 4294967296 + ul % 4294967296) % Y = r at *
  generalize (u21 * 4294967296 + ul % 4294967296) / Y = q0 at *
  generalize hu : hi * 18446744073709551616 + lo = u at *
  have hU : u * 2 ^ sn = (q1 * 4294967296 + q0) * Y + r := by
    have : (q1 * 4294967296 + q0) * Y = q1 * Y * 4294967296 + q0 * Y := by grind
    omega
  have hR : r = (u - (q1 * 4294967296 + q0) * y) * 2 ^ sn := by
    rw [← hYY] at hU
    grind
  have w0 : 0 ≤ u - (q1 * 4294967296 + q0) * y := by
    apply Int.nonneg_of_mul_nonneg_left (b := 2 ^ sn) _ hp0
    rw [← hR]; exact s0
  have w1 : u - (q1 * 4294967296 + q0) * y < y := by
    apply Int.lt_of_mul_lt_mul_right (a := 2 ^ sn) _ (by omega)
    rw [← hR, hYY]; exact s1
  have eq1 : u / y = q1 * 4294967296 + q0 := by
    rw [Int.ediv_eq_iff_of_pos (by omega)]
    grind
  have er : r / 2 ^ sn = u % y := by
    rw [hR, Int.mul_ediv_cancel _ (by omega), Int.emod_def, eq1, Int.mul_comm y]
  rw [eq1, er]
end Go.Proofs.YtfbkamgdkdnpoaaGreatDoor.Th
