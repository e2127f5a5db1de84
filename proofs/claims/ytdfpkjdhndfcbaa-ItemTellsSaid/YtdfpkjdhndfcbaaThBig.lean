/- What the printed functions over the document's numbers (digits of base 10000) answer, in whole numbers: one number of 64 bits, a sum, a difference, the sign, which is greater, a power of two. For numbers between -10^120 and 10^120. -/
import Derived.Test.YtdfpkjdhndfcbaaThTime
import Derived.Test.YtdfpkjdhndfcbaaPrint1008
namespace Go.Proofs.Ytdfpkjdhndfcbaa.Th
open Go.RowKit Go.Proofs.Ytdfpkjdhndfcbaa.Print Go.Proofs.YtdfpkjdhndfcbaaW.PrintWords Go.Proofs.YtdfpkjdhndfcbaaW.PrintLast Go.Proofs.YtdfpkjdhndfcbaaW.PrintMore Go.Proofs.Ytdfpkjdhndfcbaa.Bits
set_option linter.unusedVariables false
set_option linter.unusedSimpArgs false
/-- The value of digits, the lowest first. -/
def V : List Int → Int
  | [] => 0
  | d :: l => d + 10000 * V l
def OKd (l : List Int) : Prop := ∀ d ∈ l, 0 ≤ d ∧ d < 10000
/-- A number's digits, none ahead of the highest one nought. -/
def digs (n : Nat) : List Int := if h : n = 0 then [] else ((n % 10000 : Nat) : Int) :: digs (n / 10000)
termination_by n
decreasing_by omega
theorem digs_zero : digs 0 = [] := by rw [digs]; rfl
theorem digs_pos {n : Nat} (h : 0 < n) : digs n = ((n % 10000 : Nat) : Int) :: digs (n / 10000) := by rw [digs, dif_neg (by omega)]
theorem OKd.tail {d : Int} {l : List Int} (h : OKd (d :: l)) : OKd l := fun x hx => h x (by simp [hx])
theorem V_nonneg : ∀ l : List Int, OKd l → 0 ≤ V l
  | [], _ => Int.le_refl 0
  | d :: l, h => by
    have a := (h d (by simp)).1
    have b := V_nonneg l h.tail
    unfold V; omega
theorem V_digs (n : Nat) : V (digs n) = n := by
  induction n using Nat.strongRecOn with
  | ind n ih =>
    by_cases h : n = 0
    · subst h; rw [digs_zero]; rfl
    · rw [digs_pos (by omega), V, ih (n / 10000) (by omega)]; omega
theorem OKd_digs (n : Nat) : OKd (digs n) := by
  induction n using Nat.strongRecOn with
  | ind n ih =>
    by_cases h : n = 0
    · subst h; rw [digs_zero]; intro d hd; simp at hd
    · rw [digs_pos (by omega)]
      intro d hd
      rcases List.mem_cons.1 hd with rfl | hd
      · omega
      · exact ih (n / 10000) (by omega) d hd
/-- Digits without noughts ahead are the number's. -/
theorem canon : ∀ l : List Int, OKd l → (∀ h : l ≠ [], l.getLast h ≠ 0) → l = digs (V l).toNat
  | [], _, _ => by rw [V, Int.toNat_zero, digs_zero]
  | d :: l, h, hz => by
    obtain ⟨d0, d1⟩ := h d (by simp)
    have hl := V_nonneg l h.tail
    have ih := canon l h.tail (fun hne => by have := hz (by simp); rwa [List.getLast_cons hne] at this)
    have hp : 0 < V (d :: l) := by
      unfold V
      by_cases hne : l = []
      · subst hne
        have : d ≠ 0 := hz (by simp)
        unfold V; omega
      · have : V l ≠ 0 := by
          intro e
          rw [e, Int.toNat_zero, digs_zero] at ih
          exact hne ih
        omega
    rw [digs_pos (by omega)]
    have hV : V (d :: l) = d + 10000 * V l := rfl
    have e1 : (((V (d :: l)).toNat % 10000 : Nat) : Int) = d := by rw [hV]; omega
    have e2 : (V (d :: l)).toNat / 10000 = (V l).toNat := by rw [hV]; omega
    rw [e1, e2, ← ih]
theorem V_snoc : ∀ (l : List Int) (d : Int), V (l ++ [d]) = V l + 10000 ^ l.length * d
  | [], d => by simp [V]
  | c :: l, d => by
    rw [List.cons_append, V, V_snoc l d, V, List.length_cons, Int.pow_succ]
    grind
theorem OKd.append {l m : List Int} (h : OKd l) (k : OKd m) : OKd (l ++ m) := by
  intro d hd
  rcases List.mem_append.1 hd with hd | hd
  · exact h d hd
  · exact k d hd
theorem OKd_one {d : Int} (h0 : 0 ≤ d) (h1 : d < 10000) : OKd [d] := by
  intro x hx
  rw [List.mem_singleton.1 hx]; exact ⟨h0, h1⟩
/-! ### trim -/
theorem snoc_cases (l : List Int) : l = [] ∨ ∃ m d, l = m ++ [d] := by
  by_cases h : l = []
  · exact .inl h
  · exact .inr ⟨l.dropLast, l.getLast h, (List.dropLast_concat_getLast h).symm⟩
theorem trim_eq (n : Bool) : ∀ (m : Nat) (l : List Int) (k : Nat), l.length = m → m ≤ 4611686018427387904 → m < k → OKd l →
    turnstoneref01_trim.f k n l = some (if V l = 0 then false else n, digs (V l).toNat) := by
  intro m
  induction m with
  | zero =>
    intro l k hl _ hk _
    obtain ⟨k, rfl⟩ : ∃ j, k = j + 1 := ⟨k - 1, by omega⟩
    have : l = [] := List.eq_nil_of_length_eq_zero hl
    subst this
    unfold turnstoneref01_trim.f
    have hV : V [] = 0 := rfl
    rw [turnstoneref01_trim.l0, if_neg (by simp), if_pos (by simp), hV, if_pos rfl, Int.toNat_zero, digs_zero]
  | succ m ih =>
    intro l k hl hm hk ho
    obtain ⟨k, rfl⟩ : ∃ j, k = j + 1 := ⟨k - 1, by omega⟩
    rcases snoc_cases l with rfl | ⟨l, d, rfl⟩
    · simp at hl
    have hlen : l.length = m := by simpa using hl
    have hL : (l ++ [d]).length = m + 1 := by simp [hlen]
    have e1 : wrap64 (((l ++ [d]).length : Int) - 1) = (l.length : Int) := by rw [w64, hL, hlen]; omega
    have e2 : rd (l ++ [d]) (l.length : Int) = d := by
      rw [rd_nat _ _ (by simp)]
      simp
    have e3 : (l ++ [d]).take ((l.length : Int)).toNat = l := by simp
    have ih' := ih l k hlen (by omega) (by omega) (fun x hx => ho x (by simp [hx]))
    unfold turnstoneref01_trim.f at ih' ⊢
    rw [turnstoneref01_trim.l0, if_pos (by omega), e1, if_pos (by omega), if_pos (by omega), e2]
    by_cases hd : d = 0
    · subst hd
      rw [if_pos rfl, if_pos (by omega), e3, V_snoc, Int.mul_zero, Int.add_zero]
      exact ih'
    · have hc := canon (l ++ [d]) ho (fun _ => by simpa using hd)
      have hne : V (l ++ [d]) ≠ 0 := by
        intro e
        rw [e, Int.toNat_zero, digs_zero] at hc
        simp at hc
      rw [if_neg hd, if_neg (by omega), if_neg hne, ← hc]
/-! ### A number's digits by place -/
theorem digit_eq (n : Bool) (l : List Int) (i : Nat) : turnstoneref01_digit.f n l (i : Int) = some (l.getD i 0) := by
  unfold turnstoneref01_digit.f
  by_cases h : i < l.length
  · rw [if_pos (by omega), if_pos (by omega)]
    unfold rd
    simp
  · rw [if_neg (by omega)]
    simp [List.getD_eq_getElem?_getD, List.getElem?_eq_none (show l.length ≤ i by omega)]
theorem getD_range {l : List Int} (h : OKd l) (i : Nat) : 0 ≤ l.getD i 0 ∧ l.getD i 0 < 10000 := by
  by_cases hi : i < l.length
  · have := h l[i] (List.getElem_mem hi)
    simpa [List.getD_eq_getElem?_getD, hi] using this
  · simp [List.getD_eq_getElem?_getD, List.getElem?_eq_none (show l.length ≤ i by omega)]
theorem V_drop (l : List Int) (i : Nat) : V (l.drop i) = l.getD i 0 + 10000 * V (l.drop (i + 1)) := by
  by_cases hi : i < l.length
  · rw [List.drop_eq_getElem_cons hi, V]
    simp [List.getD_eq_getElem?_getD, hi]
  · rw [List.drop_of_length_le (by omega), List.drop_of_length_le (by omega)]
    simp [V, List.getD_eq_getElem?_getD, List.getElem?_eq_none (show l.length ≤ i by omega)]
theorem OKd.drop {l : List Int} (h : OKd l) (i : Nat) : OKd (l.drop i) := fun d hd => h d (List.mem_of_mem_drop hd)
/-! ### plus -/
theorem plus_l0 (n n' : Bool) {l l' : List Int} (ho : OKd l) (ho' : OKd l') (hl : l.length ≤ 200) (hl' : l'.length ≤ 200) (m : Nat) : ∀ (k i : Nat) (c : Int) (out : List Int), l.length ≤ i + m → l'.length ≤ i + m → (c = 0 ∨ c = 1) → 2 * m + 5 ≤ k →
    i ≤ 200 → out.length + m ≤ 500 → ∃ rest, turnstoneref01_plus.l0 k out c (i : Int) n l n' l' = some (out ++ rest) ∧ OKd rest ∧ V rest = c + V (l.drop i) + V (l'.drop i) ∧ rest.length ≤ m + 1 := by
  induction m with
  | zero =>
    intro k i c out h1 h2 hc hk hi hout
    obtain ⟨k, rfl⟩ : ∃ j, k = j + 4 := ⟨k - 4, by omega⟩
    rw [List.drop_of_length_le (by omega), List.drop_of_length_le (by omega)]
    rcases hc with rfl | rfl
    · refine ⟨[], ?_, by intro d hd; simp at hd, by simp [V], by simp⟩
      rw [turnstoneref01_plus.l0, if_neg (by omega), if_neg (by omega), turnstoneref01_plus.j1, if_neg (by simp), List.append_nil]
    · refine ⟨[1], ?_, OKd_one (by omega) (by omega), by simp [V], by simp⟩
      rw [turnstoneref01_plus.l0, if_neg (by omega), if_neg (by omega), turnstoneref01_plus.j1, if_pos (by simp), digit_eq, digit_eq]
      have g1 : l.getD i 0 = 0 := by simp [List.getD_eq_getElem?_getD, List.getElem?_eq_none (show l.length ≤ i by omega)]
      have g2 : l'.getD i 0 = 0 := by simp [List.getD_eq_getElem?_getD, List.getElem?_eq_none (show l'.length ≤ i by omega)]
      rw [g1, g2]
      simp only [Option.bind_some]
      have w1 : wrap64 (wrap64 (0 + 0) + 1) = 1 := by simp only [w64]; rfl
      have w2 : wrap64 (Int.tdiv 1 10000) = 0 := by simp only [w64]; rfl
      have w3 : wrap64 ((i : Int) + 1) = ((i + 1 : Nat) : Int) := by rw [w64]; omega
      have w4 : Int.tmod 1 10000 = 1 := rfl
      rw [if_pos (by omega), w1, w2, w3, w4, turnstoneref01_plus.l0, if_neg (by omega), if_neg (by omega), turnstoneref01_plus.j1, if_neg (by simp)]
  | succ m ih =>
    intro k i c out h1 h2 hc hk hi hout
    by_cases hend : l.length ≤ i ∧ l'.length ≤ i
    · obtain ⟨rest, e, h⟩ := ih k i c out (by omega) (by omega) hc (by omega) hi (by omega)
      exact ⟨rest, e, h.1, h.2.1, by omega⟩
    obtain ⟨k, rfl⟩ : ∃ j, k = j + 2 := ⟨k - 2, by omega⟩
    have o1 : out.length < 17592186044416 := by omega
    have k1 : l.length ≤ i + 1 + m := by omega
    have k2 : l'.length ≤ i + 1 + m := by omega
    have k3 : 2 * m + 5 ≤ k := by omega
    have k4 : i + 1 ≤ 200 := by omega
    have k5 : out.length + 1 + m ≤ 500 := by omega
    have hgo : turnstoneref01_plus.l0 (k + 2) out c (i : Int) n l n' l' = turnstoneref01_plus.j1 (k + 1) out c (i : Int) true n l n' l' := by
      rw [turnstoneref01_plus.l0]
      by_cases h : (i : Int) < (l.length : Int)
      · rw [if_pos h]
      · rw [if_neg h, if_pos (by omega)]
    obtain ⟨a0, a1⟩ := getD_range ho i
    obtain ⟨b0, b1⟩ := getD_range ho' i
    have v1 := V_drop l i
    have v2 := V_drop l' i
    rw [hgo, turnstoneref01_plus.j1, if_pos rfl, digit_eq, digit_eq]
    simp only [Option.bind_some]
    generalize l.getD i 0 = a at *
    generalize l'.getD i 0 = b at *
    have c01 : 0 ≤ c ∧ c ≤ 1 := by clear ih v1 v2 o1; omega
    clear hc
    have w1 : wrap64 (wrap64 (a + b) + c) = a + b + c := by rw [w_id (n := a + b) (by omega) (by omega), w_id (by omega) (by omega)]
    have w3 : wrap64 ((i : Int) + 1) = ((i + 1 : Nat) : Int) := by rw [w64]; omega
    have s0 : 0 ≤ a + b + c := by clear ih v1 v2; omega
    have s1 : (a + b + c) / 10000 = 0 ∨ (a + b + c) / 10000 = 1 := by clear ih v1 v2; omega
    rw [if_pos o1, w1, w3, Int.tmod_eq_emod_of_nonneg s0, Int.tdiv_eq_ediv_of_nonneg s0]
    have w2 : wrap64 ((a + b + c) / 10000) = (a + b + c) / 10000 := w_id (by clear ih v1 v2; omega) (by clear ih v1 v2; omega)
    have o2 : (out ++ [(a + b + c) % 10000]).length = out.length + 1 := by simp
    rw [w2]
    have k5' : (out ++ [(a + b + c) % 10000]).length + m ≤ 500 := by rw [o2]; exact k5
    obtain ⟨rest, e, r1, r2, r3⟩ := ih k (i + 1) ((a + b + c) / 10000) (out ++ [(a + b + c) % 10000]) k1 k2 s1 k3 k4 k5'
    refine ⟨(a + b + c) % 10000 :: rest, ?_, ?_, ?_, ?_⟩
    · rw [e, List.append_assoc]; rfl
    · exact OKd.append (l := [(a + b + c) % 10000]) (OKd_one (Int.emod_nonneg _ (by decide)) (Int.emod_lt_of_pos _ (by decide))) r1
    · have hV : V ((a + b + c) % 10000 :: rest) = (a + b + c) % 10000 + 10000 * V rest := rfl
      rw [hV, r2, v1, v2]; clear ih; omega
    · rw [List.length_cons]; exact Nat.succ_le_succ r3
theorem plus_eq (n n' : Bool) {l l' : List Int} (ho : OKd l) (ho' : OKd l') {m : Nat} (hm : m ≤ 200) (hl : l.length ≤ m) (hl' : l'.length ≤ m) {k : Nat} (hk : 2 * m + 5 ≤ k) :
    ∃ out, turnstoneref01_plus.f k n l n' l' = some out ∧ OKd out ∧ V out = V l + V l' ∧ out.length ≤ m + 1 := by
  obtain ⟨rest, e, h1, h2, h3⟩ := plus_l0 n n' ho ho' (by omega) (by omega) m k 0 0 [] (by omega) (by omega) (.inl rfl) hk (by omega) (by simp; omega)
  refine ⟨rest, ?_, h1, by simpa using h2, h3⟩
  unfold turnstoneref01_plus.f
  simpa using e
/-! ### minus -/
theorem minus_l0 (n n' : Bool) {l l' : List Int} (ho : OKd l) (ho' : OKd l') (hl : l.length ≤ 200) (m : Nat) : ∀ (k i : Nat) (c : Int) (out : List Int), l.length - i = m → i ≤ l.length → (c = 0 ∨ c = 1) → m < k → out.length + m ≤ 500 →
    V (l'.drop i) + c ≤ V (l.drop i) → ∃ rest, turnstoneref01_minus.l0 k out c (i : Int) n l n' l' = some (out ++ rest) ∧ OKd rest ∧ V rest = V (l.drop i) - V (l'.drop i) - c ∧ rest.length ≤ m := by
  induction m with
  | zero =>
    intro k i c out h1 hi hc hk hout hv
    obtain ⟨k, rfl⟩ : ∃ j, k = j + 1 := ⟨k - 1, by omega⟩
    have e0 : l.drop i = [] := List.drop_of_length_le (by omega)
    have p := V_nonneg _ (ho'.drop i)
    have hV : V [] = 0 := rfl
    rw [e0, hV] at hv ⊢
    refine ⟨[], ?_, by intro d hd; simp at hd, by rw [hV]; omega, by simp⟩
    rw [turnstoneref01_minus.l0, if_neg (by omega), List.append_nil]
  | succ m ih =>
    intro k i c out h1 hi hc hk hout hv
    obtain ⟨k, rfl⟩ : ∃ j, k = j + 1 := ⟨k - 1, by omega⟩
    have h : i < l.length := by omega
    have o1 : out.length < 17592186044416 := by omega
    have k1 : l.length - (i + 1) = m := by omega
    have k3 : m < k := by omega
    have k5 : out.length + 1 + m ≤ 500 := by omega
    obtain ⟨a0, a1⟩ := getD_range ho i
    obtain ⟨b0, b1⟩ := getD_range ho' i
    have v1 := V_drop l i
    have v2 := V_drop l' i
    have er : rd l (i : Int) = l.getD i 0 := by unfold rd; simp
    rw [turnstoneref01_minus.l0, if_pos (by omega), if_pos (by omega), digit_eq, er]
    simp only [Option.bind_some]
    generalize l.getD i 0 = a at *
    generalize l'.getD i 0 = b at *
    have c01 : 0 ≤ c ∧ c ≤ 1 := by clear ih v1 v2 hv o1; omega
    clear hc
    have w1 : wrap64 (wrap64 (a - b) - c) = a - b - c := by rw [w_id (n := a - b) (by omega) (by omega), w_id (by omega) (by omega)]
    have w3 : wrap64 ((i : Int) + 1) = ((i + 1 : Nat) : Int) := by rw [w64]; omega
    rw [w1, w3]
    have o2 : ∀ x : Int, (out ++ [x]).length + m ≤ 500 := by intro x; rw [List.length_append, List.length_singleton]; exact k5
    by_cases hneg : a - b - c < 0
    · have w2 : wrap64 (a - b - c + 10000) = a - b - c + 10000 := w_id (by omega) (by omega)
      rw [if_pos hneg, if_pos o1, w2]
      have hv' : V (l'.drop (i + 1)) + 1 ≤ V (l.drop (i + 1)) := by clear ih; omega
      obtain ⟨rest, e, r1, r2, r3⟩ := ih k (i + 1) 1 (out ++ [a - b - c + 10000]) k1 h (.inr rfl) k3 (o2 _) hv'
      refine ⟨(a - b - c + 10000) :: rest, ?_, ?_, ?_, ?_⟩
      · rw [e, List.append_assoc]; rfl
      · exact OKd.append (l := [a - b - c + 10000]) (OKd_one (by omega) (by omega)) r1
      · have hV : V ((a - b - c + 10000) :: rest) = a - b - c + 10000 + 10000 * V rest := rfl
        rw [hV, r2, v1, v2]; clear ih; omega
      · rw [List.length_cons]; exact Nat.succ_le_succ r3
    · rw [if_neg hneg, if_pos o1]
      have hv' : V (l'.drop (i + 1)) + 0 ≤ V (l.drop (i + 1)) := by clear ih; omega
      obtain ⟨rest, e, r1, r2, r3⟩ := ih k (i + 1) 0 (out ++ [a - b - c]) k1 h (.inl rfl) k3 (o2 _) hv'
      refine ⟨(a - b - c) :: rest, ?_, ?_, ?_, ?_⟩
      · rw [e, List.append_assoc]; rfl
      · exact OKd.append (l := [a - b - c]) (OKd_one (by omega) (by omega)) r1
      · have hV : V ((a - b - c) :: rest) = a - b - c + 10000 * V rest := rfl
        rw [hV, r2, v1, v2]; clear ih; omega
      · rw [List.length_cons]; exact Nat.succ_le_succ r3
theorem minus_eq (n n' : Bool) {l l' : List Int} (ho : OKd l) (ho' : OKd l') {m : Nat} (hm : m ≤ 200) (hl : l.length ≤ m) {k : Nat} (hk : m < k) (hv : V l' ≤ V l) :
    ∃ out, turnstoneref01_minus.f k n l n' l' = some out ∧ OKd out ∧ V out = V l - V l' ∧ out.length ≤ m := by
  obtain ⟨rest, e, h1, h2, h3⟩ := minus_l0 n n' ho ho' (by omega) l.length k 0 0 [] (by omega) (by omega) (.inl rfl) (by omega) (by simp; omega) (by simpa using hv)
  refine ⟨rest, ?_, h1, by simpa using h2, by omega⟩
  unfold turnstoneref01_minus.f
  simpa using e
/-! ### larger -/
theorem V_less : ∀ (i : Nat) (l l' : List Int), OKd l → OKd l' → V (l.drop (i + 1)) = V (l'.drop (i + 1)) → l.getD i 0 < l'.getD i 0 → V l < V l'
  | 0, l, l', ho, ho', he, hlt => by
    have v1 := V_drop l 0
    have v2 := V_drop l' 0
    rw [List.drop_zero] at v1 v2
    omega
  | i + 1, l, l', ho, ho', he, hlt => by
    have v1 := V_drop l 0
    have v2 := V_drop l' 0
    rw [List.drop_zero] at v1 v2
    obtain ⟨a0, a1⟩ := getD_range ho 0
    obtain ⟨b0, b1⟩ := getD_range ho' 0
    have ih := V_less i (l.drop 1) (l'.drop 1) (ho.drop 1) (ho'.drop 1) (by
      rw [List.drop_drop, List.drop_drop]
      rw [show 1 + (i + 1) = i + 1 + 1 by omega]; exact he) (by
      have e : ∀ m : List Int, (m.drop 1).getD i 0 = m.getD (i + 1) 0 := by
        intro m
        simp [List.getD_eq_getElem?_getD, List.getElem?_drop, Nat.add_comm]
      rw [e, e]; exact hlt)
    rw [Nat.zero_add] at v1 v2
    omega
/-- -1, 0, 1. -/
def sgn (x : Int) : Int := if x < 0 then -1 else if x > 0 then 1 else 0
theorem larger_l0 (n n' : Bool) {l l' : List Int} (ho : OKd l) (ho' : OKd l') (m : Nat) : ∀ (k : Nat), m < k → m ≤ 500 → V (l.drop m) = V (l'.drop m) → turnstoneref01_larger.l0 k ((m : Int) - 1) n l n' l' = some (sgn (V l - V l')) := by
  induction m with
  | zero =>
    intro k hk _ hv
    obtain ⟨k, rfl⟩ : ∃ j, k = j + 1 := ⟨k - 1, by omega⟩
    rw [List.drop_zero, List.drop_zero] at hv
    rw [turnstoneref01_larger.l0, if_neg (by omega), hv]
    unfold sgn
    rw [if_neg (by omega), if_neg (by omega)]
  | succ m ih =>
    intro k hk hm hv
    obtain ⟨k, rfl⟩ : ∃ j, k = j + 1 := ⟨k - 1, by omega⟩
    have e0 : ((m + 1 : Nat) : Int) - 1 = (m : Int) := by omega
    have w : wrap64 ((m : Int) - 1) = (m : Int) - 1 := by rw [w64]; omega
    rw [e0, turnstoneref01_larger.l0, if_pos (by omega), digit_eq, digit_eq, w]
    simp only [Option.bind_some]
    by_cases h1 : l.getD m 0 < l'.getD m 0
    · have := V_less m l l' ho ho' hv h1
      rw [if_pos h1]
      unfold sgn
      rw [if_pos (by omega)]
    · rw [if_neg h1]
      by_cases h2 : l.getD m 0 > l'.getD m 0
      · have := V_less m l' l ho' ho hv.symm h2
        rw [if_pos h2]
        unfold sgn
        rw [if_neg (by omega), if_pos (by omega)]
      · rw [if_neg h2]
        exact ih k (by omega) (by omega) (by rw [V_drop l m, V_drop l' m, hv]; omega)
theorem larger_eq (n n' : Bool) {l l' : List Int} (ho : OKd l) (ho' : OKd l') {m : Nat} (hm : m ≤ 200) (hl : l.length ≤ m) (hl' : l'.length ≤ m) {k : Nat} (hk : m < k) :
    turnstoneref01_larger.f k n l n' l' = some (sgn (V l - V l')) := by
  unfold turnstoneref01_larger.f
  have e : mx (l.length : Int) (l'.length : Int) = ((max l.length l'.length : Nat) : Int) := by unfold mx; split <;> omega
  have w : wrap64 (((max l.length l'.length : Nat) : Int) - 1) = ((max l.length l'.length : Nat) : Int) - 1 := by rw [w64]; omega
  rw [e, w]
  apply larger_l0 n n' ho ho' _ k (by omega) (by omega)
  rw [List.drop_of_length_le (by omega), List.drop_of_length_le (by omega)]
/-! ### The document's numbers -/
/-- A number's sign, and its digits. -/
def bn (x : Int) : Bool := decide (x < 0)
def bl (x : Int) : List Int := digs x.natAbs
/-- Numbers of a size that all that is reckoned here keeps. -/
def Sz (x : Int) : Prop := -1000000000000000000000000000000000000000000000000000000000000000000000000000000000000000000000000000000000000000000000000 < x ∧ x < 1000000000000000000000000000000000000000000000000000000000000000000000000000000000000000000000000000000000000000000000000
theorem len_digs : ∀ (m n : Nat), n < 10000 ^ m → (digs n).length ≤ m
  | 0, n, h => by
    have : n = 0 := by simpa using h
    subst this; rw [digs_zero]; simp
  | m + 1, n, h => by
    by_cases h0 : n = 0
    · subst h0; rw [digs_zero]; simp
    · rw [digs_pos (by omega), List.length_cons]
      have := len_digs m (n / 10000) (by rw [Nat.pow_succ] at h; omega)
      omega
theorem len_bl {x : Int} (h : Sz x) : (bl x).length ≤ 30 := by
  unfold Sz at h
  apply len_digs
  have : (10000 : Nat) ^ 30 = 1000000000000000000000000000000000000000000000000000000000000000000000000000000000000000000000000000000000000000000000000 := by decide
  rw [this]
  omega
theorem V_bl (x : Int) : V (bl x) = x.natAbs := V_digs _
theorem OKd_bl (x : Int) : OKd (bl x) := OKd_digs _
/-- What is trimmed is the number. -/
theorem trimmed {n : Bool} {l : List Int} {x : Int} (h : (if n = true then -V l else V l) = x) (ho : OKd l) : (if V l = 0 then false else n, digs (V l).toNat) = (bn x, bl x) := by
  have p := V_nonneg l ho
  unfold bn bl
  cases n with
  | true =>
    simp only [if_true] at h
    have e : x.natAbs = (V l).toNat := by omega
    rw [e]
    by_cases hz : V l = 0
    · rw [if_pos hz]; congr 1; symm; rw [decide_eq_false_iff_not]; omega
    · rw [if_neg hz]; congr 1; symm; rw [decide_eq_true_iff]; omega
  | false =>
    simp only [Bool.false_eq_true, if_false] at h
    have e : x.natAbs = (V l).toNat := by omega
    rw [e]
    by_cases hz : V l = 0
    · rw [if_pos hz]; congr 1; symm; rw [decide_eq_false_iff_not]; omega
    · rw [if_neg hz]; congr 1; symm; rw [decide_eq_false_iff_not]; omega
theorem badd {x y : Int} (hx : Sz x) (hy : Sz y) {k : Nat} (hk : 100 ≤ k) : turnstoneref01_Add.f k (bn x) (bl x) (bn y) (bl y) = some (bn (x + y), bl (x + y)) := by
  have lx := len_bl hx
  have ly := len_bl hy
  unfold turnstoneref01_Add.f
  by_cases hs : bn x = bn y
  · rw [if_pos (by rw [hs, beq_self_eq_true])]
    obtain ⟨out, e, o1, o2, o3⟩ := plus_eq (bn x) (bn y) (OKd_bl x) (OKd_bl y) (m := 30) (k := k) (by omega) lx ly (by omega)
    rw [e, Option.bind_some, trim_eq _ out.length out k rfl (by omega) (by omega) o1, Option.bind_some, trimmed (x := x + y) _ o1]
    rw [o2, V_bl, V_bl]
    unfold bn at hs ⊢
    by_cases h : x < 0
    · have : y < 0 := by simpa [h] using hs
      rw [if_pos (by simpa using h)]; omega
    · have : ¬ y < 0 := by simpa [h] using hs
      rw [if_neg (by simpa using h)]; omega
  · rw [if_neg (by simpa using hs), larger_eq _ _ (OKd_bl x) (OKd_bl y) (m := 30) (by omega) lx ly (by omega), Option.bind_some, V_bl, V_bl]
    have hsgn : (x < 0 ∧ 0 ≤ y) ∨ (0 ≤ x ∧ y < 0) := by
      unfold bn at hs
      by_cases h1 : x < 0 <;> by_cases h2 : y < 0 <;> simp [h1, h2] at hs <;> omega
    by_cases hg : sgn ((x.natAbs : Int) - (y.natAbs : Int)) ≥ 0
    · have hge : (y.natAbs : Int) ≤ x.natAbs := by unfold sgn at hg; split at hg <;> omega
      rw [if_pos hg]
      obtain ⟨out, e, o1, o2, o3⟩ := minus_eq (bn x) (bn y) (OKd_bl x) (OKd_bl y) (m := 30) (k := k) (by omega) lx (by omega) (by rw [V_bl, V_bl]; exact hge)
      rw [e, Option.bind_some, trim_eq _ out.length out k rfl (by omega) (by omega) o1, Option.bind_some, trimmed (x := x + y) _ o1]
      rw [o2, V_bl, V_bl]
      unfold bn
      rcases hsgn with ⟨h1, h2⟩ | ⟨h1, h2⟩
      · rw [if_pos (by simpa using h1)]; omega
      · rw [if_neg (by simpa using h1)]; omega
    · have hle : (x.natAbs : Int) ≤ y.natAbs := by unfold sgn at hg; split at hg <;> omega
      rw [if_neg hg]
      obtain ⟨out, e, o1, o2, o3⟩ := minus_eq (bn y) (bn x) (OKd_bl y) (OKd_bl x) (m := 30) (k := k) (by omega) ly (by omega) (by rw [V_bl, V_bl]; exact hle)
      rw [e, Option.bind_some, trim_eq _ out.length out k rfl (by omega) (by omega) o1, Option.bind_some, trimmed (x := x + y) _ o1]
      rw [o2, V_bl, V_bl]
      unfold bn
      rcases hsgn with ⟨h1, h2⟩ | ⟨h1, h2⟩
      · rw [if_neg (by simpa using h2)]; omega
      · rw [if_pos (by simpa using h2)]; omega
theorem bneg {x : Int} (hx : Sz x) {k : Nat} (hk : 100 ≤ k) : turnstoneref01_Neg.f k (bn x) (bl x) = some (bn (-x), bl (-x)) := by
  have lx := len_bl hx
  unfold turnstoneref01_Neg.f
  rw [trim_eq _ (bl x).length (bl x) k rfl (by omega) (by omega) (OKd_bl x), Option.bind_some, trimmed (x := -x) _ (OKd_bl x)]
  rw [V_bl]
  unfold bn
  by_cases h : x < 0
  · simp [h]; omega
  · simp [h]; omega
theorem Sz.neg {x : Int} (h : Sz x) : Sz (-x) := by unfold Sz at *; omega
theorem bsub {x y : Int} (hx : Sz x) (hy : Sz y) {k : Nat} (hk : 100 ≤ k) : turnstoneref01_Sub.f k (bn x) (bl x) (bn y) (bl y) = some (bn (x - y), bl (x - y)) := by
  unfold turnstoneref01_Sub.f
  rw [bneg hy hk, Option.bind_some, badd hx hy.neg hk, Option.bind_some, Int.sub_eq_add_neg]
theorem bsign (x : Int) : turnstoneref01_Sign.f (bn x) (bl x) = some (sgn x) := by
  unfold turnstoneref01_Sign.f bn bl sgn
  by_cases h0 : x = 0
  · subst h0
    rw [show (0 : Int).natAbs = 0 from rfl, digs_zero, if_pos (by simp)]; rfl
  · rw [digs_pos (show 0 < x.natAbs by omega), List.length_cons, if_neg (by omega)]
    by_cases h : x < 0
    · rw [if_pos (by simpa using h), if_pos h]
    · rw [if_neg (by simpa using h), if_neg h, if_pos (by omega)]
theorem bcmp {x y : Int} (hx : Sz x) (hy : Sz y) {k : Nat} (hk : 100 ≤ k) : turnstoneref01_Cmp.f k (bn x) (bl x) (bn y) (bl y) = some (sgn (x - y)) := by
  unfold turnstoneref01_Cmp.f
  rw [bsub hx hy hk, Option.bind_some, bsign, Option.bind_some]
theorem U_l0 (n : Bool) : ∀ (m k : Nat) (x : Int) (out : List Int), 0 ≤ x → x < 18446744073709551616 → x < 10000 ^ m → m < k → out.length + m ≤ 1000 → turnstoneref01_U.l0 k x n out = some (n, out ++ digs x.toNat) := by
  intro m
  induction m with
  | zero =>
    intro k x out h0 hU h hk _
    obtain ⟨k, rfl⟩ : ∃ j, k = j + 1 := ⟨k - 1, by omega⟩
    have : x = 0 := by rw [Int.pow_zero] at h; omega
    subst this
    rw [turnstoneref01_U.l0, if_neg (by omega), Int.toNat_zero, digs_zero, List.append_nil]
  | succ m ih =>
    intro k x out h0 hU h hk hout
    obtain ⟨k, rfl⟩ : ∃ j, k = j + 1 := ⟨k - 1, by omega⟩
    rw [turnstoneref01_U.l0]
    by_cases hx : x > 0
    · rw [if_pos hx, if_pos (by omega), Int.tdiv_eq_ediv_of_nonneg h0, Int.tmod_eq_emod_of_nonneg h0, u64_id (n := x / 10000) (by omega) (by omega)]
      have w : wrap64 (x % 10000) = x % 10000 := by rw [w64]; omega
      rw [w, ih k (x / 10000) _ (by omega) (by omega) (by rw [Int.pow_succ] at h; omega) (by omega) (by simp; omega), digs_pos (show 0 < x.toNat by omega), List.append_assoc]
      have e1 : ((x.toNat % 10000 : Nat) : Int) = x % 10000 := by omega
      have e2 : x.toNat / 10000 = (x / 10000).toNat := by omega
      rw [e1, e2]; rfl
    · have : x = 0 := by omega
      subst this
      rw [if_neg (by omega), Int.toNat_zero, digs_zero, List.append_nil]
theorem bU {x : Int} (h0 : 0 ≤ x) (h1 : x < 18446744073709551616) {k : Nat} (hk : 100 ≤ k) : turnstoneref01_U.f k x = some (bn x, bl x) := by
  unfold turnstoneref01_U.f
  rw [U_l0 false 5 k x [] h0 h1 (by have : (10000 : Int) ^ 5 = 100000000000000000000 := by decide
                                    rw [this]; omega) (by omega) (by simp)]
  unfold bn bl
  have e : x.natAbs = x.toNat := by omega
  rw [e, decide_eq_false (by omega)]; rfl
theorem bN {x : Int} (h : Sm x) {k : Nat} (hk : 100 ≤ k) : turnstoneref01_N.f k x = some (bn x, bl x) := by
  unfold Sm at h
  unfold turnstoneref01_N.f
  rcases Int.lt_or_le x 0 with hneg | h0
  rotate_left
  · rw [if_pos h0, u64_id h0 (by omega), bU h0 (by omega) hk, Option.bind_some]
  · have e : IntKind.u64.wrap (IntKind.u64.wrap (wrap64 (-wrap64 (x + 1))) + 1) = -x := by simp only [u64w, w64]; omega
    rw [if_neg (by omega), e, bU (x := -x) (by omega) (by omega) hk, Option.bind_some]
    unfold bn bl
    rw [Int.natAbs_neg, decide_eq_true hneg]
theorem power_l0 (n : Nat) (hn : n ≤ 200) (d : Nat) : ∀ (k i : Nat), n - i = d → i ≤ n → d + 101 ≤ k → turnstoneref01_Power.l0 k (n : Int) (i : Int) (bn (2 ^ i)) (bl (2 ^ i)) = some (bn (2 ^ n), bl (2 ^ n)) := by
  induction d with
  | zero =>
    intro k i hd hi hk
    obtain ⟨k, rfl⟩ : ∃ j, k = j + 1 := ⟨k - 1, by omega⟩
    have : i = n := by omega
    subst this
    rw [turnstoneref01_Power.l0, if_neg (by omega)]
  | succ d ih =>
    intro k i hd hi hk
    obtain ⟨k, rfl⟩ : ∃ j, k = j + 1 := ⟨k - 1, by omega⟩
    have hs : Sz ((2 : Int) ^ i) := by
      have a : (0 : Int) < 2 ^ i := Int.pow_pos (by omega)
      have b : (2 : Int) ^ i ≤ 2 ^ 200 := by
        have := Nat.pow_le_pow_right (show 0 < 2 by omega) (show i ≤ 200 by omega)
        exact_mod_cast this
      have c : (2 : Int) ^ 200 = 1606938044258990275541962092341162602522202993782792835301376 := by decide
      unfold Sz; omega
    have w : wrap64 ((i : Int) + 1) = ((i + 1 : Nat) : Int) := by rw [w64]; omega
    have e : (2 : Int) ^ i + 2 ^ i = 2 ^ (i + 1) := by rw [Int.pow_succ]; omega
    rw [turnstoneref01_Power.l0, if_pos (by omega), badd hs hs (by omega), Option.bind_some, w, e]
    exact ih k (i + 1) (by omega) (by omega) (by omega)
theorem bpow (n : Nat) (hn : n ≤ 200) {k : Nat} (hk : 400 ≤ k) : turnstoneref01_Power.f k (n : Int) = some (bn (2 ^ n), bl (2 ^ n)) := by
  unfold turnstoneref01_Power.f
  rw [bN (x := 1) ⟨by omega, by omega⟩ (by omega), Option.bind_some]
  exact power_l0 n hn n k 0 (by omega) (by omega) (by omega)
theorem pow63 : (2 : Int) ^ 63 = 9223372036854775808 := by decide
theorem pow64 : (2 : Int) ^ 64 = 18446744073709551616 := by decide
theorem pow127 : (2 : Int) ^ 127 = 170141183460469231731687303715884105728 := by decide
theorem bpow63 {k : Nat} (hk : 400 ≤ k) : turnstoneref01_Power.f k 63 = some (bn 9223372036854775808, bl 9223372036854775808) := by rw [← pow63]; exact bpow 63 (by omega) hk
theorem bpow64 {k : Nat} (hk : 400 ≤ k) : turnstoneref01_Power.f k 64 = some (bn 18446744073709551616, bl 18446744073709551616) := by rw [← pow64]; exact bpow 64 (by omega) hk
theorem sgn_neg {x : Int} : (sgn x < 0) = (x < 0) := by unfold sgn; rw [eq_iff_iff]; split <;> (try split) <;> omega
theorem sgn_nonneg {x : Int} : (sgn x ≥ 0) = (x ≥ 0) := by unfold sgn; rw [eq_iff_iff]; split <;> (try split) <;> omega
theorem sgn_zero {x : Int} : (sgn x = 0) = (x = 0) := by unfold sgn; rw [eq_iff_iff]; split <;> (try split) <;> omega
end Go.Proofs.Ytdfpkjdhndfcbaa.Th
