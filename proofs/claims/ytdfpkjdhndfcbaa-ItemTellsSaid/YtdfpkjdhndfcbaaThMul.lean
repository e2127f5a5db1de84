/- The document's product of numbers in digits of base 10000, in whole numbers. For numbers between -10^120 and 10^120 whose product lies there. -/
import Derived.Test.YtdfpkjdhndfcbaaThBig
import Derived.Test.YtdfpkjdhndfcbaaPrint1010
namespace Go.Proofs.Ytdfpkjdhndfcbaa.Th
open Go.RowKit Go.Proofs.Ytdfpkjdhndfcbaa.Print Go.Proofs.YtdfpkjdhndfcbaaW.PrintWords Go.Proofs.YtdfpkjdhndfcbaaW.PrintLast Go.Proofs.YtdfpkjdhndfcbaaW.PrintMore Go.Proofs.Ytdfpkjdhndfcbaa.Bits
set_option linter.unusedVariables false
set_option linter.unusedSimpArgs false
theorem V_set : ∀ (l : List Int) (p : Nat) (v : Int), p < l.length → V (l.set p v) = V l + 10000 ^ p * (v - l.getD p 0)
  | d :: l, 0, v, _ => by
    simp [V]; omega
  | d :: l, p + 1, v, h => by
    have ih := V_set l p v (by simpa using h)
    rw [List.set_cons_succ, V, ih, V, Int.pow_succ]
    have e : (d :: l).getD (p + 1) 0 = l.getD p 0 := by simp
    rw [e]
    grind
theorem OKd.set {l : List Int} (h : OKd l) (p : Nat) {v : Int} (h0 : 0 ≤ v) (h1 : v < 10000) : OKd (l.set p v) := by
  intro d hd
  rcases List.mem_or_eq_of_mem_set hd with hd | rfl
  · exact h d hd
  · exact ⟨h0, h1⟩
theorem V_lt : ∀ l : List Int, OKd l → V l < 10000 ^ l.length
  | [], _ => by simp [V]
  | d :: l, h => by
    have a := (h d (by simp)).2
    have b := V_lt l h.tail
    rw [V, List.length_cons, Int.pow_succ]; omega
theorem V_take_succ (l : List Int) (i : Nat) (h : i < l.length) : V (l.take (i + 1)) = V (l.take i) + 10000 ^ i * l.getD i 0 := by
  rw [List.take_succ_eq_append_getElem h, V_snoc, List.length_take, Nat.min_eq_left (by omega)]
  simp [List.getD_eq_getElem?_getD, h]
theorem V_rep (n : Nat) : V (List.replicate n 0) = 0 := by
  induction n with
  | zero => rfl
  | succ n ih => rw [List.replicate_succ, V, ih]; rfl
theorem OKd.take {l : List Int} (h : OKd l) (i : Nat) : OKd (l.take i) := fun d hd => h d (List.mem_of_mem_take hd)
theorem pow_pos' (n : Nat) : (0 : Int) < 10000 ^ n := Int.pow_pos (by decide)
theorem mul_digit {a b : Int} (a0 : 0 ≤ a) (a1 : a ≤ 9999) (b0 : 0 ≤ b) (b1 : b ≤ 9999) : 0 ≤ a * b ∧ a * b ≤ 99980001 :=
  ⟨Int.mul_nonneg a0 b0, Int.le_trans (Int.mul_le_mul a1 b1 b0 (by decide)) (by decide)⟩
theorem mul_pre {l l' o : List Int} {i j m k K : Nat} (hl : l.length ≤ 100) (hl' : l'.length ≤ 100) (hi : i < l.length) (hm : l'.length + 1 - j = m + 1) (hj : j ≤ l'.length + 1) (hk : K + (m + 1) + 1 ≤ k + 1) (ol : o.length = l.length + l'.length + 1) :
    wrap64 ((i : Int) + 1) = ((i + 1 : Nat) : Int) ∧ j ≤ l'.length ∧ i + j < o.length ∧ wrap64 ((i : Int) + (j : Int)) = ((i + j : Nat) : Int) ∧ wrap64 ((j : Int) + 1) = ((j + 1 : Nat) : Int) ∧ l'.length + 1 - (j + 1) = m ∧ K + m + 1 ≤ k ∧ K ≤ k := by
  have hjle : j ≤ l'.length := by omega
  have i0 : i < 100 := by omega
  have j0 : j ≤ 100 := by omega
  have c1 : i + j < o.length := by omega
  have c2 : l'.length + 1 - (j + 1) = m := by omega
  have c3 : K + m + 1 ≤ k := by omega
  have c4 : K ≤ k := by omega
  clear hl hl' hi hm hj hk ol
  refine ⟨?_, hjle, c1, ?_, ?_, c2, c3, c4⟩
  · clear hjle c1 c2 c3 c4; rw [w64]; omega
  · clear hjle c1 c2 c3 c4; rw [w64]; omega
  · clear hjle c1 c2 c3 c4; rw [w64]; omega
theorem mul_step {e y c : Int} (e0 : 0 ≤ e) (e1 : e < 10000) (p0 : 0 ≤ y) (p1 : y ≤ 99980001) (c0 : 0 ≤ c) (c1 : c ≤ 9999) :
    wrap64 y = y ∧ wrap64 (e + y) = e + y ∧ wrap64 (e + y + c) = e + y + c ∧ wrap64 ((e + y + c) / 10000) = (e + y + c) / 10000 ∧ 0 ≤ e + y + c := by
  refine ⟨?_, ?_, ?_, ?_, by omega⟩
  · rw [w64]; omega
  · rw [w64]; omega
  · rw [w64]; omega
  · have s1 : (e + y + c) / 10000 ≤ 99980001 := by omega
    have s2 : 0 ≤ (e + y + c) / 10000 := by omega
    generalize (e + y + c) / 10000 = z at *
    rw [w64]; omega
theorem mul_l1 (n n' : Bool) {l l' : List Int} (ho' : OKd l') (hl : l.length ≤ 100) (hl' : l'.length ≤ 100) {x : Int} (x0 : 0 ≤ x) (x1 : x ≤ 9999) (i : Nat) (hi : i < l.length) (K : Nat) (T : Int) (hT : T < 10000 ^ (i + l'.length + 1)) (m : Nat) :
    ∀ (k j : Nat) (c : Int) (o : List Int), l'.length + 1 - j = m → j ≤ l'.length + 1 → K + m + 1 ≤ k → 0 ≤ c → c ≤ 9999 → OKd o → o.length = l.length + l'.length + 1 →
      V o + 10000 ^ (i + j) * (c + x * V (l'.drop j)) = T →
      ∃ k' o', K ≤ k' ∧ turnstoneref01_Mul.l1 k o (i : Int) x c (j : Int) l (l.length : Int) (i : Int) n l n' l' = turnstoneref01_Mul.l0 k' o' l (l.length : Int) ((i + 1 : Nat) : Int) n l n' l' ∧ OKd o' ∧ o'.length = l.length + l'.length + 1 ∧ V o' = T := by
  induction m with
  | zero =>
    intro k j c o hm hj hk c0 c1 oo ol hV
    obtain ⟨k, rfl⟩ : ∃ q, k = q + 1 := ⟨k - 1, by omega⟩
    have hj' : j = l'.length + 1 := by omega
    subst hj'
    have hz : c = 0 := by
      have p := V_nonneg o oo
      rw [List.drop_of_length_le (by omega), V, Int.mul_zero, Int.add_zero] at hV
      have q := pow_pos' (i + (l'.length + 1))
      rw [← Nat.add_assoc] at hV q
      by_cases hc : 1 ≤ c
      · have := Int.mul_le_mul_of_nonneg_left hc (Int.le_of_lt q)
        omega
      · omega
    subst hz
    have w3 : wrap64 ((i : Int) + 1) = ((i + 1 : Nat) : Int) := by rw [w64]; omega
    refine ⟨k, o, by omega, ?_, oo, ol, ?_⟩
    · rw [turnstoneref01_Mul.l1, if_neg (by omega), if_neg (by omega), w3]
    · rw [List.drop_of_length_le (by omega), V] at hV
      simpa using hV
  | succ m ih =>
    intro k j c o hm hj hk c0 c1 oo ol hV
    obtain ⟨k, rfl⟩ : ∃ q, k = q + 1 := ⟨k - 1, by omega⟩
    obtain ⟨w3', hjle, hp, wij', wj', hjm, hkk, hK⟩ := mul_pre (K := K) (o := o) hl hl' hi hm hj hk ol
    have w3 := Aside0.mk w3'
    have wij := Aside0.mk wij'
    have wj := Aside0.mk wj'
    clear w3' wij' wj'
    clear hm hk hj
    have hgo : ((j : Int) < (l'.length : Int) ∨ c > 0) → turnstoneref01_Mul.l1 (k + 1) o (i : Int) x c (j : Int) l (l.length : Int) (i : Int) n l n' l' =
        turnstoneref01_Mul.l1 k (o.set (i + j) ((o.getD (i + j) 0 + x * l'.getD j 0 + c) % 10000)) (i : Int) x ((o.getD (i + j) 0 + x * l'.getD j 0 + c) / 10000) ((j + 1 : Nat) : Int) l (l.length : Int) (i : Int) n l n' l' := by
      clear ih hV hT
      obtain ⟨d0, d1⟩ := getD_range ho' j
      obtain ⟨e0, e1⟩ := getD_range oo (i + j)
      have et : (((i + j : Nat) : Int)).toNat = i + j := by omega
      have er : rd o ((i + j : Nat) : Int) = o.getD (i + j) 0 := by unfold rd; rw [et, List.getD_eq_getElem?_getD]
      obtain ⟨p0, p1⟩ := mul_digit x0 x1 d0 (show l'.getD j 0 ≤ 9999 by omega)
      have z0 : (0 : Int) ≤ ((i + j : Nat) : Int) := by omega
      have z1 : ((i + j : Nat) : Int) < (o.length : Int) := by omega
      rw [turnstoneref01_Mul.l1, wij.out, digit_eq]
      simp only [Option.bind_some]
      rw [if_pos z0, if_pos z1, er, wj.out, et]
      generalize o.getD (i + j) 0 = e at *
      generalize x * l'.getD j 0 = y at *
      obtain ⟨q1, q2, q3, q4, s0⟩ := mul_step e0 e1 p0 p1 c0 c1
      rw [q1, q2, q3, Int.tmod_eq_emod_of_nonneg s0, Int.tdiv_eq_ediv_of_nonneg s0, q4]
      intro hh
      by_cases hjl : (j : Int) < (l'.length : Int)
      · rw [if_pos hjl]
      · rw [if_neg hjl, if_pos (hh.resolve_left hjl)]
    have hfin : ¬ ((j : Int) < (l'.length : Int)) → ¬ (c > 0) → ∃ k' o', K ≤ k' ∧ turnstoneref01_Mul.l1 (k + 1) o (i : Int) x c (j : Int) l (l.length : Int) (i : Int) n l n' l' = turnstoneref01_Mul.l0 k' o' l (l.length : Int) ((i + 1 : Nat) : Int) n l n' l' ∧ OKd o' ∧ o'.length = l.length + l'.length + 1 ∧ V o' = T := by
      clear ih hgo
      intro h1 h2
      have h3 : c = 0 := by clear hV hT; omega
      have h4 : l'.length ≤ j := by clear hV hT; omega
      refine ⟨k, o, hK, ?_, oo, ol, ?_⟩
      · rw [turnstoneref01_Mul.l1, if_neg h1, if_neg h2, w3.out]
      · rw [List.drop_of_length_le h4, V, h3] at hV
        simpa using hV
    by_cases hjl : (j : Int) < (l'.length : Int) ∨ c > 0
    · rw [hgo hjl]
      obtain ⟨d0, d1⟩ := getD_range ho' j
      obtain ⟨e0, e1⟩ := getD_range oo (i + j)
      obtain ⟨p0, p1⟩ := mul_digit x0 x1 d0 (show l'.getD j 0 ≤ 9999 by clear hjl hV hT; omega)
      clear hgo hfin hjl
      have v1 := V_drop l' j
      have vs := V_set o (i + j) ((o.getD (i + j) 0 + x * l'.getD j 0 + c) % 10000) hp
      have hs := Int.emod_add_mul_ediv (o.getD (i + j) 0 + x * l'.getD j 0 + c) 10000
      have m0 := Int.emod_nonneg (o.getD (i + j) 0 + x * l'.getD j 0 + c) (show (10000 : Int) ≠ 0 by decide)
      have m1 := Int.emod_lt_of_pos (o.getD (i + j) 0 + x * l'.getD j 0 + c) (show (0 : Int) < 10000 by decide)
      refine ih k (j + 1) _ _ hjm (by omega) hkk ?_ ?_ (oo.set _ m0 m1) (by rw [List.length_set]; exact ol) ?_
      · clear ih hV hT v1 vs hs; omega
      · clear ih hV hT v1 vs hs; omega
      · rw [vs, ← hV, v1, ← Nat.add_assoc, Int.pow_succ]
        clear ih hV hT v1 vs m0 m1 p0 p1
        generalize (o.getD (i + j) 0 + x * l'.getD j 0 + c) % 10000 = r at *
        generalize (o.getD (i + j) 0 + x * l'.getD j 0 + c) / 10000 = q at *
        generalize o.getD (i + j) 0 = e at *
        generalize l'.getD j 0 = d at *
        generalize V (l'.drop (j + 1)) = Z at *
        generalize (10000 : Int) ^ (i + j) = P at *
        generalize V o = W at *
        clear oo ol hp d0 d1 e0 e1 wij wj w3 hi hl hl' ho'
        have hr : r = e + x * d + c - 10000 * q := by omega
        subst hr
        grind
    · exact hfin (fun h => hjl (.inl h)) (fun h => hjl (.inr h))
theorem mul_l0 (n n' : Bool) {l l' : List Int} (ho : OKd l) (ho' : OKd l') (hl : l.length ≤ 100) (hl' : l'.length ≤ 100) (m : Nat) :
    ∀ (k i : Nat) (o : List Int), l.length - i = m → i ≤ l.length → m * (l'.length + 4) + 300 ≤ k → OKd o → o.length = l.length + l'.length + 1 → V o = V (l.take i) * V l' →
      turnstoneref01_Mul.l0 k o l (l.length : Int) (i : Int) n l n' l' = some (if V l * V l' = 0 then false else (n != n'), digs (V l * V l').toNat) := by
  induction m with
  | zero =>
    intro k i o hm hi hk oo ol hV
    obtain ⟨k, rfl⟩ : ∃ q, k = q + 1 := ⟨k - 1, by omega⟩
    rw [List.take_of_length_le (by omega)] at hV
    rw [turnstoneref01_Mul.l0, if_neg (by omega), trim_eq _ o.length o k rfl (by omega) (by omega) oo, Option.bind_some, hV]
  | succ m ih =>
    intro k i o hm hi hk oo ol hV
    obtain ⟨k, rfl⟩ : ∃ q, k = q + 1 := ⟨k - 1, by omega⟩
    have h : i < l.length := by omega
    obtain ⟨x0, x1⟩ := getD_range ho i
    have er : rd l (i : Int) = l.getD i 0 := by unfold rd; simp
    have hle := V_nonneg _ (ho.take i)
    have hlt := V_lt _ (ho.take i)
    rw [List.length_take, Nat.min_eq_left (by omega)] at hlt
    have hb0 := V_nonneg _ ho'
    have hb := V_lt _ ho'
    have hts := V_take_succ l i h
    rw [Nat.succ_mul] at hk
    rw [turnstoneref01_Mul.l0, if_pos (by omega), if_pos (by omega), if_pos (by omega), er]
    obtain ⟨k', o', h1, h2, h3, h4, h5⟩ := mul_l1 n n' ho' hl hl' (x := l.getD i 0) x0 (by omega) i h (m * (l'.length + 4) + 300) (V (l.take (i + 1)) * V l')
      (by
        have a := V_lt _ (ho.take (i + 1))
        have b := V_nonneg _ (ho.take (i + 1))
        rw [List.length_take, Nat.min_eq_left (by omega)] at a
        have p := pow_pos' (i + 1)
        have q := pow_pos' l'.length
        have c : V (l.take (i + 1)) * V l' ≤ V (l.take (i + 1)) * 10000 ^ l'.length := Int.mul_le_mul_of_nonneg_left (Int.le_of_lt hb) b
        have d : V (l.take (i + 1)) * 10000 ^ l'.length < 10000 ^ (i + 1) * 10000 ^ l'.length := Int.mul_lt_mul_of_pos_right a q
        rw [← Int.pow_add] at d
        rw [show i + l'.length + 1 = i + 1 + l'.length by omega]
        exact Int.lt_of_le_of_lt c d)
      (l'.length + 1) k 0 0 o (by omega) (by omega) (by omega) (by omega) (by omega) oo ol
      (by rw [hV, hts, List.drop_zero, Int.zero_add, Nat.add_zero]; grind)
    rw [show (((0 : Nat) : Nat) : Int) = 0 from rfl] at h2
    rw [h2]
    exact ih k' (i + 1) o' (by omega) (by omega) h1 h3 h4 h5
theorem bmul {x y : Int} (hx : Sz x) (hy : Sz y) {k : Nat} (hk : 2000 ≤ k) : turnstoneref01_Mul.f k (bn x) (bl x) (bn y) (bl y) = some (bn (x * y), bl (x * y)) := by
  have lx := len_bl hx
  have ly := len_bl hy
  unfold turnstoneref01_Mul.f
  have w1 : wrap64 (((bl x).length : Int) + ((bl y).length : Int)) = (((bl x).length + (bl y).length : Nat) : Int) := by rw [w64]; omega
  have w2 : wrap64 ((((bl x).length + (bl y).length : Nat) : Int) + 1) = (((bl x).length + (bl y).length + 1 : Nat) : Int) := by rw [w64]; omega
  have w3 : ((((bl x).length + (bl y).length + 1 : Nat) : Int)).toNat = (bl x).length + (bl y).length + 1 := by omega
  have hm : (bl x).length * ((bl y).length + 4) ≤ 30 * 34 := Nat.mul_le_mul lx (by omega)
  rw [w1, w2, w3, if_pos (by omega), if_pos (by omega)]
  have := mul_l0 (bn x) (bn y) (OKd_bl x) (OKd_bl y) (by omega) (by omega) (bl x).length k 0 (List.replicate ((bl x).length + (bl y).length + 1) 0) (by omega) (by omega) (by omega)
    (by intro d hd; rw [(List.mem_replicate.1 hd).2]; exact ⟨by decide, by decide⟩) (by rw [List.length_replicate]) (by rw [V_rep, List.take_zero, V, Int.zero_mul])
  rw [show ((0 : Nat) : Int) = 0 from rfl] at this
  rw [this, V_bl, V_bl]
  have e : (x.natAbs : Int) * (y.natAbs : Int) = ((x * y).natAbs : Int) := by rw [Int.natAbs_mul]; simp
  rw [e, Int.toNat_natCast]
  unfold bl
  congr 2
  unfold bn
  by_cases hz : ((x * y).natAbs : Int) = 0
  · rw [if_pos hz]; symm; rw [decide_eq_false_iff_not]; omega
  · rw [if_neg hz]
    have hne : x * y ≠ 0 := by omega
    rcases Int.lt_trichotomy x 0 with h1 | h1 | h1
    · rcases Int.lt_trichotomy y 0 with h2 | h2 | h2
      · have := Int.mul_pos_of_neg_of_neg h1 h2
        simp [h1, h2]; omega
      · subst h2; simp at hne
      · have := Int.mul_neg_of_neg_of_pos h1 h2
        simp [h1, this]; omega
    · subst h1; simp at hne
    · rcases Int.lt_trichotomy y 0 with h2 | h2 | h2
      · have := Int.mul_neg_of_pos_of_neg h1 h2
        simp [h2, this]; omega
      · subst h2; simp at hne
      · have := Int.mul_pos h1 h2
        rw [decide_eq_false (show ¬ x < 0 by omega), decide_eq_false (show ¬ y < 0 by omega), decide_eq_false (show ¬ x * y < 0 by omega)]; rfl
end Go.Proofs.Ytdfpkjdhndfcbaa.Th
