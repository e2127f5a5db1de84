/- ItemOrders, over numbers alone: of items of unlike IDs, near one another, one of two stands, and is due, ahead; none ahead of itself; and what is ahead of what is ahead of a third one is ahead of that. -/
import Derived.Test.YtdfpkjdhndfcbaaThRight
import Derived.Test.YtdfpkjdhndfcbaaThPosCmp
import Derived.Test.YtdfpkjdhndfcbaaPrint1007
import Derived.Test.YtdfpkjdhndfcbaaPrint1006
import Derived.Test.YtdfpkjdhndfcbaaPrint1000
import Derived.Test.YtdfpkjdhndfcbaaPrint1005
namespace Go.Proofs.Ytdfpkjdhndfcbaa.Pure
open Go.RowKit Go.Proofs.Ytdfpkjdhndfcbaa.Print Go.Proofs.YtdfpkjdhndfcbaaW.PrintWords Go.Proofs.YtdfpkjdhndfcbaaW.PrintLast Go.Proofs.YtdfpkjdhndfcbaaW.PrintMore Go.Proofs.Ytdfpkjdhndfcbaa.Th
set_option linter.unusedVariables false
set_option linter.unusedSimpArgs false
/-- The distance times the weight of a position, as far as it is near. -/
def key (at_ t r w : Int) : Int := w * wrap64 (t - at_) + r
def NP (at_ t r w : Int) : Prop := FP t r w ∧ RP r w ∧ -1152921504606846976 < wrap64 (t - at_) ∧ wrap64 (t - at_) < 1152921504606846976
theorem key_cmp {at_ t r w t' r' w' : Int} (h : NP at_ t r w) (h' : NP at_ t' r' w') : posCmp t r w t' r' w' = sg (key at_ t r w * w') (key at_ t' r' w' * w) := by
  obtain ⟨_, hr, a1, a2⟩ := h
  obtain ⟨_, hr', b1, b2⟩ := h'
  have e : wrap64 (t' - t) = wrap64 (t' - at_) - wrap64 (t - at_) := by
    rw [w64] at a1 a2 b1 b2 ⊢
    rw [w64, w64]; omega
  unfold posCmp key
  rw [e]
  unfold RP at hr hr'
  generalize wrap64 (t - at_) = d at *
  generalize wrap64 (t' - at_) = d' at *
  have x1 : (w * d + r) * w' = w * w' * d + r * w' := by grind
  have x2 : (w' * d' + r') * w = w * w' * d' + r' * w := by grind
  have p : 0 < w * w' := Int.mul_pos (by omega) (by omega)
  have y1 : r * w' < w * w' := Int.mul_lt_mul_of_pos_right (by omega) (by omega)
  have y2 : r' * w < w * w' := by
    have : r' * w < w' * w := Int.mul_lt_mul_of_pos_right (by omega) (by omega)
    rw [Int.mul_comm w w']; exact this
  have y3 : 0 ≤ r * w' := Int.mul_nonneg (by omega) (by omega)
  have y4 : 0 ≤ r' * w := Int.mul_nonneg (by omega) (by omega)
  rw [x1, x2]
  by_cases h0 : d' - d = 0
  · have : d' = d := by omega
    rw [if_pos h0, this]
    unfold sg
    repeat' split
    all_goals omega
  · rw [if_neg h0]
    unfold sg
    rcases Int.lt_or_lt_of_ne (show d ≠ d' by omega) with hl | hl
    · have z : w * w' * (d + 1) ≤ w * w' * d' := Int.mul_le_mul_of_nonneg_left (by omega) (by omega)
      rw [Int.mul_add, Int.mul_one] at z
      rw [if_pos (by omega), if_pos (by omega)]
    · have z : w * w' * (d' + 1) ≤ w * w' * d := Int.mul_le_mul_of_nonneg_left (by omega) (by omega)
      rw [Int.mul_add, Int.mul_one] at z
      rw [if_neg (by omega), if_pos (by omega), if_neg (by omega), if_pos (by omega)]
theorem le_trans3 {a b c u v w : Int} (hu : 0 < u) (hv : 0 < v) (hw : 0 < w) (h1 : a * v ≤ b * u) (h2 : b * w ≤ c * v) : a * w ≤ c * u := by
  have x : a * v * w ≤ b * u * w := Int.mul_le_mul_of_nonneg_right h1 (by omega)
  have y : b * w * u ≤ c * v * u := Int.mul_le_mul_of_nonneg_right h2 (by omega)
  have e1 : b * w * u = b * u * w := by grind
  have e2 : a * v * w = a * w * v := by grind
  have e3 : c * v * u = c * u * v := by grind
  exact Int.le_of_mul_le_mul_right (by omega) hv
theorem lt_trans3 {a b c u v w : Int} (hu : 0 < u) (hv : 0 < v) (hw : 0 < w) (h1 : a * v ≤ b * u) (h2 : b * w ≤ c * v) (h : a * v < b * u ∨ b * w < c * v) : a * w < c * u := by
  rcases Int.lt_or_eq_of_le (le_trans3 hu hv hw h1 h2) with h3 | h3
  · exact h3
  · exfalso
    rcases h with h | h
    · have := le_trans3 (a := b) (b := c) (c := a) hv hw hu h2 (by omega); omega
    · have := le_trans3 (a := c) (b := a) (c := b) hw hu hv (by omega) h1; omega
/-- An order of what is compared by keys first, then by a relation. -/
def before (a u b v : Int) (P : Prop) : Prop := a * v < b * u ∨ a * v = b * u ∧ P
instance (a u b v : Int) (P : Prop) [Decidable P] : Decidable (before a u b v P) := by unfold before; infer_instance
theorem before_trans {a b c u v w : Int} {P Q R : Prop} (hu : 0 < u) (hv : 0 < v) (hw : 0 < w) (hP : P → Q → R) (h1 : before a u b v P) (h2 : before b v c w Q) : before a u c w R := by
  unfold before at *
  rcases h1 with h1 | ⟨h1, p⟩ <;> rcases h2 with h2 | ⟨h2, q⟩
  · exact Or.inl (lt_trans3 hu hv hw (by omega) (by omega) (Or.inl h1))
  · exact Or.inl (lt_trans3 hu hv hw (by omega) (by omega) (Or.inl h1))
  · exact Or.inl (lt_trans3 hu hv hw (by omega) (by omega) (Or.inr h2))
  · refine Or.inr ⟨?_, hP p q⟩
    have x := le_trans3 (a := a) (b := b) (c := c) hu hv hw (by omega) (by omega)
    have y := le_trans3 (a := c) (b := b) (c := a) hw hv hu (by omega) (by omega)
    omega
theorem before_irr {a u : Int} {P : Prop} (hP : ¬ P) : ¬ before a u a u P := by
  unfold before; rintro (h | h)
  · omega
  · exact hP h.2
theorem before_one {a u b v : Int} {P Q : Prop} (hPQ : P ↔ ¬ Q) : before a u b v P ↔ ¬ before b v a u Q := by
  unfold before
  by_cases p : P
  · have q := hPQ.1 p
    constructor
    · rintro (h | h) (h' | h')
      · omega
      · exact q h'.2
      · omega
      · exact q h'.2
    · intro h
      rcases Int.lt_trichotomy (a * v) (b * u) with h1 | h1 | h1
      · exact Or.inl h1
      · exact Or.inr ⟨h1, p⟩
      · exact absurd (Or.inl h1) h
  · have q : Q := Classical.byContradiction fun q => p (hPQ.2 q)
    constructor
    · rintro (h | h) (h' | h')
      · omega
      · omega
      · omega
      · exact p h.2
    · intro h
      rcases Int.lt_trichotomy (a * v) (b * u) with h1 | h1 | h1
      · exact Or.inl h1
      · exact absurd (Or.inr ⟨h1.symm, q⟩) h
      · exact absurd (Or.inl h1) h
/-- What is known of an item that is near. -/
structure NI (at_ t r w id t' r' w' : Int) : Prop where
  p : NP at_ t r w
  q : NP at_ t' r' w'
abbrev ahead (at_ t r w id t2 r2 w2 id2 : Int) : Prop := before (key at_ t r w) w (key at_ t2 r2 w2) w2 (id < id2)
abbrev due (at_ t r w id x y z t2 r2 w2 id2 x2 y2 z2 : Int) : Prop := before (key at_ x y z) z (key at_ x2 y2 z2) z2 (ahead at_ t r w id t2 r2 w2 id2)
theorem ahead_eq {at_ t r w id x y z t2 r2 w2 id2 x2 y2 z2 : Int} {k : Nat} (hk : 5 ≤ k) (h : NI at_ t r w id x y z) (h' : NI at_ t2 r2 w2 id2 x2 y2 z2) : item_Item_Ahead.f k t r w id x y z t2 r2 w2 id2 x2 y2 z2 = some (decide (ahead at_ t r w id t2 r2 w2 id2)) := by
  unfold item_Item_Ahead.f
  rw [cmp_eq (by omega) h.p.1.2.1 h.p.1.2.2 h'.p.1.2.1 h'.p.1.2.2, Option.bind_some, key_cmp h.p h'.p]
  unfold ahead before
  rcases Int.lt_trichotomy (key at_ t r w * w2) (key at_ t2 r2 w2 * w) with h1 | h1 | h1
  · simp [sg, h1]
  · simp [sg, h1]
  · have n1 : ¬ key at_ t r w * w2 < key at_ t2 r2 w2 * w := by omega
    have n2 : ¬ key at_ t r w * w2 = key at_ t2 r2 w2 * w := by omega
    simp [sg, h1, n1, n2]
theorem due_eq {at_ t r w id x y z t2 r2 w2 id2 x2 y2 z2 : Int} {k : Nat} (hk : 5 ≤ k) (h : NI at_ t r w id x y z) (h' : NI at_ t2 r2 w2 id2 x2 y2 z2) : item_Item_Due.f k t r w id x y z t2 r2 w2 id2 x2 y2 z2 = some (decide (due at_ t r w id x y z t2 r2 w2 id2 x2 y2 z2)) := by
  unfold item_Item_Due.f
  rw [cmp_eq (by omega) h.q.1.2.1 h.q.1.2.2 h'.q.1.2.1 h'.q.1.2.2, Option.bind_some, key_cmp h.q h'.q, ahead_eq hk h h', Option.bind_some]
  have hs : ∀ {a b : Int}, a < b → sg a b < 0 := by intro a b h; unfold sg; rw [if_pos h]; omega
  rcases Int.lt_trichotomy (key at_ x y z * z2) (key at_ x2 y2 z2 * z) with h1 | h1 | h1
  · have hb : due at_ t r w id x y z t2 r2 w2 id2 x2 y2 z2 := by unfold due before; exact Or.inl h1
    rw [decide_eq_true hb, if_pos (hs h1)]
  · have h0 : sg (key at_ x y z * z2) (key at_ x2 y2 z2 * z) = 0 := by unfold sg; rw [if_neg (by omega), if_neg (by omega)]
    rw [if_neg (by omega), if_pos h0]
    congr 1
    rw [decide_eq_decide]
    constructor
    · intro p; unfold due before; exact Or.inr ⟨h1, p⟩
    · intro p
      rcases p with p | p
      · omega
      · exact p.2
  · have h0 : sg (key at_ x y z * z2) (key at_ x2 y2 z2 * z) = 1 := by unfold sg; rw [if_neg (by omega), if_pos (by omega)]
    have hb : ¬ due at_ t r w id x y z t2 r2 w2 id2 x2 y2 z2 := by
      rintro (p | p)
      · omega
      · omega
    rw [decide_eq_false hb, if_neg (by omega), if_neg (by omega)]
theorem item_right {t r w id x y z : Int} (hr : 0 ≤ r) (hy : 0 ≤ y) : ∃ b, item_Item_Right.f t r w id x y z = some b ∧ (b = true → RP r w ∧ RP y z) := by
  unfold item_Item_Right.f
  rw [since_eq, Option.bind_some, right_eq t w hr, Option.bind_some]
  by_cases hp : RP r w
  · rw [decide_eq_true hp, if_pos rfl, right_eq x z hy, Option.bind_some]
    by_cases hq : RP y z
    · rw [decide_eq_true hq, if_pos rfl]
      repeat' split
      all_goals exact ⟨_, rfl, fun _ => ⟨hp, hq⟩⟩
    · rw [decide_eq_false hq, if_neg (by simp)]
      exact ⟨_, rfl, fun h => by cases h⟩
  · rw [decide_eq_false hp, if_neg (by simp)]
    exact ⟨_, rfl, fun h => by cases h⟩
theorem near5 {at_ t r w id x y z : Int} {k : Nat} (hk : 5 ≤ k) (h1 : FP t r w) (h2 : FP x y z) : ∃ b, turnstonelaw05_near.f k at_ t r w id x y z = some b ∧ (b = true → NI at_ t r w id x y z) := by
  obtain ⟨k, rfl⟩ : ∃ j, k = j + 3 := ⟨k - 3, by omega⟩
  unfold turnstonelaw05_near.f
  rw [Option.bind_some]
  have i1 : wrap64 (0 + 1) = ((1 : Nat) : Int) := by rw [w64]; rfl
  have i2 : wrap64 (((1 : Nat) : Int) + 1) = ((2 : Nat) : Int) := by rw [w64]; rfl
  generalize hA : (⟨t, r, w⟩ : S26) = A
  generalize hB : (⟨x, y, z⟩ : S26) = B
  have r0 : rd_T26 [A, B] 0 = A := rfl
  have r1 : rd_T26 [A, B] ((1 : Nat) : Int) = B := rfl
  have ln : (([A, B] : List S26).length : Int) = 2 := rfl
  have ea : A.f0 = t := by rw [← hA]
  have eb : B.f0 = x := by rw [← hB]
  rw [ln, turnstonelaw05_near.l0, if_pos (by omega), if_pos (by omega), if_pos (by rw [ln]; omega), r0, ea, since_eq, Option.bind_some]
  by_cases c1 : wrap64 (t - at_) ≤ -1152921504606846976
  · rw [if_pos c1]; exact ⟨_, rfl, fun h => by cases h⟩
  rw [if_neg c1]
  by_cases c2 : wrap64 (t - at_) ≥ 1152921504606846976
  · rw [if_pos c2]; exact ⟨_, rfl, fun h => by cases h⟩
  rw [if_neg c2, i1, turnstonelaw05_near.l0, if_pos (by omega), if_pos (by omega), if_pos (by rw [ln]; omega), r1, eb, since_eq, Option.bind_some]
  by_cases c3 : wrap64 (x - at_) ≤ -1152921504606846976
  · rw [if_pos c3]; exact ⟨_, rfl, fun h => by cases h⟩
  rw [if_neg c3]
  by_cases c4 : wrap64 (x - at_) ≥ 1152921504606846976
  · rw [if_pos c4]; exact ⟨_, rfl, fun h => by cases h⟩
  rw [if_neg c4, i2, turnstonelaw05_near.l0, if_neg (by omega)]
  obtain ⟨b, e, hb⟩ := item_right (t := t) (r := r) (w := w) (id := id) (x := x) (y := y) (z := z) h1.2.1.1 h2.2.1.1
  rw [e, Option.bind_some]
  exact ⟨b, rfl, fun h => ⟨⟨h1, (hb h).1, by omega, by omega⟩, ⟨h2, (hb h).2, by omega, by omega⟩⟩⟩
theorem beq_not {P Q : Prop} [Decidable P] [Decidable Q] (h : P ↔ ¬ Q) : (decide P == decide Q) = false := by
  by_cases q : Q
  · have p : ¬ P := fun p => h.1 p q
    simp [p, q]
  · have p : P := h.2 q
    simp [p, q]
theorem ItemOrders : turnstonelaw05_ItemOrders.Pure := by
  intro at_ t1 r1 w1 id1 x1 y1 z1 t2 r2 w2 id2 x2 y2 z2 t3 r3 w3 id3 x3 y3 z3 hat a1 a2 a3 a4 a5 a6 a7 b1 b2 b3 b4 b5 b6 b7 c1 c2 c3 c4 c5 c6 c7
  refine ⟨50, ?_⟩
  unfold turnstonelaw05_ItemOrders.f
  rw [show turnstonelaw05_awake.f = some true from rfl, Option.bind_some, if_pos rfl]
  obtain ⟨u1, e1, n1⟩ := near5 (at_ := at_) (id := id1) (k := 50) (by omega) (show FP t1 r1 w1 from ⟨wf_u64 a1, wf_u32 a2, wf_u32 a3⟩) (show FP x1 y1 z1 from ⟨wf_u64 a5, wf_u32 a6, wf_u32 a7⟩)
  obtain ⟨u2, e2, n2⟩ := near5 (at_ := at_) (id := id2) (k := 50) (by omega) (show FP t2 r2 w2 from ⟨wf_u64 b1, wf_u32 b2, wf_u32 b3⟩) (show FP x2 y2 z2 from ⟨wf_u64 b5, wf_u32 b6, wf_u32 b7⟩)
  obtain ⟨u3, e3, n3⟩ := near5 (at_ := at_) (id := id3) (k := 50) (by omega) (show FP t3 r3 w3 from ⟨wf_u64 c1, wf_u32 c2, wf_u32 c3⟩) (show FP x3 y3 z3 from ⟨wf_u64 c5, wf_u32 c6, wf_u32 c7⟩)
  have no : turnstonelaw05_ItemOrders.j0 50 true t1 r1 w1 id1 x1 y1 z1 t2 r2 w2 id2 x2 y2 z2 t3 r3 w3 id3 x3 y3 z3 = some true := by rw [turnstonelaw05_ItemOrders.j0, if_pos rfl]
  rw [e1, Option.bind_some]
  cases u1 with
  | false => rw [if_neg (by simp), no]
  | true =>
  rw [if_pos rfl, e2, Option.bind_some]
  cases u2 with
  | false => rw [if_neg (by simp), no]
  | true =>
  rw [if_pos rfl, e3, Option.bind_some]
  cases u3 with
  | false => rw [if_neg (by simp), no]
  | true =>
  rw [if_pos rfl]
  by_cases d12 : id1 = id2
  · rw [if_pos d12, no]
  rw [if_neg d12]
  by_cases d23 : id2 = id3
  · rw [if_pos d23, no]
  rw [if_neg d23]
  by_cases d13 : id1 = id3
  · rw [show (id1 == id3) = true by simp [d13], no]
  rw [show (id1 == id3) = false by simpa using d13, turnstonelaw05_ItemOrders.j0, if_neg (by simp)]
  have A := n1 rfl
  have B := n2 rfl
  have C := n3 rfl
  have pos : ∀ {t r w : Int}, NP at_ t r w → 0 < w := by intro t r w h; have := h.2.1.1; omega
  have o1 : ahead at_ t1 r1 w1 id1 t2 r2 w2 id2 ↔ ¬ ahead at_ t2 r2 w2 id2 t1 r1 w1 id1 := before_one (by omega)
  have o2 : due at_ t1 r1 w1 id1 x1 y1 z1 t2 r2 w2 id2 x2 y2 z2 ↔ ¬ due at_ t2 r2 w2 id2 x2 y2 z2 t1 r1 w1 id1 x1 y1 z1 := before_one o1
  have i1 : ¬ ahead at_ t1 r1 w1 id1 t1 r1 w1 id1 := before_irr (by omega)
  have i2 : ¬ due at_ t1 r1 w1 id1 x1 y1 z1 t1 r1 w1 id1 x1 y1 z1 := before_irr i1
  have tA : ahead at_ t1 r1 w1 id1 t2 r2 w2 id2 → ahead at_ t2 r2 w2 id2 t3 r3 w3 id3 → ahead at_ t1 r1 w1 id1 t3 r3 w3 id3 := before_trans (pos A.p) (pos B.p) (pos C.p) (by omega)
  have tD : due at_ t1 r1 w1 id1 x1 y1 z1 t2 r2 w2 id2 x2 y2 z2 → due at_ t2 r2 w2 id2 x2 y2 z2 t3 r3 w3 id3 x3 y3 z3 → due at_ t1 r1 w1 id1 x1 y1 z1 t3 r3 w3 id3 x3 y3 z3 := before_trans (pos A.q) (pos B.q) (pos C.q) tA
  rw [ahead_eq (by omega) A B, Option.bind_some, ahead_eq (by omega) B A, Option.bind_some, beq_not o1, if_neg (by simp), due_eq (by omega) A B, Option.bind_some, due_eq (by omega) B A, Option.bind_some, beq_not o2, if_neg (by simp), ahead_eq (by omega) A A, Option.bind_some, decide_eq_false i1, if_neg (by simp), due_eq (by omega) A A, Option.bind_some, decide_eq_false i2, turnstonelaw05_ItemOrders.j1, if_neg (by simp)]
  simp only [ahead_eq (show 5 ≤ 48 by omega) A B, ahead_eq (show 5 ≤ 48 by omega) B C, ahead_eq (show 5 ≤ 48 by omega) A C, due_eq (show 5 ≤ 48 by omega) A B, due_eq (show 5 ≤ 48 by omega) B C, due_eq (show 5 ≤ 48 by omega) A C, Option.bind_some]
  have sA : decide (ahead at_ t1 r1 w1 id1 t2 r2 w2 id2) = true → decide (ahead at_ t2 r2 w2 id2 t3 r3 w3 id3) = true → decide (ahead at_ t1 r1 w1 id1 t3 r3 w3 id3) = true := fun a b => decide_eq_true (tA (of_decide_eq_true a) (of_decide_eq_true b))
  have sD : decide (due at_ t1 r1 w1 id1 x1 y1 z1 t2 r2 w2 id2 x2 y2 z2) = true → decide (due at_ t2 r2 w2 id2 x2 y2 z2 t3 r3 w3 id3 x3 y3 z3) = true → decide (due at_ t1 r1 w1 id1 x1 y1 z1 t3 r3 w3 id3 x3 y3 z3) = true := fun a b => decide_eq_true (tD (of_decide_eq_true a) (of_decide_eq_true b))
  generalize decide (ahead at_ t1 r1 w1 id1 t2 r2 w2 id2) = p1 at sA ⊢
  generalize decide (ahead at_ t2 r2 w2 id2 t3 r3 w3 id3) = p2 at sA ⊢
  generalize decide (ahead at_ t1 r1 w1 id1 t3 r3 w3 id3) = p3 at sA ⊢
  generalize decide (due at_ t1 r1 w1 id1 x1 y1 z1 t2 r2 w2 id2 x2 y2 z2) = q1 at sD ⊢
  generalize decide (due at_ t2 r2 w2 id2 x2 y2 z2 t3 r3 w3 id3 x3 y3 z3) = q2 at sD ⊢
  generalize decide (due at_ t1 r1 w1 id1 x1 y1 z1 t3 r3 w3 id3 x3 y3 z3) = q3 at sD ⊢
  clear no e1 e2 e3 n1 n2 n3 A B C o1 o2 i1 i2 tA tD pos
  revert sA sD
  revert p1 p2 p3 q1 q2 q3
  decide
end Go.Proofs.Ytdfpkjdhndfcbaa.Pure
