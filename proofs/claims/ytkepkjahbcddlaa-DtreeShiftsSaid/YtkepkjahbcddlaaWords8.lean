/- Words for trees of items that lie near a time: order, the soonest of a beginning. -/
import Derived.Test.YtkepkjahbcddlaaWords7
namespace Go.Proofs.Ytkepkjahbcddlaa.Fn
open Go Go.Proofs.Ytkepkjahbcddlaa.Sy
set_option linter.unusedVariables false
set_option linter.unusedSimpArgs false
/-! ### Fractions -/
theorem fr_le {r w q v x y : Int} (hw : 0 < w) (hv : 0 < v) (hy : 0 < y) (h1 : r * v ≤ q * w) (h2 : q * y ≤ x * v) : r * y ≤ x * w := by
  have a1 := Int.mul_le_mul_of_nonneg_right h1 (Int.le_of_lt hy)
  have a2 := Int.mul_le_mul_of_nonneg_right h2 (Int.le_of_lt hw)
  have a3 : r * y * v ≤ x * w * v := by grind
  exact Int.le_of_mul_le_mul_right a3 hv
theorem fr_lt {r w q v x y : Int} (hw : 0 < w) (hv : 0 < v) (hy : 0 < y) (h1 : r * v ≤ q * w) (h2 : q * y ≤ x * v) (hl : r * v < q * w ∨ q * y < x * v) : r * y < x * w := by
  have a1 := Int.mul_le_mul_of_nonneg_right h1 (Int.le_of_lt hy)
  have a2 := Int.mul_le_mul_of_nonneg_right h2 (Int.le_of_lt hw)
  have a3 : r * y * v < x * w * v := by
    rcases hl with hl | hl
    · have b1 := Int.mul_lt_mul_of_pos_right hl hy
      grind
    · have b2 := Int.mul_lt_mul_of_pos_right hl hw
      grind
  exact Int.lt_of_mul_lt_mul_right a3 (Int.le_of_lt hv)
/-! ### Items near a time -/
/-- An item's numbers are of their kinds; it has weights; its times are near. -/
def NI (at_ : Int) (a : List Int) : Prop := K7 a ∧ 0 < g7 a 2 ∧ 0 < g7 a 6 ∧ (-576460752303423488 < s64 (g7 a 0 - at_) ∧ s64 (g7 a 0 - at_) < 576460752303423488) ∧ (-576460752303423488 < s64 (g7 a 4 - at_) ∧ s64 (g7 a 4 - at_) < 576460752303423488)
/-- How a first place and a second one stand: which is ahead. -/
def LV (D r w E q v : Int) : Prop := D < E ∨ D = E ∧ r * v < q * w
def EV (D r w E q v : Int) : Prop := D = E ∧ r * v = q * w
theorem pc_near {b t r w u q v : Int} (h1 : -576460752303423488 < s64 (t - b) ∧ s64 (t - b) < 576460752303423488) (h2 : -576460752303423488 < s64 (u - b) ∧ s64 (u - b) < 576460752303423488) :
    (pcI t r w u q v < 0 ↔ LV (s64 (t - b)) r w (s64 (u - b)) q v) ∧ (pcI t r w u q v = 0 ↔ EV (s64 (t - b)) r w (s64 (u - b)) q v) := by
  have e : s64 (u - t) = s64 (u - b) - s64 (t - b) := by simp only [s64] at *; omega
  unfold pcI LV EV
  rw [e]
  generalize s64 (u - b) = x at *
  generalize s64 (t - b) = y at *
  generalize r * v = p at *
  generalize q * w = s at *
  constructor <;> (repeat' split) <;> omega
theorem AHR_near {b : Int} {x y : List Int} (hx : NI b x) (hy : NI b y) : AHR x y ↔ (LV (s64 (g7 x 0 - b)) (g7 x 1) (g7 x 2) (s64 (g7 y 0 - b)) (g7 y 1) (g7 y 2) ∨ EV (s64 (g7 x 0 - b)) (g7 x 1) (g7 x 2) (s64 (g7 y 0 - b)) (g7 y 1) (g7 y 2) ∧ g7 x 3 < g7 y 3) := by
  have h := pc_near (r := g7 x 1) (w := g7 x 2) (q := g7 y 1) (v := g7 y 2) hx.2.2.2.1 hy.2.2.2.1
  unfold AHR AHI
  rw [h.1, h.2]
theorem DUR_near {b : Int} {x y : List Int} (hx : NI b x) (hy : NI b y) : DUR x y ↔ (LV (s64 (g7 x 4 - b)) (g7 x 5) (g7 x 6) (s64 (g7 y 4 - b)) (g7 y 5) (g7 y 6) ∨ EV (s64 (g7 x 4 - b)) (g7 x 5) (g7 x 6) (s64 (g7 y 4 - b)) (g7 y 5) (g7 y 6) ∧ AHR x y) := by
  have h := pc_near (r := g7 x 5) (w := g7 x 6) (q := g7 y 5) (v := g7 y 6) hx.2.2.2.2 hy.2.2.2.2
  unfold DUR DUI
  rw [h.1, h.2]
  rfl
theorem LV_trans {D r w E q v F x y : Int} (hw : 0 < w) (hv : 0 < v) (hy : 0 < y) (h1 : LV D r w E q v ∨ EV D r w E q v) (h2 : LV E q v F x y ∨ EV E q v F x y) : (LV D r w F x y ∨ EV D r w F x y) ∧ ((LV D r w E q v ∨ LV E q v F x y) → LV D r w F x y) := by
  have f1 := fr_le (r := r) (q := q) (x := x) hw hv hy
  have f2 := fr_lt (r := r) (q := q) (x := x) hw hv hy
  unfold LV EV at *
  generalize r * v = p1 at *
  generalize q * w = p2 at *
  generalize q * y = p3 at *
  generalize x * v = p4 at *
  generalize r * y = p5 at *
  generalize x * w = p6 at *
  by_cases c1 : p1 ≤ p2 <;> by_cases c2 : p3 ≤ p4
  · have f1 := f1 c1 c2
    have f2 := f2 c1 c2
    omega
  all_goals omega
theorem LV_not {D r w E q v : Int} : ¬ LV D r w E q v ↔ (LV E q v D r w ∨ EV E q v D r w) := by
  unfold LV EV
  generalize r * v = p1
  generalize q * w = p2
  omega
theorem EV_symm {D r w E q v : Int} : EV D r w E q v ↔ EV E q v D r w := by
  unfold EV
  generalize r * v = p1
  generalize q * w = p2
  omega
theorem EV_notLV {D r w E q v : Int} (h : EV D r w E q v) : ¬ LV D r w E q v := by
  unfold LV EV at *
  generalize r * v = p1 at *
  generalize q * w = p2 at *
  omega
/-- An order that leaves some undecided. -/
structure SWO (S : List Int → Prop) (R : List Int → List Int → Prop) : Prop where
  tr : ∀ {x y z}, S x → S y → S z → R x y → R y z → R x z
  nt : ∀ {x y z}, S x → S y → S z → ¬ R x y → ¬ R y z → ¬ R x z
  ir : ∀ {x}, S x → ¬ R x x
theorem SWO.asymm {S : List Int → Prop} {R : List Int → List Int → Prop} (h : SWO S R) {x y : List Int} (hx : S x) (hy : S y) (r : R x y) : ¬ R y x := fun q => h.ir hx (h.tr hx hy hx r q)
/-- One value first, then an order. -/
theorem swo_lex {S : List Int → Prop} {R Q : List Int → List Int → Prop} (hQ : SWO S Q) (f : List Int → Int × Int × Int) (hf : ∀ {x}, S x → 0 < (f x).2.2)
    (h : ∀ {x y}, S x → S y → (R x y ↔ (LV (f x).1 (f x).2.1 (f x).2.2 (f y).1 (f y).2.1 (f y).2.2 ∨ EV (f x).1 (f x).2.1 (f x).2.2 (f y).1 (f y).2.1 (f y).2.2 ∧ Q x y))) : SWO S R := by
  refine ⟨fun {x y z} hx hy hz h1 h2 => ?_, fun {x y z} hx hy hz h1 h2 => ?_, fun {x} hx h1 => ?_⟩
  · rw [h hx hy] at h1
    rw [h hy hz] at h2
    rw [h hx hz]
    have t := LV_trans (hf hx) (hf hy) (hf hz) (h1.imp id (fun q => q.1)) (h2.imp id (fun q => q.1))
    rcases h1 with h1 | ⟨e1, q1⟩
    · exact .inl (t.2 (.inl h1))
    · rcases h2 with h2 | ⟨e2, q2⟩
      · exact .inl (t.2 (.inr h2))
      · rcases t.1 with t | t
        · exact .inl t
        · exact .inr ⟨t, hQ.tr hx hy hz q1 q2⟩
  · rw [h hx hy, not_or, LV_not, not_and] at h1
    rw [h hy hz, not_or, LV_not, not_and] at h2
    rw [h hx hz, not_or, LV_not, not_and]
    have t := LV_trans (hf hz) (hf hy) (hf hx) h2.1 h1.1
    refine ⟨t.1, fun e => ?_⟩
    have n := EV_notLV (EV_symm.1 e)
    have e1 : ¬ LV (f y).1 (f y).2.1 (f y).2.2 (f x).1 (f x).2.1 (f x).2.2 := fun q => n (t.2 (.inr q))
    have e2 : ¬ LV (f z).1 (f z).2.1 (f z).2.2 (f y).1 (f y).2.1 (f y).2.2 := fun q => n (t.2 (.inl q))
    have q1 := h1.2 (EV_symm.1 (h1.1.resolve_left e1))
    have q2 := h2.2 (EV_symm.1 (h2.1.resolve_left e2))
    exact hQ.nt hx hy hz q1 q2
  · rw [h hx hx] at h1
    rcases h1 with h1 | ⟨_, q⟩
    · unfold LV at h1; omega
    · exact hQ.ir hx q
theorem swo_id (S : List Int → Prop) : SWO S (fun x y => g7 x 3 < g7 y 3) := ⟨fun _ _ _ a b => Int.lt_trans a b, fun _ _ _ a b => by omega, fun _ a => by omega⟩
theorem swo_AHR (b : Int) : SWO (NI b) AHR := swo_lex (swo_id _) (fun x => (s64 (g7 x 0 - b), g7 x 1, g7 x 2)) (fun h => h.2.1) (fun hx hy => AHR_near hx hy)
theorem swo_DUR (b : Int) : SWO (NI b) DUR := swo_lex (swo_AHR b) (fun x => (s64 (g7 x 4 - b), g7 x 5, g7 x 6)) (fun h => h.2.2.1) (fun hx hy => DUR_near hx hy)
/-! ### The soonest of some -/
def addO (o : Option (List Int)) (x : List Int) : Option (List Int) := match o with
  | none => some x
  | some a => some (JN a x)
def LM (l : List (List Int)) : Option (List Int) := l.foldl addO none
theorem JN_in {S : List Int → Prop} {a b : List Int} (ha : S a) (hb : S b) : S (JN a b) := by
  unfold JN
  split
  · exact hb
  · exact ha
theorem JN_assoc {S : List Int → Prop} (h : SWO S DUR) {a b c : List Int} (ha : S a) (hb : S b) (hc : S c) : JN (JN a b) c = JN a (JN b c) := by
  unfold JN
  by_cases h1 : DUR b a <;> by_cases h2 : DUR c b
  · simp [h1, h2, h.tr hc hb ha h2 h1]
  · simp [h1, h2]
  · simp [h1, h2]
  · have := h.nt hc hb ha h2 h1
    simp [h1, h2, this]
theorem foldl_add {S : List Int → Prop} (h : SWO S DUR) : ∀ (l : List (List Int)) {a : List Int} (ha : S a) (hl : ∀ x ∈ l, S x), ∃ b, l.foldl addO (some a) = some b ∧ S b ∧ (b = a ∨ b ∈ l)
  | [], a, ha, _ => ⟨a, rfl, ha, .inl rfl⟩
  | x :: l, a, ha, hl => by
    obtain ⟨b, h1, h2, h3⟩ := foldl_add h l (JN_in ha (hl x (by simp))) (fun y hy => hl y (by simp [hy]))
    refine ⟨b, h1, h2, ?_⟩
    rcases h3 with h3 | h3
    · rw [h3]
      unfold JN
      split
      · exact .inr (by simp)
      · exact .inl rfl
    · exact .inr (by simp [h3])
theorem foldl_join {S : List Int → Prop} (h : SWO S DUR) : ∀ (l : List (List Int)) {a x : List Int} (ha : S a) (hx : S x) (hl : ∀ x ∈ l, S x) {b : List Int}, l.foldl addO (some x) = some b → l.foldl addO (some (JN a x)) = some (JN a b)
  | [], a, x, ha, hx, _, b, e => by
    simp only [List.foldl_nil, Option.some.injEq] at e ⊢
    rw [e]
  | y :: l, a, x, ha, hx, hl, b, e => by
    simp only [List.foldl_cons, addO] at e ⊢
    have hy := hl y (by simp)
    rw [JN_assoc h ha hx hy]
    exact foldl_join h l ha (JN_in hx hy) (fun z hz => hl z (by simp [hz])) e
/-- What is added at once, and one by one. -/
theorem foldl_addO {S : List Int → Prop} (h : SWO S DUR) {l : List (List Int)} {o : Option (List Int)} {b : List Int} (ho : ∀ a, o = some a → S a) (hl : ∀ x ∈ l, S x) (e : LM l = some b) : l.foldl addO o = addO o b := by
  cases o with
  | none => exact e
  | some a =>
    cases l with
    | nil => cases e
    | cons x l =>
      have ha := ho a rfl
      simp only [LM, List.foldl_cons, addO] at e ⊢
      exact foldl_join h l ha (hl x (by simp)) (fun z hz => hl z (by simp [hz])) e
theorem LM_some {S : List Int → Prop} (h : SWO S DUR) {l : List (List Int)} (hl : ∀ x ∈ l, S x) (hn : l ≠ []) : ∃ b, LM l = some b ∧ S b ∧ b ∈ l := by
  cases l with
  | nil => exact absurd rfl hn
  | cons x l =>
    obtain ⟨b, h1, h2, h3⟩ := foldl_add h l (hl x (by simp)) (fun z hz => hl z (by simp [hz]))
    refine ⟨b, h1, h2, ?_⟩
    rcases h3 with rfl | h3
    · simp
    · simp [h3]
/-- None of them is due ahead. -/
theorem foldl_min {S : List Int → Prop} (h : SWO S DUR) : ∀ (l : List (List Int)) {a b : List Int} (ha : S a) (hl : ∀ x ∈ l, S x), l.foldl addO (some a) = some b → ¬ DUR a b ∧ ∀ x ∈ l, ¬ DUR x b
  | [], a, b, ha, _, e => by
    obtain rfl := Option.some.inj e
    exact ⟨h.ir ha, fun x hx => by cases hx⟩
  | y :: l, a, b, ha, hl, e => by
    have hy := hl y (by simp)
    have hj := JN_in (S := S) ha hy
    have hl' := fun z (hz : z ∈ l) => hl z (by simp [hz])
    obtain ⟨b', e', hb, _⟩ := foldl_add h l hj hl'
    obtain ⟨h1, h2⟩ := foldl_min h l hj hl' (show l.foldl addO (some (JN a y)) = some b from e)
    have eb : b' = b := by
      have : l.foldl addO (some (JN a y)) = some b := e
      rw [e'] at this
      exact Option.some.inj this
    subst eb
    have na : ¬ DUR a (JN a y) := by
      unfold JN
      split
      · rename_i q; exact h.asymm hy ha q
      · exact h.ir ha
    have ny : ¬ DUR y (JN a y) := by
      unfold JN
      split
      · exact h.ir hy
      · assumption
    refine ⟨h.nt ha hj hb na h1, fun x hx => ?_⟩
    rcases List.mem_cons.1 hx with rfl | hx
    · exact h.nt hy hj hb ny h1
    · exact h2 x hx
theorem LM_min {S : List Int → Prop} (h : SWO S DUR) {l : List (List Int)} (hl : ∀ x ∈ l, S x) {b : List Int} (e : LM l = some b) : ∀ x ∈ l, ¬ DUR x b := by
  cases l with
  | nil => intro x hx; cases hx
  | cons y l =>
    obtain ⟨h1, h2⟩ := foldl_min h l (hl y (by simp)) (fun z hz => hl z (by simp [hz])) e
    intro x hx
    rcases List.mem_cons.1 hx with rfl | hx
    · exact h1
    · exact h2 x hx
/-! ### What a tree's nodes count -/
namespace ItT
def topO (o : Option (List Int)) : ItT → Option (List Int)
  | E => o
  | N _ a _ _ _ => addO o a
/-- Each node counts what it is made of. -/
def SR : ItT → Prop
  | E => True
  | N i a _ l r => a = sm i l r ∧ SR l ∧ SR r
/-- The soonest of a beginning, as it is found. -/
def foldP (P : List Int → Prop) [DecidablePred P] (o : Option (List Int)) : ItT → Option (List Int)
  | E => o
  | N i a _ l r => if P i then foldP P (addO (topO o l) i) r else foldP P o l
theorem SR_all {S : List Int → Prop} (h : SWO S DUR) : ∀ {t : ItT}, t.SR → (∀ x ∈ t.ord, S x) → ∀ {i a c l r}, t = N i a c l r → LM t.ord = some a
  | E, _, _, i, a, c, l, r, e => by cases e
  | N i a c l r, hs, hS, _, _, _, _, _, rfl => by
    obtain ⟨rfl, h1, h2⟩ := hs
    have sl : ∀ x ∈ l.ord, S x := fun x hx => hS x (by simp [ord, hx])
    have sr : ∀ x ∈ r.ord, S x := fun x hx => hS x (by simp [ord, hx])
    have si : S i := hS i (by simp [ord])
    have e1 : LM (l.ord ++ [i]) = some (sm1 i l) := by
      unfold LM
      rw [List.foldl_append]
      cases l with
      | E => rfl
      | N j b d m q =>
        have := SR_all h h1 sl rfl
        unfold LM at this
        rw [this]; rfl
    have e2 : (N i (sm i l r) c l r).ord = (l.ord ++ [i]) ++ r.ord := by simp [ord]
    rw [e2]
    unfold LM at e1 ⊢
    rw [List.foldl_append, e1]
    cases r with
    | E => rfl
    | N j b d m q =>
      have hb := SR_all h h2 sr rfl
      obtain ⟨b', h3, h4, _⟩ := LM_some h (l := l.ord ++ [i]) (fun x hx => by
        rcases List.mem_append.1 hx with hx | hx
        · exact sl x hx
        · rw [List.mem_singleton.1 hx]; exact si) (by simp)
      unfold LM at h3
      rw [e1] at h3
      obtain rfl := Option.some.inj h3
      exact foldl_addO h (fun a ha => by obtain rfl := Option.some.inj ha; exact h4) sr hb
theorem topO_eq {S : List Int → Prop} (h : SWO S DUR) {t : ItT} (hs : t.SR) (hS : ∀ x ∈ t.ord, S x) {o : Option (List Int)} (ho : ∀ a, o = some a → S a) : topO o t = t.ord.foldl addO o := by
  cases t with
  | E => rfl
  | N i a c l r => exact (foldl_addO h ho hS (SR_all h hs hS rfl)).symm
theorem foldl_S {S : List Int → Prop} (h : SWO S DUR) {l : List (List Int)} (hl : ∀ x ∈ l, S x) {o : Option (List Int)} (ho : ∀ a, o = some a → S a) : ∀ a, l.foldl addO o = some a → S a := by
  intro a e
  cases o with
  | none =>
    cases l with
    | nil => cases e
    | cons x l =>
      obtain ⟨b, h1, h2, _⟩ := LM_some h hl (by simp)
      unfold LM at h1
      rw [h1] at e
      obtain rfl := Option.some.inj e
      exact h2
  | some c =>
    obtain ⟨b, h1, h2, _⟩ := foldl_add h l (ho c rfl) hl
    rw [h1] at e
    obtain rfl := Option.some.inj e
    exact h2
/-- What is found is the soonest of the beginning. -/
theorem foldP_eq {S : List Int → Prop} (h : SWO S DUR) {P : List Int → Prop} [DecidablePred P] : ∀ {t : ItT}, t.SR → (∀ x ∈ t.ord, S x) → (t.ord.Pairwise fun x y => P y → P x) → ∀ {o : Option (List Int)}, (∀ a, o = some a → S a) → foldP P o t = (t.ord.filter fun x => decide (P x)).foldl addO o
  | E, _, _, _, o, _ => rfl
  | N i a c l r, hs, hS, hp, o, ho => by
    obtain ⟨_, h1, h2⟩ := hs
    have sl : ∀ x ∈ l.ord, S x := fun x hx => hS x (by simp [ord, hx])
    have sr : ∀ x ∈ r.ord, S x := fun x hx => hS x (by simp [ord, hx])
    have si : S i := hS i (by simp [ord])
    simp only [ord, List.pairwise_append, List.pairwise_cons] at hp
    obtain ⟨p1, ⟨p2, p3⟩, p4⟩ := hp
    simp only [foldP, ord, List.filter_append, List.filter_cons, List.foldl_append]
    by_cases hi : P i
    · have all : l.ord.filter (fun x => decide (P x)) = l.ord := List.filter_eq_self.2 fun x hx => decide_eq_true (p4 x hx i (by simp) hi)
      rw [if_pos hi, all, if_pos (decide_eq_true hi), List.foldl_cons, topO_eq h h1 sl ho]
      refine foldP_eq h h2 sr p3 fun b hb => ?_
      have so : ∀ a, l.ord.foldl addO o = some a → S a := foldl_S h sl ho
      cases ha : l.ord.foldl addO o with
      | none => rw [ha] at hb; obtain rfl := Option.some.inj hb; exact si
      | some c => rw [ha] at hb; obtain rfl := Option.some.inj hb; exact JN_in (so c ha) si
    · have none_ : r.ord.filter (fun x => decide (P x)) = [] := List.filter_eq_nil_iff.2 fun x hx => by simpa using fun q => hi (p2 x hx q)
      rw [if_neg hi, if_neg (by simpa using hi), none_, List.foldl_nil]
      exact foldP_eq h h1 sl p1 ho
/-! ### With a thing more -/
theorem SR_sum {i a : List Int} {c : Bool} {l r : ItT} (hl : l.SR) (hr : r.SR) : (sum (N i a c l r)).SR := ⟨rfl, hl, hr⟩
theorem SR_toLeft {t : ItT} (h : t.SR) : t.toLeft.SR := by
  cases t with
  | E => exact h
  | N i a c l r =>
    cases r with
    | E => exact h
    | N j b d m r => exact SR_sum (a := b) (SR_sum (a := a) h.2.1 h.2.2.2.1) h.2.2.2.2
theorem SR_toRight {t : ItT} (h : t.SR) : t.toRight.SR := by
  cases t with
  | E => exact h
  | N i a c l r =>
    cases l with
    | E => exact h
    | N j b d l m => exact SR_sum (a := b) h.2.1.2.1 (SR_sum (a := a) h.2.1.2.2 h.2.2)
theorem SR_flip {t : ItT} (h : t.SR) : t.flip.SR := by
  cases t with
  | E => exact h
  | N i a c l r =>
    cases l with
    | E => exact h
    | N j b d l m =>
      cases r with
      | E => exact h
      | N k e f p q => exact ⟨h.1, ⟨h.2.1.1, h.2.1.2⟩, ⟨h.2.2.1, h.2.2.2⟩⟩
theorem SR_mend {i a : List Int} {c : Bool} {l r : ItT} (hl : l.SR) (hr : r.SR) : (mend (N i a c l r)).SR := by
  have h0 : (sum (N i a c l r)).SR := SR_sum hl hr
  generalize sum (N i a c l r) = t at *
  have h1 : (sum (N i a c l r)).mend1.SR := by
    have h0 : (sum (N i a c l r)).SR := SR_sum hl hr
    unfold mend1; split <;> first | exact SR_toLeft h0 | exact h0
  have h2 : (sum (N i a c l r)).mend1.mend2.SR := by unfold mend2; split <;> first | exact SR_toRight h1 | exact h1
  unfold mend mend3
  split
  · exact SR_flip h2
  · exact h2
theorem SR_ins (x : List Int) : ∀ {t : ItT}, t.SR → (ins x t).SR
  | E, _ => ⟨rfl, trivial, trivial⟩
  | N i a c l r, h => by
    unfold ins
    split
    · exact SR_mend (SR_ins x h.2.1) h.2.2
    · exact SR_mend h.2.1 (SR_ins x h.2.2)
theorem SR_black : ∀ {t : ItT}, t.SR → t.black.SR
  | E, h => h
  | N .., h => h
theorem mem_ins (x : List Int) : ∀ {t : ItT} {y : List Int}, y ∈ (ins x t).ord ↔ y = x ∨ y ∈ t.ord
  | E, y => by simp [ins, ord]
  | N i a c l r, y => by
    unfold ins
    split <;> rw [ord_mend] <;> simp only [ord, List.mem_append, List.mem_cons, mem_ins x (t := l), mem_ins x (t := r)]
    · constructor
      · rintro ((h | h) | h)
        · exact .inl h
        · exact .inr (.inl h)
        · exact .inr (.inr h)
      · rintro (h | h | h)
        · exact .inl (.inl h)
        · exact .inl (.inr h)
        · exact .inr h
    · constructor
      · rintro (h | h | h | h)
        · exact .inr (.inl h)
        · exact .inr (.inr (.inl h))
        · exact .inl h
        · exact .inr (.inr (.inr h))
      · rintro (h | h | h | h)
        · exact .inr (.inr (.inl h))
        · exact .inl h
        · exact .inr (.inl h)
        · exact .inr (.inr (.inr h))
/-- In order. -/
def SO (t : ItT) : Prop := t.ord.Pairwise AHR
theorem SO_N {i a : List Int} {c : Bool} {l r : ItT} : (N i a c l r).SO ↔ l.SO ∧ r.SO ∧ (∀ x ∈ l.ord, AHR x i) ∧ (∀ y ∈ r.ord, AHR i y) ∧ ∀ x ∈ l.ord, ∀ y ∈ r.ord, AHR x y := by
  simp only [SO, ord, List.pairwise_append, List.pairwise_cons, List.mem_cons, forall_eq_or_imp]
  constructor
  · rintro ⟨h1, ⟨h2, h3⟩, h4⟩
    exact ⟨h1, h3, fun x hx => (h4 x hx).1, h2, fun x hx => (h4 x hx).2⟩
  · rintro ⟨h1, h2, h3, h4, h5⟩
    exact ⟨h1, ⟨h4, h2⟩, fun x hx => ⟨h3 x hx, h5 x hx⟩⟩
theorem has_no {S : List Int → Prop} (h : SWO S AHR) {x : List Int} (hx : S x) : ∀ {t : ItT}, (∀ y ∈ t.ord, S y) → t.SO → t.has x = false → ∀ y ∈ t.ord, AHR x y ∨ AHR y x
  | E, _, _, _, y, hy => by cases hy
  | N i a c l r, hS, ho, hh, y, hy => by
    have sl : ∀ x ∈ l.ord, S x := fun x hx => hS x (by simp [ord, hx])
    have sr : ∀ x ∈ r.ord, S x := fun x hx => hS x (by simp [ord, hx])
    have si : S i := hS i (by simp [ord])
    obtain ⟨o1, o2, o3, o4, o5⟩ := SO_N.1 ho
    simp only [ord, List.mem_append, List.mem_cons] at hy
    simp only [has] at hh
    split at hh
    · rename_i hi
      rcases hy with hy | rfl | hy
      · exact has_no h hx sl o1 hh y hy
      · exact .inl hi
      · exact .inl (h.tr hx si (sr y hy) hi (o4 y hy))
    · split at hh
      · rename_i hi
        rcases hy with hy | rfl | hy
        · exact .inr (h.tr (sl y hy) si hx (o3 y hy) hi)
        · exact .inr hi
        · exact has_no h hx sr o2 hh y hy
      · cases hh
theorem has_yes {S : List Int → Prop} {x : List Int} : ∀ {t : ItT}, t.has x = true → ∃ y ∈ t.ord, ¬ AHR x y ∧ ¬ AHR y x
  | E, hh => by cases hh
  | N i a c l r, hh => by
    simp only [has] at hh
    split at hh
    · obtain ⟨y, h1, h2⟩ := has_yes (S := S) hh
      exact ⟨y, by simp [ord, h1], h2⟩
    · split at hh
      · obtain ⟨y, h1, h2⟩ := has_yes (S := S) hh
        exact ⟨y, by simp [ord, h1], h2⟩
      · exact ⟨i, by simp [ord], by assumption, by assumption⟩
theorem SO_ins {S : List Int → Prop} (h : SWO S AHR) {x : List Int} (hx : S x) : ∀ {t : ItT}, (∀ y ∈ t.ord, S y) → t.SO → (∀ y ∈ t.ord, AHR x y ∨ AHR y x) → (ins x t).SO
  | E, _, _, _ => by simp [ins, SO, ord]
  | N i a c l r, hS, ho, hd => by
    have sl : ∀ x ∈ l.ord, S x := fun x hx => hS x (by simp [ord, hx])
    have sr : ∀ x ∈ r.ord, S x := fun x hx => hS x (by simp [ord, hx])
    have si : S i := hS i (by simp [ord])
    obtain ⟨o1, o2, o3, o4, o5⟩ := SO_N.1 ho
    unfold ins
    split
    · rename_i hi
      have ih := SO_ins h hx sl o1 fun y hy => hd y (by simp [ord, hy])
      have : (N i a c (ins x l) r).SO := SO_N.2 ⟨ih, o2, fun y hy => by
        rcases (mem_ins x).1 hy with rfl | hy
        · exact hi
        · exact o3 y hy, o4, fun y hy z hz => by
        rcases (mem_ins x).1 hy with rfl | hy
        · exact h.tr hx si (sr z hz) hi (o4 z hz)
        · exact o5 y hy z hz⟩
      unfold SO at this ⊢
      rw [ord_mend]; exact this
    · rename_i hi
      have hi2 : AHR i x := (hd i (by simp [ord])).resolve_left hi
      have ih := SO_ins h hx sr o2 fun y hy => hd y (by simp [ord, hy])
      have : (N i a c l (ins x r)).SO := SO_N.2 ⟨o1, ih, o3, fun y hy => by
        rcases (mem_ins x).1 hy with rfl | hy
        · exact hi2
        · exact o4 y hy, fun z hz y hy => by
        rcases (mem_ins x).1 hy with rfl | hy
        · exact h.tr (sl z hz) si hx (o3 z hz) hi2
        · exact o5 z hz y hy⟩
      unfold SO at this ⊢
      rw [ord_mend]; exact this
theorem K_ord : ∀ {t : ItT}, t.K → ∀ x ∈ t.ord, K7 x
  | E, _, x, hx => by cases hx
  | N i a c l r, h, x, hx => by
    simp only [ord, List.mem_append, List.mem_cons] at hx
    rcases hx with hx | rfl | hx
    · exact K_ord h.2.2.1 x hx
    · exact h.1
    · exact K_ord h.2.2.2 x hx
/-- A tree as it should be: in order, each node counting what is below it, of items near a time. -/
structure OK (b : Int) (t : ItT) : Prop where
  sr : t.SR
  so : t.SO
  ni : ∀ x ∈ t.ord, NI b x
theorem OK_E (b : Int) : OK b E := ⟨trivial, List.Pairwise.nil, fun x hx => by cases hx⟩
theorem OK_put {b : Int} {t : ItT} (h : OK b t) {x : List Int} (hx : NI b x) : OK b (t.put x) := by
  unfold put
  split
  · exact h
  · rename_i hh
    have hh : t.has x = false := by simpa using hh
    refine ⟨SR_black (SR_ins x h.sr), ?_, fun y hy => ?_⟩
    · unfold SO
      rw [ord_black]
      exact SO_ins (swo_AHR b) hx h.ni h.so (has_no (swo_AHR b) hx h.ni h.so hh)
    · rw [ord_black] at hy
      rcases (mem_ins x).1 hy with rfl | hy
      · exact hx
      · exact h.ni y hy
theorem mem_put {x y : List Int} {t : ItT} (h : y ∈ (t.put x).ord) : y = x ∨ y ∈ t.ord := by
  unfold put at h
  split at h
  · exact .inr h
  · rw [ord_black] at h; exact (mem_ins x).1 h
end ItT
theorem OK_putL {b : Int} : ∀ (L : List (List Int)) {t : ItT}, t.OK b → (∀ x ∈ L, NI b x) → (putL L t).OK b
  | [], t, h, _ => h
  | x :: L, t, h, hL => OK_putL L (ItT.OK_put h (hL x (by simp))) fun y hy => hL y (by simp [hy])
theorem mem_putL : ∀ (L : List (List Int)) {t : ItT} {y : List Int}, y ∈ (putL L t).ord → y ∈ L ∨ y ∈ t.ord
  | [], t, y, h => .inr h
  | x :: L, t, y, h => by
    rcases mem_putL L (t := t.put x) h with h | h
    · exact .inl (by simp [h])
    · rcases ItT.mem_put h with rfl | h
      · exact .inl (by simp)
      · exact .inr h
theorem g7_rw7 (L : List (List Int)) (k c : Nat) (hc : c < 7) : g7 (rw7 L k) c = g7 (L.getD k []) c := by
  have e : ∀ c, Sy.rowAt L (k : Int) c = g7 (L.getD k []) c := fun c => by simp [Sy.rowAt, g7]
  simp only [rw7, e]
  match c, hc with
  | 0, _ => rfl
  | 1, _ => rfl
  | 2, _ => rfl
  | 3, _ => rfl
  | 4, _ => rfl
  | 5, _ => rfl
  | 6, _ => rfl
theorem rw7_eq {L : List (List Int)} {k : Nat} (hk : k < L.length) (hl : (L.getD k []).length = 7) : rw7 L k = L.getD k [] := by
  apply List.ext_getElem
  · rw [hl]; rfl
  · intro c h1 h2
    have h := g7_rw7 L k c h1
    simp only [g7, List.getD_eq_getElem?_getD, List.getElem?_eq_getElem h1, List.getElem?_eq_getElem h2, Option.getD_some] at h
    rw [h]
    simp only [List.getD_eq_getElem?_getD] at h2 ⊢
    rw [List.getElem?_eq_getElem h2, Option.getD_some]
theorem AHR_rw {L : List (List Int)} {k : Nat} {e : List Int} : AHR (rw7 L k) e ↔ AHR (L.getD k []) e := by
  unfold AHR
  rw [g7_rw7 _ _ _ (by omega), g7_rw7 _ _ _ (by omega), g7_rw7 _ _ _ (by omega), g7_rw7 _ _ _ (by omega)]
theorem DUR_rw {L : List (List Int)} {k : Nat} {e : List Int} : DUR (rw7 L k) e ↔ DUR (L.getD k []) e := by
  unfold DUR
  rw [g7_rw7 _ _ _ (by omega), g7_rw7 _ _ _ (by omega), g7_rw7 _ _ _ (by omega), g7_rw7 _ _ _ (by omega), g7_rw7 _ _ _ (by omega), g7_rw7 _ _ _ (by omega), g7_rw7 _ _ _ (by omega)]
theorem K7_rw {L : List (List Int)} {k : Nat} : K7 (rw7 L k) ↔ K7 (L.getD k []) := by
  unfold K7
  rw [g7_rw7 _ _ _ (by omega), g7_rw7 _ _ _ (by omega), g7_rw7 _ _ _ (by omega), g7_rw7 _ _ _ (by omega), g7_rw7 _ _ _ (by omega), g7_rw7 _ _ _ (by omega)]
theorem NI_rw {b : Int} {L : List (List Int)} {k : Nat} : NI b (rw7 L k) ↔ NI b (L.getD k []) := by
  unfold NI
  rw [K7_rw, g7_rw7 _ _ _ (by omega), g7_rw7 _ _ _ (by omega), g7_rw7 _ _ _ (by omega), g7_rw7 _ _ _ (by omega)]
theorem NI_all {b : Int} {L : List (List Int)} (h : ∀ k : Nat, k < L.length → NI b (rw7 L k)) : ∀ x ∈ L, NI b x := by
  intro x hx
  obtain ⟨k, hk, rfl⟩ := List.mem_iff_getElem.1 hx
  have := NI_rw.1 (h k hk)
  simpa [List.getD_eq_getElem?_getD, List.getElem?_eq_getElem hk] using this
theorem ex_rw {L : List (List Int)} {n : Nat} (hn : n ≤ L.length) {e : List Int} : (∃ k : Nat, k < n ∧ AHR (rw7 L k) e) ↔ ∃ x ∈ L.take n, AHR x e := by
  constructor
  · rintro ⟨k, hk, h⟩
    refine ⟨L.getD k [], ?_, AHR_rw.1 h⟩
    rw [List.getD_eq_getElem?_getD, List.getElem?_eq_getElem (by omega), Option.getD_some]
    exact List.mem_take_iff_getElem.2 ⟨k, by omega, rfl⟩
  · rintro ⟨x, hx, h⟩
    obtain ⟨k, hk, rfl⟩ := List.mem_take_iff_getElem.1 hx
    refine ⟨k, by omega, AHR_rw.2 ?_⟩
    rw [List.getD_eq_getElem?_getD, List.getElem?_eq_getElem (by omega), Option.getD_some]
    exact h
/-- What is there, if it is. -/
def OP (c : Bool) (a : List Int) : Option (List Int) := if c = true then some a else none
theorem RI_nil : RI [] := fun k => by simp [Sy.rowAt]; decide
/-- An item, later. -/
def shI (y : Int) (a : List Int) : List Int := [(g7 a 0 + y) % 18446744073709551616, g7 a 1, g7 a 2, g7 a 3, (g7 a 4 + y) % 18446744073709551616, g7 a 5, g7 a 6]
/-- The soonest of those ahead of an end. -/
theorem fold_end {b : Int} {t : ItT} (h : t.OK b) {e : List Int} (he : NI b e) : t.foldP (fun x => AHR x e) none = LM (t.ord.filter fun x => decide (AHR x e)) := by
  refine ItT.foldP_eq (swo_DUR b) h.sr h.ni ?_ (fun a ha => by cases ha)
  refine List.Pairwise.imp_of_mem ?_ h.so
  intro x y hx hy hxy q
  exact (swo_AHR b).tr (h.ni x hx) (h.ni y hy) he hxy q
end Go.Proofs.Ytkepkjahbcddlaa.Fn
