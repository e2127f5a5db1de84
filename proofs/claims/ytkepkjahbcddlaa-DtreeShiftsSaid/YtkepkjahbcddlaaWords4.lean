/- Words for the least and the greatest of several numbers, and for lists of places. -/
import Derived.Test.YtkepkjahbcddlaaWords3
namespace Go.Proofs.Ytkepkjahbcddlaa.Fn
open Go Go.Proofs.Ytkepkjahbcddlaa.Sy
set_option linter.unusedVariables false
set_option linter.unusedSimpArgs false
/-- The least, the greatest of the first n numbers; 0 of none. -/
def mnF (f : Nat → Int) : Nat → Int
  | 0 => 0
  | k + 1 => if k = 0 then f 0 else if f k < mnF f k then f k else mnF f k
def mxF (f : Nat → Int) : Nat → Int
  | 0 => 0
  | k + 1 => if k = 0 then f 0 else if mxF f k < f k then f k else mxF f k
theorem mnF_one (f : Nat → Int) : mnF f 1 = f 0 := rfl
theorem mxF_one (f : Nat → Int) : mxF f 1 = f 0 := rfl
theorem mnF_le (f : Nat → Int) : ∀ {n j : Nat}, j < n → mnF f n ≤ f j
  | 0, _, h => absurd h (by omega)
  | n + 1, j, h => by
    simp only [mnF]
    by_cases n0 : n = 0
    · subst n0
      have e : j = 0 := by omega
      subst e
      simp
    · simp only [n0, if_false]
      by_cases e : j = n
      · subst e; split <;> omega
      · have := mnF_le f (n := n) (j := j) (by omega)
        split <;> omega
theorem mxF_ge (f : Nat → Int) : ∀ {n j : Nat}, j < n → f j ≤ mxF f n
  | 0, _, h => absurd h (by omega)
  | n + 1, j, h => by
    simp only [mxF]
    by_cases n0 : n = 0
    · subst n0
      have e : j = 0 := by omega
      subst e
      simp
    · simp only [n0, if_false]
      by_cases e : j = n
      · subst e; split <;> omega
      · have := mxF_ge f (n := n) (j := j) (by omega)
        split <;> omega
theorem mnF_mem (f : Nat → Int) : ∀ {n : Nat}, 0 < n → ∃ j, j < n ∧ mnF f n = f j
  | 0, h => absurd h (by omega)
  | n + 1, _ => by
    simp only [mnF]
    by_cases n0 : n = 0
    · exact ⟨0, by omega, by simp [n0]⟩
    · simp only [n0, if_false]
      obtain ⟨j, hj, e⟩ := mnF_mem f (n := n) (by omega)
      split
      · exact ⟨n, by omega, rfl⟩
      · exact ⟨j, by omega, e⟩
theorem mxF_mem (f : Nat → Int) : ∀ {n : Nat}, 0 < n → ∃ j, j < n ∧ mxF f n = f j
  | 0, h => absurd h (by omega)
  | n + 1, _ => by
    simp only [mxF]
    by_cases n0 : n = 0
    · exact ⟨0, by omega, by simp [n0]⟩
    · simp only [n0, if_false]
      obtain ⟨j, hj, e⟩ := mxF_mem f (n := n) (by omega)
      split
      · exact ⟨n, by omega, rfl⟩
      · exact ⟨j, by omega, e⟩
theorem mnF_congr {f g : Nat → Int} : ∀ {n : Nat}, (∀ j, j < n → f j = g j) → mnF f n = mnF g n
  | 0, _ => rfl
  | n + 1, h => by
    simp only [mnF, mnF_congr (n := n) (fun j hj => h j (by omega)), h n (by omega), h 0 (by omega)]
theorem mxF_congr {f g : Nat → Int} : ∀ {n : Nat}, (∀ j, j < n → f j = g j) → mxF f n = mxF g n
  | 0, _ => rfl
  | n + 1, h => by
    simp only [mxF, mxF_congr (n := n) (fun j hj => h j (by omega)), h n (by omega), h 0 (by omega)]
theorem mnF_step (f : Nat → Int) (k : Nat) : (k = 0 → mnF f (k + 1) = f k) ∧ (k ≠ 0 → (f k < mnF f k → mnF f (k + 1) = f k) ∧ (mnF f k ≤ f k → mnF f (k + 1) = mnF f k)) := by
  refine ⟨fun h => by subst h; rfl, fun h => ⟨fun g => by simp only [mnF, h, g, if_false, if_true], fun g => by simp only [mnF, h, if_false]; rw [if_neg (by omega)]⟩⟩
theorem mxF_step (f : Nat → Int) (k : Nat) : (k = 0 → mxF f (k + 1) = f k) ∧ (k ≠ 0 → (mxF f k < f k → mxF f (k + 1) = f k) ∧ (f k ≤ mxF f k → mxF f (k + 1) = mxF f k)) := by
  refine ⟨fun h => by subst h; rfl, fun h => ⟨fun g => by simp only [mxF, h, g, if_false, if_true], fun g => by simp only [mxF, h, if_false]; rw [if_neg (by omega)]⟩⟩
/-- The distance of row j's time (column c) from a time. -/
def tf (c : Nat) (b : Int) (L : List (List Int)) (j : Nat) : Int := s64 (Sy.rowAt L j c - b)
/-- Of items: the times of the positions and of the deadlines, in turn. -/
def tg (b : Int) (L : List (List Int)) (j : Nat) : Int := s64 (Sy.rowAt L ((j / 2 : Nat) : Int) (if j % 2 = 0 then 0 else 4) - b)
theorem tf_le (c : Nat) (b : Int) (L : List (List Int)) (j : Nat) : -9223372036854775808 ≤ tf c b L j ∧ tf c b L j < 9223372036854775808 := by
  simp only [tf, s64]; omega
theorem tg_le (b : Int) (L : List (List Int)) (j : Nat) : -9223372036854775808 ≤ tg b L j ∧ tg b L j < 9223372036854775808 := by
  simp only [tg, s64]; omega
theorem mnF_bd {f : Nat → Int} {A B : Int} (hf : ∀ j, A ≤ f j ∧ f j < B) (h0 : A ≤ 0 ∧ 0 < B) (n : Nat) : A ≤ mnF f n ∧ mnF f n < B := by
  by_cases h : n = 0
  · subst h; exact h0
  · obtain ⟨j, _, e⟩ := mnF_mem f (n := n) (by omega)
    rw [e]; exact hf j
theorem mxF_bd {f : Nat → Int} {A B : Int} (hf : ∀ j, A ≤ f j ∧ f j < B) (h0 : A ≤ 0 ∧ 0 < B) (n : Nat) : A ≤ mxF f n ∧ mxF f n < B := by
  by_cases h : n = 0
  · subst h; exact h0
  · obtain ⟨j, _, e⟩ := mxF_mem f (n := n) (by omega)
    rw [e]; exact hf j
/-- How far items lie apart. -/
def MNI (b : Int) (L : List (List Int)) : Int := mnF (tf 0 b L) L.length
def MXI (b : Int) (L : List (List Int)) : Int := mxF (tg b L) (2 * L.length)
def SPR (b : Int) (L : List (List Int)) : Int := MXI b L - MNI b L
theorem SPR_le (b : Int) (L : List (List Int)) : 0 ≤ SPR b L ∧ SPR b L < 18446744073709551616 := by
  have a := mnF_bd (f := tf 0 b L) (tf_le 0 b L) (by decide) L.length
  have c := mxF_bd (f := tg b L) (tg_le b L) (by decide) (2 * L.length)
  simp only [SPR, MNI, MXI]
  refine ⟨?_, by omega⟩
  by_cases h : L.length = 0
  · rw [h]; simp [mnF, mxF]
  · have d := mnF_le (tf 0 b L) (n := L.length) (j := 0) (by omega)
    have e := mxF_ge (tg b L) (n := 2 * L.length) (j := 0) (by omega)
    have g : tg b L 0 = tf 0 b L 0 := rfl
    omega
theorem rowAt_app {A B : List (List Int)} {k : Nat} (h : k < A.length) (c : Nat) : Sy.rowAt (A ++ B) k c = Sy.rowAt A k c := by
  simp only [rowAt_nat, List.getD, List.getElem?_append_left h]
theorem rowAt_last (A : List (List Int)) (r : List Int) (c : Nat) : Sy.rowAt (A ++ [r]) (A.length : Int) c = r.getD c 0 := by
  simp [rowAt_nat, List.getD]
/-- With one more item no nearer. -/
theorem SPR_more (b : Int) (L : List (List Int)) (r : List Int) (h : L.length ≠ 0) : SPR b L ≤ SPR b (L ++ [r]) := by
  have el : (L ++ [r]).length = L.length + 1 := by simp
  obtain ⟨i, hi, ei⟩ := mnF_mem (tf 0 b L) (n := L.length) (by omega)
  obtain ⟨j, hj, ej⟩ := mxF_mem (tg b L) (n := 2 * L.length) (by omega)
  have c1 := mnF_le (tf 0 b (L ++ [r])) (n := (L ++ [r]).length) (j := i) (by omega)
  have c2 := mxF_ge (tg b (L ++ [r])) (n := 2 * (L ++ [r]).length) (j := j) (by omega)
  have e1 : tf 0 b (L ++ [r]) i = tf 0 b L i := by simp only [tf, rowAt_app hi]
  have e2 : tg b (L ++ [r]) j = tg b L j := by simp only [tg, rowAt_app (show j / 2 < L.length by omega)]
  simp only [SPR, MNI, MXI]
  omega
theorem SPR_single (b t e : Int) (r : List Int) (h0 : r.getD 0 0 = t) (h4 : r.getD 4 0 = e) : SPR b [r] = (if s64 (t - b) < s64 (e - b) then s64 (e - b) else s64 (t - b)) - s64 (t - b) := by
  subst h0 h4
  simp only [SPR, MNI, MXI, List.length_cons, List.length_nil, Nat.zero_add, mnF_one, Nat.mul_one]
  have e2 : ∀ c, Sy.rowAt [r] 0 c = r.getD c 0 := fun c => by rw [show (0 : Int) = ((0 : Nat) : Int) from rfl, rowAt_nat]; rfl
  simp [mxF, tf, tg, e2]
/-- P holds the first items' times; Q the first items' times and deadlines, in turn. -/
def PL (L P : List (List Int)) : Prop := ∀ j : Nat, j < P.length → Sy.rowAt P j 0 = Sy.rowAt L j 0
def AL (L Q : List (List Int)) : Prop := ∀ j : Nat, j < Q.length → Sy.rowAt Q j 0 = Sy.rowAt L ((j / 2 : Nat) : Int) (if j % 2 = 0 then 0 else 4)
theorem PL.nil (L : List (List Int)) : PL L [] := fun j hj => absurd hj (by simp)
theorem AL.nil (L : List (List Int)) : AL L [] := fun j hj => absurd hj (by simp)
theorem PL.snoc {L P : List (List Int)} {r : List Int} (h : PL L P) (e : r.getD 0 0 = Sy.rowAt L (P.length : Int) 0) : PL L (P ++ [r]) := by
  intro j hj
  simp only [List.length_append, List.length_cons, List.length_nil] at hj
  by_cases ej : j = P.length
  · subst ej; rw [rowAt_last, e]
  · rw [rowAt_app (by omega)]; exact h j (by omega)
theorem AL.snoc {L Q : List (List Int)} {r t : List Int} {k : Nat} (h : AL L Q) (hk : Q.length = 2 * k) (e : r.getD 0 0 = Sy.rowAt L (k : Int) 0) (f : t.getD 0 0 = Sy.rowAt L (k : Int) 4) : AL L (Q ++ [r, t]) := by
  intro j hj
  simp only [List.length_append, List.length_cons, List.length_nil] at hj
  have ea : Q ++ [r, t] = (Q ++ [r]) ++ [t] := by simp
  have el : (Q ++ [r]).length = 2 * k + 1 := by simp [hk]
  by_cases ej : j = 2 * k + 1
  · subst ej
    have e2 : ((2 * k + 1 : Nat) : Int) = ((Q ++ [r]).length : Int) := by rw [el]
    rw [ea, e2, rowAt_last, f, show (2 * k + 1) / 2 = k by omega, if_neg (by omega)]
  · rw [ea, rowAt_app (by omega)]
    by_cases ek : j = 2 * k
    · subst ek
      rw [← hk, rowAt_last, e, hk, show 2 * k / 2 = k by omega, if_pos (by omega)]
    · rw [rowAt_app (by omega)]; exact h j (by omega)
theorem PL.least {b : Int} {L P : List (List Int)} (h : PL L P) (e : P.length = L.length) : mnF (tf 0 b P) P.length = MNI b L := by
  rw [MNI, ← e]; exact mnF_congr (fun j hj => by simp only [tf, h j hj])
theorem AL.greatest {b : Int} {L Q : List (List Int)} (h : AL L Q) (e : Q.length = 2 * L.length) : mxF (tf 0 b Q) Q.length = MXI b L := by
  rw [MXI, ← e]; exact mxF_congr (fun j hj => by simp only [tf, tg, h j hj])
/-- The places at which P holds. -/
def OW (P : Nat → Prop) (L : List (List Int)) : Nat → Prop
  | 0 => L = []
  | k + 1 => (P k ∧ ∃ M, OW P M k ∧ L = M ++ [[(k : Int)]]) ∨ (¬ P k ∧ OW P L k)
theorem OW_eq {P Q : Nat → Prop} : ∀ {k : Nat} {L M : List (List Int)}, (∀ j, j < k → (P j ↔ Q j)) → OW P L k → OW Q M k → L = M
  | 0, _, _, _, h, g => by simp only [OW] at h g; rw [h, g]
  | k + 1, L, M, e, h, g => by
    have ek := e k (by omega)
    have e' : ∀ j, j < k → (P j ↔ Q j) := fun j hj => e j (by omega)
    rcases h with ⟨hp, L', h1, h2⟩ | ⟨hp, h1⟩ <;> rcases g with ⟨gp, M', g1, g2⟩ | ⟨gp, g1⟩
    · rw [h2, g2, OW_eq e' h1 g1]
    · exact absurd (ek.1 hp) gp
    · exact absurd (ek.2 gp) hp
    · exact OW_eq e' h1 g1
theorem OW_ne {P : Nat → Prop} : ∀ {k : Nat} {L : List (List Int)}, OW P L k → L = [] → ∀ j, j < k → ¬ P j
  | 0, _, _, _, j, hj => absurd hj (by omega)
  | k + 1, L, h, e, j, hj => by
    rcases h with ⟨hp, M, h1, h2⟩ | ⟨hp, h1⟩
    · subst e; simp at h2
    · by_cases ej : j = k
      · subst ej; exact hp
      · exact OW_ne h1 e j (by omega)
theorem OW_len {P : Nat → Prop} : ∀ {k : Nat} {L : List (List Int)}, OW P L k → L.length ≤ k
  | 0, _, h => by simp only [OW] at h; simp [h]
  | k + 1, L, h => by
    rcases h with ⟨_, M, h1, h2⟩ | ⟨_, h1⟩
    · have := OW_len h1; simp [h2]; omega
    · have := OW_len h1; omega
/-- Row j is one who is owed nothing less than nothing, of a mean. -/
def EL (b h l w n : Int) (L : List (List Int)) (j : Nat) : Prop := MR h l w n ∧ 0 < n ∧ PR (Sy.rowAt L j 1) (Sy.rowAt L j 2) ∧ Big (wv h l * Sy.rowAt L j 2) ∧ Big (rdist b L j * w) ∧ Big (wv h l * Sy.rowAt L j 2 - rdist b L j * w) ∧ rdist b L j * w ≤ wv h l * Sy.rowAt L j 2
theorem dval_drop_le {L : List (List Int)} (h : dig L) {k : Nat} (hk : k ≤ L.length) : dval (L.drop k) ≤ dval L := by
  have a := dval_split L k hk
  have b := dval_nonneg (dig_take h k)
  have c := Int.mul_le_mul_of_nonneg_right (show 1 ≤ P4 k from P4_pos k) (dval_nonneg (dig_drop h k))
  omega
/-- Who are all behind their mean are not at it. -/
theorem behind {A W b : Int} {L : List (List Int)} : ∀ {k : Nat}, (∀ j : Nat, j < k → A * Sy.rowAt L j 2 < rdist b L j * W) → A * SW L k - SA b L k * W ≤ -(k : Int)
  | 0, _ => by simp [SW, SA]
  | k + 1, h => by
    have i := behind (A := A) (W := W) (b := b) (L := L) (k := k) (fun j hj => h j (by omega))
    have g := h k (by omega)
    have e1 : SW L (k + 1) = SW L k + Sy.rowAt L (k : Int) 2 := rfl
    have e2 : SA b L (k + 1) = SA b L k + rdist b L k := rfl
    rw [e1, e2, Int.mul_add, Int.add_mul]
    omega
/-- Items' rows. -/
def RI (L : List (List Int)) : Prop := ∀ k : Nat, U64 (Sy.rowAt L k 0) ∧ U32 (Sy.rowAt L k 1) ∧ U32 (Sy.rowAt L k 2) ∧ U64 (Sy.rowAt L k 4) ∧ U32 (Sy.rowAt L k 5) ∧ U32 (Sy.rowAt L k 6)
theorem RI.rk {L : List (List Int)} (h : RI L) : RK L := fun k => ⟨(h k).1, (h k).2.1, (h k).2.2.1⟩
/-- P holds the first items' positions. -/
def PQ (L P : List (List Int)) : Prop := ∀ j : Nat, j < P.length → ∀ c : Nat, c < 3 → Sy.rowAt P j c = Sy.rowAt L j c
theorem PQ.nil (L : List (List Int)) : PQ L [] := fun j hj => absurd hj (by simp)
theorem PQ.snoc {L P : List (List Int)} {r : List Int} {k : Nat} (h : PQ L P) (hk : P.length = k) (e : ∀ c : Nat, c < 3 → r.getD c 0 = Sy.rowAt L (k : Int) c) : PQ L (P ++ [r]) := by
  subst hk
  intro j hj c hc
  simp only [List.length_append, List.length_cons, List.length_nil] at hj
  by_cases ej : j = P.length
  · subst ej; rw [rowAt_last, e c hc]
  · rw [rowAt_app (by omega)]; exact h j (by omega) c hc
theorem PQ.sa {b : Int} {L P : List (List Int)} (h : PQ L P) : ∀ {k : Nat}, k ≤ P.length → SA b P k = SA b L k ∧ SW P k = SW L k
  | 0, _ => ⟨rfl, rfl⟩
  | k + 1, hk => by
    have i := PQ.sa (b := b) h (k := k) (by omega)
    have g := h k (by omega)
    have e1 : SA b P (k + 1) = SA b P k + rdist b P k := rfl
    have e2 : SA b L (k + 1) = SA b L k + rdist b L k := rfl
    have e3 : SW P (k + 1) = SW P k + Sy.rowAt P (k : Int) 2 := rfl
    have e4 : SW L (k + 1) = SW L k + Sy.rowAt L (k : Int) 2 := rfl
    have e5 : rdist b P k = rdist b L k := by simp only [rdist, g 0 (by omega), g 1 (by omega), g 2 (by omega)]
    rw [e1, e2, e3, e4, e5, i.1, i.2, g 2 (by omega)]
    exact ⟨rfl, rfl⟩
theorem PQ.ap {L P : List (List Int)} (h : PQ L P) {k : Nat} (hk : k ≤ P.length) : AP P k ↔ AP L k := by
  constructor <;> intro a j hj
  · have := a j hj
    rw [h j (by omega) 1 (by omega), h j (by omega) 2 (by omega)] at this
    exact this
  · have := a j hj
    rw [← h j (by omega) 1 (by omega), ← h j (by omega) 2 (by omega)] at this
    exact this
theorem PQ.rk {L P : List (List Int)} (h : PQ L P) (hk : RK L) : RK P := by
  intro k
  by_cases c : k < P.length
  · rw [h k c 0 (by omega), h k c 1 (by omega), h k c 2 (by omega)]; exact hk k
  · rw [rowAt_out (by omega), rowAt_out (by omega), rowAt_out (by omega)]
    omega
theorem take_row {L : List (List Int)} (h : ∀ x ∈ L, x.length = 7) {k : Nat} (hk : k < L.length) :
    L.take (k + 1) = L.take k ++ [[Sy.rowAt L (k : Int) 0, Sy.rowAt L (k : Int) 1, Sy.rowAt L (k : Int) 2, Sy.rowAt L (k : Int) 3, Sy.rowAt L (k : Int) 4, Sy.rowAt L (k : Int) 5, Sy.rowAt L (k : Int) 6]] := by
  have e : L[k]? = some L[k] := List.getElem?_eq_getElem hk
  have hy := h L[k] (List.getElem_mem hk)
  have er : ∀ c, Sy.rowAt L (k : Int) c = (L[k]).getD c 0 := fun c => by simp [rowAt_nat, List.getD, e]
  rw [List.take_add_one, e]
  simp only [er]
  generalize L[k] = y at *
  match y, hy with
  | [a, b, c, d, e, f, g], _ => rfl
theorem mnF_sub (f : Nat → Int) (d : Int) : ∀ {n : Nat}, 0 < n → mnF (fun j => f j - d) n = mnF f n - d
  | 0, h => absurd h (by omega)
  | n + 1, _ => by
    simp only [mnF]
    by_cases n0 : n = 0
    · simp [n0]
    · have ih := mnF_sub f d (n := n) (by omega)
      simp only [n0, if_false, ih]
      split <;> split <;> omega
theorem mxF_sub (f : Nat → Int) (d : Int) : ∀ {n : Nat}, 0 < n → mxF (fun j => f j - d) n = mxF f n - d
  | 0, h => absurd h (by omega)
  | n + 1, _ => by
    simp only [mxF]
    by_cases n0 : n = 0
    · simp [n0]
    · have ih := mxF_sub f d (n := n) (by omega)
      simp only [n0, if_false, ih]
      split <;> split <;> omega
/-- All items' times lie between lo and hi, as told from a time. -/
def NR (b lo hi : Int) (L : List (List Int)) (n : Nat) : Prop := ∀ j : Nat, j < n → lo ≤ tf 0 b L j ∧ tf 0 b L j ≤ hi ∧ lo ≤ tf 4 b L j ∧ tf 4 b L j ≤ hi
theorem s64_sub {x b c lo hi : Int} (hr : hi - lo ≤ 4611686018427387904) (h0 : lo ≤ s64 (x - b)) (h1 : s64 (x - b) ≤ hi) (g0 : lo ≤ s64 (c - b)) (g1 : s64 (c - b) ≤ hi) : s64 (x - c) = s64 (x - b) - s64 (c - b) := by
  simp only [s64] at *
  omega
theorem tg_even (b : Int) (L : List (List Int)) (j : Nat) : tg b L (2 * j) = tf 0 b L j := by
  simp only [tg, tf, show 2 * j / 2 = j by omega, show 2 * j % 2 = 0 by omega, if_true]
theorem tg_odd (b : Int) (L : List (List Int)) (j : Nat) : tg b L (2 * j + 1) = tf 4 b L j := by
  simp only [tg, tf, show (2 * j + 1) / 2 = j by omega, show ¬ (2 * j + 1) % 2 = 0 by omega, if_false]
/-- How far items lie apart hangs on no time near them. -/
theorem SPR_base {b c lo hi : Int} {L : List (List Int)} (hn : L.length ≠ 0) (hr : hi - lo ≤ 4611686018427387904) (h : NR b lo hi L L.length) (g0 : lo ≤ s64 (c - b)) (g1 : s64 (c - b) ≤ hi) : SPR c L = SPR b L := by
  have e1 : ∀ j, j < L.length → tf 0 c L j = tf 0 b L j - s64 (c - b) := fun j hj => s64_sub hr (h j hj).1 (h j hj).2.1 g0 g1
  have e3 : ∀ j, j < L.length → tf 4 c L j = tf 4 b L j - s64 (c - b) := fun j hj => s64_sub hr (h j hj).2.2.1 (h j hj).2.2.2 g0 g1
  have e2 : ∀ j, j < 2 * L.length → tg c L j = tg b L j - s64 (c - b) := by
    intro j hj
    rcases (show j = 2 * (j / 2) ∨ j = 2 * (j / 2) + 1 by omega) with e | e
    · rw [e, tg_even, tg_even]; exact e1 _ (by omega)
    · rw [e, tg_odd, tg_odd]; exact e3 _ (by omega)
  have a := mnF_congr (f := tf 0 c L) (g := fun j => tf 0 b L j - s64 (c - b)) (n := L.length) e1
  have d := mxF_congr (f := tg c L) (g := fun j => tg b L j - s64 (c - b)) (n := 2 * L.length) e2
  rw [mnF_sub _ _ (by omega)] at a
  rw [mxF_sub _ _ (by omega)] at d
  simp only [SPR, MNI, MXI]
  omega
/-- Where positions near a time are together is near it. -/
theorem SA_mid {b lo hi : Int} {L : List (List Int)} : ∀ {k : Nat}, RK L → AP L k → (∀ j : Nat, j < k → lo ≤ s64 (Sy.rowAt L j 0 - b) ∧ s64 (Sy.rowAt L j 0 - b) ≤ hi) → lo * SW L k ≤ SA b L k ∧ SA b L k ≤ (hi + 1) * SW L k - k
  | 0, _, _, _ => by simp [SA, SW]
  | k + 1, hk, h, g => by
    have h := AP.succ.1 h
    have i := SA_mid (b := b) (lo := lo) (hi := hi) hk h.1 (fun j hj => g j (by omega))
    have gk := g k (by omega)
    have w0 := h.2.1
    have r1 := h.2.2.2
    have r0 := (hk k).2.1.1
    have e1 : SW L (k + 1) = SW L k + Sy.rowAt L (k : Int) 2 := rfl
    have e2 : SA b L (k + 1) = SA b L k + (Sy.rowAt L (k : Int) 2 * s64 (Sy.rowAt L (k : Int) 0 - b) + Sy.rowAt L (k : Int) 1) := rfl
    rw [e1, e2, Int.mul_add, Int.mul_add]
    generalize s64 (Sy.rowAt L (k : Int) 0 - b) = s at *
    generalize Sy.rowAt L (k : Int) 2 = w at *
    have p := Int.mul_le_mul_of_nonneg_left gk.1 (show 0 ≤ w by omega)
    have q := Int.mul_le_mul_of_nonneg_left gk.2 (show 0 ≤ w by omega)
    have c1 : lo * w = w * lo := Int.mul_comm _ _
    have c2 : (hi + 1) * w = w * hi + w := by rw [Int.add_mul, Int.one_mul, Int.mul_comm]
    rw [c1, c2]
    omega
/-- The first one of a time and the first k of others. -/
def fstL (t : Int) (L : List (List Int)) : Nat → Int
  | 0 => t
  | k + 1 => if s64 (Sy.rowAt L k 0 - fstL t L k) < 0 then Sy.rowAt L k 0 else fstL t L k
/-- M holds the first items, their times later. -/
def SH (by_ : Int) (L M : List (List Int)) : Prop := ∀ j : Nat, j < M.length → Sy.rowAt M j 0 = (Sy.rowAt L j 0 + by_) % 18446744073709551616 ∧ Sy.rowAt M j 1 = Sy.rowAt L j 1 ∧ Sy.rowAt M j 2 = Sy.rowAt L j 2 ∧ Sy.rowAt M j 4 = (Sy.rowAt L j 4 + by_) % 18446744073709551616 ∧ Sy.rowAt M j 5 = Sy.rowAt L j 5 ∧ Sy.rowAt M j 6 = Sy.rowAt L j 6
theorem SH.nil (by_ : Int) (L : List (List Int)) : SH by_ L [] := fun j hj => absurd hj (by simp)
theorem SH.snoc {by_ : Int} {L M : List (List Int)} {r : List Int} {k : Nat} (h : SH by_ L M) (hk : M.length = k) (e : r.getD 0 0 = (Sy.rowAt L k 0 + by_) % 18446744073709551616 ∧ r.getD 1 0 = Sy.rowAt L k 1 ∧ r.getD 2 0 = Sy.rowAt L k 2 ∧ r.getD 4 0 = (Sy.rowAt L k 4 + by_) % 18446744073709551616 ∧ r.getD 5 0 = Sy.rowAt L k 5 ∧ r.getD 6 0 = Sy.rowAt L k 6) : SH by_ L (M ++ [r]) := by
  subst hk
  intro j hj
  simp only [List.length_append, List.length_cons, List.length_nil] at hj
  by_cases ej : j = M.length
  · subst ej; simp only [rowAt_last]; exact e
  · simp only [rowAt_app (show j < M.length by omega)]; exact h j (by omega)
theorem s64_both (x b y : Int) : s64 ((x + y) % 18446744073709551616 - (b + y) % 18446744073709551616) = s64 (x - b) := by
  simp only [s64]; omega
theorem SH.sa {b by_ : Int} {L M : List (List Int)} (h : SH by_ L M) : ∀ {k : Nat}, k ≤ M.length → SA ((b + by_) % 18446744073709551616) M k = SA b L k ∧ SW M k = SW L k
  | 0, _ => ⟨rfl, rfl⟩
  | k + 1, hk => by
    have i := SH.sa (b := b) h (k := k) (by omega)
    have g := h k (by omega)
    have e1 : SA ((b + by_) % 18446744073709551616) M (k + 1) = SA ((b + by_) % 18446744073709551616) M k + (Sy.rowAt M (k : Int) 2 * s64 (Sy.rowAt M (k : Int) 0 - (b + by_) % 18446744073709551616) + Sy.rowAt M (k : Int) 1) := rfl
    have e2 : SA b L (k + 1) = SA b L k + (Sy.rowAt L (k : Int) 2 * s64 (Sy.rowAt L (k : Int) 0 - b) + Sy.rowAt L (k : Int) 1) := rfl
    have e3 : SW M (k + 1) = SW M k + Sy.rowAt M (k : Int) 2 := rfl
    have e4 : SW L (k + 1) = SW L k + Sy.rowAt L (k : Int) 2 := rfl
    rw [e1, e2, e3, e4, i.1, i.2, g.1, g.2.1, g.2.2.1, s64_both]
    exact ⟨rfl, rfl⟩
theorem SH.ap {by_ : Int} {L M : List (List Int)} (h : SH by_ L M) {k : Nat} (hk : k ≤ M.length) : AP M k ↔ AP L k := by
  constructor <;> intro a j hj
  · have := a j hj
    rw [(h j (by omega)).2.1, (h j (by omega)).2.2.1] at this
    exact this
  · have := a j hj
    rw [← (h j (by omega)).2.1, ← (h j (by omega)).2.2.1] at this
    exact this
theorem SH.spr {b by_ : Int} {L M : List (List Int)} (h : SH by_ L M) (e : M.length = L.length) : SPR ((b + by_) % 18446744073709551616) M = SPR b L := by
  have e0 : ∀ j, j < M.length → tf 0 ((b + by_) % 18446744073709551616) M j = tf 0 b L j := fun j hj => by
    simp only [tf, (h j hj).1]; exact s64_both _ _ _
  have e4 : ∀ j, j < M.length → tf 4 ((b + by_) % 18446744073709551616) M j = tf 4 b L j := fun j hj => by
    simp only [tf, (h j hj).2.2.2.1]; exact s64_both _ _ _
  have e2 : ∀ j, j < 2 * M.length → tg ((b + by_) % 18446744073709551616) M j = tg b L j := by
    intro j hj
    rcases (show j = 2 * (j / 2) ∨ j = 2 * (j / 2) + 1 by omega) with q | q
    · rw [q, tg_even, tg_even]; exact e0 _ (by omega)
    · rw [q, tg_odd, tg_odd]; exact e4 _ (by omega)
  have a := mnF_congr (n := M.length) e0
  have d := mxF_congr (n := 2 * M.length) e2
  simp only [SPR, MNI, MXI]
  rw [a, d, e]
theorem SH.ri {by_ : Int} {L M : List (List Int)} (h : SH by_ L M) (hk : RI L) : RI M := by
  intro k
  by_cases c : k < M.length
  · have g := h k c
    have q := hk k
    rw [g.1, g.2.1, g.2.2.1, g.2.2.2.1, g.2.2.2.2.1, g.2.2.2.2.2]
    refine ⟨by omega, q.2.1, q.2.2.1, by omega, q.2.2.2.2.1, q.2.2.2.2.2⟩
  · rw [rowAt_out (by omega), rowAt_out (by omega), rowAt_out (by omega), rowAt_out (by omega), rowAt_out (by omega), rowAt_out (by omega)]
    omega
/-- The first items are right, and lie behind no more than 2^62 of the first one's time. -/
def IRR (L : List (List Int)) (k : Nat) : Prop := ∀ j : Nat, j < k → PR (Sy.rowAt L j 1) (Sy.rowAt L j 2) ∧ 0 ≤ s64 (Sy.rowAt L j 4 - Sy.rowAt L j 0) ∧ s64 (Sy.rowAt L j 4 - Sy.rowAt L j 0) ≤ 1152921504606846976 ∧ -4611686018427387904 ≤ s64 (Sy.rowAt L j 0 - Sy.rowAt L 0 0)
theorem IRR.nil (L : List (List Int)) : IRR L 0 := fun j hj => absurd hj (by omega)
theorem IRR.succ {L : List (List Int)} {k : Nat} : IRR L (k + 1) ↔ IRR L k ∧ PR (Sy.rowAt L k 1) (Sy.rowAt L k 2) ∧ 0 ≤ s64 (Sy.rowAt L k 4 - Sy.rowAt L k 0) ∧ s64 (Sy.rowAt L k 4 - Sy.rowAt L k 0) ≤ 1152921504606846976 ∧ -4611686018427387904 ≤ s64 (Sy.rowAt L k 0 - Sy.rowAt L 0 0) := by
  constructor
  · exact fun h => ⟨fun j hj => h j (by omega), h k (by omega)⟩
  · rintro ⟨h, h2⟩ j hj
    by_cases e : j = k
    · subst e; exact h2
    · exact h j (by omega)
theorem IRR.ap {L : List (List Int)} {k : Nat} (h : IRR L k) : AP L k := fun j hj => (h j hj).1
theorem NR_of {L : List (List Int)} (h : IRR L L.length) (hn : L.length ≠ 0) (hs : SPR (Sy.rowAt L 0 0) L ≤ 4611686018427387904) :
    NR (Sy.rowAt L 0 0) (MNI (Sy.rowAt L 0 0) L) (MXI (Sy.rowAt L 0 0) L) L L.length ∧ MXI (Sy.rowAt L 0 0) L - MNI (Sy.rowAt L 0 0) L ≤ 4611686018427387904 ∧ MNI (Sy.rowAt L 0 0) L ≤ 0 ∧ 0 ≤ MXI (Sy.rowAt L 0 0) L ∧ -4611686018427387904 ≤ MNI (Sy.rowAt L 0 0) L := by
  have z : tf 0 (Sy.rowAt L 0 0) L 0 = 0 := by
    show s64 (Sy.rowAt L 0 0 - Sy.rowAt L 0 0) = 0
    simp only [s64]; omega
  have lo0 := mnF_le (tf 0 (Sy.rowAt L 0 0) L) (n := L.length) (j := 0) (by omega)
  have hi0 := mxF_ge (tg (Sy.rowAt L 0 0) L) (n := 2 * L.length) (j := 0) (by omega)
  have z2 : tg (Sy.rowAt L 0 0) L 0 = tf 0 (Sy.rowAt L 0 0) L 0 := rfl
  rw [z2] at hi0
  rw [z] at lo0 hi0
  obtain ⟨m, hm, em⟩ := mnF_mem (tf 0 (Sy.rowAt L 0 0) L) (n := L.length) (by omega)
  have hm2 := (h m hm).2.2.2
  have hm3 : -4611686018427387904 ≤ tf 0 (Sy.rowAt L 0 0) L m := hm2
  simp only [SPR] at hs
  refine ⟨fun j hj => ?_, hs, lo0, hi0, by simp only [MNI]; omega⟩
  have a := mnF_le (tf 0 (Sy.rowAt L 0 0) L) (n := L.length) (j := j) hj
  have b := mxF_ge (tg (Sy.rowAt L 0 0) L) (n := 2 * L.length) (j := 2 * j) (by omega)
  have c := mxF_ge (tg (Sy.rowAt L 0 0) L) (n := 2 * L.length) (j := 2 * j + 1) (by omega)
  rw [tg_even] at b
  rw [tg_odd] at c
  have g := h j hj
  refine ⟨a, b, ?_, c⟩
  have e : tf 4 (Sy.rowAt L 0 0) L j = tf 0 (Sy.rowAt L 0 0) L j + s64 (Sy.rowAt L j 4 - Sy.rowAt L j 0) := by
    have g1 := g.2.1
    have g2 := g.2.2.1
    have a' : -4611686018427387904 ≤ tf 0 (Sy.rowAt L 0 0) L j := g.2.2.2
    have b' : tf 0 (Sy.rowAt L 0 0) L j ≤ 4611686018427387904 := by simp only [MXI, MNI] at *; omega
    clear a b c hs h lo0 hi0 em hm2 hm3 z z2 g
    simp only [tf, s64] at *
    omega
  rw [e]
  have := g.2.1
  simp only [MNI]
  omega
end Go.Proofs.Ytkepkjahbcddlaa.Fn
