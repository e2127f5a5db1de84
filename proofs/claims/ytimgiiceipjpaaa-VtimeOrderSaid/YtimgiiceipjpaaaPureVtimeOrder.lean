/- VtimeOrder, over numbers alone: of times near one another the first and the last one hang on no order in which they are told; no other one is ahead of the first one, none behind the last one. For at most 100 times, nearer than 2^61 to one. -/
import Derived.Test.YtimgiiceipjpaaaThTime
import Derived.Test.YtimgiiceipjpaaaPrint11
namespace Go.Proofs.Ytimgiiceipjpaaa.PureOrder
open Go.RowKit Go.Proofs.Ytimgiiceipjpaaa.Print Go.Proofs.YtimgiiceipjpaaaW.PrintWords Go.Proofs.YtimgiiceipjpaaaW.PrintLast Go.Proofs.YtimgiiceipjpaaaW.PrintMore Go.Proofs.Ytimgiiceipjpaaa.Th
set_option linter.unusedVariables false
def near (D : List Int) : Prop := ∀ d ∈ D, -2305843009213693952 < d ∧ d < 2305843009213693952
def img (a : Int) (D : List Int) : List Int := D.map fun d => (a + d) % 18446744073709551616
theorem img_len (a : Int) (D : List Int) : (img a D).length = D.length := by simp [img]
theorem img_rd (a : Int) (D : List Int) (i : Nat) (h : i < D.length) : rd (img a D) (i : Int) = (a + D[i]) % 18446744073709551616 := by
  rw [rd_nat _ _ (by rw [img_len]; exact h)]
  simp [img]
theorem near_wide {D : List Int} (h : near D) : ∀ d ∈ D, -4611686018427387904 < d ∧ d < 4611686018427387904 := by
  intro d hd
  have := h d hd
  omega
/-- The least, and the greatest, of a list, whichever of it one begins with. -/
theorem mn_any {D E : List Int} (h : ∀ x, x ∈ D ↔ x ∈ E) {x y : Int} (hx : x ∈ D) (hy : y ∈ E) : D.foldl mn x = E.foldl mn y := by
  obtain ⟨a1, a2, a3⟩ := mn_bounds D x
  obtain ⟨b1, b2, b3⟩ := mn_bounds E y
  have a : D.foldl mn x ∈ D := by rcases a3 with e | e; · rw [e]; exact hx
                                  · exact e
  have b : E.foldl mn y ∈ E := by rcases b3 with e | e; · rw [e]; exact hy
                                  · exact e
  have := a2 _ ((h _).2 b)
  have := b2 _ ((h _).1 a)
  omega
theorem mx_any {D E : List Int} (h : ∀ x, x ∈ D ↔ x ∈ E) {x y : Int} (hx : x ∈ D) (hy : y ∈ E) : D.foldl mx x = E.foldl mx y := by
  obtain ⟨a1, a2, a3⟩ := mx_bounds D x
  obtain ⟨b1, b2, b3⟩ := mx_bounds E y
  have a : D.foldl mx x ∈ D := by rcases a3 with e | e; · rw [e]; exact hx
                                  · exact e
  have b : E.foldl mx y ∈ E := by rcases b3 with e | e; · rw [e]; exact hy
                                  · exact e
  have := a2 _ ((h _).2 b)
  have := b2 _ ((h _).1 a)
  omega
theorem img_first (a : Int) (D : List Int) (hn : near D) (h : 0 < D.length) : (img a D).foldl fstep (rd (img a D) 0) = (a + D.foldl mn D[0]) % 18446744073709551616 := by
  have r := img_rd a D 0 h
  have z : ((0 : Nat) : Int) = 0 := rfl
  rw [z] at r
  rw [r]
  obtain ⟨h1, h2⟩ := near_wide hn D[0] (List.getElem_mem h)
  exact fold_first a D D[0] h1 h2 (near_wide hn)
theorem img_last (a : Int) (D : List Int) (hn : near D) (h : 0 < D.length) : (img a D).foldl lstep (rd (img a D) 0) = (a + D.foldl mx D[0]) % 18446744073709551616 := by
  have r := img_rd a D 0 h
  have z : ((0 : Nat) : Int) = 0 := rfl
  rw [z] at r
  rw [r]
  obtain ⟨h1, h2⟩ := near_wide hn D[0] (List.getElem_mem h)
  exact fold_last a D D[0] h1 h2 (near_wide hn)
theorem order_end {at_ : Int} (D : List Int) (hn : near D) (h0 : 0 < D.length) (hlen : D.length ≤ 100) (d : Nat) : ∀ (k i : Nat), D.length - i = d → i ≤ D.length → d + 150 ≤ k →
    turnstonelaw03_VtimeOrder.l1 k (img at_ D.reverse) ((at_ + D.foldl mn D[0]) % 18446744073709551616) ((at_ + D.foldl mx D[0]) % 18446744073709551616) (img at_ D) ((img at_ D).length : Int) (i : Int) = some true := by
  have l1 := img_len at_ D
  have l2 := img_len at_ D.reverse
  rw [List.length_reverse] at l2
  have hr : near D.reverse := fun d hd => hn d (List.mem_reverse.1 hd)
  have hr0 : 0 < D.reverse.length := by rw [List.length_reverse]; exact h0
  have hmem : ∀ x, x ∈ D.reverse ↔ x ∈ D := fun x => List.mem_reverse
  have eq1 := mn_any hmem (List.getElem_mem hr0) (List.getElem_mem h0)
  have eq2 := mx_any hmem (List.getElem_mem hr0) (List.getElem_mem h0)
  obtain ⟨b1, b2, b3⟩ := mn_bounds D D[0]
  obtain ⟨c1, c2, c3⟩ := mx_bounds D D[0]
  have b : D.foldl mn D[0] ∈ D := by rcases b3 with e | e; · rw [e]; exact List.getElem_mem h0
                                     · exact e
  have c : D.foldl mx D[0] ∈ D := by rcases c3 with e | e; · rw [e]; exact List.getElem_mem h0
                                     · exact e
  obtain ⟨bl, bh⟩ := hn _ b
  obtain ⟨cl, ch⟩ := hn _ c
  induction d with
  | zero =>
    intro k i hd hi hk
    obtain ⟨k, rfl⟩ : ∃ m, k = m + 1 := ⟨k - 1, by omega⟩
    have f1 := img_first at_ D.reverse hr hr0
    have f2 := img_last at_ D.reverse hr hr0
    rw [eq1] at f1
    rw [eq2] at f2
    rw [turnstonelaw03_VtimeOrder.l1, if_neg (by omega), if_pos (by omega), first_eq (by omega) (by omega), last_eq (by omega) (by omega), f1, f2]
    simp only [Option.bind_some, if_true, since_eq]
    have hs : ∃ t l, img at_ D.reverse = t :: l ∧ rd (img at_ D.reverse) 0 = t := by
      cases e : img at_ D.reverse with
      | nil => rw [e] at l2; simp at l2; omega
      | cons t l => exact ⟨t, l, rfl, rfl⟩
    obtain ⟨t, l, e, et⟩ := hs
    rw [et, e] at f1 f2
    rw [e] at l2
    rw [e, spread_eq (by omega) (by omega), f1, f2]
    simp only [Option.bind_some, u64w, beq_self_eq_true]
  | succ d ih =>
    intro k i hd hi hk
    obtain ⟨k, rfl⟩ : ∃ m, k = m + 1 := ⟨k - 1, by omega⟩
    have h : i < D.length := by omega
    have x1 := b2 _ (List.getElem_mem h)
    have x2 := c2 _ (List.getElem_mem h)
    obtain ⟨x3, x4⟩ := hn _ (List.getElem_mem h)
    rw [turnstonelaw03_VtimeOrder.l1, if_pos (by omega), if_pos (by omega), if_pos (by omega), img_rd _ _ _ h, before_eq, before_eq]
    simp only [Option.bind_some, decide_eq_true_eq, w64]
    generalize D[i] = x at *
    rw [if_neg (by omega), if_neg (by omega)]
    have e := wrap_succ (i := i) (n := D.length) h (by omega)
    rw [w64] at e
    rw [e]
    exact ih k (i + 1) (by omega) (by omega) (by omega)
theorem order_from {at_ : Int} (D : List Int) (h0 : 0 < D.length) (hlen : D.length ≤ 100) (d : Nat) : ∀ (k i : Nat), D.length - i = d → i ≤ D.length → near (D.take i) → 2 * d + 300 ≤ k →
    turnstonelaw03_VtimeOrder.l0 k at_ D (img at_ (D.take i)) (img at_ (D.reverse.take i)) D (D.length : Int) (i : Int) = some true := by
  induction d with
  | zero =>
    intro k i hd hi hn hk
    obtain ⟨k, rfl⟩ : ∃ m, k = m + 1 := ⟨k - 1, by omega⟩
    have e : D.take i = D := List.take_of_length_le (by omega)
    have e2 : D.reverse.take i = D.reverse := List.take_of_length_le (by rw [List.length_reverse]; omega)
    have l1 := img_len at_ D
    rw [e] at hn
    rw [e, e2, turnstonelaw03_VtimeOrder.l0, if_neg (by omega), if_pos (by omega), first_eq (by omega) (by omega), last_eq (by omega) (by omega), img_first at_ D hn h0, img_last at_ D hn h0]
    simp only [Option.bind_some]
    exact order_end D hn h0 hlen D.length k 0 (by omega) (by omega) (by omega)
  | succ d ih =>
    intro k i hd hi hn hk
    obtain ⟨k, rfl⟩ : ∃ m, k = m + 2 := ⟨k - 2, by omega⟩
    have h : i < D.length := by omega
    have hr : i < D.reverse.length := by rw [List.length_reverse]; exact h
    have t : D.take (i + 1) = D.take i ++ [D[i]] := List.take_succ_eq_append_getElem h
    have t2 : D.reverse.take (i + 1) = D.reverse.take i ++ [D.reverse[i]] := List.take_succ_eq_append_getElem hr
    have ei : wrap64 (wrap64 ((D.length : Int) - 1) - (i : Int)) = ((D.length - 1 - i : Nat) : Int) := by simp only [w64]; omega
    have er : D.reverse[i] = D[D.length - 1 - i]'(by omega) := List.getElem_reverse hr
    rw [turnstonelaw03_VtimeOrder.l0, if_pos (by omega), if_pos (by omega), if_pos (by omega), ei, if_pos (by omega), if_pos (by omega), rd_nat _ _ h, rd_nat _ _ (show D.length - 1 - i < D.length by omega), ← er]
    by_cases h1 : D[i] ≤ -2305843009213693952
    · rw [if_pos h1, turnstonelaw03_VtimeOrder.j2, if_pos rfl]
    · rw [if_neg h1, turnstonelaw03_VtimeOrder.j2]
      by_cases h2 : D[i] ≥ 2305843009213693952
      · rw [if_pos (by simpa using h2)]
      · rw [if_neg (by simpa using h2)]
        simp only [later_eq, Option.bind_some]
        rw [if_pos (by simp only [img, List.length_map, List.length_take]; omega), if_pos (by simp only [img, List.length_map, List.length_take, List.length_reverse]; omega), wrap_succ h (by omega)]
        have := ih k (i + 1) (by omega) (by omega) (by
          rw [t]
          intro x hx
          rcases List.mem_append.1 hx with hx | hx
          · exact hn x hx
          · rw [List.mem_singleton.1 hx]; omega) (by omega)
        rw [t, t2] at this
        have e1 : ∀ a (E : List Int) x, img a (E ++ [x]) = img a E ++ [(a + x) % 18446744073709551616] := by intro a E x; simp [img]
        rw [e1, e1] at this
        exact this
end Go.Proofs.Ytimgiiceipjpaaa.PureOrder
namespace Go.Proofs.Ytimgiiceipjpaaa.Pure
open Go.RowKit Go.Proofs.Ytimgiiceipjpaaa.Print Go.Proofs.YtimgiiceipjpaaaW.PrintWords Go.Proofs.YtimgiiceipjpaaaW.PrintLast Go.Proofs.YtimgiiceipjpaaaW.PrintMore Go.Proofs.Ytimgiiceipjpaaa.Th
theorem VtimeOrder : turnstonelaw03_VtimeOrder.Pure := by
  intro t l ht _ _ _
  obtain ⟨t0, t1⟩ := wf_u64 ht
  refine ⟨2 * l.length + 400, ?_⟩
  unfold turnstonelaw03_VtimeOrder.f
  rw [awake3 (by omega), Option.bind_some, if_pos rfl]
  by_cases h : (l.length : Int) > 100
  · rw [if_pos h, turnstonelaw03_VtimeOrder.j0, if_pos rfl]
  · rw [if_neg h, turnstonelaw03_VtimeOrder.j0]
    by_cases hz : (l.length : Int) = 0
    · rw [if_pos (by simpa using hz)]
    · rw [if_neg (by simpa using hz)]
      exact PureOrder.order_from l (by omega) (by omega) l.length (2 * l.length + 399) 0 (by omega) (by omega) (by intro x hx; simp at hx) (by omega)
end Go.Proofs.Ytimgiiceipjpaaa.Pure
