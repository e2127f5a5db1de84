/- What the printed functions over virtual times answer: the first and the last one of several, and how far they lie apart. For times of the kind uint64, nearer than 2^62 to one where they are told by their differences. -/
import Derived.Test.YtimgiiceipjpaaaThTime
import Derived.Test.YtimgiiceipjpaaaPrint8
import Derived.Test.YtimgiiceipjpaaaPrint9
namespace Go.Proofs.Ytimgiiceipjpaaa.Th
open Go.RowKit Go.Proofs.Ytimgiiceipjpaaa.Print Go.Proofs.YtimgiiceipjpaaaW.PrintWords Go.Proofs.YtimgiiceipjpaaaW.PrintLast Go.Proofs.YtimgiiceipjpaaaW.PrintMore Go.Proofs.Ytimgiiceipjpaaa.Bits
set_option linter.unusedVariables false
set_option linter.unusedSimpArgs false
/-- The earlier, and the later, of two. -/
def fstep (t u : Int) : Int := if wrap64 (u - t) < 0 then u else t
def lstep (t u : Int) : Int := if wrap64 (t - u) < 0 then u else t
theorem first_l0 (l : List Int) (hl : l.length ≤ 4611686018427387904) (d : Nat) : ∀ (k i : Nat) (t : Int), l.length - i = d → i ≤ l.length → d < k → vtime_First.l0 k t l (l.length : Int) (i : Int) = some ((l.drop i).foldl fstep t) := by
  induction d with
  | zero =>
    intro k i t hd hi hk
    obtain ⟨k, rfl⟩ : ∃ m, k = m + 1 := ⟨k - 1, by omega⟩
    rw [vtime_First.l0, if_neg (by omega), List.drop_of_length_le (by omega)]
    rfl
  | succ d ih =>
    intro k i t hd hi hk
    obtain ⟨k, rfl⟩ : ∃ m, k = m + 1 := ⟨k - 1, by omega⟩
    have h : i < l.length := by omega
    rw [vtime_First.l0, if_pos (by omega), if_pos (by omega), if_pos (by omega), rd_nat l i h, before_eq, wrap_succ h hl, drop_cons l i h, List.foldl_cons]
    simp only [Option.bind_some]
    unfold fstep
    by_cases hb : wrap64 (l[i] - t) < 0
    · rw [if_pos (by simpa using hb), if_pos hb]
      exact ih k (i + 1) _ (by omega) (by omega) (by omega)
    · rw [if_neg (by simpa using hb), if_neg hb]
      exact ih k (i + 1) _ (by omega) (by omega) (by omega)
theorem last_l0 (l : List Int) (hl : l.length ≤ 4611686018427387904) (d : Nat) : ∀ (k i : Nat) (t : Int), l.length - i = d → i ≤ l.length → d < k → vtime_Last.l0 k t l (l.length : Int) (i : Int) = some ((l.drop i).foldl lstep t) := by
  induction d with
  | zero =>
    intro k i t hd hi hk
    obtain ⟨k, rfl⟩ : ∃ m, k = m + 1 := ⟨k - 1, by omega⟩
    rw [vtime_Last.l0, if_neg (by omega), List.drop_of_length_le (by omega)]
    rfl
  | succ d ih =>
    intro k i t hd hi hk
    obtain ⟨k, rfl⟩ : ∃ m, k = m + 1 := ⟨k - 1, by omega⟩
    have h : i < l.length := by omega
    rw [vtime_Last.l0, if_pos (by omega), if_pos (by omega), if_pos (by omega), rd_nat l i h, before_eq, wrap_succ h hl, drop_cons l i h, List.foldl_cons]
    simp only [Option.bind_some]
    unfold lstep
    by_cases hb : wrap64 (t - l[i]) < 0
    · rw [if_pos (by simpa using hb), if_pos hb]
      exact ih k (i + 1) _ (by omega) (by omega) (by omega)
    · rw [if_neg (by simpa using hb), if_neg hb]
      exact ih k (i + 1) _ (by omega) (by omega) (by omega)
theorem first_eq {l : List Int} (hl : l.length ≤ 4611686018427387904) {k : Nat} (hk : l.length < k) (t : Int) : vtime_First.f k t l = some (l.foldl fstep t) := by
  unfold vtime_First.f
  exact first_l0 l hl l.length k 0 t (by omega) (by omega) hk
theorem last_eq {l : List Int} (hl : l.length ≤ 4611686018427387904) {k : Nat} (hk : l.length < k) (t : Int) : vtime_Last.f k t l = some (l.foldl lstep t) := by
  unfold vtime_Last.f
  exact last_l0 l hl l.length k 0 t (by omega) (by omega) hk
theorem spread_eq {t : Int} {l : List Int} (hl : (t :: l).length ≤ 4611686018427387904) {k : Nat} (hk : (t :: l).length < k) : vtime_Spread.f k (t :: l) = some (wrap64 ((t :: l).foldl lstep t - (t :: l).foldl fstep t) % 18446744073709551616) := by
  unfold vtime_Spread.f
  have hp : 0 < (t :: l).length := by simp
  have e : rd (t :: l) 0 = t := rfl
  rw [if_neg (by omega), if_pos (by omega), e, last_eq hl hk, first_eq hl hk]
  simp only [Option.bind_some, since_eq, u64w]
/-- Of times near one another the first one is the one of the least difference, the last one that of the greatest. -/
theorem fold_first (a : Int) (D : List Int) : ∀ x : Int, -4611686018427387904 < x → x < 4611686018427387904 → (∀ d ∈ D, -4611686018427387904 < d ∧ d < 4611686018427387904) →
    (D.map fun d => (a + d) % 18446744073709551616).foldl fstep ((a + x) % 18446744073709551616) = (a + D.foldl mn x) % 18446744073709551616 := by
  induction D with
  | nil => intro x _ _ _; rfl
  | cons d D ih =>
    intro x h0 h1 hD
    obtain ⟨d0, d1⟩ := hD d (by simp)
    rw [List.map_cons, List.foldl_cons, List.foldl_cons]
    have e : fstep ((a + x) % 18446744073709551616) ((a + d) % 18446744073709551616) = (a + mn x d) % 18446744073709551616 := by
      unfold fstep mn
      rw [w64]
      by_cases h : d < x
      · rw [if_pos h, if_pos (by omega)]
      · rw [if_neg h, if_neg (by omega)]
    rw [e]
    exact ih _ (by unfold mn; split <;> omega) (by unfold mn; split <;> omega) (fun d hd => hD d (by simp [hd]))
theorem fold_last (a : Int) (D : List Int) : ∀ x : Int, -4611686018427387904 < x → x < 4611686018427387904 → (∀ d ∈ D, -4611686018427387904 < d ∧ d < 4611686018427387904) →
    (D.map fun d => (a + d) % 18446744073709551616).foldl lstep ((a + x) % 18446744073709551616) = (a + D.foldl mx x) % 18446744073709551616 := by
  induction D with
  | nil => intro x _ _ _; rfl
  | cons d D ih =>
    intro x h0 h1 hD
    obtain ⟨d0, d1⟩ := hD d (by simp)
    rw [List.map_cons, List.foldl_cons, List.foldl_cons]
    have e : lstep ((a + x) % 18446744073709551616) ((a + d) % 18446744073709551616) = (a + mx x d) % 18446744073709551616 := by
      unfold lstep mx
      rw [w64]
      by_cases h : x < d
      · rw [if_pos h, if_pos (by omega)]
      · rw [if_neg h, if_neg (by omega)]
    rw [e]
    exact ih _ (by unfold mx; split <;> omega) (by unfold mx; split <;> omega) (fun d hd => hD d (by simp [hd]))
theorem mn_bounds (D : List Int) : ∀ x : Int, D.foldl mn x ≤ x ∧ (∀ d ∈ D, D.foldl mn x ≤ d) ∧ (D.foldl mn x = x ∨ D.foldl mn x ∈ D) := by
  induction D with
  | nil => intro x; simp
  | cons d D ih =>
    intro x
    rw [List.foldl_cons]
    obtain ⟨h1, h2, h3⟩ := ih (mn x d)
    have : mn x d ≤ x ∧ mn x d ≤ d ∧ (mn x d = x ∨ mn x d = d) := by unfold mn; split <;> omega
    refine ⟨by omega, ?_, ?_⟩
    · intro y hy
      rcases List.mem_cons.1 hy with rfl | hy
      · omega
      · exact h2 y hy
    · rcases h3 with h | h
      · rw [h]; rcases this.2.2 with e | e
        · exact .inl e
        · rw [e]; exact .inr (by simp)
      · exact .inr (by simp [h])
theorem mx_bounds (D : List Int) : ∀ x : Int, x ≤ D.foldl mx x ∧ (∀ d ∈ D, d ≤ D.foldl mx x) ∧ (D.foldl mx x = x ∨ D.foldl mx x ∈ D) := by
  induction D with
  | nil => intro x; simp
  | cons d D ih =>
    intro x
    rw [List.foldl_cons]
    obtain ⟨h1, h2, h3⟩ := ih (mx x d)
    have : x ≤ mx x d ∧ d ≤ mx x d ∧ (mx x d = x ∨ mx x d = d) := by unfold mx; split <;> omega
    refine ⟨by omega, ?_, ?_⟩
    · intro y hy
      rcases List.mem_cons.1 hy with rfl | hy
      · omega
      · exact h2 y hy
    · rcases h3 with h | h
      · rw [h]; rcases this.2.2 with e | e
        · exact .inl e
        · rw [e]; exact .inr (by simp)
      · exact .inr (by simp [h])
end Go.Proofs.Ytimgiiceipjpaaa.Th
