/- VtimeShifts, over numbers alone: what is shifted by any time has the same differences; the first and the last one are shifted; the spread is the same. For at most 100 times, nearer than 2^62 to a first one. -/
import Derived.Test.YtimgiiceipjpaaaThTime
import Derived.Test.YtimgiiceipjpaaaPrint10
namespace Go.Proofs.Ytimgiiceipjpaaa.Pure
open Go.RowKit Go.Proofs.Ytimgiiceipjpaaa.Print Go.Proofs.YtimgiiceipjpaaaW.PrintWords Go.Proofs.YtimgiiceipjpaaaW.PrintLast Go.Proofs.YtimgiiceipjpaaaW.PrintMore Go.Proofs.Ytimgiiceipjpaaa.Th
set_option linter.unusedVariables false
def near (D : List Int) : Prop := ∀ d ∈ D, -4611686018427387904 < d ∧ d < 4611686018427387904
def img (a : Int) (D : List Int) : List Int := D.map fun d => (a + d) % 18446744073709551616
theorem img_len (a : Int) (D : List Int) : (img a D).length = D.length := by simp [img]
theorem img_rd (a : Int) (D : List Int) (i : Nat) (h : i < D.length) : rd (img a D) (i : Int) = (a + D[i]) % 18446744073709551616 := by
  rw [rd_nat _ _ (by rw [img_len]; exact h)]
  simp [img]
section
variable {at_ by_ : Int} (ha : 0 ≤ at_) (ha' : at_ < 18446744073709551616) (hb : 0 ≤ by_) (hb' : by_ < 18446744073709551616)
include ha ha' hb hb'
theorem shifts_end (diffs : List Int) (hn : near diffs) (hlen : diffs.length ≤ 100) (d : Nat) : ∀ (k i : Nat), diffs.length + 1 - i = d → i ≤ diffs.length + 1 → d + 150 ≤ k →
    turnstonelaw03_VtimeShifts.l1 k at_ by_ (img at_ (0 :: diffs)) (img ((at_ + by_) % 18446744073709551616) (0 :: diffs)) (diffs.foldl mn 0) (diffs.foldl mx 0) ((img at_ (0 :: diffs)).length : Int) (i : Int) = some true := by
  have hD : near (0 :: diffs) := by
    intro d hd
    rcases List.mem_cons.1 hd with rfl | hd
    · omega
    · exact hn d hd
  have l1 : (img at_ (0 :: diffs)).length = diffs.length + 1 := by simp [img]
  have l2 : (img ((at_ + by_) % 18446744073709551616) (0 :: diffs)).length = diffs.length + 1 := by simp [img]
  induction d with
  | zero =>
    intro k i hd hi hk
    obtain ⟨k, rfl⟩ : ∃ m, k = m + 1 := ⟨k - 1, by omega⟩
    have f1 := fold_first at_ (0 :: diffs) 0 (by omega) (by omega) hD
    have f2 := fold_last at_ (0 :: diffs) 0 (by omega) (by omega) hD
    have f3 := fold_first ((at_ + by_) % 18446744073709551616) (0 :: diffs) 0 (by omega) (by omega) hD
    have f4 := fold_last ((at_ + by_) % 18446744073709551616) (0 :: diffs) 0 (by omega) (by omega) hD
    have m0 : mn 0 0 = 0 := rfl
    have m1 : mx 0 0 = 0 := rfl
    rw [List.foldl_cons (f := mn), m0] at f1 f3
    rw [List.foldl_cons (f := mx), m1] at f2 f4
    obtain ⟨b1, b2, b3⟩ := mn_bounds diffs 0
    obtain ⟨c1, c2, c3⟩ := mx_bounds diffs 0
    have lo : -4611686018427387904 < diffs.foldl mn 0 := by
      rcases b3 with h | h
      · omega
      · exact (hn _ h).1
    have hi_ : diffs.foldl mx 0 < 4611686018427387904 := by
      rcases c3 with h | h
      · omega
      · exact (hn _ h).2
    have r1 := img_rd at_ (0 :: diffs) 0 (by simp)
    have r2 := img_rd ((at_ + by_) % 18446744073709551616) (0 :: diffs) 0 (by simp)
    have z : ((0 : Nat) : Int) = 0 := rfl
    rw [z, List.getElem_cons_zero] at r1 r2
    rw [turnstonelaw03_VtimeShifts.l1, if_neg (by omega), if_pos (by omega), r1, r2, first_eq (by omega) (by omega), last_eq (by omega) (by omega)]
    have g1 : (img at_ (0 :: diffs)).foldl fstep ((at_ + 0) % 18446744073709551616) = (at_ + diffs.foldl mn 0) % 18446744073709551616 := f1
    have g2 : (img at_ (0 :: diffs)).foldl lstep ((at_ + 0) % 18446744073709551616) = (at_ + diffs.foldl mx 0) % 18446744073709551616 := f2
    have g3 : (img ((at_ + by_) % 18446744073709551616) (0 :: diffs)).foldl fstep (((at_ + by_) % 18446744073709551616 + 0) % 18446744073709551616) = ((at_ + by_) % 18446744073709551616 + diffs.foldl mn 0) % 18446744073709551616 := f3
    have g4 : (img ((at_ + by_) % 18446744073709551616) (0 :: diffs)).foldl lstep (((at_ + by_) % 18446744073709551616 + 0) % 18446744073709551616) = ((at_ + by_) % 18446744073709551616 + diffs.foldl mx 0) % 18446744073709551616 := f4
    rw [g1, g2]
    simp only [Option.bind_some, later_eq, if_true]
    rw [if_pos (by omega), first_eq (by omega) (by omega), last_eq (by omega) (by omega), g3, g4]
    simp only [Option.bind_some]
    rw [u64w, if_pos (by omega), u64w, if_pos (by omega)]
    have s1 : vtime_Spread.f k (img at_ (0 :: diffs)) = some ((diffs.foldl mx 0 - diffs.foldl mn 0) % 18446744073709551616) := by
      have e : img at_ (0 :: diffs) = ((at_ + 0) % 18446744073709551616) :: img at_ diffs := rfl
      rw [e, spread_eq (by rw [← e]; omega) (by rw [← e]; omega), ← e, g1, g2]
      congr 1; rw [w64]; omega
    have s2 : vtime_Spread.f k (img ((at_ + by_) % 18446744073709551616) (0 :: diffs)) = some ((diffs.foldl mx 0 - diffs.foldl mn 0) % 18446744073709551616) := by
      have e : img ((at_ + by_) % 18446744073709551616) (0 :: diffs) = (((at_ + by_) % 18446744073709551616 + 0) % 18446744073709551616) :: img ((at_ + by_) % 18446744073709551616) diffs := rfl
      rw [e, spread_eq (by rw [← e]; omega) (by rw [← e]; omega), ← e, g3, g4]
      congr 1; rw [w64]; omega
    rw [s1, s2]
    simp only [Option.bind_some, if_true]
    congr 1
    rw [u64w, w64, beq_iff_eq]
    omega
  | succ d ih =>
    intro k i hd hi hk
    obtain ⟨k, rfl⟩ : ∃ m, k = m + 1 := ⟨k - 1, by omega⟩
    have hi' : i < (0 :: diffs).length := by simp only [List.length_cons]; omega
    obtain ⟨d0, d1⟩ := hD (0 :: diffs)[i] (List.getElem_mem hi')
    have r1 := img_rd at_ (0 :: diffs) 0 (by simp)
    have r2 := img_rd ((at_ + by_) % 18446744073709551616) (0 :: diffs) 0 (by simp)
    have z : ((0 : Nat) : Int) = 0 := rfl
    rw [z, List.getElem_cons_zero] at r1 r2
    rw [turnstonelaw03_VtimeShifts.l1, if_pos (by omega), if_pos (by omega), if_pos (by omega), if_pos (by omega), r1, r2, img_rd _ _ _ hi', img_rd _ _ _ hi']
    generalize (0 :: diffs)[i] = x at *
    simp only [since_eq, Option.bind_some]
    rw [if_pos (by omega), if_pos (by omega), if_pos (by simp only [w64]; omega), u64w, if_pos (by omega), wrap_succ (n := diffs.length + 1) (by omega) (by omega)]
    exact ih k (i + 1) (by omega) (by omega) (by omega)
theorem shifts_from (diffs : List Int) (hlen : diffs.length ≤ 100) (d : Nat) : ∀ (k i : Nat), diffs.length - i = d → i ≤ diffs.length → near (diffs.take i) → 2 * d + 300 ≤ k →
    turnstonelaw03_VtimeShifts.l0 k at_ by_ (img at_ (0 :: diffs.take i)) (img ((at_ + by_) % 18446744073709551616) (0 :: diffs.take i)) ((diffs.take i).foldl mn 0) ((diffs.take i).foldl mx 0) diffs (diffs.length : Int) (i : Int) = some true := by
  induction d with
  | zero =>
    intro k i hd hi hn hk
    obtain ⟨k, rfl⟩ : ∃ m, k = m + 1 := ⟨k - 1, by omega⟩
    rw [turnstonelaw03_VtimeShifts.l0, if_neg (by omega)]
    have e : diffs.take i = diffs := List.take_of_length_le (by omega)
    rw [e] at hn ⊢
    exact shifts_end ha ha' hb hb' diffs hn hlen (diffs.length + 1) k 0 (by omega) (by omega) (by omega)
  | succ d ih =>
    intro k i hd hi hn hk
    obtain ⟨k, rfl⟩ : ∃ m, k = m + 2 := ⟨k - 2, by omega⟩
    have h : i < diffs.length := by omega
    have t : diffs.take (i + 1) = diffs.take i ++ [diffs[i]] := List.take_succ_eq_append_getElem h
    have tl : (diffs.take i).length ≤ 100 := by rw [List.length_take]; omega
    rw [turnstonelaw03_VtimeShifts.l0, if_pos (by omega), if_pos (by omega), if_pos (by omega), rd_nat _ _ h]
    by_cases h1 : diffs[i] ≤ -4611686018427387904
    · rw [if_pos h1, turnstonelaw03_VtimeShifts.j1, if_pos rfl]
    · rw [if_neg h1, turnstonelaw03_VtimeShifts.j1]
      by_cases h2 : diffs[i] ≥ 4611686018427387904
      · rw [if_pos (by simpa using h2)]
      · rw [if_neg (by simpa using h2)]
        simp only [later_eq, Option.bind_some]
        rw [if_pos (by simp only [img, List.length_map, List.length_cons]; omega), if_pos (by simp only [img, List.length_map, List.length_cons]; omega), wrap_succ h (by omega)]
        have := ih k (i + 1) (by omega) (by omega) (by
          rw [t]
          intro x hx
          rcases List.mem_append.1 hx with hx | hx
          · exact hn x hx
          · rw [List.mem_singleton.1 hx]; omega) (by omega)
        rw [t, List.foldl_append, List.foldl_append] at this
        have e1 : ∀ a, img a (0 :: (diffs.take i ++ [diffs[i]])) = img a (0 :: diffs.take i) ++ [(a + diffs[i]) % 18446744073709551616] := by intro a; unfold img; rw [List.map_cons, List.map_append]; rfl
        rw [e1, e1] at this
        have e2 : (IntKind.u64.wrap (at_ + by_) + diffs[i]) % 18446744073709551616 = ((at_ + by_) % 18446744073709551616 + diffs[i]) % 18446744073709551616 := by rw [u64w]
        rw [e2]
        exact this
end
theorem VtimeShifts : turnstonelaw03_VtimeShifts.Pure := by
  intro t b l ht hb _ _ _
  obtain ⟨t0, t1⟩ := wf_u64 ht
  obtain ⟨b0, b1⟩ := wf_u64 hb
  refine ⟨2 * l.length + 400, ?_⟩
  unfold turnstonelaw03_VtimeShifts.f
  rw [awake3 (by omega), Option.bind_some, if_pos rfl]
  by_cases h : (l.length : Int) > 100
  · rw [if_pos h]
  · rw [if_neg h]
    have := shifts_from t0 t1 b0 b1 l (by omega) l.length (2 * l.length + 400) 0 (by omega) (by omega) (by intro x hx; simp at hx) (by omega)
    have e1 : img t (0 :: l.take 0) = [t] := by simp [img]; omega
    have e2 : img ((t + b) % 18446744073709551616) (0 :: l.take 0) = [IntKind.u64.wrap (t + b)] := by simp [img, u64w]
    rw [e1, e2] at this
    exact this
end Go.Proofs.Ytimgiiceipjpaaa.Pure
