/- What the printed functions over means answer, in whole numbers: whether a mean may be, a position more, positions together, where they are. For fields of their kinds. -/
import Derived.Test.YtfbkamgdkdnpoaaGreatDoorThDist
import Derived.Test.YtfbkamgdkdnpoaaGreatDoorThRight
import Derived.Test.YtfbkamgdkdnpoaaGreatDoorPrint1001
namespace Go.Proofs.YtfbkamgdkdnpoaaGreatDoor.Th
open Go.RowKit Go.Proofs.YtfbkamgdkdnpoaaGreatDoor.Print Go.Proofs.YtfbkamgdkdnpoaaGreatDoorW.PrintWords Go.Proofs.YtfbkamgdkdnpoaaGreatDoorW.PrintLast Go.Proofs.YtfbkamgdkdnpoaaGreatDoorW.PrintMore Go.Proofs.YtfbkamgdkdnpoaaGreatDoor.Bits
set_option linter.unusedVariables false
set_option linter.unusedSimpArgs false
/-- May a mean of a sum, weights together and a number be? -/
def RM (A W N : Int) : Prop := (N = 0 ∧ W = 0 ∧ A = 0) ∨ (1 ≤ N ∧ N ≤ 32 ∧ N ≤ W ∧ W ≤ N * 1048576)
instance (A W N : Int) : Decidable (RM A W N) := by unfold RM; infer_instance
theorem mright_eq {b A W N : Int} (hA : Big A) (hN : Sm N) : mean_Mean_Right.f b (A / 18446744073709551616) (A % 18446744073709551616) W N = some (decide (RM A W N)) := by
  unfold mean_Mean_Right.f
  unfold Sm at hN
  unfold Big at hA
  by_cases h0 : N = 0
  · rw [if_pos h0]
    by_cases h1 : W = 0
    · rw [if_pos h1]
      congr 1
      rw [Bool.eq_iff_iff]
      simp only [Bool.and_eq_true, beq_iff_eq, decide_eq_true_eq]
      unfold RM; omega
    · rw [if_neg h1]
      congr 1; symm; rw [decide_eq_false_iff_not]; unfold RM; omega
  · rw [if_neg h0]
    by_cases h1 : N > 0
    · rw [if_pos h1]
      by_cases h2 : N ≤ 32
      · rw [if_pos h2, u64_id (n := N) (by omega) (by omega), u64_id (n := N * 1048576) (by omega) (by omega)]
        by_cases h3 : W ≥ N
        · rw [if_pos h3]
          congr 1
          rw [decide_eq_decide]; unfold RM; omega
        · rw [if_neg h3]
          congr 1; symm; rw [decide_eq_false_iff_not]; unfold RM; omega
      · rw [if_neg h2]
        congr 1; symm; rw [decide_eq_false_iff_not]; unfold RM; omega
    · rw [if_neg h1]
      congr 1; symm; rw [decide_eq_false_iff_not]; unfold RM; omega
/-- A sum, weights together, a number: with a distance and a position's fields more. -/
def stepM (A W N d r w : Int) : Option (Int × Int × Int) := if RM A W N ∧ RP r w ∧ N ≠ 32 ∧ Big (A + d) then some (A + d, W + w, N + 1) else none
def zero6 : Int × Int × Int × Int × Int × Bool := (0, 0, 0, 0, 0, false)
def tellM (b : Int) : Option (Int × Int × Int) → Int × Int × Int × Int × Int × Bool
  | some (A, W, N) => (b, A / 18446744073709551616, A % 18446744073709551616, W, N, true)
  | none => (0, 0, 0, 0, 0, false)
theorem madd_no {k : Nat} (hk : 1 ≤ k) (a b c d e f g h : Int) : mean_Mean_Add.j0 k true a b c d e f g h = some (0, 0, 0, 0, 0, false) := by
  obtain ⟨k, rfl⟩ : ∃ j, k = j + 1 := ⟨k - 1, by omega⟩
  rw [mean_Mean_Add.j0, if_pos rfl]
theorem madd_eq {b A W N t r w : Int} {k : Nat} (hk : 3 ≤ k) (hA : Big A) (hN : Sm N) (hr : 0 ≤ r ∧ r < 4294967296) (hw : 0 ≤ w ∧ w < 4294967296) :
    mean_Mean_Add.f k b (A / 18446744073709551616) (A % 18446744073709551616) W N t r w = some (tellM b (stepM A W N (dist t r w b) r w)) := by
  unfold mean_Mean_Add.f
  rw [mright_eq hA hN, Option.bind_some, right_eq t w hr.1, Option.bind_some]
  unfold stepM
  by_cases h1 : RM A W N
  · rw [decide_eq_true h1, if_pos rfl]
    by_cases h2 : RP r w
    · rw [decide_eq_true h2, if_pos rfl]
      by_cases h3 : N = 32
      · have : (N == 32) = true := by simp [h3]
        rw [this, madd_no (by omega), if_neg (by omega)]; rfl
      · have : (N == 32) = false := by simp [h3]
        rw [this]
        obtain ⟨k, rfl⟩ : ∃ j, k = j + 1 := ⟨k - 1, by omega⟩
        obtain ⟨_, hD⟩ := dist_big (t := t) (base := b) hr hw
        rw [mean_Mean_Add.j0, if_neg (by simp), dist_eq (by omega) hr hw, Option.bind_some, add_eq hA hD]
        by_cases h4 : Big (A + dist t r w b)
        · have hW : 0 ≤ W ∧ W ≤ 33554432 := by unfold RM at h1; omega
          have hN' : 0 ≤ N ∧ N ≤ 32 := by unfold RM at h1; omega
          rw [told_big h4, Option.bind_some, if_pos rfl, if_pos ⟨h1, h2, h3, h4⟩, u64_id (n := w) (by omega) (by omega), u64_id (n := W + w) (by omega) (by omega), w_id (n := N + 1) (by omega) (by omega)]
          rfl
        · rw [told_not h4, Option.bind_some, if_neg (by simp), if_neg (fun h => h4 h.2.2.2)]; rfl
    · rw [decide_eq_false h2, if_neg (by simp), madd_no (by omega), if_neg (fun h => h2 h.2.1)]; rfl
  · rw [decide_eq_false h1, if_neg (by simp), madd_no (by omega), if_neg (fun h => h1 h.1)]; rfl
theorem stepM_some {A W N d r w A' W' N' : Int} (h : stepM A W N d r w = some (A', W', N')) : A' = A + d ∧ W' = W + w ∧ N' = N + 1 ∧ RM A W N ∧ RP r w ∧ N ≠ 32 ∧ Big A' := by
  unfold stepM at h
  split at h
  · rename_i hc
    simp only [Option.some.injEq, Prod.mk.injEq] at h
    obtain ⟨rfl, rfl, rfl⟩ := h
    exact ⟨rfl, rfl, rfl, hc.1, hc.2.1, hc.2.2.1, hc.2.2.2⟩
  · cases h
/-- Positions one behind the other; f: each one's distance. -/
def foldM (f : S28 → Int) : List S28 → Int × Int × Int → Option (Int × Int × Int)
  | [], s => some s
  | p :: l, s => (stepM s.1 s.2.1 s.2.2 (f p) p.f1 p.f2).bind (foldM f l)
def FS (p : S28) : Prop := FP p.f0 p.f1 p.f2
theorem wf_pos {p : S28} (h : (Lit.int .u64 p.f0).wf = true ∧ (Lit.int .u32 p.f1).wf = true ∧ (Lit.int .u32 p.f2).wf = true) : FS p := ⟨wf_u64 h.1, wf_u32 h.2.1, wf_u32 h.2.2⟩
def dof (b : Int) (p : S28) : Int := dist p.f0 p.f1 p.f2 b
theorem rdp (l : List S28) (i : Nat) (h : i < l.length) : rd_T28 l (i : Int) = l[i] := by
  unfold rd_T28
  simp [h]
theorem of_l0 {l : List S28} (hl : l.length ≤ 4611686018427387904) (hf : ∀ p ∈ l, FS p) (b : Int) (d : Nat) : ∀ (k i : Nat) (A W N : Int), l.length - i = d → i ≤ l.length → d + 4 ≤ k → Big A → Sm N →
    mean_Of.l0 k l (l.length : Int) (i : Int) b (A / 18446744073709551616) (A % 18446744073709551616) W N = some (tellM b (foldM (dof b) (l.drop i) (A, W, N))) := by
  induction d with
  | zero =>
    intro k i A W N hd hi hk hA hN
    obtain ⟨k, rfl⟩ : ∃ j, k = j + 1 := ⟨k - 1, by omega⟩
    rw [mean_Of.l0, if_neg (by omega), List.drop_of_length_le (by omega)]; rfl
  | succ d ih =>
    intro k i A W N hd hi hk hA hN
    obtain ⟨k, rfl⟩ : ∃ j, k = j + 1 := ⟨k - 1, by omega⟩
    have h : i < l.length := by omega
    obtain ⟨_, f1, f2⟩ := hf _ (List.getElem_mem h)
    rw [mean_Of.l0, if_pos (by omega), if_pos (by omega), if_pos (by omega), rdp l i h, madd_eq (by omega) hA hN f1 f2, Option.bind_some, List.drop_eq_getElem_cons h, foldM, wrap_succ h hl]
    show (if (tellM b (stepM A W N (dof b l[i]) l[i].f1 l[i].f2)).2.2.2.2.2 = true then _ else _) = _
    cases hs : stepM A W N (dof b l[i]) l[i].f1 l[i].f2 with
    | none => unfold dof at hs; simp only [hs, tellM, Option.bind_none]; rfl
    | some s =>
      obtain ⟨A', W', N'⟩ := s
      obtain ⟨e1, e2, e3, e4, e5, e6, e7⟩ := stepM_some hs
      have hs' := hs
      unfold dof at hs'
      simp only [hs', tellM, if_true, Option.bind_some]
      have hN' : Sm N' := by unfold RM at e4; unfold Sm; omega
      exact ih k (i + 1) A' W' N' (by omega) (by omega) (by omega) e7 hN'
theorem of_mean {l : List S28} (hl : l.length ≤ 4611686018427387904) (hf : ∀ p ∈ l, FS p) (b : Int) {k : Nat} (hk : l.length + 4 ≤ k) :
    mean_Of.f k b l = some (tellM b (foldM (dof b) l (0, 0, 0))) := by
  unfold mean_Of.f
  exact of_l0 hl hf b l.length k 0 0 0 0 (by omega) (by omega) hk (by unfold Big; omega) (by unfold Sm; omega)
theorem foldM_some {f : S28 → Int} : ∀ {l : List S28} {A W N A' W' N' : Int}, foldM f l (A, W, N) = some (A', W', N') → Big A → 0 ≤ N → N ≤ 33 → 0 ≤ W → W ≤ 34603008 → Big A' ∧ 0 ≤ N' ∧ N' ≤ 33 ∧ 0 ≤ W' ∧ W' ≤ 34603008
  | [], A, W, N, A', W', N', h, hA, hN, hN', hW, hW' => by
    simp only [foldM, Option.some.injEq, Prod.mk.injEq] at h
    obtain ⟨rfl, rfl, rfl⟩ := h
    exact ⟨hA, hN, hN', hW, hW'⟩
  | p :: l, A, W, N, A', W', N', h, hA, hN, hN', hW, hW' => by
    simp only [foldM] at h
    obtain ⟨⟨A2, W2, N2⟩, hs, h⟩ := Option.bind_eq_some_iff.1 h
    obtain ⟨rfl, rfl, rfl, e4, e5, e6, e7⟩ := stepM_some hs
    unfold RM at e4
    unfold RP at e5
    exact foldM_some h e7 (by omega) (by omega) (by omega) (by omega)
end Go.Proofs.YtfbkamgdkdnpoaaGreatDoor.Th
