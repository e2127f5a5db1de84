/- ItemTells, the given statement: the law's walk and its statement over numbers, brought to the row. Under the row's own terms. -/
import Derived.Test.YtdfpkjdhndfcbaaRows
import Derived.Test.YtdfpkjdhndfcbaaPrint1011
import Derived.Test.YtdfpkjdhndfcbaaPureItemTells
import Derived.WalkKit
import Derived.ProofKit
import Derived.OpenShut
import Derived.ShutString
import Derived.ChangeOld
import Derived.Below
import Derived.SizedLaws
import Derived.Carry
import Derived.Deep.Slices
namespace Go.Proofs.Ytdfpkjdhndfcbaa.itemTells
open Go.ChangeShapes Go.WideShapes Go.ChangeAt Go.RowKit
open Go.ChangeMaps (open_string shut_string)
open Go.Proofs.Ytdfpkjdhndfcbaa.Print Go.Proofs.YtdfpkjdhndfcbaaW.PrintWords Go.Proofs.YtdfpkjdhndfcbaaW.PrintLast
set_option linter.unusedVariables false
set_option linter.unusedSimpArgs false
theorem own : ownKnob Try.prog.godebug = none := by kernel_rfl
theorem laidOut : laidOutB Try.prog = true := by kernel_rfl
set_option maxRecDepth 100000 in
theorem openS26 {H : Type} {enc : TypeId × Value → H} {w : World} {base : Nat} {sp : Nat → Bool} {held : Bool} {fuel : Nat} {cs : List Value} {x : DataW H × List MemPlace} (h : DataW.trod enc Try.prog w base sp held fuel 26 cs = some x) :
    ∃ (x0 : Int) (x1 : Int) (x2 : Int), cs = [.int .u64 x0, .int .u32 x1, .int .u32 x2] ∧ (Lit.int .u64 x0).wf = true ∧ (Lit.int .u32 x1).wf = true ∧ (Lit.int .u32 x2).wf = true := by
  have hc23 : Try.prog.cellsOf 23 = 1 := by kernel_rfl
  have hc24 : Try.prog.cellsOf 24 = 1 := by kernel_rfl
  have hc26 : Try.prog.cellsOf 26 = 3 := by kernel_rfl
  obtain ⟨ys, m, _, _, hl, hy, hf⟩ := DataW.trod_struct Try.underlying26 h
  rw [hc26] at hl
  match cs, hl with
  | [c0, c1, c2], _ =>
    match ys, hy with
    | [y0, y1, y2], _ =>
      have g0 := hf 0 _ rfl
      have g1 := hf 1 _ rfl
      have g2 := hf 2 _ rfl
      simp [hc23, hc24, hc26] at g0 g1 g2
      obtain ⟨x0, e0, _, s0⟩ := DataW.trod_int Try.underlying23 g0
      simp only [List.cons.injEq, and_true] at e0
      obtain rfl := e0
      obtain ⟨x1, e1, _, s1⟩ := DataW.trod_int Try.underlying24 g1
      simp only [List.cons.injEq, and_true] at e1
      obtain rfl := e1
      obtain ⟨x2, e2, _, s2⟩ := DataW.trod_int Try.underlying24 g2
      simp only [List.cons.injEq, and_true] at e2
      obtain rfl := e2
      exact ⟨x0, x1, x2, rfl, s0, s1, s2⟩
set_option maxRecDepth 100000 in
theorem openS28 {H : Type} {enc : TypeId × Value → H} {w : World} {base : Nat} {sp : Nat → Bool} {held : Bool} {fuel : Nat} {cs : List Value} {x : DataW H × List MemPlace} (h : DataW.trod enc Try.prog w base sp held fuel 28 cs = some x) :
    ∃ (x0 : Int) (x1 : Int) (x2 : Int) (x3 : Int) (x4 : Int) (x5 : Int) (x6 : Int), cs = [.int .u64 x0, .int .u32 x1, .int .u32 x2, .int .i64 x3, .int .u64 x4, .int .u32 x5, .int .u32 x6] ∧ (Lit.int .u64 x0).wf = true ∧ (Lit.int .u32 x1).wf = true ∧ (Lit.int .u32 x2).wf = true ∧ (Lit.int .i64 x3).wf = true ∧ (Lit.int .u64 x4).wf = true ∧ (Lit.int .u32 x5).wf = true ∧ (Lit.int .u32 x6).wf = true := by
  have hc3 : Try.prog.cellsOf 3 = 1 := by kernel_rfl
  have hc26 : Try.prog.cellsOf 26 = 3 := by kernel_rfl
  have hc28 : Try.prog.cellsOf 28 = 7 := by kernel_rfl
  obtain ⟨ys, m, _, _, hl, hy, hf⟩ := DataW.trod_struct Try.underlying28 h
  rw [hc28] at hl
  match cs, hl with
  | [c0, c1, c2, c3, c4, c5, c6], _ =>
    match ys, hy with
    | [y0, y1, y2], _ =>
      have g0 := hf 0 _ rfl
      have g1 := hf 1 _ rfl
      have g2 := hf 2 _ rfl
      simp [hc3, hc26, hc28] at g0 g1 g2
      obtain ⟨x0, x1, x2, e0, s0, s1, s2⟩ := openS26 g0
      simp only [List.cons.injEq, and_true] at e0
      obtain ⟨rfl, rfl, rfl⟩ := e0
      obtain ⟨x3, e1, _, s3⟩ := DataW.trod_int Try.underlying3 g1
      simp only [List.cons.injEq, and_true] at e1
      obtain rfl := e1
      obtain ⟨x4, x5, x6, e2, s4, s5, s6⟩ := openS26 g2
      simp only [List.cons.injEq, and_true] at e2
      obtain ⟨rfl, rfl, rfl⟩ := e2
      exact ⟨x0, x1, x2, x3, x4, x5, x6, rfl, s0, s1, s2, s3, s4, s5, s6⟩
set_option maxRecDepth 100000 in
theorem lifted (os : Os) (started : os.Started) (H : Type) (enc : TypeId × Value → H) :
    ReturnsInHanded {} Try.checked os 4 .any (Rows.itemTellsSpec.pre6 enc Try.prog Try.f4 Rows.itemTellsRow.domain false) (Rows.itemTellsSpec.post enc Try.prog Try.f4 false true false false) := by
  refine returnsInHanded_of_change_sized (C := Try.checked) own started (by kernel_rfl) Try.func4
    (ChangeSpec.witness6 (enc := enc) (C := Try.checked) false ⟨#[], #[.agg #[.int .u64 0, .int .u32 0, .int .u32 0, .int .i64 0, .int .u64 0, .int .u32 0, .int .u32 0], .agg #[.int .u64 0, .int .u32 0, .int .u32 0, .int .i64 0, .int .u64 0, .int .u32 0, .int .u32 0], .int .u64 0], []⟩ 8 (by kernel_rfl) (by kernel_rfl) (by kernel_rfl) (by kernel_rfl)) ?_
  intro W base args ds gs before hval0 hW hcnd hsz0 _
  have hsz : (DataW.weightsEach Try.prog (Try.f4.params.toList ++ Rows.itemTellsSpec.plain.varTypes Try.prog) (ds ++ gs)).all (· ≤ reachBytes) = true := hsz0
  have hval : ∀ (j : Nat) t v, Try.f4.params[j]? = some t → args[j]? = some v → Value.okWide Try.prog W .any base t v := hval0
  have hW' := hW
  obtain ⟨p, q, hA0, hV, rfl, hfz, hnd⟩ := hW
  have hA : DataW.TrodAll enc Try.prog W 0 (fun _ => true) true Try.f4.params.toList args.toList ds p := hA0
  rw [Try.params4] at hA hval hsz
  obtain ⟨v0, vs0, d0, ds0, p0, q0, hargs, rfl, rfl, h0, r0⟩ := trodAll_cons hA
  obtain ⟨v1, vs1, d1, ds1, p1, q1, rfl, rfl, rfl, h1, r1⟩ := trodAll_cons r0
  obtain ⟨v2, vs2, d2, ds2, p2, q2, rfl, rfl, rfl, h2, r2⟩ := trodAll_cons r1
  obtain ⟨rfl, rfl, rfl⟩ := trodAll_nil r2
  obtain rfl : args = #[v0, v1, v2] := by cases args; simp_all
  obtain ⟨rfl, rfl⟩ := trodVars_none hV
  obtain ⟨cs0, rfl, _⟩ := okWide_struct Try.underlying28 (hval 0 28 v0 rfl rfl)
  have k0 := h0
  have lt0 : ∀ x ∈ p0, x.block < W.heap.size := by obtain ⟨m, hm⟩ := k0; exact DataW.trod_lt m _ _ _ hm
  obtain ⟨fuel0, hf0⟩ := h0
  obtain ⟨a0_0, a0_1, a0_2, a0_3, a0_4, a0_5, a0_6, e0, w0_0, w0_1, w0_2, w0_3, w0_4, w0_5, w0_6⟩ := openS28 hf0
  obtain rfl : cs0 = #[.int .u64 a0_0, .int .u32 a0_1, .int .u32 a0_2, .int .i64 a0_3, .int .u64 a0_4, .int .u32 a0_5, .int .u32 a0_6] := by apply Array.toList_inj.1; simpa [Value.cells] using e0
  obtain ⟨cs1, rfl, _⟩ := okWide_struct Try.underlying28 (hval 1 28 v1 rfl rfl)
  have k1 := h1
  have lt1 : ∀ x ∈ p1, x.block < W.heap.size := by obtain ⟨m, hm⟩ := k1; exact DataW.trod_lt m _ _ _ hm
  obtain ⟨fuel1, hf1⟩ := h1
  obtain ⟨a1_0, a1_1, a1_2, a1_3, a1_4, a1_5, a1_6, e1, w1_0, w1_1, w1_2, w1_3, w1_4, w1_5, w1_6⟩ := openS28 hf1
  obtain rfl : cs1 = #[.int .u64 a1_0, .int .u32 a1_1, .int .u32 a1_2, .int .i64 a1_3, .int .u64 a1_4, .int .u32 a1_5, .int .u32 a1_6] := by apply Array.toList_inj.1; simpa [Value.cells] using e1
  obtain ⟨a2, rfl, rfl, rfl, w2⟩ := open_int Try.underlying22 (hval 2 22 v2 rfl rfl) h2
  clear hA0 hval0 hsz0 hsz
  refine (Print.turnstonelaw05_ItemTells.walk Pure.ItemTells a0_0 a0_1 a0_2 a0_3 a0_4 a0_5 a0_6 a1_0 a1_1 a1_2 a1_3 a1_4 a1_5 a1_6 a2 W w0_0 w0_1 w0_2 w0_3 w0_4 w0_5 w0_6 w1_0 w1_1 w1_2 w1_3 w1_4 w1_5 w1_6 w2).mono fun e W' ⟨he, bel⟩ => ?_
  subst he
  exact ⟨_, rfl, _, _, _, [], _, [], hW', trodAll_mk1 (shut_bool Try.underlying4 _), (trodAll_cons_mk (Below.trod laidOut (by kernel_rfl) (of_decide_eq_true (by kernel_rfl)) k0 bel lt0) (trodAll_cons_mk (Below.trod laidOut (by kernel_rfl) (of_decide_eq_true (by kernel_rfl)) k1 bel lt1) (trodAll_cons_mk (shut_int Try.underlying22 w2) trodAll_mk0))), rfl, bel.frame _, fun h => by cases h⟩
theorem over : Rows.itemTellsRow.holds Try.pinned (OpenSpec.ofChange Rows.itemTellsSpec) :=
  OpenClaim.holds_of_wide 4 Try.f4 rfl rfl rfl rfl rfl rfl rfl ⟨rfl, rfl, rfl, rfl, rfl⟩ rfl rfl rfl rfl rfl (by kernel_rfl) Try.func4 (by kernel_rfl)
    (of_decide_eq_true (by kernel_rfl)) (by unfold Func.isWrapper; first | (rw [if_pos (by decide +kernel)]; kernel_rfl) | (rw [if_neg (by decide +kernel)]; exact ⟨rfl, rfl⟩))
    (fun os started H enc _ => lifted os started H enc)
theorem proved : Rows.ItemTellsSaid := over
#print axioms proved
end Go.Proofs.Ytdfpkjdhndfcbaa.itemTells
namespace Go.Proofs.Ytdfpkjdhndfcbaa
/-- The row, under a short name, for the claim. -/
theorem itemTells_holds : Rows.ItemTellsSaid := itemTells.proved
end Go.Proofs.Ytdfpkjdhndfcbaa
