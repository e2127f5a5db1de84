/- DtreeFirst, the given statement: the law's walk, brought to the row. Under the row's own terms. -/
import Derived.Test.YtkepkjahbcddlaaRows
import Derived.Test.YtkepkjahbcddlaaSyRow
import Derived.Test.YtkepkjahbcddlaaF3
import Derived.WalkKit
import Derived.ProofKit
import Derived.OpenShut
import Derived.ShutString
import Derived.ChangeOld
import Derived.Below
import Derived.SizedLaws
import Derived.Carry
import Derived.Deep.Slices
namespace Go.Proofs.Ytkepkjahbcddlaa.dtreeFirst
open Go.ChangeShapes Go.WideShapes Go.ChangeAt Go.RowKit
open Go.ChangeMaps (open_string shut_string)
set_option linter.unusedVariables false
set_option linter.unusedSimpArgs false
theorem own : ownKnob Try.prog.godebug = none := by kernel_rfl
theorem laidOut : laidOutB Try.prog = true := by kernel_rfl
set_option maxRecDepth 100000 in
theorem openS27 {H : Type} {enc : TypeId × Value → H} {w : World} {base : Nat} {sp : Nat → Bool} {held : Bool} {fuel : Nat} {cs : List Value} {x : DataW H × List MemPlace} (h : DataW.trod enc Try.prog w base sp held fuel 27 cs = some x) :
    ∃ (x0 : Int) (x1 : Int) (x2 : Int), cs = [.int .u64 x0, .int .u32 x1, .int .u32 x2] ∧ (Lit.int .u64 x0).wf = true ∧ (Lit.int .u32 x1).wf = true ∧ (Lit.int .u32 x2).wf = true := by
  have hc24 : Try.prog.cellsOf 24 = 1 := by kernel_rfl
  have hc25 : Try.prog.cellsOf 25 = 1 := by kernel_rfl
  have hc27 : Try.prog.cellsOf 27 = 3 := by kernel_rfl
  obtain ⟨ys, m, _, _, hl, hy, hf⟩ := DataW.trod_struct Try.underlying27 h
  rw [hc27] at hl
  match cs, hl with
  | [c0, c1, c2], _ =>
    match ys, hy with
    | [y0, y1, y2], _ =>
      have g0 := hf 0 _ rfl
      have g1 := hf 1 _ rfl
      have g2 := hf 2 _ rfl
      simp [hc24, hc25, hc27] at g0 g1 g2
      obtain ⟨x0, e0, _, s0⟩ := DataW.trod_int Try.underlying24 g0
      simp only [List.cons.injEq, and_true] at e0
      obtain rfl := e0
      obtain ⟨x1, e1, _, s1⟩ := DataW.trod_int Try.underlying25 g1
      simp only [List.cons.injEq, and_true] at e1
      obtain rfl := e1
      obtain ⟨x2, e2, _, s2⟩ := DataW.trod_int Try.underlying25 g2
      simp only [List.cons.injEq, and_true] at e2
      obtain rfl := e2
      exact ⟨x0, x1, x2, rfl, s0, s1, s2⟩
set_option maxRecDepth 100000 in
theorem openS29 {H : Type} {enc : TypeId × Value → H} {w : World} {base : Nat} {sp : Nat → Bool} {held : Bool} {fuel : Nat} {cs : List Value} {x : DataW H × List MemPlace} (h : DataW.trod enc Try.prog w base sp held fuel 29 cs = some x) :
    ∃ (x0 : Int) (x1 : Int) (x2 : Int) (x3 : Int) (x4 : Int) (x5 : Int) (x6 : Int), cs = [.int .u64 x0, .int .u32 x1, .int .u32 x2, .int .i64 x3, .int .u64 x4, .int .u32 x5, .int .u32 x6] ∧ (Lit.int .u64 x0).wf = true ∧ (Lit.int .u32 x1).wf = true ∧ (Lit.int .u32 x2).wf = true ∧ (Lit.int .i64 x3).wf = true ∧ (Lit.int .u64 x4).wf = true ∧ (Lit.int .u32 x5).wf = true ∧ (Lit.int .u32 x6).wf = true := by
  have hc3 : Try.prog.cellsOf 3 = 1 := by kernel_rfl
  have hc27 : Try.prog.cellsOf 27 = 3 := by kernel_rfl
  have hc29 : Try.prog.cellsOf 29 = 7 := by kernel_rfl
  obtain ⟨ys, m, _, _, hl, hy, hf⟩ := DataW.trod_struct Try.underlying29 h
  rw [hc29] at hl
  match cs, hl with
  | [c0, c1, c2, c3, c4, c5, c6], _ =>
    match ys, hy with
    | [y0, y1, y2], _ =>
      have g0 := hf 0 _ rfl
      have g1 := hf 1 _ rfl
      have g2 := hf 2 _ rfl
      simp [hc3, hc27, hc29] at g0 g1 g2
      obtain ⟨x0, x1, x2, e0, s0, s1, s2⟩ := openS27 g0
      simp only [List.cons.injEq, and_true] at e0
      obtain ⟨rfl, rfl, rfl⟩ := e0
      obtain ⟨x3, e1, _, s3⟩ := DataW.trod_int Try.underlying3 g1
      simp only [List.cons.injEq, and_true] at e1
      obtain rfl := e1
      obtain ⟨x4, x5, x6, e2, s4, s5, s6⟩ := openS27 g2
      simp only [List.cons.injEq, and_true] at e2
      obtain ⟨rfl, rfl, rfl⟩ := e2
      exact ⟨x0, x1, x2, x3, x4, x5, x6, rfl, s0, s1, s2, s3, s4, s5, s6⟩
set_option maxRecDepth 100000 in
/-- The law's walk: it answers true. -/
theorem walk (a0 : Int) (A1 : Option Addr) (c1 : Nat) (l1 : List (List Int)) (a2_0 : Int) (a2_1 : Int) (a2_2 : Int) (a2_3 : Int) (a2_4 : Int) (a2_5 : Int) (a2_6 : Int) (w : World) (w0 : (Lit.int .u64 a0).wf = true) (hr1 : Sy.RowIn w A1 c1 l1 [.int .u64, .int .u32, .int .u32, .int .i64, .int .u64, .int .u32, .int .u32]) (hw1 : ∀ y ∈ l1, Sy.KW [.int .u64, .int .u32, .int .u32, .int .i64, .int .u64, .int .u32, .int .u32] y) (w2_0 : (Lit.int .u64 a2_0).wf = true) (w2_1 : (Lit.int .u32 a2_1).wf = true) (w2_2 : (Lit.int .u32 a2_2).wf = true) (w2_3 : (Lit.int .i64 a2_3).wf = true) (w2_4 : (Lit.int .u64 a2_4).wf = true) (w2_5 : (Lit.int .u32 a2_5).wf = true) (w2_6 : (Lit.int .u32 a2_6).wf = true) :
    Calls Try.prog 3 #[.int .u64 a0, .slice A1 l1.length c1, .agg #[.int .u64 a2_0, .int .u32 a2_1, .int .u32 a2_2, .int .i64 a2_3, .int .u64 a2_4, .int .u32 a2_5, .int .u32 a2_6]] w fun e w' => e = .returned (.bool true) ∧ Below w.heap.size w w' := by
  have h := Fn.c3 ⟨(fun j => match j with | 0 => a0 | 2 => a2_0 | 3 => a2_1 | 4 => a2_2 | 5 => a2_3 | 6 => a2_4 | 7 => a2_5 | 8 => a2_6 | _ => 0), (fun _ => false), (fun j => match j with | 1 => l1 | _ => []), (fun j => match j with | 1 => A1 | _ => none), (fun j => match j with | 1 => c1 | _ => 0), fun _ => .bool false, fun _ => .leaf⟩ w (Sy.inOk_of (by rfl) fun j ks hj => match j, hj with
    | 0, hj => by cases hj
    | 1, hj => by cases hj; exact ⟨⟨hr1.wfl, hr1.len, hr1.max, hr1.read⟩, by simp⟩
    | 2, hj => by cases hj
    | 3, hj => by cases hj
    | 4, hj => by cases hj
    | 5, hj => by cases hj
    | 6, hj => by cases hj
    | 7, hj => by cases hj
    | 8, hj => by cases hj
    | q + 9, hj => by cases hj) (fun _ => ⟨Sy.wf_u64 w0, Sy.rows_item hw1, Sy.wf_u64 w2_0, Sy.wf_u32 w2_1, Sy.wf_u32 w2_2, Sy.wf_u64 w2_4, Sy.wf_u32 w2_5, Sy.wf_u32 w2_6⟩)
  unfold Sy.Invoked at h
  rw [if_pos (by kernel_rfl)] at h
  refine h.mono ?_
  rintro e w' ⟨r', he, hR, hb, _⟩
  have hc : r'.c 0 = true := hR
  refine ⟨?_, Sy.bel_below (by rfl) hb⟩
  rw [he]
  show Ending.returned (.bool (r'.c 0)) = _
  rw [hc]
set_option maxRecDepth 100000 in
theorem lifted (os : Os) (started : os.Started) (H : Type) (enc : TypeId × Value → H) :
    ReturnsInHanded {} Try.checked os 3 .any (Rows.dtreeFirstSpec.pre6 enc Try.prog Try.f3 Rows.dtreeFirstRow.domain false) (Rows.dtreeFirstSpec.post enc Try.prog Try.f3 false true false false) := by
  refine returnsInHanded_of_change_sized (C := Try.checked) own started (by kernel_rfl) Try.func3
    (ChangeSpec.witness6 (enc := enc) (C := Try.checked) false ⟨#[], #[.int .u64 0, .slice none 0 0, .agg #[.int .u64 0, .int .u32 0, .int .u32 0, .int .i64 0, .int .u64 0, .int .u32 0, .int .u32 0]], []⟩ 8 (by kernel_rfl) (by kernel_rfl) (by kernel_rfl) (by kernel_rfl)) ?_
  intro W base args ds gs before hval0 hW hcnd hsz0 _
  have hsz : (DataW.weightsEach Try.prog (Try.f3.params.toList ++ Rows.dtreeFirstSpec.plain.varTypes Try.prog) (ds ++ gs)).all (· ≤ reachBytes) = true := hsz0
  have hval : ∀ (j : Nat) t v, Try.f3.params[j]? = some t → args[j]? = some v → Value.okWide Try.prog W .any base t v := hval0
  have hW' := hW
  obtain ⟨p, q, hA0, hV, rfl, hfz, hnd⟩ := hW
  have hA : DataW.TrodAll enc Try.prog W 0 (fun _ => true) true Try.f3.params.toList args.toList ds p := hA0
  rw [Try.params3] at hA hval hsz
  obtain ⟨v0, vs0, d0, ds0, p0, q0, hargs, rfl, rfl, h0, r0⟩ := trodAll_cons hA
  obtain ⟨v1, vs1, d1, ds1, p1, q1, rfl, rfl, rfl, h1, r1⟩ := trodAll_cons r0
  obtain ⟨v2, vs2, d2, ds2, p2, q2, rfl, rfl, rfl, h2, r2⟩ := trodAll_cons r1
  obtain ⟨rfl, rfl, rfl⟩ := trodAll_nil r2
  obtain rfl : args = #[v0, v1, v2] := by cases args; simp_all
  obtain ⟨rfl, rfl⟩ := trodVars_none hV
  obtain ⟨a0, rfl, rfl, rfl, w0⟩ := open_int Try.underlying22 (hval 0 22 v0 rfl rfl) h0
  obtain ⟨a1, len1, cap1, rfl⟩ := okWide_slice Try.underlying23 (hval 1 23 v1 rfl rfl)
  have k1 := h1
  have lt1 : ∀ x ∈ p1, x.block < W.heap.size := by obtain ⟨m, hm⟩ := k1; exact DataW.trod_lt m _ _ _ hm
  obtain ⟨l1, rfl, hr1, hw1⟩ := Sy.open_row [.int .u64, .int .u32, .int .u32, .int .i64, .int .u64, .int .u32, .int .u32] (Sy.KW [.int .u64, .int .u32, .int .u32, .int .i64, .int .u64, .int .u32, .int .u32]) Try.underlying23 (by kernel_rfl) (by decide) (fun fuel cs x hx => by
    obtain ⟨x0, x1, x2, x3, x4, x5, x6, rfl, s0, s1, s2, s3, s4, s5, s6⟩ := openS29 hx
    exact ⟨[x0, x1, x2, x3, x4, x5, x6], rfl, rfl, ⟨s0, s1, s2, s3, s4, s5, s6, trivial⟩⟩) h1
  obtain ⟨cs2, rfl, _⟩ := okWide_struct Try.underlying29 (hval 2 29 v2 rfl rfl)
  have k2 := h2
  have lt2 : ∀ x ∈ p2, x.block < W.heap.size := by obtain ⟨m, hm⟩ := k2; exact DataW.trod_lt m _ _ _ hm
  obtain ⟨fuel2, hf2⟩ := h2
  obtain ⟨a2_0, a2_1, a2_2, a2_3, a2_4, a2_5, a2_6, e2, w2_0, w2_1, w2_2, w2_3, w2_4, w2_5, w2_6⟩ := openS29 hf2
  obtain rfl : cs2 = #[.int .u64 a2_0, .int .u32 a2_1, .int .u32 a2_2, .int .i64 a2_3, .int .u64 a2_4, .int .u32 a2_5, .int .u32 a2_6] := by apply Array.toList_inj.1; simpa [Value.cells] using e2
  clear hA0 hval0 hsz0 hsz
  refine (walk a0 a1 cap1 l1 a2_0 a2_1 a2_2 a2_3 a2_4 a2_5 a2_6 W w0 hr1 hw1 w2_0 w2_1 w2_2 w2_3 w2_4 w2_5 w2_6).mono fun e W' ⟨he, bel⟩ => ?_
  subst he
  exact ⟨_, rfl, _, _, _, [], _, [], hW', trodAll_mk1 (shut_bool Try.underlying4 _), (trodAll_cons_mk (shut_int Try.underlying22 w0) (trodAll_cons_mk (Below.trod laidOut (by kernel_rfl) (of_decide_eq_true (by kernel_rfl)) k1 bel lt1) (trodAll_cons_mk (Below.trod laidOut (by kernel_rfl) (of_decide_eq_true (by kernel_rfl)) k2 bel lt2) trodAll_mk0))), rfl, bel.frame _, fun h => by cases h⟩
theorem over : Rows.dtreeFirstRow.holds Try.pinned (OpenSpec.ofChange Rows.dtreeFirstSpec) :=
  OpenClaim.holds_of_wide 3 Try.f3 rfl rfl rfl rfl rfl rfl rfl ⟨rfl, rfl, rfl, rfl, rfl⟩ rfl rfl rfl rfl rfl (by kernel_rfl) Try.func3 (by kernel_rfl)
    (of_decide_eq_true (by kernel_rfl)) (by unfold Func.isWrapper; first | (rw [if_pos (by decide +kernel)]; kernel_rfl) | (rw [if_neg (by decide +kernel)]; exact ⟨rfl, rfl⟩))
    (fun os started H enc _ => lifted os started H enc)
theorem proved : Rows.DtreeFirstSaid := over
#print axioms proved
end Go.Proofs.Ytkepkjahbcddlaa.dtreeFirst
namespace Go.Proofs.Ytkepkjahbcddlaa
/-- The row, under a short name, for the claim. -/
theorem dtreeFirst_holds : Rows.DtreeFirstSaid := dtreeFirst.proved
end Go.Proofs.Ytkepkjahbcddlaa
