/- DtreeShifts, the given statement: the law's walk, brought to the row. Under the row's own terms. -/
import Derived.Test.YtkepkjahbcddlaaRows
import Derived.Test.YtkepkjahbcddlaaSyRow
import Derived.Test.YtkepkjahbcddlaaF4
import Derived.WalkKit
import Derived.ProofKit
import Derived.OpenShut
import Derived.ShutString
import Derived.ChangeOld
import Derived.Below
import Derived.SizedLaws
import Derived.Carry
import Derived.Deep.Slices
namespace Go.Proofs.Ytkepkjahbcddlaa.dtreeShifts
open Go.ChangeShapes Go.WideShapes Go.ChangeAt Go.RowKit
open Go.ChangeMaps (open_string shut_string)
set_option linter.unusedVariables false
set_option linter.unusedSimpArgs false
theorem own : ownKnob Try.prog.godebug = none := by kernel_rfl
theorem laidOut : laidOutB Try.prog = true := by kernel_rfl
set_option maxRecDepth 100000 in
theorem openS27 {H : Type} {enc : TypeId × Value → H} {w : World} {base : Nat} {sp : Nat → Bool} {held : Bool} {fuel : Nat} {cs : List Value} {x : DataW H × List MemPlace} (h : DataW.trod enc Try.prog w base sp held fuel 27 cs = some x) :
    ∃ (x0 : Int) (x1 : Int) (x2 : Int), cs = [.int .u64 x0, .int .u32 x1, .int .u32 x2] ∧ (Lit.int .u64 x0).wf = true ∧ (Lit.int .u32 x1).wf = true ∧ (Lit.int .u32 x2).wf = true := by
  have hc24 : Try.prog.cellsOf 24 = 1 := by kernel_rfl
  have hc25 : Try.prog.cellsOf 25 = 1 := by kernel_rfl
  have hc27 : Try.prog.cellsOf 27 = 3 := by kernel_rfl
  obtain ⟨ys, m, _, _, hl, hy, hf⟩ := DataW.trod_struct Try.underlying27 h
  rw [hc27] at hl
  match cs, hl with
  | [c0, c1, c2], _ =>
    match ys, hy with
    | [y0, y1, y2], _ =>
      have g0 := hf 0 _ rfl
      have g1 := hf 1 _ rfl
      have g2 := hf 2 _ rfl
      simp [hc24, hc25, hc27] at g0 g1 g2
      obtain ⟨x0, e0, _, s0⟩ := DataW.trod_int Try.underlying24 g0
      simp only [List.cons.injEq, and_true] at e0
      obtain rfl := e0
      obtain ⟨x1, e1, _, s1⟩ := DataW.trod_int Try.underlying25 g1
      simp only [List.cons.injEq, and_true] at e1
      obtain rfl := e1
      obtain ⟨x2, e2, _, s2⟩ := DataW.trod_int Try.underlying25 g2
      simp only [List.cons.injEq, and_true] at e2
      obtain rfl := e2
      exact ⟨x0, x1, x2, rfl, s0, s1, s2⟩
set_option maxRecDepth 100000 in
theorem openS29 {H : Type} {enc : TypeId × Value → H} {w : World} {base : Nat} {sp : Nat → Bool} {held : Bool} {fuel : Nat} {cs : List Value} {x : DataW H × List MemPlace} (h : DataW.trod enc Try.prog w base sp held fuel 29 cs = some x) :
    ∃ (x0 : Int) (x1 : Int) (x2 : Int) (x3 : Int) (x4 : Int) (x5 : Int) (x6 : Int), cs = [.int .u64 x0, .int .u32 x1, .int .u32 x2, .int .i64 x3, .int .u64 x4, .int .u32 x5, .int .u32 x6] ∧ (Lit.int .u64 x0).wf = true ∧ (Lit.int .u32 x1).wf = true ∧ (Lit.int .u32 x2).wf = true ∧ (Lit.int .i64 x3).wf = true ∧ (Lit.int .u64 x4).wf = true ∧ (Lit.int .u32 x5).wf = true ∧ (Lit.int .u32 x6).wf = true := by
  have hc3 : Try.prog.cellsOf 3 = 1 := by kernel_rfl
  have hc27 : Try.prog.cellsOf 27 = 3 := by kernel_rfl
  have hc29 : Try.prog.cellsOf 29 = 7 := by kernel_rfl
  obtain ⟨ys, m, _, _, hl, hy, hf⟩ := DataW.trod_struct Try.underlying29 h
  rw [hc29] at hl
  match cs, hl with
  | [c0, c1, c2, c3, c4, c5, c6], _ =>
    match ys, hy with
    | [y0, y1, y2], _ =>
      have g0 := hf 0 _ rfl
      have g1 := hf 1 _ rfl
      have g2 := hf 2 _ rfl
      simp [hc3, hc27, hc29] at g0 g1 g2
      obtain ⟨x0, x1, x2, e0, s0, s1, s2⟩ := openS27 g0
      simp only [List.cons.injEq, and_true] at e0
      obtain ⟨rfl, rfl, rfl⟩ := e0
      obtain ⟨x3, e1, _, s3⟩ := DataW.trod_int Try.underlying3 g1
      simp only [List.cons.injEq, and_true] at e1
      obtain rfl := e1
      obtain ⟨x4, x5, x6, e2, s4, s5, s6⟩ := openS27 g2
      simp only [List.cons.injEq, and_true] at e2
      obtain ⟨rfl, rfl, rfl⟩ := e2
      exact ⟨x0, x1, x2, x3, x4, x5, x6, rfl, s0, s1, s2, s3, s4, s5, s6⟩
set_option maxRecDepth 100000 in
/-- The law's walk: it answers true. -/
theorem walk (a0 : Int) (a1 : Int) (A2 : Option Addr) (c2 : Nat) (l2 : List (List Int)) (a3_0 : Int) (a3_1 : Int) (a3_2 : Int) (a3_3 : Int) (a3_4 : Int) (a3_5 : Int) (a3_6 : Int) (w : World) (w0 : (Lit.int .u64 a0).wf = true) (w1 : (Lit.int .u64 a1).wf = true) (hr2 : Sy.RowIn w A2 c2 l2 [.int .u64, .int .u32, .int .u32, .int .i64, .int .u64, .int .u32, .int .u32]) (hw2 : ∀ y ∈ l2, Sy.KW [.int .u64, .int .u32, .int .u32, .int .i64, .int .u64, .int .u32, .int .u32] y) (w3_0 : (Lit.int .u64 a3_0).wf = true) (w3_1 : (Lit.int .u32 a3_1).wf = true) (w3_2 : (Lit.int .u32 a3_2).wf = true) (w3_3 : (Lit.int .i64 a3_3).wf = true) (w3_4 : (Lit.int .u64 a3_4).wf = true) (w3_5 : (Lit.int .u32 a3_5).wf = true) (w3_6 : (Lit.int .u32 a3_6).wf = true) :
    Calls Try.prog 4 #[.int .u64 a0, .int .u64 a1, .slice A2 l2.length c2, .agg #[.int .u64 a3_0, .int .u32 a3_1, .int .u32 a3_2, .int .i64 a3_3, .int .u64 a3_4, .int .u32 a3_5, .int .u32 a3_6]] w fun e w' => e = .returned (.bool true) ∧ Below w.heap.size w w' := by
  have h := Fn.c4 ⟨(fun j => match j with | 0 => a0 | 1 => a1 | 3 => a3_0 | 4 => a3_1 | 5 => a3_2 | 6 => a3_3 | 7 => a3_4 | 8 => a3_5 | 9 => a3_6 | _ => 0), (fun _ => false), (fun j => match j with | 2 => l2 | _ => []), (fun j => match j with | 2 => A2 | _ => none), (fun j => match j with | 2 => c2 | _ => 0), fun _ => .bool false, fun _ => .leaf⟩ w (Sy.inOk_of (by rfl) fun j ks hj => match j, hj with
    | 0, hj => by cases hj
    | 1, hj => by cases hj
    | 2, hj => by cases hj; exact ⟨⟨hr2.wfl, hr2.len, hr2.max, hr2.read⟩, by simp⟩
    | 3, hj => by cases hj
    | 4, hj => by cases hj
    | 5, hj => by cases hj
    | 6, hj => by cases hj
    | 7, hj => by cases hj
    | 8, hj => by cases hj
    | 9, hj => by cases hj
    | q + 10, hj => by cases hj) (fun _ => ⟨Sy.wf_u64 w0, Sy.wf_u64 w1, Sy.rows_item hw2, Sy.wf_u64 w3_0, Sy.wf_u32 w3_1, Sy.wf_u32 w3_2, Sy.wf_u64 w3_4, Sy.wf_u32 w3_5, Sy.wf_u32 w3_6⟩)
  unfold Sy.Invoked at h
  rw [if_pos (by kernel_rfl)] at h
  refine h.mono ?_
  rintro e w' ⟨r', he, hR, hb, _⟩
  have hc : r'.c 0 = true := hR
  refine ⟨?_, Sy.bel_below (by rfl) hb⟩
  rw [he]
  show Ending.returned (.bool (r'.c 0)) = _
  rw [hc]
set_option maxRecDepth 100000 in
theorem lifted (os : Os) (started : os.Started) (H : Type) (enc : TypeId × Value → H) :
    ReturnsInHanded {} Try.checked os 4 .any (Rows.dtreeShiftsSpec.pre6 enc Try.prog Try.f4 Rows.dtreeShiftsRow.domain false) (Rows.dtreeShiftsSpec.post enc Try.prog Try.f4 false true false false) := by
  refine returnsInHanded_of_change_sized (C := Try.checked) own started (by kernel_rfl) Try.func4
    (ChangeSpec.witness6 (enc := enc) (C := Try.checked) false ⟨#[], #[.int .u64 0, .int .u64 0, .slice none 0 0, .agg #[.int .u64 0, .int .u32 0, .int .u32 0, .int .i64 0, .int .u64 0, .int .u32 0, .int .u32 0]], []⟩ 8 (by kernel_rfl) (by kernel_rfl) (by kernel_rfl) (by kernel_rfl)) ?_
  intro W base args ds gs before hval0 hW hcnd hsz0 _
  have hsz : (DataW.weightsEach Try.prog (Try.f4.params.toList ++ Rows.dtreeShiftsSpec.plain.varTypes Try.prog) (ds ++ gs)).all (· ≤ reachBytes) = true := hsz0
  have hval : ∀ (j : Nat) t v, Try.f4.params[j]? = some t → args[j]? = some v → Value.okWide Try.prog W .any base t v := hval0
  have hW' := hW
  obtain ⟨p, q, hA0, hV, rfl, hfz, hnd⟩ := hW
  have hA : DataW.TrodAll enc Try.prog W 0 (fun _ => true) true Try.f4.params.toList args.toList ds p := hA0
  rw [Try.params4] at hA hval hsz
  obtain ⟨v0, vs0, d0, ds0, p0, q0, hargs, rfl, rfl, h0, r0⟩ := trodAll_cons hA
  obtain ⟨v1, vs1, d1, ds1, p1, q1, rfl, rfl, rfl, h1, r1⟩ := trodAll_cons r0
  obtain ⟨v2, vs2, d2, ds2, p2, q2, rfl, rfl, rfl, h2, r2⟩ := trodAll_cons r1
  obtain ⟨v3, vs3, d3, ds3, p3, q3, rfl, rfl, rfl, h3, r3⟩ := trodAll_cons r2
  obtain ⟨rfl, rfl, rfl⟩ := trodAll_nil r3
  obtain rfl : args = #[v0, v1, v2, v3] := by cases args; simp_all
  obtain ⟨rfl, rfl⟩ := trodVars_none hV
  obtain ⟨a0, rfl, rfl, rfl, w0⟩ := open_int Try.underlying22 (hval 0 22 v0 rfl rfl) h0
  obtain ⟨a1, rfl, rfl, rfl, w1⟩ := open_int Try.underlying22 (hval 1 22 v1 rfl rfl) h1
  obtain ⟨a2, len2, cap2, rfl⟩ := okWide_slice Try.underlying23 (hval 2 23 v2 rfl rfl)
  have k2 := h2
  have lt2 : ∀ x ∈ p2, x.block < W.heap.size := by obtain ⟨m, hm⟩ := k2; exact DataW.trod_lt m _ _ _ hm
  obtain ⟨l2, rfl, hr2, hw2⟩ := Sy.open_row [.int .u64, .int .u32, .int .u32, .int .i64, .int .u64, .int .u32, .int .u32] (Sy.KW [.int .u64, .int .u32, .int .u32, .int .i64, .int .u64, .int .u32, .int .u32]) Try.underlying23 (by kernel_rfl) (by decide) (fun fuel cs x hx => by
    obtain ⟨x0, x1, x2, x3, x4, x5, x6, rfl, s0, s1, s2, s3, s4, s5, s6⟩ := openS29 hx
    exact ⟨[x0, x1, x2, x3, x4, x5, x6], rfl, rfl, ⟨s0, s1, s2, s3, s4, s5, s6, trivial⟩⟩) h2
  obtain ⟨cs3, rfl, _⟩ := okWide_struct Try.underlying29 (hval 3 29 v3 rfl rfl)
  have k3 := h3
  have lt3 : ∀ x ∈ p3, x.block < W.heap.size := by obtain ⟨m, hm⟩ := k3; exact DataW.trod_lt m _ _ _ hm
  obtain ⟨fuel3, hf3⟩ := h3
  obtain ⟨a3_0, a3_1, a3_2, a3_3, a3_4, a3_5, a3_6, e3, w3_0, w3_1, w3_2, w3_3, w3_4, w3_5, w3_6⟩ := openS29 hf3
  obtain rfl : cs3 = #[.int .u64 a3_0, .int .u32 a3_1, .int .u32 a3_2, .int .i64 a3_3, .int .u64 a3_4, .int .u32 a3_5, .int .u32 a3_6] := by apply Array.toList_inj.1; simpa [Value.cells] using e3
  clear hA0 hval0 hsz0 hsz
  refine (walk a0 a1 a2 cap2 l2 a3_0 a3_1 a3_2 a3_3 a3_4 a3_5 a3_6 W w0 w1 hr2 hw2 w3_0 w3_1 w3_2 w3_3 w3_4 w3_5 w3_6).mono fun e W' ⟨he, bel⟩ => ?_
  subst he
  exact ⟨_, rfl, _, _, _, [], _, [], hW', trodAll_mk1 (shut_bool Try.underlying4 _), (trodAll_cons_mk (shut_int Try.underlying22 w0) (trodAll_cons_mk (shut_int Try.underlying22 w1) (trodAll_cons_mk (Below.trod laidOut (by kernel_rfl) (of_decide_eq_true (by kernel_rfl)) k2 bel lt2) (trodAll_cons_mk (Below.trod laidOut (by kernel_rfl) (of_decide_eq_true (by kernel_rfl)) k3 bel lt3) trodAll_mk0)))), rfl, bel.frame _, fun h => by cases h⟩
theorem over : Rows.dtreeShiftsRow.holds Try.pinned (OpenSpec.ofChange Rows.dtreeShiftsSpec) :=
  OpenClaim.holds_of_wide 4 Try.f4 rfl rfl rfl rfl rfl rfl rfl ⟨rfl, rfl, rfl, rfl, rfl⟩ rfl rfl rfl rfl rfl (by kernel_rfl) Try.func4 (by kernel_rfl)
    (of_decide_eq_true (by kernel_rfl)) (by unfold Func.isWrapper; first | (rw [if_pos (by decide +kernel)]; kernel_rfl) | (rw [if_neg (by decide +kernel)]; exact ⟨rfl, rfl⟩))
    (fun os started H enc _ => lifted os started H enc)
theorem proved : Rows.DtreeShiftsSaid := over
#print axioms proved
end Go.Proofs.Ytkepkjahbcddlaa.dtreeShifts
namespace Go.Proofs.Ytkepkjahbcddlaa
/-- The row, under a short name, for the claim. -/
theorem dtreeShifts_holds : Rows.DtreeShiftsSaid := dtreeShifts.proved
end Go.Proofs.Ytkepkjahbcddlaa
