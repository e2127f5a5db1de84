/- SpanBases, the given statement: the law's walk, brought to the row. Under the row's own terms. -/
import Derived.Test.YthlcpdjpnbbaeaaGreatDoorRows
import Derived.Test.YthlcpdjpnbbaeaaGreatDoorSyRow
import Derived.Test.YthlcpdjpnbbaeaaGreatDoorF8
import Derived.WalkKit
import Derived.ProofKit
import Derived.OpenShut
import Derived.ShutString
import Derived.ChangeOld
import Derived.Below
import Derived.SizedLaws
import Derived.Carry
import Derived.Deep.Slices
import Derived.LaidMore
import Derived.Stop.Joined
import Derived.SevenTiedAt
import Derived.Test.YthlcpdjpnbbaeaaGreatDoorTie
import Derived.Test.YthlcpdjpnbbaeaaGreatDoorCards
namespace Go.Proofs.YthlcpdjpnbbaeaaGreatDoor.spanBases
open Go.ChangeShapes Go.WideShapes Go.ChangeAt Go.RowKit
open Go.ChangeMaps (open_string shut_string)
set_option linter.unusedVariables false
set_option linter.unusedSimpArgs false
theorem own : ownKnob Tryz.prog.godebug = none := by kernel_rfl
/-- The door's own heap meets the condition: closed facts. -/
theorem door_met (os : Os) (args : Array Value) : laidMetH Tryz.prog Rows.spanBasesRow.laid ((World.doorLaid Tryz.prog 400 os).forCall (fun _ _ => 0) ⟨#[], args, []⟩).memory :=
  laidMetH_of_parts3 (fuel := 8) (laidMet_of_run' 8 (by kernel_rfl) (by kernel_rfl)) (by kernel_rfl) (by kernel_rfl)
theorem laidOut : laidOutB Tryz.prog = true := by kernel_rfl
set_option maxRecDepth 100000 in
theorem openS33 {H : Type} {enc : TypeId × Value → H} {w : World} {base : Nat} {sp : Nat → Bool} {held : Bool} {fuel : Nat} {cs : List Value} {x : DataW H × List MemPlace} (h : DataW.trod enc Tryz.prog w base sp held fuel 33 cs = some x) :
    ∃ (x0 : Int) (x1 : Int) (x2 : Int), cs = [.int .u64 x0, .int .u32 x1, .int .u32 x2] ∧ (Lit.int .u64 x0).wf = true ∧ (Lit.int .u32 x1).wf = true ∧ (Lit.int .u32 x2).wf = true := by
  have hc23 : Tryz.prog.cellsOf 23 = 1 := by kernel_rfl
  have hc31 : Tryz.prog.cellsOf 31 = 1 := by kernel_rfl
  have hc33 : Tryz.prog.cellsOf 33 = 3 := by kernel_rfl
  obtain ⟨ys, m, _, _, hl, hy, hf⟩ := DataW.trod_struct Tryz.underlying33 h
  rw [hc33] at hl
  match cs, hl with
  | [c0, c1, c2], _ =>
    match ys, hy with
    | [y0, y1, y2], _ =>
      have g0 := hf 0 _ rfl
      have g1 := hf 1 _ rfl
      have g2 := hf 2 _ rfl
      simp [hc23, hc31, hc33] at g0 g1 g2
      obtain ⟨x0, e0, _, s0⟩ := DataW.trod_int Tryz.underlying23 g0
      simp only [List.cons.injEq, and_true] at e0
      obtain rfl := e0
      obtain ⟨x1, e1, _, s1⟩ := DataW.trod_int Tryz.underlying31 g1
      simp only [List.cons.injEq, and_true] at e1
      obtain rfl := e1
      obtain ⟨x2, e2, _, s2⟩ := DataW.trod_int Tryz.underlying31 g2
      simp only [List.cons.injEq, and_true] at e2
      obtain rfl := e2
      exact ⟨x0, x1, x2, rfl, s0, s1, s2⟩
set_option maxRecDepth 100000 in
theorem openS67 {H : Type} {enc : TypeId × Value → H} {w : World} {base : Nat} {sp : Nat → Bool} {held : Bool} {fuel : Nat} {cs : List Value} {x : DataW H × List MemPlace} (h : DataW.trod enc Tryz.prog w base sp held fuel 67 cs = some x) :
    ∃ (x0 : Int) (x1 : Int) (x2 : Int) (x3 : Int) (x4 : Int) (x5 : Int) (x6 : Int), cs = [.int .u64 x0, .int .u32 x1, .int .u32 x2, .int .i64 x3, .int .u64 x4, .int .u32 x5, .int .u32 x6] ∧ (Lit.int .u64 x0).wf = true ∧ (Lit.int .u32 x1).wf = true ∧ (Lit.int .u32 x2).wf = true ∧ (Lit.int .i64 x3).wf = true ∧ (Lit.int .u64 x4).wf = true ∧ (Lit.int .u32 x5).wf = true ∧ (Lit.int .u32 x6).wf = true := by
  have hc3 : Tryz.prog.cellsOf 3 = 1 := by kernel_rfl
  have hc33 : Tryz.prog.cellsOf 33 = 3 := by kernel_rfl
  have hc67 : Tryz.prog.cellsOf 67 = 7 := by kernel_rfl
  obtain ⟨ys, m, _, _, hl, hy, hf⟩ := DataW.trod_struct Tryz.underlying67 h
  rw [hc67] at hl
  match cs, hl with
  | [c0, c1, c2, c3, c4, c5, c6], _ =>
    match ys, hy with
    | [y0, y1, y2], _ =>
      have g0 := hf 0 _ rfl
      have g1 := hf 1 _ rfl
      have g2 := hf 2 _ rfl
      simp [hc3, hc33, hc67] at g0 g1 g2
      obtain ⟨x0, x1, x2, e0, s0, s1, s2⟩ := openS33 g0
      simp only [List.cons.injEq, and_true] at e0
      obtain ⟨rfl, rfl, rfl⟩ := e0
      obtain ⟨x3, e1, _, s3⟩ := DataW.trod_int Tryz.underlying3 g1
      simp only [List.cons.injEq, and_true] at e1
      obtain rfl := e1
      obtain ⟨x4, x5, x6, e2, s4, s5, s6⟩ := openS33 g2
      simp only [List.cons.injEq, and_true] at e2
      obtain ⟨rfl, rfl, rfl⟩ := e2
      exact ⟨x0, x1, x2, x3, x4, x5, x6, rfl, s0, s1, s2, s3, s4, s5, s6⟩
set_option maxRecDepth 100000 in
/-- The law's walk: it answers true. -/
theorem walk (A0 : Option Addr) (c0 : Nat) (l0 : List (List Int)) (a1 : Int) (w : World) (hr0 : Sy.RowIn w A0 c0 l0 [.int .u64, .int .u32, .int .u32, .int .i64, .int .u64, .int .u32, .int .u32]) (hw0 : ∀ y ∈ l0, Sy.KW [.int .u64, .int .u32, .int .u32, .int .i64, .int .u64, .int .u32, .int .u32] y) (w1 : (Lit.int .u64 a1).wf = true) :
    Calls Tryz.prog 8 #[.slice A0 l0.length c0, .int .u64 a1] w fun e w' => e = .returned (.bool true) ∧ Below w.heap.size w w' := by
  have h := Fn.c8 ⟨(fun j => match j with | 1 => a1 | _ => 0), (fun _ => false), (fun j => match j with | 0 => l0 | _ => []), (fun j => match j with | 0 => A0 | _ => none), (fun j => match j with | 0 => c0 | _ => 0), fun _ => .bool false⟩ w (fun j ks hj => match j, hj with
    | 0, hj => by cases hj; exact ⟨⟨hr0.wfl, hr0.len, hr0.max, hr0.read⟩, by simp⟩
    | 1, hj => by cases hj
    | q + 2, hj => by cases hj) (fun _ => ⟨Sy.rows_item hw0, Sy.wf_u64 w1⟩)
  unfold Sy.Invoked at h
  rw [if_pos (by kernel_rfl)] at h
  refine h.mono ?_
  rintro e w' ⟨r', he, hR, hb, _⟩
  have hc : r'.c 0 = true := hR
  refine ⟨?_, hb⟩
  rw [he]
  show Ending.returned (.bool (r'.c 0)) = _
  rw [hc]
set_option maxRecDepth 100000 in
theorem lifted (os : Os) (started : os.Started) (H : Type) (enc : TypeId × Value → H) :
    ReturnsInHanded {} Tryz.checked os 8 .any (fun w args => (Rows.spanBasesSpec.pre enc Tryz.prog Tryz.f8 Rows.spanBasesRow.domain false w args ∧ laidMetH Tryz.prog Rows.spanBasesRow.laid w) ∧ sizedMet enc Tryz.prog Tryz.f8 (OpenSpec.ofChange Rows.spanBasesSpec) false w args) (Rows.spanBasesSpec.post enc Tryz.prog Tryz.f8 false true false false) := by
  refine returnsInHanded_of_change_and (C := Tryz.checked) (X := fun w _ => laidMetH Tryz.prog Rows.spanBasesRow.laid w) (fun _ _ _ hh h => h.of_heap hh) own started (by kernel_rfl) Tryz.func8
    (ChangeSpec.witness_shaped (enc := enc) (C := Tryz.checked) (os := os) (X := fun w _ => laidMetH Tryz.prog Rows.spanBasesRow.laid w) false (World.doorLaid Tryz.prog 400 os) #[.slice none 0 0, .int .u64 0] 8 rfl (World.shaped_of_RefB (by kernel_rfl) (by kernel_rfl)) (by kernel_rfl) (by kernel_rfl) (by kernel_rfl) (door_met os _)) ?_
  intro W base args ds gs before hval0 hW hcnd hsz0 hL _
  have hsz : (DataW.weightsEach Tryz.prog (Tryz.f8.params.toList ++ Rows.spanBasesSpec.plain.varTypes Tryz.prog) (ds ++ gs)).all (· ≤ reachBytes) = true := hsz0
  have hval : ∀ (j : Nat) t v, Tryz.f8.params[j]? = some t → args[j]? = some v → Value.okWide Tryz.prog W .any base t v := hval0
  have hW' := hW
  obtain ⟨p, q, hA0, hV, rfl, hfz, hnd⟩ := hW
  have hA : DataW.TrodAll enc Tryz.prog W 0 (fun _ => true) true Tryz.f8.params.toList args.toList ds p := hA0
  rw [Tryz.params8] at hA hval hsz
  obtain ⟨v0, vs0, d0, ds0, p0, q0, hargs, rfl, rfl, h0, r0⟩ := trodAll_cons hA
  obtain ⟨v1, vs1, d1, ds1, p1, q1, rfl, rfl, rfl, h1, r1⟩ := trodAll_cons r0
  obtain ⟨rfl, rfl, rfl⟩ := trodAll_nil r1
  obtain rfl : args = #[v0, v1] := by cases args; simp_all
  obtain ⟨rfl, rfl⟩ := trodVars_none hV
  obtain ⟨a0, len0, cap0, rfl⟩ := okWide_slice Tryz.underlying65 (hval 0 65 v0 rfl rfl)
  have k0 := h0
  have lt0 : ∀ x ∈ p0, x.block < W.heap.size := by obtain ⟨m, hm⟩ := k0; exact DataW.trod_lt m _ _ _ hm
  obtain ⟨l0, rfl, hr0, hw0⟩ := Sy.open_row [.int .u64, .int .u32, .int .u32, .int .i64, .int .u64, .int .u32, .int .u32] (Sy.KW [.int .u64, .int .u32, .int .u32, .int .i64, .int .u64, .int .u32, .int .u32]) Tryz.underlying65 (by kernel_rfl) (by decide) (fun fuel cs x hx => by
    obtain ⟨x0, x1, x2, x3, x4, x5, x6, rfl, s0, s1, s2, s3, s4, s5, s6⟩ := openS67 hx
    exact ⟨[x0, x1, x2, x3, x4, x5, x6], rfl, rfl, ⟨s0, s1, s2, s3, s4, s5, s6, trivial⟩⟩) h0
  obtain ⟨a1, rfl, rfl, rfl, w1⟩ := open_int Tryz.underlying22 (hval 1 22 v1 rfl rfl) h1
  clear hA0 hval0 hsz0 hsz
  refine (walk a0 cap0 l0 a1 W hr0 hw0 w1).mono fun e W' ⟨he, bel⟩ => ?_
  subst he
  exact ⟨_, rfl, _, _, _, [], _, [], hW', trodAll_mk1 (shut_bool Tryz.underlying4 _), (trodAll_cons_mk (Below.trod laidOut (by kernel_rfl) (of_decide_eq_true (by kernel_rfl)) k0 bel lt0) (trodAll_cons_mk (shut_int Tryz.underlying22 w1) trodAll_mk0)), rfl, bel.frame _, fun h => by cases h⟩
theorem over : Rows.spanBasesRow.holds Tryz.pinned (OpenSpec.ofChange Rows.spanBasesSpec) :=
  OpenClaim.holds_of_wide 8 Tryz.f8 rfl rfl rfl rfl rfl rfl rfl ⟨rfl, rfl, rfl, rfl, rfl⟩ rfl rfl rfl rfl rfl (by kernel_rfl) Tryz.func8 (by kernel_rfl)
    (of_decide_eq_true (by kernel_rfl)) (by unfold Func.isWrapper; first | (rw [if_pos (by decide +kernel)]; kernel_rfl) | (rw [if_neg (by decide +kernel)]; exact ⟨rfl, rfl⟩))
    (fun os started H enc _ => lifted os started H enc)
/-- The card: the row's listed variables tied to the program's text. -/
theorem card : Rows.SpanBasesCardSaid :=
  Claim7.holds_tied_plain_at .later [] [.data, .data, .data] true (true, "f56a7860dfe5fe110040d0efcc6087904fd1c38768283a7e4239666f8dd0844f") false
    over (fun _ h => by cases h) (by kernel_rfl) (fun _ h => by cases h) spanBases_row_tie rfl ⟨rfl, rfl⟩ (by kernel_rfl) rfl
    (fun f fn hf hfn => by
      obtain rfl : f = 8 := Option.some.inj ((show Tryz.prog.funcNamed "turnstone/turnstonelaw13.SpanBases" = some 8 by kernel_rfl).symm.trans hf) |>.symm
      obtain rfl : fn = Tryz.f8 := (Option.some.inj (Tryz.func8.symm.trans hfn)).symm
      exact ⟨by kernel_rfl, fun j t ht => by
        rw [Tryz.params8] at ht
        have hm : t ∈ [65, 22] := by simpa using Array.mem_of_getElem? ht
        have hall : ([65, 22].all fun u => !Tryz.prog.wantsStandIn u) = true := by kernel_rfl
        exact (show Tryz.prog.wantsStandIn t = false by simpa using List.all_eq_true.1 hall t hm)⟩)
    (by kernel_rfl)
theorem proved : Rows.SpanBasesCardSaid := card
#print axioms proved
end Go.Proofs.YthlcpdjpnbbaeaaGreatDoor.spanBases
namespace Go.Proofs.YthlcpdjpnbbaeaaGreatDoor
/-- The row, under a short name, for the claim. -/
theorem spanBases_holds : Rows.SpanBasesCardSaid := spanBases.proved
end Go.Proofs.YthlcpdjpnbbaeaaGreatDoor
