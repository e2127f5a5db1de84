/- ReqDue, the given statement: the law's walk, brought to the row. Under the row's own terms. -/
import Derived.Test.YtjemohphaeiaiaaGreatDoorRows
import Derived.Test.YtjemohphaeiaiaaGreatDoorSyRow
import Derived.Test.YtjemohphaeiaiaaGreatDoorF4
import Derived.WalkKit
import Derived.ProofKit
import Derived.OpenShut
import Derived.ShutString
import Derived.ChangeOld
import Derived.Below
import Derived.SizedLaws
import Derived.Carry
import Derived.Deep.Slices
import Derived.LaidMore
import Derived.Stop.Joined
import Derived.SevenTiedAt
import Derived.Test.YtjemohphaeiaiaaGreatDoorTie
import Derived.Test.YtjemohphaeiaiaaGreatDoorCards
namespace Go.Proofs.YtjemohphaeiaiaaGreatDoor.reqDue
open Go.ChangeShapes Go.WideShapes Go.ChangeAt Go.RowKit
open Go.ChangeMaps (open_string shut_string)
set_option linter.unusedVariables false
set_option linter.unusedSimpArgs false
theorem own : ownKnob Tryz.prog.godebug = none := by kernel_rfl
/-- The door's own heap meets the condition: closed facts. -/
theorem door_met (os : Os) (args : Array Value) : laidMetH Tryz.prog Rows.reqDueRow.laid ((World.doorLaid Tryz.prog 400 os).forCall (fun _ _ => 0) ⟨#[], args, []⟩).memory :=
  laidMetH_of_parts3 (fuel := 8) (laidMet_of_run' 8 (by kernel_rfl) (by kernel_rfl)) (by kernel_rfl) (by kernel_rfl)
theorem laidOut : laidOutB Tryz.prog = true := by kernel_rfl
set_option maxRecDepth 100000 in
theorem openS26 {H : Type} {enc : TypeId × Value → H} {w : World} {base : Nat} {sp : Nat → Bool} {held : Bool} {fuel : Nat} {cs : List Value} {x : DataW H × List MemPlace} (h : DataW.trod enc Tryz.prog w base sp held fuel 26 cs = some x) :
    ∃ (x0 : Int) (x1 : Int) (x2 : Int), cs = [.int .u64 x0, .int .u32 x1, .int .u32 x2] ∧ (Lit.int .u64 x0).wf = true ∧ (Lit.int .u32 x1).wf = true ∧ (Lit.int .u32 x2).wf = true := by
  have hc23 : Tryz.prog.cellsOf 23 = 1 := by kernel_rfl
  have hc24 : Tryz.prog.cellsOf 24 = 1 := by kernel_rfl
  have hc26 : Tryz.prog.cellsOf 26 = 3 := by kernel_rfl
  obtain ⟨ys, m, _, _, hl, hy, hf⟩ := DataW.trod_struct Tryz.underlying26 h
  rw [hc26] at hl
  match cs, hl with
  | [c0, c1, c2], _ =>
    match ys, hy with
    | [y0, y1, y2], _ =>
      have g0 := hf 0 _ rfl
      have g1 := hf 1 _ rfl
      have g2 := hf 2 _ rfl
      simp [hc23, hc24, hc26] at g0 g1 g2
      obtain ⟨x0, e0, _, s0⟩ := DataW.trod_int Tryz.underlying23 g0
      simp only [List.cons.injEq, and_true] at e0
      obtain rfl := e0
      obtain ⟨x1, e1, _, s1⟩ := DataW.trod_int Tryz.underlying24 g1
      simp only [List.cons.injEq, and_true] at e1
      obtain rfl := e1
      obtain ⟨x2, e2, _, s2⟩ := DataW.trod_int Tryz.underlying24 g2
      simp only [List.cons.injEq, and_true] at e2
      obtain rfl := e2
      exact ⟨x0, x1, x2, rfl, s0, s1, s2⟩
set_option maxRecDepth 100000 in
/-- The law's walk: it answers true. -/
theorem walk (a0_0 : Int) (a0_1 : Int) (a0_2 : Int) (a1 : Int) (A2 : Option Addr) (c2 : Nat) (l2 : List (List Int)) (w : World) (w0_0 : (Lit.int .u64 a0_0).wf = true) (w0_1 : (Lit.int .u32 a0_1).wf = true) (w0_2 : (Lit.int .u32 a0_2).wf = true) (w1 : (Lit.int .u64 a1).wf = true) (hr2 : Sy.RowIn w A2 c2 l2 [.int .u64]) (hw2 : ∀ y ∈ l2, Sy.KW [.int .u64] y) :
    Calls Tryz.prog 4 #[.agg #[.int .u64 a0_0, .int .u32 a0_1, .int .u32 a0_2], .int .u64 a1, .slice A2 l2.length c2] w fun e w' => e = .returned (.bool true) ∧ Below w.heap.size w w' := by
  have h := Fn.c4 ⟨(fun j => match j with | 0 => a0_0 | 1 => a0_1 | 2 => a0_2 | 3 => a1 | _ => 0), (fun _ => false), (fun j => match j with | 4 => l2 | _ => []), (fun j => match j with | 4 => A2 | _ => none), (fun j => match j with | 4 => c2 | _ => 0), fun _ => .bool false⟩ w (fun j ks hj => match j, hj with
    | 0, hj => by cases hj
    | 1, hj => by cases hj
    | 2, hj => by cases hj
    | 3, hj => by cases hj
    | 4, hj => by cases hj; exact ⟨⟨hr2.wfl, hr2.len, hr2.max, hr2.read⟩, by simp⟩
    | q + 5, hj => by cases hj) (fun _ => ⟨Sy.wf_u64 w0_0, Sy.wf_u32 w0_1, Sy.wf_u32 w0_2, Sy.wf_u64 w1, Sy.rows_u64 hw2⟩)
  unfold Sy.Invoked at h
  rw [if_pos (by kernel_rfl)] at h
  refine h.mono ?_
  rintro e w' ⟨r', he, hR, hb, _⟩
  have hc : r'.c 0 = true := hR
  refine ⟨?_, hb⟩
  rw [he]
  show Ending.returned (.bool (r'.c 0)) = _
  rw [hc]
set_option maxRecDepth 100000 in
theorem lifted (os : Os) (started : os.Started) (H : Type) (enc : TypeId × Value → H) :
    ReturnsInHanded {} Tryz.checked os 4 .any (fun w args => (Rows.reqDueSpec.pre enc Tryz.prog Tryz.f4 Rows.reqDueRow.domain false w args ∧ laidMetH Tryz.prog Rows.reqDueRow.laid w) ∧ sizedMet enc Tryz.prog Tryz.f4 (OpenSpec.ofChange Rows.reqDueSpec) false w args) (Rows.reqDueSpec.post enc Tryz.prog Tryz.f4 false true false false) := by
  refine returnsInHanded_of_change_and (C := Tryz.checked) (X := fun w _ => laidMetH Tryz.prog Rows.reqDueRow.laid w) (fun _ _ _ hh h => h.of_heap hh) own started (by kernel_rfl) Tryz.func4
    (ChangeSpec.witness_shaped (enc := enc) (C := Tryz.checked) (os := os) (X := fun w _ => laidMetH Tryz.prog Rows.reqDueRow.laid w) false (World.doorLaid Tryz.prog 400 os) #[.agg #[.int .u64 0, .int .u32 0, .int .u32 0], .int .u64 0, .slice none 0 0] 8 rfl (World.shaped_of_RefB (by kernel_rfl) (by kernel_rfl)) (by kernel_rfl) (by kernel_rfl) (by kernel_rfl) (door_met os _)) ?_
  intro W base args ds gs before hval0 hW hcnd hsz0 hL _
  have hsz : (DataW.weightsEach Tryz.prog (Tryz.f4.params.toList ++ Rows.reqDueSpec.plain.varTypes Tryz.prog) (ds ++ gs)).all (· ≤ reachBytes) = true := hsz0
  have hval : ∀ (j : Nat) t v, Tryz.f4.params[j]? = some t → args[j]? = some v → Value.okWide Tryz.prog W .any base t v := hval0
  have hW' := hW
  obtain ⟨p, q, hA0, hV, rfl, hfz, hnd⟩ := hW
  have hA : DataW.TrodAll enc Tryz.prog W 0 (fun _ => true) true Tryz.f4.params.toList args.toList ds p := hA0
  rw [Tryz.params4] at hA hval hsz
  obtain ⟨v0, vs0, d0, ds0, p0, q0, hargs, rfl, rfl, h0, r0⟩ := trodAll_cons hA
  obtain ⟨v1, vs1, d1, ds1, p1, q1, rfl, rfl, rfl, h1, r1⟩ := trodAll_cons r0
  obtain ⟨v2, vs2, d2, ds2, p2, q2, rfl, rfl, rfl, h2, r2⟩ := trodAll_cons r1
  obtain ⟨rfl, rfl, rfl⟩ := trodAll_nil r2
  obtain rfl : args = #[v0, v1, v2] := by cases args; simp_all
  obtain ⟨rfl, rfl⟩ := trodVars_none hV
  obtain ⟨cs0, rfl, _⟩ := okWide_struct Tryz.underlying26 (hval 0 26 v0 rfl rfl)
  have k0 := h0
  have lt0 : ∀ x ∈ p0, x.block < W.heap.size := by obtain ⟨m, hm⟩ := k0; exact DataW.trod_lt m _ _ _ hm
  obtain ⟨fuel0, hf0⟩ := h0
  obtain ⟨a0_0, a0_1, a0_2, e0, w0_0, w0_1, w0_2⟩ := openS26 hf0
  obtain rfl : cs0 = #[.int .u64 a0_0, .int .u32 a0_1, .int .u32 a0_2] := by apply Array.toList_inj.1; simpa [Value.cells] using e0
  obtain ⟨a1, rfl, rfl, rfl, w1⟩ := open_int Tryz.underlying22 (hval 1 22 v1 rfl rfl) h1
  obtain ⟨a2, len2, cap2, rfl⟩ := okWide_slice Tryz.underlying31 (hval 2 31 v2 rfl rfl)
  have k2 := h2
  have lt2 : ∀ x ∈ p2, x.block < W.heap.size := by obtain ⟨m, hm⟩ := k2; exact DataW.trod_lt m _ _ _ hm
  obtain ⟨l2, rfl, hr2, hw2⟩ := Sy.open_row [.int .u64] (Sy.KW [.int .u64]) Tryz.underlying31 (by kernel_rfl) (by decide) (fun fuel cs x hx => by
    obtain ⟨x0, rfl, _, s0⟩ := DataW.trod_int Tryz.underlying22 hx
    exact ⟨[x0], rfl, rfl, ⟨s0, trivial⟩⟩) h2
  clear hA0 hval0 hsz0 hsz
  refine (walk a0_0 a0_1 a0_2 a1 a2 cap2 l2 W w0_0 w0_1 w0_2 w1 hr2 hw2).mono fun e W' ⟨he, bel⟩ => ?_
  subst he
  exact ⟨_, rfl, _, _, _, [], _, [], hW', trodAll_mk1 (shut_bool Tryz.underlying4 _), (trodAll_cons_mk (Below.trod laidOut (by kernel_rfl) (of_decide_eq_true (by kernel_rfl)) k0 bel lt0) (trodAll_cons_mk (shut_int Tryz.underlying22 w1) (trodAll_cons_mk (Below.trod laidOut (by kernel_rfl) (of_decide_eq_true (by kernel_rfl)) k2 bel lt2) trodAll_mk0))), rfl, bel.frame _, fun h => by cases h⟩
theorem over : Rows.reqDueRow.holds Tryz.pinned (OpenSpec.ofChange Rows.reqDueSpec) :=
  OpenClaim.holds_of_wide 4 Tryz.f4 rfl rfl rfl rfl rfl rfl rfl ⟨rfl, rfl, rfl, rfl, rfl⟩ rfl rfl rfl rfl rfl (by kernel_rfl) Tryz.func4 (by kernel_rfl)
    (of_decide_eq_true (by kernel_rfl)) (by unfold Func.isWrapper; first | (rw [if_pos (by decide +kernel)]; kernel_rfl) | (rw [if_neg (by decide +kernel)]; exact ⟨rfl, rfl⟩))
    (fun os started H enc _ => lifted os started H enc)
/-- The card: the row's listed variables tied to the program's text. -/
theorem card : Rows.ReqDueCardSaid :=
  Claim7.holds_tied_plain_at .later [] [.data, .data, .data] true (true, "213a25c462bb8f4bd3759d44d2e0bb0ed92b4a2bb60ba23b764166c60c9c5d38") false
    over (fun _ h => by cases h) (by kernel_rfl) (fun _ h => by cases h) reqDue_row_tie rfl ⟨rfl, rfl⟩ (by kernel_rfl) rfl
    (fun f fn hf hfn => by
      obtain rfl : f = 4 := Option.some.inj ((show Tryz.prog.funcNamed "turnstone/turnstonelaw15.ReqDue" = some 4 by kernel_rfl).symm.trans hf) |>.symm
      obtain rfl : fn = Tryz.f4 := (Option.some.inj (Tryz.func4.symm.trans hfn)).symm
      exact ⟨by kernel_rfl, fun j t ht => by
        rw [Tryz.params4] at ht
        have hm : t ∈ ([26, 22, 31] : List Nat) := by simpa using Array.mem_of_getElem? ht
        have hall : (([26, 22, 31] : List Nat).all fun u => !Tryz.prog.wantsStandIn u) = true := by kernel_rfl
        exact (show Tryz.prog.wantsStandIn t = false by simpa using List.all_eq_true.1 hall t hm)⟩)
    (by kernel_rfl)
theorem proved : Rows.ReqDueCardSaid := card
#print axioms proved
end Go.Proofs.YtjemohphaeiaiaaGreatDoor.reqDue
namespace Go.Proofs.YtjemohphaeiaiaaGreatDoor
/-- The row, under a short name, for the claim. -/
theorem reqDue_holds : Rows.ReqDueCardSaid := reqDue.proved
end Go.Proofs.YtjemohphaeiaiaaGreatDoor
