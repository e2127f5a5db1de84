/- ClampGrows, the given statement: the law's walk and its statement over numbers, brought to the row. Under the row's own terms. -/
import Derived.Test.YtfbkamgdkdnpoaaGreatDoorRows
import Derived.Test.YtfbkamgdkdnpoaaGreatDoorPrint1007
import Derived.Test.YtfbkamgdkdnpoaaGreatDoorPureClampGrows
import Derived.WalkKit
import Derived.ProofKit
import Derived.OpenShut
import Derived.ShutString
import Derived.ChangeOld
import Derived.Below
import Derived.SizedLaws
import Derived.Carry
import Derived.Deep.Slices
import Derived.LaidMore
import Derived.Stop.Joined
import Derived.SevenTiedAt
import Derived.Test.YtfbkamgdkdnpoaaGreatDoorTie
import Derived.Test.YtfbkamgdkdnpoaaGreatDoorCards
namespace Go.Proofs.YtfbkamgdkdnpoaaGreatDoor.clampGrows
open Go.ChangeShapes Go.WideShapes Go.ChangeAt Go.RowKit
open Go.ChangeMaps (open_string shut_string)
open Go.Proofs.YtfbkamgdkdnpoaaGreatDoor.Print Go.Proofs.YtfbkamgdkdnpoaaGreatDoorW.PrintWords Go.Proofs.YtfbkamgdkdnpoaaGreatDoorW.PrintLast
set_option linter.unusedVariables false
set_option linter.unusedSimpArgs false
theorem own : ownKnob Tryz.prog.godebug = none := by kernel_rfl
/-- The door's own heap meets the condition: closed facts. -/
theorem door_met (os : Os) (args : Array Value) : laidMetH Tryz.prog Rows.clampGrowsRow.laid ((World.doorLaid Tryz.prog 400 os).forCall (fun _ _ => 0) ⟨#[], args, []⟩).memory :=
  laidMetH_of_parts3 (fuel := 8) (laidMet_of_run' 8 (by kernel_rfl) (by kernel_rfl)) (by kernel_rfl) (by kernel_rfl)
theorem laidOut : laidOutB Tryz.prog = true := by kernel_rfl
set_option maxRecDepth 100000 in
theorem openS31 {H : Type} {enc : TypeId × Value → H} {w : World} {base : Nat} {sp : Nat → Bool} {held : Bool} {fuel : Nat} {cs : List Value} {x : DataW H × List MemPlace} (h : DataW.trod enc Tryz.prog w base sp held fuel 31 cs = some x) :
    ∃ (x0 : Int) (x1 : Int), cs = [.int .i64 x0, .int .u64 x1] ∧ (Lit.int .i64 x0).wf = true ∧ (Lit.int .u64 x1).wf = true := by
  have hc2 : Tryz.prog.cellsOf 2 = 1 := by kernel_rfl
  have hc22 : Tryz.prog.cellsOf 22 = 1 := by kernel_rfl
  have hc31 : Tryz.prog.cellsOf 31 = 2 := by kernel_rfl
  obtain ⟨ys, m, _, _, hl, hy, hf⟩ := DataW.trod_struct Tryz.underlying31 h
  rw [hc31] at hl
  match cs, hl with
  | [c0, c1], _ =>
    match ys, hy with
    | [y0, y1], _ =>
      have g0 := hf 0 _ rfl
      have g1 := hf 1 _ rfl
      simp [hc2, hc22, hc31] at g0 g1
      obtain ⟨x0, e0, _, s0⟩ := DataW.trod_int Tryz.underlying2 g0
      simp only [List.cons.injEq, and_true] at e0
      obtain rfl := e0
      obtain ⟨x1, e1, _, s1⟩ := DataW.trod_int Tryz.underlying22 g1
      simp only [List.cons.injEq, and_true] at e1
      obtain rfl := e1
      exact ⟨x0, x1, rfl, s0, s1⟩
theorem open_row_of {H : Type} {enc : TypeId × Value → H} {P : Program} {w : World} {base : Nat} {sp : Nat → Bool} {held : Bool} {t e : TypeId} {α : Type} [Inhabited α] (d : Kd α) (wf : α → Prop) (ht : P.underlying t = some (.slice e)) (hc : P.cellsOf e = d.sz)
    (hopen : ∀ (fuel : Nat) (cs : List Value) (x : DataW H × List MemPlace), DataW.trod enc P w base sp held fuel e cs = some x → ∃ y, d.K w y cs ∧ wf y)
    {a : Option Addr} {len cap : Nat} {dd : DataW H} {ps : List MemPlace} (h : DataW.Trod enc P w base sp held t (.slice a len cap) dd ps) :
    ∃ l : List α, l.length = len ∧ len ≤ cap ∧ Kd.C d w a l.length l ∧ (∀ y ∈ l, wf y) ∧ len ≤ maxLen := by
  obtain ⟨fuel, hf⟩ := h
  rcases Go.Deep.open_slice ht hf with ⟨hcs, _⟩ | ⟨x, l, c, m, n, D, Pl, hcs, _, hl, hm, hmm, _, hx⟩
  · simp [Value.cells] at hcs
    obtain ⟨rfl, rfl, rfl⟩ := hcs
    exact ⟨[], rfl, Nat.le_refl _, Kd.C_nil _ _, fun y hy => by simp at hy, Nat.zero_le _⟩
  · simp [Value.cells] at hcs
    obtain ⟨rfl, rfl, rfl⟩ := hcs
    have hlm : len ≤ m := by rw [hmm]; split <;> omega
    obtain ⟨f, hf2⟩ := Go.Deep.choose_lt (n := len) (p := fun i y => (∃ cs', w.cells? base (x.add (i * P.cellsOf e)) (P.cellsOf e) = some cs' ∧ d.K w y cs') ∧ wf y) (fun i hi => by
      obtain ⟨cs', h1, h2⟩ := hx i (by omega)
      obtain ⟨y, h3, h4⟩ := hopen _ _ _ h2
      exact ⟨y, ⟨cs', h1, h3⟩, h4⟩)
    have hlen : ((List.range len).map f).length = len := by simp
    refine ⟨(List.range len).map f, hlen, hl, ⟨rfl, by rw [hlen]; unfold maxLen at hm; omega, fun hp => ⟨x, rfl, fun j p hj => ?_⟩⟩, fun y hy => ?_, by omega⟩
    · obtain ⟨hjl, hjp⟩ := List.getElem?_eq_some_iff.1 hj
      rw [hlen] at hjl
      have : p = f j := by rw [← hjp]; simp
      subst this
      obtain ⟨⟨cs', h1, h2⟩, _⟩ := hf2 j hjl
      obtain ⟨_, hcl, hcc⟩ := World.cells?_some h1
      refine ⟨cs', by rw [hcl, hc], h2, fun i u hu => ?_⟩
      have hi : i < P.cellsOf e := by have := (List.getElem?_eq_some_iff.1 hu).1; omega
      have := hcc i hi
      rw [Go.Deep.add_add, hc] at this
      rw [this, hu]
    · obtain ⟨i, hi, rfl⟩ := List.mem_map.1 hy
      exact (hf2 i (List.mem_range.1 hi)).2
instance : Inhabited S31 := ⟨z31⟩
set_option maxRecDepth 100000 in
theorem lifted (os : Os) (started : os.Started) (H : Type) (enc : TypeId × Value → H) :
    ReturnsInHanded {} Tryz.checked os 14 .any (fun w args => (Rows.clampGrowsSpec.pre enc Tryz.prog Tryz.f14 Rows.clampGrowsRow.domain false w args ∧ laidMetH Tryz.prog Rows.clampGrowsRow.laid w) ∧ sizedMet enc Tryz.prog Tryz.f14 (OpenSpec.ofChange Rows.clampGrowsSpec) false w args) (Rows.clampGrowsSpec.post enc Tryz.prog Tryz.f14 false true false false) := by
  refine returnsInHanded_of_change_and (C := Tryz.checked) (X := fun w _ => laidMetH Tryz.prog Rows.clampGrowsRow.laid w) (fun _ _ _ hh h => h.of_heap hh) own started (by kernel_rfl) Tryz.func14
    (ChangeSpec.witness_shaped (enc := enc) (C := Tryz.checked) (os := os) (X := fun w _ => laidMetH Tryz.prog Rows.clampGrowsRow.laid w) false (World.doorLaid Tryz.prog 400 os) #[.agg #[.int .i64 0, .int .u64 0], .int .i64 0, .int .i64 0, .slice none 0 0] 8 rfl (World.shaped_of_RefB (by kernel_rfl) (by kernel_rfl)) (by kernel_rfl) (by kernel_rfl) (by kernel_rfl) (door_met os _)) ?_
  intro W base args ds gs before hval0 hW hcnd hsz0 hL _
  have hsz : (DataW.weightsEach Tryz.prog (Tryz.f14.params.toList ++ Rows.clampGrowsSpec.plain.varTypes Tryz.prog) (ds ++ gs)).all (· ≤ reachBytes) = true := hsz0
  have hval : ∀ (j : Nat) t v, Tryz.f14.params[j]? = some t → args[j]? = some v → Value.okWide Tryz.prog W .any base t v := hval0
  have hW' := hW
  obtain ⟨p, q, hA0, hV, rfl, hfz, hnd⟩ := hW
  have hA : DataW.TrodAll enc Tryz.prog W 0 (fun _ => true) true Tryz.f14.params.toList args.toList ds p := hA0
  rw [Tryz.params14] at hA hval hsz
  obtain ⟨v0, vs0, d0, ds0, p0, q0, hargs, rfl, rfl, h0, r0⟩ := trodAll_cons hA
  obtain ⟨v1, vs1, d1, ds1, p1, q1, rfl, rfl, rfl, h1, r1⟩ := trodAll_cons r0
  obtain ⟨v2, vs2, d2, ds2, p2, q2, rfl, rfl, rfl, h2, r2⟩ := trodAll_cons r1
  obtain ⟨v3, vs3, d3, ds3, p3, q3, rfl, rfl, rfl, h3, r3⟩ := trodAll_cons r2
  obtain ⟨rfl, rfl, rfl⟩ := trodAll_nil r3
  obtain rfl : args = #[v0, v1, v2, v3] := by cases args; simp_all
  obtain ⟨rfl, rfl⟩ := trodVars_none hV
  obtain ⟨cs0, rfl, _⟩ := okWide_struct Tryz.underlying31 (hval 0 31 v0 rfl rfl)
  have k0 := h0
  have lt0 : ∀ x ∈ p0, x.block < W.heap.size := by obtain ⟨m, hm⟩ := k0; exact DataW.trod_lt m _ _ _ hm
  obtain ⟨fuel0, hf0⟩ := h0
  obtain ⟨a0_0, a0_1, e0, w0_0, w0_1⟩ := openS31 hf0
  obtain rfl : cs0 = #[.int .i64 a0_0, .int .u64 a0_1] := by apply Array.toList_inj.1; simpa [Value.cells] using e0
  obtain ⟨a1, rfl, rfl, rfl, w1⟩ := open_int Tryz.underlying2 (hval 1 2 v1 rfl rfl) h1
  obtain ⟨a2, rfl, rfl, rfl, w2⟩ := open_int Tryz.underlying2 (hval 2 2 v2 rfl rfl) h2
  obtain ⟨a3, len3, cap3, rfl⟩ := okWide_slice Tryz.underlying79 (hval 3 79 v3 rfl rfl)
  have k3 := h3
  have lt3 : ∀ x ∈ p3, x.block < W.heap.size := by obtain ⟨m, hm⟩ := k3; exact DataW.trod_lt m _ _ _ hm
  obtain ⟨l3, rfl, hc3, hr3, hw3, hm3⟩ := open_row_of k31 wfS31 Tryz.underlying79 (by kernel_rfl) (fun fuel cs x hx => by
    obtain ⟨x0, x1, rfl, s0, s1⟩ := openS31 hx
    exact ⟨(⟨x0, x1⟩ : S31), k31_mk W _, ⟨s0, s1⟩⟩) h3
  clear hA0 hval0 hsz0 hsz
  refine (Print.turnstonelaw12_ClampGrows.walk Pure.ClampGrows a0_0 a0_1 a1 a2 a3 cap3 l3 W w0_0 w0_1 w1 w2 hr3 hc3 hm3 hw3).mono fun e W' ⟨he, bel⟩ => ?_
  subst he
  exact ⟨_, rfl, _, _, _, [], _, [], hW', trodAll_mk1 (shut_bool Tryz.underlying4 _), (trodAll_cons_mk (Below.trod laidOut (by kernel_rfl) (of_decide_eq_true (by kernel_rfl)) k0 bel lt0) (trodAll_cons_mk (shut_int Tryz.underlying2 w1) (trodAll_cons_mk (shut_int Tryz.underlying2 w2) (trodAll_cons_mk (Below.trod laidOut (by kernel_rfl) (of_decide_eq_true (by kernel_rfl)) k3 bel lt3) trodAll_mk0)))), rfl, bel.frame _, fun h => by cases h⟩
theorem over : Rows.clampGrowsRow.holds Tryz.pinned (OpenSpec.ofChange Rows.clampGrowsSpec) :=
  OpenClaim.holds_of_wide 14 Tryz.f14 rfl rfl rfl rfl rfl rfl rfl ⟨rfl, rfl, rfl, rfl, rfl⟩ rfl rfl rfl rfl rfl (by kernel_rfl) Tryz.func14 (by kernel_rfl)
    (of_decide_eq_true (by kernel_rfl)) (by unfold Func.isWrapper; first | (rw [if_pos (by decide +kernel)]; kernel_rfl) | (rw [if_neg (by decide +kernel)]; exact ⟨rfl, rfl⟩))
    (fun os started H enc _ => lifted os started H enc)
/-- The card: the row's listed variables tied to the program's text. -/
theorem card : Rows.ClampGrowsCardSaid :=
  Claim7.holds_tied_plain_at .later [] [.data, .data, .data] true (true, "f0ad89483fcfe470b9d89e75c7ecb8ae8d5efc9f67d81057f6b4be557a2b75ed") false
    over (fun _ h => by cases h) (by kernel_rfl) (fun _ h => by cases h) clampGrows_row_tie rfl ⟨rfl, rfl⟩ (by kernel_rfl) rfl
    (fun f fn hf hfn => by
      obtain rfl : f = 14 := Option.some.inj ((show Tryz.prog.funcNamed "turnstone/turnstonelaw12.ClampGrows" = some 14 by kernel_rfl).symm.trans hf) |>.symm
      obtain rfl : fn = Tryz.f14 := (Option.some.inj (Tryz.func14.symm.trans hfn)).symm
      exact ⟨by kernel_rfl, fun j t ht => by
        rw [Tryz.params14] at ht
        have hm : t ∈ [31, 2, 2, 79] := by simpa using Array.mem_of_getElem? ht
        have hall : ([31, 2, 2, 79].all fun u => !Tryz.prog.wantsStandIn u) = true := by kernel_rfl
        exact (show Tryz.prog.wantsStandIn t = false by simpa using List.all_eq_true.1 hall t hm)⟩)
    (by kernel_rfl)
theorem proved : Rows.ClampGrowsCardSaid := card
#print axioms proved
end Go.Proofs.YtfbkamgdkdnpoaaGreatDoor.clampGrows
namespace Go.Proofs.YtfbkamgdkdnpoaaGreatDoor
/-- The row, under a short name, for the claim. -/
theorem clampGrows_holds : Rows.ClampGrowsCardSaid := clampGrows.proved
end Go.Proofs.YtfbkamgdkdnpoaaGreatDoor
