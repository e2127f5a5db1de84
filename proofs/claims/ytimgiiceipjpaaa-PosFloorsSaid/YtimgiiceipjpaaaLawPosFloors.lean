/- PosFloors, the given statement: the law's walk and its statement over numbers, brought to the row. Under the row's own terms. -/
import Derived.Test.YtimgiiceipjpaaaRows
import Derived.Test.YtimgiiceipjpaaaPrint1008
import Derived.Test.YtimgiiceipjpaaaPurePosFloors
import Derived.WalkKit
import Derived.ProofKit
import Derived.OpenShut
import Derived.ShutString
import Derived.ChangeOld
import Derived.Below
import Derived.SizedLaws
import Derived.Carry
import Derived.Deep.Slices
namespace Go.Proofs.Ytimgiiceipjpaaa.posFloors
open Go.ChangeShapes Go.WideShapes Go.ChangeAt Go.RowKit
open Go.ChangeMaps (open_string shut_string)
open Go.Proofs.Ytimgiiceipjpaaa.Print Go.Proofs.YtimgiiceipjpaaaW.PrintWords Go.Proofs.YtimgiiceipjpaaaW.PrintLast
set_option linter.unusedVariables false
set_option linter.unusedSimpArgs false
theorem own : ownKnob Try.prog.godebug = none := by kernel_rfl
theorem laidOut : laidOutB Try.prog = true := by kernel_rfl
set_option maxRecDepth 100000 in
theorem openS67 {H : Type} {enc : TypeId × Value → H} {w : World} {base : Nat} {sp : Nat → Bool} {held : Bool} {fuel : Nat} {cs : List Value} {x : DataW H × List MemPlace} (h : DataW.trod enc Try.prog w base sp held fuel 67 cs = some x) :
    ∃ (x0 : Int) (x1 : Int) (x2 : Int), cs = [.int .u64 x0, .int .u32 x1, .int .u32 x2] ∧ (Lit.int .u64 x0).wf = true ∧ (Lit.int .u32 x1).wf = true ∧ (Lit.int .u32 x2).wf = true := by
  have hc24 : Try.prog.cellsOf 24 = 1 := by kernel_rfl
  have hc65 : Try.prog.cellsOf 65 = 1 := by kernel_rfl
  have hc67 : Try.prog.cellsOf 67 = 3 := by kernel_rfl
  obtain ⟨ys, m, _, _, hl, hy, hf⟩ := DataW.trod_struct Try.underlying67 h
  rw [hc67] at hl
  match cs, hl with
  | [c0, c1, c2], _ =>
    match ys, hy with
    | [y0, y1, y2], _ =>
      have g0 := hf 0 _ rfl
      have g1 := hf 1 _ rfl
      have g2 := hf 2 _ rfl
      simp [hc24, hc65, hc67] at g0 g1 g2
      obtain ⟨x0, e0, _, s0⟩ := DataW.trod_int Try.underlying24 g0
      simp only [List.cons.injEq, and_true] at e0
      obtain rfl := e0
      obtain ⟨x1, e1, _, s1⟩ := DataW.trod_int Try.underlying65 g1
      simp only [List.cons.injEq, and_true] at e1
      obtain rfl := e1
      obtain ⟨x2, e2, _, s2⟩ := DataW.trod_int Try.underlying65 g2
      simp only [List.cons.injEq, and_true] at e2
      obtain rfl := e2
      exact ⟨x0, x1, x2, rfl, s0, s1, s2⟩
theorem open_row_of {H : Type} {enc : TypeId × Value → H} {P : Program} {w : World} {base : Nat} {sp : Nat → Bool} {held : Bool} {t e : TypeId} {α : Type} [Inhabited α] (d : Kd α) (wf : α → Prop) (ht : P.underlying t = some (.slice e)) (hc : P.cellsOf e = d.sz)
    (hopen : ∀ (fuel : Nat) (cs : List Value) (x : DataW H × List MemPlace), DataW.trod enc P w base sp held fuel e cs = some x → ∃ y, d.K w y cs ∧ wf y)
    {a : Option Addr} {len cap : Nat} {dd : DataW H} {ps : List MemPlace} (h : DataW.Trod enc P w base sp held t (.slice a len cap) dd ps) :
    ∃ l : List α, l.length = len ∧ len ≤ cap ∧ Kd.C d w a l.length l ∧ (∀ y ∈ l, wf y) ∧ len ≤ maxLen := by
  obtain ⟨fuel, hf⟩ := h
  rcases Go.Deep.open_slice ht hf with ⟨hcs, _⟩ | ⟨x, l, c, m, n, D, Pl, hcs, _, hl, hm, hmm, _, hx⟩
  · simp [Value.cells] at hcs
    obtain ⟨rfl, rfl, rfl⟩ := hcs
    exact ⟨[], rfl, Nat.le_refl _, Kd.C_nil _ _, fun y hy => by simp at hy, Nat.zero_le _⟩
  · simp [Value.cells] at hcs
    obtain ⟨rfl, rfl, rfl⟩ := hcs
    have hlm : len ≤ m := by rw [hmm]; split <;> omega
    obtain ⟨f, hf2⟩ := Go.Deep.choose_lt (n := len) (p := fun i y => (∃ cs', w.cells? base (x.add (i * P.cellsOf e)) (P.cellsOf e) = some cs' ∧ d.K w y cs') ∧ wf y) (fun i hi => by
      obtain ⟨cs', h1, h2⟩ := hx i (by omega)
      obtain ⟨y, h3, h4⟩ := hopen _ _ _ h2
      exact ⟨y, ⟨cs', h1, h3⟩, h4⟩)
    have hlen : ((List.range len).map f).length = len := by simp
    refine ⟨(List.range len).map f, hlen, hl, ⟨rfl, by rw [hlen]; unfold maxLen at hm; omega, fun hp => ⟨x, rfl, fun j p hj => ?_⟩⟩, fun y hy => ?_, by omega⟩
    · obtain ⟨hjl, hjp⟩ := List.getElem?_eq_some_iff.1 hj
      rw [hlen] at hjl
      have : p = f j := by rw [← hjp]; simp
      subst this
      obtain ⟨⟨cs', h1, h2⟩, _⟩ := hf2 j hjl
      obtain ⟨_, hcl, hcc⟩ := World.cells?_some h1
      refine ⟨cs', by rw [hcl, hc], h2, fun i u hu => ?_⟩
      have hi : i < P.cellsOf e := by have := (List.getElem?_eq_some_iff.1 hu).1; omega
      have := hcc i hi
      rw [Go.Deep.add_add, hc] at this
      rw [this, hu]
    · obtain ⟨i, hi, rfl⟩ := List.mem_map.1 hy
      exact (hf2 i (List.mem_range.1 hi)).2
instance : Inhabited S67 := ⟨z67⟩
set_option maxRecDepth 100000 in
theorem lifted (os : Os) (started : os.Started) (H : Type) (enc : TypeId × Value → H) :
    ReturnsInHanded {} Try.checked os 14 .any (Rows.posFloorsSpec.pre6 enc Try.prog Try.f14 Rows.posFloorsRow.domain false) (Rows.posFloorsSpec.post enc Try.prog Try.f14 false true false false) := by
  refine returnsInHanded_of_change_sized (C := Try.checked) own started (by kernel_rfl) Try.func14
    (ChangeSpec.witness6 (enc := enc) (C := Try.checked) false ⟨#[], #[.int .u64 0, .slice none 0 0], []⟩ 8 (by kernel_rfl) (by kernel_rfl) (by kernel_rfl) (by kernel_rfl)) ?_
  intro W base args ds gs before hval0 hW hcnd hsz0 _
  have hsz : (DataW.weightsEach Try.prog (Try.f14.params.toList ++ Rows.posFloorsSpec.plain.varTypes Try.prog) (ds ++ gs)).all (· ≤ reachBytes) = true := hsz0
  have hval : ∀ (j : Nat) t v, Try.f14.params[j]? = some t → args[j]? = some v → Value.okWide Try.prog W .any base t v := hval0
  have hW' := hW
  obtain ⟨p, q, hA0, hV, rfl, hfz, hnd⟩ := hW
  have hA : DataW.TrodAll enc Try.prog W 0 (fun _ => true) true Try.f14.params.toList args.toList ds p := hA0
  rw [Try.params14] at hA hval hsz
  obtain ⟨v0, vs0, d0, ds0, p0, q0, hargs, rfl, rfl, h0, r0⟩ := trodAll_cons hA
  obtain ⟨v1, vs1, d1, ds1, p1, q1, rfl, rfl, rfl, h1, r1⟩ := trodAll_cons r0
  obtain ⟨rfl, rfl, rfl⟩ := trodAll_nil r1
  obtain rfl : args = #[v0, v1] := by cases args; simp_all
  obtain ⟨rfl, rfl⟩ := trodVars_none hV
  obtain ⟨a0, rfl, rfl, rfl, w0⟩ := open_int Try.underlying22 (hval 0 22 v0 rfl rfl) h0
  obtain ⟨a1, len1, cap1, rfl⟩ := okWide_slice Try.underlying77 (hval 1 77 v1 rfl rfl)
  have k1 := h1
  have lt1 : ∀ x ∈ p1, x.block < W.heap.size := by obtain ⟨m, hm⟩ := k1; exact DataW.trod_lt m _ _ _ hm
  obtain ⟨l1, rfl, hc1, hr1, hw1, hm1⟩ := open_row_of k67 wfS67 Try.underlying77 (by kernel_rfl) (fun fuel cs x hx => by
    obtain ⟨x0, x1, x2, rfl, s0, s1, s2⟩ := openS67 hx
    exact ⟨(⟨x0, x1, x2⟩ : S67), k67_mk W _, ⟨s0, s1, s2⟩⟩) h1
  clear hA0 hval0 hsz0 hsz
  refine (Print.turnstonelaw04_PosFloors.walk Pure.PosFloors a0 a1 cap1 l1 W w0 hr1 hc1 hm1 hw1).mono fun e W' ⟨he, bel⟩ => ?_
  subst he
  exact ⟨_, rfl, _, _, _, [], _, [], hW', trodAll_mk1 (shut_bool Try.underlying4 _), (trodAll_cons_mk (shut_int Try.underlying22 w0) (trodAll_cons_mk (Below.trod laidOut (by kernel_rfl) (of_decide_eq_true (by kernel_rfl)) k1 bel lt1) trodAll_mk0)), rfl, bel.frame _, fun h => by cases h⟩
theorem over : Rows.posFloorsRow.holds Try.pinned (OpenSpec.ofChange Rows.posFloorsSpec) :=
  OpenClaim.holds_of_wide 14 Try.f14 rfl rfl rfl rfl rfl rfl rfl ⟨rfl, rfl, rfl, rfl, rfl⟩ rfl rfl rfl rfl rfl (by kernel_rfl) Try.func14 (by kernel_rfl)
    (of_decide_eq_true (by kernel_rfl)) (by unfold Func.isWrapper; first | (rw [if_pos (by decide +kernel)]; kernel_rfl) | (rw [if_neg (by decide +kernel)]; exact ⟨rfl, rfl⟩))
    (fun os started H enc _ => lifted os started H enc)
theorem proved : Rows.PosFloorsSaid := over
#print axioms proved
end Go.Proofs.Ytimgiiceipjpaaa.posFloors
namespace Go.Proofs.Ytimgiiceipjpaaa
/-- The row, under a short name, for the claim. -/
theorem posFloors_holds : Rows.PosFloorsSaid := posFloors.proved
end Go.Proofs.Ytimgiiceipjpaaa
