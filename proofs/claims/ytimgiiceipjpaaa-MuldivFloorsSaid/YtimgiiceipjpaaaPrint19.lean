/- What each Go function that is named below answers, as a Lean function, and that its walk comes to just that: for whatever arguments that function gives an answer for. Written by a program of this session (wip/mkpr.py, pr.sh). -/
import Derived.Test.YtimgiiceipjpaaaPrint0
import Derived.Test.YtimgiiceipjpaaaPrint1
import Derived.Test.YtimgiiceipjpaaaPrint3
import Derived.Test.YtimgiiceipjpaaaPrint6
import Derived.Test.YtimgiiceipjpaaaPrint11
import Derived.Test.YtimgiiceipjpaaaPrint12
import Derived.Test.YtimgiiceipjpaaaPrint14
import Derived.Test.YtimgiiceipjpaaaPrint16
import Derived.Test.YtimgiiceipjpaaaPrint17
import Derived.Test.YtimgiiceipjpaaaPrint18
namespace Go.Proofs.Ytimgiiceipjpaaa.Print
open Go.RowKit Go.Proofs.YtimgiiceipjpaaaW.PrintWords Go.Proofs.YtimgiiceipjpaaaW.PrintLast Go.Proofs.YtimgiiceipjpaaaW.PrintMore
attribute [local go_sem] max2_int min2_int max_two min_two max_three min_three max_four min_four   -- for this text's walks alone
open Go.Proofs.Ytimgiiceipjpaaa.Bits Go.Proofs.Ytimgiiceipjpaaa.Short
attribute [local go_sem] add64_run0 sub64_run0 add64_run sub64_run
set_option linter.unusedVariables false
set_option linter.unusedSimpArgs false

attribute [local go_sem high] eqA59
/-! ### turnstonelaw02_MuldivFloors: function 12 -/
def turnstonelaw02_MuldivFloors.j0 : Nat → Int → Bool → Bool → Int → Int → Bool → List Int → Option (Bool)
 | 0, _, _, _, _, _, _, _ => none
 | k + 1, x2, x8, x34, x438000, x438001, x451000, x451001 => if x34 = true then (if x8 = true then (none) else (some (x438000 == 0 && (x438001 == 0)))) else (if x8 = true then ((turnstonelaw01_Of.f k x438000 x438001).bind fun bt452 => ((turnstonelaw01_Of.f k x438000 x438001).bind fun bt456 => ((turnstoneref01_U.f k x2).bind fun bt460 => ((turnstoneref01_Mul.f k bt456.1 bt456.2 bt460.1 bt460.2).bind fun bt464 => ((turnstoneref01_Sub.f k x451000 x451001 bt464.1 bt464.2).bind fun bt468 => ((turnstoneref02_Is.f k x451000 x451001 x2 bt452.1 bt452.2 bt468.1 bt468.2).bind fun t472 => (some t472))))))) else (none))
def turnstonelaw02_MuldivFloors.f (k : Nat) (a0_0 : Int) (a0_1 : Int) (a1 : Int) (a2 : Int) : Option (Bool) := (turnstonelaw02_awake.f).bind fun t433 => (if t433 = true then ((muldiv_Floor.f k a0_0 a0_1 a1 a2).bind fun bt434 => ((turnstonelaw01_Of.f k a0_0 a0_1).bind fun bt438 => ((turnstoneref01_U.f k a1).bind fun bt442 => ((turnstoneref01_Mul.f k bt438.1 bt438.2 bt442.1 bt442.2).bind fun bt446 => (if a2 = 0 then (turnstonelaw02_MuldivFloors.j0 k a2 bt434.2.2 true bt434.1 bt434.2.1 bt446.1 bt446.2) else (if a1 ≥ 9223372036854775808 then (turnstonelaw02_MuldivFloors.j0 k a2 bt434.2.2 true bt434.1 bt434.2.1 bt446.1 bt446.2) else ((turnstoneref01_Is.f k bt446.1 bt446.2).bind fun t451 => (turnstonelaw02_MuldivFloors.j0 k a2 bt434.2.2 (!t451) bt434.1 bt434.2.1 bt446.1 bt446.2)))))))) else (none))
theorem turnstonelaw02_MuldivFloors.mono_l : ∀ k, (∀ y0 y1 y2 y3 y4 y5 y6, LeO (turnstonelaw02_MuldivFloors.j0 k y0 y1 y2 y3 y4 y5 y6) (turnstonelaw02_MuldivFloors.j0 (k + 1) y0 y1 y2 y3 y4 y5 y6))
 | 0 => fun _ _ _ _ _ _ _ r h => by simp [turnstonelaw02_MuldivFloors.j0] at h
 | k + 1 => by
  have ih0 := turnstonelaw02_MuldivFloors.mono_l k
  ·intro y0 y1 y2 y3 y4 y5 y6
   unfold turnstonelaw02_MuldivFloors.j0
   repeat' first
   | (with_reducible exact ih0 _ _ _ _ _ _ _)
   | (with_reducible exact muldiv_Floor.mono _ _ _ _ _)
   | (with_reducible exact turnstonelaw01_Of.mono _ _ _)
   | (with_reducible exact turnstoneref01_Is.mono _ _ _)
   | (with_reducible exact turnstoneref01_Mul.mono _ _ _ _ _)
   | (with_reducible exact turnstoneref01_Sub.mono _ _ _ _ _)
   | (with_reducible exact turnstoneref01_U.mono _ _)
   | (with_reducible exact turnstoneref02_Is.mono _ _ _ _ _ _ _ _)
   | (with_reducible exact LeO.refl _)
   | (with_reducible exact LeO.none _)
   | (with_reducible refine LeO.ite ?_ ?_)
   | (with_reducible refine LeO.bind ?_ (fun _ => ?_))
   | exact ih0 _ _ _ _ _ _ _
   | exact muldiv_Floor.mono _ _ _ _ _
   | exact turnstonelaw01_Of.mono _ _ _
   | exact turnstoneref01_Is.mono _ _ _
   | exact turnstoneref01_Mul.mono _ _ _ _ _
   | exact turnstoneref01_Sub.mono _ _ _ _ _
   | exact turnstoneref01_U.mono _ _
   | exact turnstoneref02_Is.mono _ _ _ _ _ _ _ _
   | exact LeO.none _
   | refine LeO.ite ?_ ?_
   | refine LeO.bind ?_ (fun _ => ?_)
theorem turnstonelaw02_MuldivFloors.mono : ∀ a0 a1 a2 a3 k, LeO (turnstonelaw02_MuldivFloors.f k a0 a1 a2 a3) (turnstonelaw02_MuldivFloors.f (k + 1) a0 a1 a2 a3) := by
 intro a0 a1 a2 a3 k
 have ih0 := turnstonelaw02_MuldivFloors.mono_l k
 unfold turnstonelaw02_MuldivFloors.f
 repeat' first
   | (with_reducible exact ih0 _ _ _ _ _ _ _)
   | (with_reducible exact muldiv_Floor.mono _ _ _ _ _)
   | (with_reducible exact turnstonelaw01_Of.mono _ _ _)
   | (with_reducible exact turnstoneref01_Is.mono _ _ _)
   | (with_reducible exact turnstoneref01_Mul.mono _ _ _ _ _)
   | (with_reducible exact turnstoneref01_Sub.mono _ _ _ _ _)
   | (with_reducible exact turnstoneref01_U.mono _ _)
   | (with_reducible exact turnstoneref02_Is.mono _ _ _ _ _ _ _ _)
   | (with_reducible exact LeO.refl _)
   | (with_reducible exact LeO.none _)
   | (with_reducible refine LeO.ite ?_ ?_)
   | (with_reducible refine LeO.bind ?_ (fun _ => ?_))
   | exact ih0 _ _ _ _ _ _ _
   | exact muldiv_Floor.mono _ _ _ _ _
   | exact turnstonelaw01_Of.mono _ _ _
   | exact turnstoneref01_Is.mono _ _ _
   | exact turnstoneref01_Mul.mono _ _ _ _ _
   | exact turnstoneref01_Sub.mono _ _ _ _ _
   | exact turnstoneref01_U.mono _ _
   | exact turnstoneref02_Is.mono _ _ _ _ _ _ _ _
   | exact LeO.none _
   | refine LeO.ite ?_ ?_
   | refine LeO.bind ?_ (fun _ => ?_)
def turnstonelaw02_MuldivFloors.T7 : Bool × List (List Nat × List Nat) := (true, [([], []), ([0], [0]), ([1], [1]), ([1], [1]), ([1], [1]), ([4, 1, 1], [1, 4]), ([1], [1]), ([1], [1]), ([7, 5, 1], [1, 7]), ([1], [1]), ([9, 8, 1], [1, 9]), ([8, 10, 10, 1], [1, 8, 10]), ([6, 11, 11, 1], [1, 6, 11]), ([2, 3, 5, 12, 12, 1], [1, 2, 3, 5, 12]), ([1, 13], [1, 13]), ([14, 13, 0, 1, 2, 3, 4, 5, 6, 7, 8, 9, 10, 11, 12, 13, 14], [14])])
def turnstonelaw02_MuldivFloors.B7 : List Nat := [0, 1, 3, 3, 3, 19, 3, 3, 179, 3, 947, 1971, 4083, 8191, 16383, 32767]
theorem turnstonelaw02_MuldivFloors.tab7 : rtab .any (opsOf Try.f12 7) = turnstonelaw02_MuldivFloors.T7 := by kernel_rfl
theorem turnstonelaw02_MuldivFloors.bits7 : waitsOk turnstonelaw02_MuldivFloors.T7.2 turnstonelaw02_MuldivFloors.B7 = true := by kernel_rfl
set_option maxHeartbeats 8000000 in
set_option maxRecDepth 100000 in
theorem turnstonelaw02_MuldivFloors.calls (k : Nat) (a0_0 : Int) (a0_1 : Int) (a1 : Int) (a2 : Int) (r : Bool) (w : World) (h : turnstonelaw02_MuldivFloors.f k a0_0 a0_1 a1 a2 = some r) :
  Calls Try.prog 12 #[.agg #[.int .i64 a0_0, .int .u64 a0_1], .int .u64 a1, .int .u64 a2] w fun e w' => e = .returned (.bool r) ∧ Below w.heap.size w w' := by
 have hu59 := Try.underlying59
 have hu28 := Try.underlying28
 have HB := Aside0.mk (Below.refl w.heap.size w)
 have H : ((turnstonelaw02_awake.f).bind fun t433 => (if t433 = true then ((muldiv_Floor.f k a0_0 a0_1 a1 a2).bind fun bt434 => ((turnstonelaw01_Of.f k a0_0 a0_1).bind fun bt438 => ((turnstoneref01_U.f k a1).bind fun bt442 => ((turnstoneref01_Mul.f k bt438.1 bt438.2 bt442.1 bt442.2).bind fun bt446 => (if a2 = 0 then (turnstonelaw02_MuldivFloors.j0 k a2 bt434.2.2 true bt434.1 bt434.2.1 bt446.1 bt446.2) else (if a1 ≥ 9223372036854775808 then (turnstonelaw02_MuldivFloors.j0 k a2 bt434.2.2 true bt434.1 bt434.2.1 bt446.1 bt446.2) else ((turnstoneref01_Is.f k bt446.1 bt446.2).bind fun t451 => (turnstonelaw02_MuldivFloors.j0 k a2 bt434.2.2 (!t451) bt434.1 bt434.2.1 bt446.1 bt446.2)))))))) else (none))) = some r := h
 clear h
 replace H := Option.bind_eq_some_iff.mp H
 obtain ⟨t433, A40, H⟩ := H
 replace H : (if t433 = true then ((muldiv_Floor.f k a0_0 a0_1 a1 a2).bind fun bt434 => ((turnstonelaw01_Of.f k a0_0 a0_1).bind fun bt438 => ((turnstoneref01_U.f k a1).bind fun bt442 => ((turnstoneref01_Mul.f k bt438.1 bt438.2 bt442.1 bt442.2).bind fun bt446 => (if a2 = 0 then (turnstonelaw02_MuldivFloors.j0 k a2 bt434.2.2 true bt434.1 bt434.2.1 bt446.1 bt446.2) else (if a1 ≥ 9223372036854775808 then (turnstonelaw02_MuldivFloors.j0 k a2 bt434.2.2 true bt434.1 bt434.2.1 bt446.1 bt446.2) else ((turnstoneref01_Is.f k bt446.1 bt446.2).bind fun t451 => (turnstonelaw02_MuldivFloors.j0 k a2 bt434.2.2 (!t451) bt434.1 bt434.2.1 bt446.1 bt446.2)))))))) else (none)) = some r := H
 have A4 := Aside0.mk A40
 clear A40
 by_cases c5 : t433 = true
 ·subst c5
  have H1 : ((muldiv_Floor.f k a0_0 a0_1 a1 a2).bind fun bt434 => ((turnstonelaw01_Of.f k a0_0 a0_1).bind fun bt438 => ((turnstoneref01_U.f k a1).bind fun bt442 => ((turnstoneref01_Mul.f k bt438.1 bt438.2 bt442.1 bt442.2).bind fun bt446 => (if a2 = 0 then (turnstonelaw02_MuldivFloors.j0 k a2 bt434.2.2 true bt434.1 bt434.2.1 bt446.1 bt446.2) else (if a1 ≥ 9223372036854775808 then (turnstonelaw02_MuldivFloors.j0 k a2 bt434.2.2 true bt434.1 bt434.2.1 bt446.1 bt446.2) else ((turnstoneref01_Is.f k bt446.1 bt446.2).bind fun t451 => (turnstonelaw02_MuldivFloors.j0 k a2 bt434.2.2 (!t451) bt434.1 bt434.2.1 bt446.1 bt446.2)))))))) = some r := by rw [if_pos rfl] at H; exact H
  clear H
  have H := H1
  clear H1
  replace H := Option.bind_eq_some_iff.mp H
  obtain ⟨⟨t434, t435, t436⟩, A60, H⟩ := H
  replace H : ((turnstonelaw01_Of.f k a0_0 a0_1).bind fun bt438 => ((turnstoneref01_U.f k a1).bind fun bt442 => ((turnstoneref01_Mul.f k bt438.1 bt438.2 bt442.1 bt442.2).bind fun bt446 => (if a2 = 0 then (turnstonelaw02_MuldivFloors.j0 k a2 t436 true t434 t435 bt446.1 bt446.2) else (if a1 ≥ 9223372036854775808 then (turnstonelaw02_MuldivFloors.j0 k a2 t436 true t434 t435 bt446.1 bt446.2) else ((turnstoneref01_Is.f k bt446.1 bt446.2).bind fun t451 => (turnstonelaw02_MuldivFloors.j0 k a2 t436 (!t451) t434 t435 bt446.1 bt446.2))))))) = some r := H
  have A6 := Aside0.mk A60
  clear A60
  replace H := Option.bind_eq_some_iff.mp H
  obtain ⟨⟨t438, t439⟩, A70, H⟩ := H
  replace H : ((turnstoneref01_U.f k a1).bind fun bt442 => ((turnstoneref01_Mul.f k t438 t439 bt442.1 bt442.2).bind fun bt446 => (if a2 = 0 then (turnstonelaw02_MuldivFloors.j0 k a2 t436 true t434 t435 bt446.1 bt446.2) else (if a1 ≥ 9223372036854775808 then (turnstonelaw02_MuldivFloors.j0 k a2 t436 true t434 t435 bt446.1 bt446.2) else ((turnstoneref01_Is.f k bt446.1 bt446.2).bind fun t451 => (turnstonelaw02_MuldivFloors.j0 k a2 t436 (!t451) t434 t435 bt446.1 bt446.2)))))) = some r := H
  have A7 := Aside0.mk A70
  clear A70
  replace H := Option.bind_eq_some_iff.mp H
  obtain ⟨⟨t442, t443⟩, A80, H⟩ := H
  replace H : ((turnstoneref01_Mul.f k t438 t439 t442 t443).bind fun bt446 => (if a2 = 0 then (turnstonelaw02_MuldivFloors.j0 k a2 t436 true t434 t435 bt446.1 bt446.2) else (if a1 ≥ 9223372036854775808 then (turnstonelaw02_MuldivFloors.j0 k a2 t436 true t434 t435 bt446.1 bt446.2) else ((turnstoneref01_Is.f k bt446.1 bt446.2).bind fun t451 => (turnstonelaw02_MuldivFloors.j0 k a2 t436 (!t451) t434 t435 bt446.1 bt446.2))))) = some r := H
  have A8 := Aside0.mk A80
  clear A80
  replace H := Option.bind_eq_some_iff.mp H
  obtain ⟨⟨t446, t447⟩, A90, H⟩ := H
  replace H : (if a2 = 0 then (turnstonelaw02_MuldivFloors.j0 k a2 t436 true t434 t435 t446 t447) else (if a1 ≥ 9223372036854775808 then (turnstonelaw02_MuldivFloors.j0 k a2 t436 true t434 t435 t446 t447) else ((turnstoneref01_Is.f k t446 t447).bind fun t451 => (turnstonelaw02_MuldivFloors.j0 k a2 t436 (!t451) t434 t435 t446 t447)))) = some r := H
  have A9 := Aside0.mk A90
  clear A90
  have HC10 := Aside0.mk H
  clear H
  go_enter Try.func12, Try.ntmps12
  go_upto_region 5 with (first | ((with_reducible refine gate_dst (N := 3) rfl ?_); refine box_event ?hg (N := 3) ?hd (cs := #[.int .i64 a0_0, .int .u64 a0_1]) (t := 59) ?hr ?_; (case hd => rfl); (case hg => rfl); (case hr => first | (go_simp; done) | (go_simp; rfl)); intro gb432 hg w11 hbox hb; have n0_ := belb HB hb; have n1_ := Aside0.mk (hbox); have n2_ := bels HB hg; have n3_ := bels HB hg; clear HB; have HB := n0_; have BK432 := n1_; have GW432 := n2_; have GE432 := n3_; clear n0_ n1_ n2_ n3_; clear hb hbox hg) | ((with_reducible refine gate_callee (f := 33) rfl ?_); refine goesL_ (some 10) rfl rfl Try.func33 (by kernel_rfl) rfl #[] rfl argt ?_; (with_reducible refine (turnstonelaw02_awake.calls  true _ A4.out).mono ?_); rintro e w12 ⟨rfl, hb⟩; refine ⟨_, rfl, ?_⟩; have n0_ := blkb BK432 hb; have n1_ := belb HB hb; clear BK432; clear HB; have BK432 := n0_; have HB := n1_; clear n0_ n1_; (try clear hb); (try clear hb2); (try clear hk); (try clear hi); have hcz13_0 : w12.cell? ⟨gb432, 0, none⟩ = some (.int .i64 a0_0) := (blk_cell BK432.out 0).trans rfl; have hcz13_1 : w12.cell? ⟨gb432, 1, none⟩ = some (.int .u64 a0_1) := (blk_cell BK432.out 1).trans rfl; have hfz13_0 := blk_frozen BK432.out 0; have hfz13_1 := blk_frozen BK432.out 1) | ((with_reducible refine gate_callee (f := 39) rfl ?_); refine goesL_ (some 16) rfl rfl Try.func39 (by kernel_rfl) rfl #[.agg #[.int .i64 a0_0, .int .u64 a0_1], .int .u64 a1, .int .u64 a2] rfl argt ?_; (with_reducible refine (muldiv_Floor.calls k a0_0 a0_1 a1 a2 t434 t435 t436 _ A6.out).mono ?_); rintro e w14 ⟨rfl, hb⟩; refine ⟨_, rfl, ?_⟩; have n0_ := blkb BK432 hb; have n1_ := belb HB hb; clear BK432; clear HB; have BK432 := n0_; have HB := n1_; clear n0_ n1_; (try clear hb); (try clear hb2); (try clear hk); (try clear hi)) | ((with_reducible refine gate_dst (N := 7) rfl ?_); refine box_event ?hg (N := 7) ?hd (cs := #[.int .i64 0, .int .u64 0]) (t := 59) ?hr ?_; (case hd => rfl); (case hg => rfl); (case hr => first | (go_simp; done) | (go_simp; rfl)); intro gb437 hg w15 hbox hb; have n0_ := blkb BK432 hb; have n1_ := belb HB hb; have n2_ := Aside0.mk (hbox); have n3_ := bels HB hg; have n4_ := bels HB hg; have n5_ := blkl BK432 hg; have n6_ := blkg BK432 hg; clear BK432; clear HB; have BK432 := n0_; have HB := n1_; have BK437 := n2_; have GW437 := n3_; have GE437 := n4_; have NB432_437 := n5_; have NB437_432 := n6_; clear n0_ n1_ n2_ n3_ n4_ n5_ n6_; clear hb hbox hg; have hnb16 := NB437_432.out; have hnc16 := NB432_437.out; have hcz17_0 : w15.cell? ⟨gb437, 0, none⟩ = some (.int .i64 0) := (blk_cell BK437.out 0).trans rfl; have hcz17_1 : w15.cell? ⟨gb437, 1, none⟩ = some (.int .u64 0) := (blk_cell BK437.out 1).trans rfl; have hfz17_0 := blk_frozen BK437.out 0; have hfz17_1 := blk_frozen BK437.out 1; have hcz18_0 : w15.cell? ⟨gb432, 0, none⟩ = some (.int .i64 a0_0) := (blk_cell BK432.out 0).trans rfl; have hcz18_1 : w15.cell? ⟨gb432, 1, none⟩ = some (.int .u64 a0_1) := (blk_cell BK432.out 1).trans rfl; have hfz18_0 := blk_frozen BK432.out 0; have hfz18_1 := blk_frozen BK432.out 1) | ((with_reducible refine gate_callee (f := 41) rfl ?_); refine goesL_ (some 20) rfl rfl Try.func41 (by kernel_rfl) rfl #[.agg #[.int .i64 a0_0, .int .u64 a0_1]] rfl argt ?_; (with_reducible refine (turnstonelaw01_Of.calls k a0_0 a0_1 t438 t439 _ A7.out).mono ?_); rintro e w19 ⟨v440, rfl, ho0, hb⟩; refine ⟨_, rfl, ?_⟩; have n0_ := Aside0.mk (Kd.V_lower (Kd.V_mono (ok' := fun k_ => k_ ≠ gb432 ∧ k_ ≠ gb437) ho0 (fun k_ hk_ => ⟨(Kd.freshB (g := gb432) (o := .cells #[.int .i64 a0_0, .int .u64 a0_1] 59 (0, 0)) (by (with_reducible repeat (first | refine blk_drewN ?_ _ | refine blk_drew ?_ | refine blk_alloc ?_ _)); refine blk_far ?_ NB432_437.out _; (with_reducible repeat (first | refine blk_drewN ?_ _ | refine blk_drew ?_ | refine blk_alloc ?_ _)); refine blk_far ?_ NB432_437.out _; (with_reducible repeat (first | refine blk_drewN ?_ _ | refine blk_drew ?_ | refine blk_alloc ?_ _)); exact BK432.out) k_ hk_), (Kd.freshB (g := gb437) (o := .cells #[.int .i64 t434, .int .u64 t435] 59 (0, 0)) (by (with_reducible repeat (first | refine blk_drewN ?_ _ | refine blk_drew ?_ | refine blk_alloc ?_ _)); refine blk_put (cs := #[.int .i64 t434, .int .u64 0]) ?_ 1 _ rfl; (with_reducible repeat (first | refine blk_drewN ?_ _ | refine blk_drew ?_ | refine blk_alloc ?_ _)); refine blk_put (cs := #[.int .i64 0, .int .u64 0]) ?_ 0 _ rfl; (with_reducible repeat (first | refine blk_drewN ?_ _ | refine blk_drew ?_ | refine blk_alloc ?_ _)); exact BK437.out) k_ hk_)⟩)) (below_size (belt HB))); have n1_ := Aside0.mk (blk_below (g := gb432) (o := .cells #[.int .i64 a0_0, .int .u64 a0_1] 59 (0, 0)) (by (with_reducible repeat (first | refine blk_drewN ?_ _ | refine blk_drew ?_ | refine blk_alloc ?_ _)); refine blk_far ?_ NB432_437.out _; (with_reducible repeat (first | refine blk_drewN ?_ _ | refine blk_drew ?_ | refine blk_alloc ?_ _)); refine blk_far ?_ NB432_437.out _; (with_reducible repeat (first | refine blk_drewN ?_ _ | refine blk_drew ?_ | refine blk_alloc ?_ _)); exact BK432.out) hb); have n2_ := Aside0.mk (blk_below (g := gb437) (o := .cells #[.int .i64 t434, .int .u64 t435] 59 (0, 0)) (by (with_reducible repeat (first | refine blk_drewN ?_ _ | refine blk_drew ?_ | refine blk_alloc ?_ _)); refine blk_put (cs := #[.int .i64 t434, .int .u64 0]) ?_ 1 _ rfl; (with_reducible repeat (first | refine blk_drewN ?_ _ | refine blk_drew ?_ | refine blk_alloc ?_ _)); refine blk_put (cs := #[.int .i64 0, .int .u64 0]) ?_ 0 _ rfl; (with_reducible repeat (first | refine blk_drewN ?_ _ | refine blk_drew ?_ | refine blk_alloc ?_ _)); exact BK437.out) hb); have n3_ := belb HB hb; clear BK432; clear BK437; clear HB; have HO441 := n0_; have BK432 := n1_; have BK437 := n2_; have HB := n3_; clear n0_ n1_ n2_ n3_; (try clear hb); (try clear hb2); (try clear hk); (try clear hi); (try clear ho0)) | ((with_reducible refine gate_callee (f := 24) rfl ?_); refine goesL_ (some 22) rfl rfl Try.func24 (by kernel_rfl) rfl #[.int .u64 a1] rfl argt ?_; (with_reducible refine (turnstoneref01_U.calls k a1 t442 t443 _ A8.out).mono ?_); rintro e w20 ⟨v444, rfl, ho0, hb⟩; refine ⟨_, rfl, ?_⟩; have n0_ := Aside0.mk (Kd.V_elder' (vt HO441) (Kd.R_base ho0) hb); have n1_ := Aside0.mk (Kd.R_lower ho0 (below_size (belt HB))); have n2_ := blkb BK432 hb; have n3_ := blkb BK437 hb; have n4_ := belb HB hb; clear HO441; clear BK432; clear BK437; clear HB; have HO441 := n0_; have HO445 := n1_; have BK432 := n2_; have BK437 := n3_; have HB := n4_; clear n0_ n1_ n2_ n3_ n4_; (try clear hb); (try clear hb2); (try clear hk); (try clear hi); (try clear ho0); obtain ⟨Ao21, co21, eo21⟩ := Kd.V_slice HO441.out; subst eo21; obtain ⟨Ao22, co22, eo22⟩ := Kd.R_slice HO445.out; subst eo22) | ((with_reducible refine gate_callee (f := 40) rfl ?_); refine goesL_ (some 23) rfl rfl Try.func40 (by kernel_rfl) rfl #[.agg #[.bool t438, .slice Ao21 t439.length co21], .agg #[.bool t442, .slice Ao22 t443.length co22]] rfl argt ?_; (with_reducible refine (turnstoneref01_Mul.calls k t438 _ _ t439 t442 _ _ t443 t446 t447 _ ?side1 ?side2 ?side3 ?side4 A9.out).mono ?_); (case side1 => repeat (first | exact (Kd.V_reads' HO441.out).2.2 | (with_reducible refine Kd.C_alloc ?_ _) | (with_reducible refine Kd.C_drewN ?_ _) | (with_reducible refine Kd.C_drew ?_))); (case side2 => exact (Kd.V_reads' HO441.out).2.1); (case side3 => repeat (first | exact (Kd.R_reads' HO445.out).2.2 | (with_reducible refine Kd.C_alloc ?_ _) | (with_reducible refine Kd.C_drewN ?_ _) | (with_reducible refine Kd.C_drew ?_))); (case side4 => exact (Kd.R_reads' HO445.out).2.1); rintro e w23 ⟨v448, rfl, ho0, hb⟩; refine ⟨_, rfl, ?_⟩; have n0_ := vb HO441 hb; have n1_ := rb HO445 hb; have n2_ := Aside0.mk (Kd.V_lower (Kd.V_mono (ok' := fun k_ => some k_ ≠ (.slice Ao22 t443.length co22 : Value).ownBlock ∧ k_ ≠ gb432 ∧ k_ ≠ gb437) ho0 (fun k_ hk_ => ⟨(Kd.fresh' (Kd.R_lt (rt HO445)) k_ hk_), (Kd.freshB (blkt BK432) k_ hk_), (Kd.freshB (blkt BK437) k_ hk_)⟩)) (below_size (belt HB))); have n3_ := blkb BK432 hb; have n4_ := blkb BK437 hb; have n5_ := belb HB hb; clear HO441; clear HO445; clear BK432; clear BK437; clear HB; have HO441 := n0_; have HO445 := n1_; have HO449 := n2_; have BK432 := n3_; have BK437 := n4_; have HB := n5_; clear n0_ n1_ n2_ n3_ n4_ n5_; (try clear hb); (try clear hb2); (try clear hk); (try clear hi); (try clear ho0)) | ((with_reducible refine gate_dst (N := 9) rfl ?_); refine box_event ?hg (N := 9) ?hd (cs := #[.bool false, .slice none 0 0]) (t := 28) ?hr ?_; (case hd => rfl); (case hg => rfl); (case hr => first | (go_simp; done) | (go_simp; rfl)); intro gb450 hg w24 hbox hb; have n0_ := Aside0.mk (Kd.V_below (Kd.V_elderB (vt HO441) gb450 (Nat.le_of_eq hg.symm)) hb); have n1_ := rb HO445 hb; have n2_ := Aside0.mk (Kd.V_below (Kd.V_elderB (vt HO449) gb450 (Nat.le_of_eq hg.symm)) hb); have n3_ := blkb BK432 hb; have n4_ := blkb BK437 hb; have n5_ := belb HB hb; have n6_ := Aside0.mk (hbox); have n7_ := bels HB hg; have n8_ := bels HB hg; have n9_ := blkl BK432 hg; have n10_ := blkg BK432 hg; have n11_ := blkl BK437 hg; have n12_ := blkg BK437 hg; clear HO441; clear HO445; clear HO449; clear BK432; clear BK437; clear HB; have HO441 := n0_; have HO445 := n1_; have HO449 := n2_; have BK432 := n3_; have BK437 := n4_; have HB := n5_; have BK450 := n6_; have GW450 := n7_; have GE450 := n8_; have NB432_450 := n9_; have NB450_432 := n10_; have NB437_450 := n11_; have NB450_437 := n12_; clear n0_ n1_ n2_ n3_ n4_ n5_ n6_ n7_ n8_ n9_ n10_ n11_ n12_; clear hb hbox hg; have hnb25 := NB450_432.out; have hnc25 := NB432_450.out; have hnb26 := NB450_437.out; have hnc26 := NB437_450.out; have hcz27_0 : w24.cell? ⟨gb450, 0, none⟩ = some (.bool false) := (blk_cell BK450.out 0).trans rfl; have hcz27_1 : w24.cell? ⟨gb450, 1, none⟩ = some (.slice none 0 0) := (blk_cell BK450.out 1).trans rfl; have hfz27_0 := blk_frozen BK450.out 0; have hfz27_1 := blk_frozen BK450.out 1; obtain ⟨Ao28, co28, eo28⟩ := Kd.V_slice HO449.out; subst eo28))
  (try simp only [Act.put, List.setIfInBounds_toArray, List.set_cons_zero, List.set_cons_succ])
  go_cut [34] (fun v34 wc => ∃ (kq : Nat) (x34_9 : Bool), v34 = .bool x34_9 ∧ Aside0 (turnstonelaw02_MuldivFloors.j0 kq a2 t436 x34_9 t434 t435 t446 t447 = some r) ∧ Aside0 (kq ≤ k) ∧ Aside0 (Kd.V (Kd.int .i64) 3 wc w.heap.size (fun k_ => k_ ≠ gb432 ∧ k_ ≠ gb437 ∧ k_ ≠ gb450) (.slice Ao28 t447.length co28) t447) ∧ Aside0 (wc.heap[gb432]? = some (.cells #[.int .i64 a0_0, .int .u64 a0_1] 59 (0, 0))) ∧ Aside0 (wc.heap[gb437]? = some (.cells #[.int .i64 t434, .int .u64 t435] 59 (0, 0))) ∧ Aside0 (wc.heap[gb450]? = some (.cells #[.bool t446, (.slice Ao28 t447.length co28)] 28 (0, 0))) ∧ Aside0 (Below w.heap.size w wc))
  case first =>
   have H := HC10.out
   clear HC10
   by_cases c29 : a2 = 0
   ·rw [if_pos c29] at H
    have c29b0 : (a2 == 0) = true := beq_iff_eq.mpr c29
    have c29b1 : (a2 != 0) = false := bne_eq_false_iff_eq.mpr c29
    clear c29
    (first | rw [c29b0] | (simp only [i64_w, i32_w]; rw [c29b0]) | skip)
    have H' := Aside0.mk H
    clear H
    go_wp2
    go_meet
    case rel => exact ⟨_, (true), (by first | rfl | (simp; done) | (simp [*]; done)), H', ⟨by first | omega | exact Nat.le_refl _⟩, ⟨by (with_reducible repeat (first | apply Kd.V_alloc | apply Kd.V_drewN | apply Kd.V_drew)); exact Kd.V_mono (Kd.V_far (p := ⟨gb450, 1, none⟩) (Kd.V_far (p := ⟨gb450, 0, none⟩) (Kd.V_mono HO449.out (fun k_ hk => (⟨hk, hk.2⟩ : _ ∧ k_ ≠ gb450))) (fun _ hk => hk.2) (.bool t446)) (fun _ hk => hk.2) (.slice Ao28 t447.length co28)) (fun _ hk => ⟨hk.1.1.2.1, ⟨hk.1.1.2.2, hk.1.2⟩⟩)⟩, ⟨by (with_reducible repeat (first | refine blk_drewN ?_ _ | refine blk_drew ?_ | refine blk_alloc ?_ _)); refine blk_far ?_ NB432_450.out _; (with_reducible repeat (first | refine blk_drewN ?_ _ | refine blk_drew ?_ | refine blk_alloc ?_ _)); refine blk_far ?_ NB432_450.out _; (with_reducible repeat (first | refine blk_drewN ?_ _ | refine blk_drew ?_ | refine blk_alloc ?_ _)); exact BK432.out⟩, ⟨by (with_reducible repeat (first | refine blk_drewN ?_ _ | refine blk_drew ?_ | refine blk_alloc ?_ _)); refine blk_far ?_ NB437_450.out _; (with_reducible repeat (first | refine blk_drewN ?_ _ | refine blk_drew ?_ | refine blk_alloc ?_ _)); refine blk_far ?_ NB437_450.out _; (with_reducible repeat (first | refine blk_drewN ?_ _ | refine blk_drew ?_ | refine blk_alloc ?_ _)); exact BK437.out⟩, ⟨by (with_reducible repeat (first | refine blk_drewN ?_ _ | refine blk_drew ?_ | refine blk_alloc ?_ _)); refine blk_put (cs := #[.bool t446, .slice none 0 0]) ?_ 1 _ rfl; (with_reducible repeat (first | refine blk_drewN ?_ _ | refine blk_drew ?_ | refine blk_alloc ?_ _)); refine blk_put (cs := #[.bool false, .slice none 0 0]) ?_ 0 _ rfl; (with_reducible repeat (first | refine blk_drewN ?_ _ | refine blk_drew ?_ | refine blk_alloc ?_ _)); exact BK450.out⟩, ⟨by repeat (first | (with_reducible first | exact HB.out | apply below_alloc | apply pw_below_drewN | apply below_drew1 | refine below_set ?_ GE432.out | refine below_set ?_ GE437.out | refine below_set ?_ GE450.out) | exact HB.out)⟩⟩
   ·rw [if_neg c29] at H
    have c29b0 : (a2 == 0) = false := beq_eq_false_iff_ne.mpr c29
    have c29b1 : (a2 != 0) = true := bne_iff_ne.mpr c29
    (first | rw [c29b0] | (simp only [i64_w, i32_w]; rw [c29b0]) | skip)
    by_cases c30 : a1 ≥ 9223372036854775808
    ·rw [if_pos c30] at H
     have c30b0 : decide (9223372036854775808 ≤ a1) = true := decide_eq_true c30
     clear c30
     have H' := Aside0.mk H
     clear H
     go_wp2
     go_meet
     case rel => exact ⟨_, (true), (by first | rfl | (simp; done) | (simp [*]; done)), H', ⟨by first | omega | exact Nat.le_refl _⟩, ⟨by (with_reducible repeat (first | apply Kd.V_alloc | apply Kd.V_drewN | apply Kd.V_drew)); exact Kd.V_mono (Kd.V_far (p := ⟨gb450, 1, none⟩) (Kd.V_far (p := ⟨gb450, 0, none⟩) (Kd.V_mono HO449.out (fun k_ hk => (⟨hk, hk.2⟩ : _ ∧ k_ ≠ gb450))) (fun _ hk => hk.2) (.bool t446)) (fun _ hk => hk.2) (.slice Ao28 t447.length co28)) (fun _ hk => ⟨hk.1.1.2.1, ⟨hk.1.1.2.2, hk.1.2⟩⟩)⟩, ⟨by (with_reducible repeat (first | refine blk_drewN ?_ _ | refine blk_drew ?_ | refine blk_alloc ?_ _)); refine blk_far ?_ NB432_450.out _; (with_reducible repeat (first | refine blk_drewN ?_ _ | refine blk_drew ?_ | refine blk_alloc ?_ _)); refine blk_far ?_ NB432_450.out _; (with_reducible repeat (first | refine blk_drewN ?_ _ | refine blk_drew ?_ | refine blk_alloc ?_ _)); exact BK432.out⟩, ⟨by (with_reducible repeat (first | refine blk_drewN ?_ _ | refine blk_drew ?_ | refine blk_alloc ?_ _)); refine blk_far ?_ NB437_450.out _; (with_reducible repeat (first | refine blk_drewN ?_ _ | refine blk_drew ?_ | refine blk_alloc ?_ _)); refine blk_far ?_ NB437_450.out _; (with_reducible repeat (first | refine blk_drewN ?_ _ | refine blk_drew ?_ | refine blk_alloc ?_ _)); exact BK437.out⟩, ⟨by (with_reducible repeat (first | refine blk_drewN ?_ _ | refine blk_drew ?_ | refine blk_alloc ?_ _)); refine blk_put (cs := #[.bool t446, .slice none 0 0]) ?_ 1 _ rfl; (with_reducible repeat (first | refine blk_drewN ?_ _ | refine blk_drew ?_ | refine blk_alloc ?_ _)); refine blk_put (cs := #[.bool false, .slice none 0 0]) ?_ 0 _ rfl; (with_reducible repeat (first | refine blk_drewN ?_ _ | refine blk_drew ?_ | refine blk_alloc ?_ _)); exact BK450.out⟩, ⟨by repeat (first | (with_reducible first | exact HB.out | apply below_alloc | apply pw_below_drewN | apply below_drew1 | refine below_set ?_ GE432.out | refine below_set ?_ GE437.out | refine below_set ?_ GE450.out) | exact HB.out)⟩⟩
    ·rw [if_neg c30] at H
     have c30b0 : decide (9223372036854775808 ≤ a1) = false := decide_eq_false c30
     clear c30
     replace H := Option.bind_eq_some_iff.mp H
     obtain ⟨t451, A310, H⟩ := H
     replace H : (turnstonelaw02_MuldivFloors.j0 k a2 t436 (!t451) t434 t435 t446 t447) = some r := H
     have A31 := Aside0.mk A310
     clear A310
     have H' := Aside0.mk H
     clear H
     have hnb32 := NB450_432.out
     have hnc32 := NB432_450.out
     have hnb33 := NB450_437.out
     have hnc33 := NB437_450.out
     have hcz34_0 : w24.cell? ⟨gb450, 0, none⟩ = some (.bool false) := (blk_cell BK450.out 0).trans rfl
     have hcz34_1 : w24.cell? ⟨gb450, 1, none⟩ = some (.slice none 0 0) := (blk_cell BK450.out 1).trans rfl
     have hfz34_0 := blk_frozen BK450.out 0
     have hfz34_1 := blk_frozen BK450.out 1
     go_wp2_with (first | (go_at_call 42; (with_reducible refine (turnstoneref01_Is.calls k t446 _ _ t447 t451 _ ?side1 ?side2 A31.out).mono ?_); (case side1 => refine (Kd.V_reads' (e := 3) (base := w.heap.size) (ok := fun k_ => ((some k_ ≠ (.slice Ao22 t443.length co22 : Value).ownBlock ∧ (k_ ≠ gb432 ∧ k_ ≠ gb437)) ∧ k_ ≠ gb450)) (n := t447.length) (c := co28) ?_).2.2; exact (by (with_reducible repeat (first | apply Kd.V_alloc | apply Kd.V_drewN | apply Kd.V_drew)); exact (Kd.V_mono (Kd.V_far (p := ⟨gb450, 1, none⟩) (Kd.V_far (p := ⟨gb450, 0, none⟩) (Kd.V_mono HO449.out (fun k_ hk => (⟨hk, hk.2⟩ : _ ∧ k_ ≠ gb450))) (fun _ hk => hk.2) (.bool t446)) (fun _ hk => hk.2) (.slice Ao28 t447.length co28)) (fun _ h_ => h_.1)))); (case side2 => exact (Kd.V_reads' HO449.out).2.1); rintro e w35 ⟨rfl, hb⟩; have n0_ := Aside0.mk (Kd.V_below (by (with_reducible repeat (first | apply Kd.V_alloc | apply Kd.V_drewN | apply Kd.V_drew)); exact (Kd.V_mono (Kd.V_far (p := ⟨gb450, 1, none⟩) (Kd.V_far (p := ⟨gb450, 0, none⟩) (Kd.V_mono HO441.out (fun k_ hk => (⟨hk, hk.2⟩ : _ ∧ k_ ≠ gb450))) (fun _ hk => hk.2) (.bool t446)) (fun _ hk => hk.2) (.slice Ao28 t447.length co28)) (fun _ h_ => h_.1))) hb); have n1_ := Aside0.mk (Kd.R_below (by (with_reducible repeat (first | apply Kd.R_alloc | apply Kd.R_drewN | apply Kd.R_drew)); exact (Kd.R_mono (Kd.R_far (p := ⟨gb450, 1, none⟩) (Kd.R_far (p := ⟨gb450, 0, none⟩) (Kd.R_types HO445.out BK450.out (by decide)) (fun _ hk => hk.2) (.bool t446)) (fun _ hk => hk.2) (.slice Ao28 t447.length co28)) (fun _ h_ => h_.1))) hb); have n2_ := Aside0.mk (Kd.V_below (by (with_reducible repeat (first | apply Kd.V_alloc | apply Kd.V_drewN | apply Kd.V_drew)); exact (Kd.V_mono (Kd.V_far (p := ⟨gb450, 1, none⟩) (Kd.V_far (p := ⟨gb450, 0, none⟩) (Kd.V_mono HO449.out (fun k_ hk => (⟨hk, hk.2⟩ : _ ∧ k_ ≠ gb450))) (fun _ hk => hk.2) (.bool t446)) (fun _ hk => hk.2) (.slice Ao28 t447.length co28)) (fun _ h_ => h_.1))) hb); have n3_ := Aside0.mk (blk_below (g := gb432) (o := .cells #[.int .i64 a0_0, .int .u64 a0_1] 59 (0, 0)) (by (with_reducible repeat (first | refine blk_drewN ?_ _ | refine blk_drew ?_ | refine blk_alloc ?_ _)); refine blk_far ?_ NB432_450.out _; (with_reducible repeat (first | refine blk_drewN ?_ _ | refine blk_drew ?_ | refine blk_alloc ?_ _)); refine blk_far ?_ NB432_450.out _; (with_reducible repeat (first | refine blk_drewN ?_ _ | refine blk_drew ?_ | refine blk_alloc ?_ _)); exact BK432.out) hb); have n4_ := Aside0.mk (blk_below (g := gb437) (o := .cells #[.int .i64 t434, .int .u64 t435] 59 (0, 0)) (by (with_reducible repeat (first | refine blk_drewN ?_ _ | refine blk_drew ?_ | refine blk_alloc ?_ _)); refine blk_far ?_ NB437_450.out _; (with_reducible repeat (first | refine blk_drewN ?_ _ | refine blk_drew ?_ | refine blk_alloc ?_ _)); refine blk_far ?_ NB437_450.out _; (with_reducible repeat (first | refine blk_drewN ?_ _ | refine blk_drew ?_ | refine blk_alloc ?_ _)); exact BK437.out) hb); have n5_ := Aside0.mk (blk_below (g := gb450) (o := .cells #[.bool t446, .slice Ao28 t447.length co28] 28 (0, 0)) (by (with_reducible repeat (first | refine blk_drewN ?_ _ | refine blk_drew ?_ | refine blk_alloc ?_ _)); refine blk_put (cs := #[.bool t446, .slice none 0 0]) ?_ 1 _ rfl; (with_reducible repeat (first | refine blk_drewN ?_ _ | refine blk_drew ?_ | refine blk_alloc ?_ _)); refine blk_put (cs := #[.bool false, .slice none 0 0]) ?_ 0 _ rfl; (with_reducible repeat (first | refine blk_drewN ?_ _ | refine blk_drew ?_ | refine blk_alloc ?_ _)); exact BK450.out) hb); have n6_ := belb HB hb; clear HO441; clear HO445; clear HO449; clear BK432; clear BK437; clear BK450; clear HB; have HO441 := n0_; have HO445 := n1_; have HO449 := n2_; have BK432 := n3_; have BK437 := n4_; have BK450 := n5_; have HB := n6_; clear n0_ n1_ n2_ n3_ n4_ n5_ n6_; (try clear hb); (try clear hb2); (try clear hk); (try clear hi)))
     go_meet
     case rel => exact ⟨_, (!t451), (by first | rfl | (simp; done) | (simp [*]; done)), H', ⟨by first | omega | exact Nat.le_refl _⟩, ⟨by (with_reducible repeat (first | apply Kd.V_alloc | apply Kd.V_drewN | apply Kd.V_drew)); exact Kd.V_mono HO449.out (fun _ hk => ⟨hk.1.2.1, ⟨hk.1.2.2, hk.2⟩⟩)⟩, ⟨by (with_reducible repeat (first | refine blk_drewN ?_ _ | refine blk_drew ?_ | refine blk_alloc ?_ _)); exact BK432.out⟩, ⟨by (with_reducible repeat (first | refine blk_drewN ?_ _ | refine blk_drew ?_ | refine blk_alloc ?_ _)); exact BK437.out⟩, ⟨by (with_reducible repeat (first | refine blk_drewN ?_ _ | refine blk_drew ?_ | refine blk_alloc ?_ _)); exact BK450.out⟩, ⟨by repeat (first | (with_reducible first | exact HB.out | apply below_alloc | apply pw_below_drewN | apply below_drew1 | refine below_set ?_ GE432.out | refine below_set ?_ GE437.out | refine below_set ?_ GE450.out) | exact HB.out)⟩⟩
  case rest =>
   clear HC10
   try clear c1
   try clear c2
   try clear p2
   try clear c3
   try clear c4
   try clear c5
   try clear c12
   try clear c16
   try clear c24
   try clear c25
   try clear c26
   try clear c29
   try clear c29b0
   try clear c29b1
   try clear c30
   try clear c30b0
   try clear c32
   try clear c33
   try clear hcz13_0
   try clear hcz13_1
   try clear hcz17_0
   try clear hcz17_1
   try clear hcz18_0
   try clear hcz18_1
   try clear hcz27_0
   try clear hcz27_1
   try clear hcz34_0
   try clear hcz34_1
   try clear hfz13_0
   try clear hfz13_1
   try clear hfz17_0
   try clear hfz17_1
   try clear hfz18_0
   try clear hfz18_1
   try clear hfz27_0
   try clear hfz27_1
   try clear hfz34_0
   try clear hfz34_1
   obtain ⟨kq, x34_9, rfl, HA, HJ9, HO_451001, BK432, BK437, BK450, HB⟩ := hcut
   cases kq with
   | zero => exact absurd HA.out (by simp [turnstonelaw02_MuldivFloors.j0])
   | succ kj9 =>
    have H := HA.out
    clear HA
    simp only [turnstonelaw02_MuldivFloors.j0] at H
    by_cases c36 : x34_9 = true
    ·subst c36
     have H1 : (if t436 = true then (none) else (some (t434 == 0 && (t435 == 0)))) = some r := by rw [if_pos rfl] at H; exact H
     clear H
     have H := H1
     clear H1
     by_cases c37 : t436 = true
     ·subst c37
      have H1 : (none) = some r := by rw [if_pos rfl] at H; exact H
      clear H
      have H := H1
      clear H1
      exact absurd H (by simp)
     ·replace c37 := Bool.eq_false_iff.mpr c37
      subst c37
      have H1 : (some (t434 == 0 && (t435 == 0))) = some r := by rw [if_neg (show ¬ (false = true) by decide)] at H; exact H
      clear H
      have H := H1
      clear H1
      obtain rfl := Option.some.inj H
      have hnb38 := NB437_432.out
      have hnc38 := NB432_437.out
      have hnb39 := NB437_450.out
      have hnc39 := NB450_437.out
      have hcz40_0 : wc.cell? ⟨gb437, 0, none⟩ = some (.int .i64 t434) := (blk_cell BK437.out 0).trans rfl
      have hcz40_1 : wc.cell? ⟨gb437, 1, none⟩ = some (.int .u64 t435) := (blk_cell BK437.out 1).trans rfl
      have hfz40_0 := blk_frozen BK437.out 0
      have hfz40_1 := blk_frozen BK437.out 1
      go_wp2
      go_ret
      exact ⟨by first | rfl | (simp [errW_none, errW_some] <;> rfl) | (simp [*, errW_none, errW_some] <;> rfl), by repeat (first | (with_reducible first | exact HB.out | apply below_alloc | apply pw_below_drewN | apply below_drew1 | refine below_set ?_ GE432.out | refine below_set ?_ GE437.out | refine below_set ?_ GE450.out) | exact HB.out)⟩
    ·replace c36 := Bool.eq_false_iff.mpr c36
     subst c36
     have H1 : (if t436 = true then ((turnstonelaw01_Of.f kj9 t434 t435).bind fun bt452 => ((turnstonelaw01_Of.f kj9 t434 t435).bind fun bt456 => ((turnstoneref01_U.f kj9 a2).bind fun bt460 => ((turnstoneref01_Mul.f kj9 bt456.1 bt456.2 bt460.1 bt460.2).bind fun bt464 => ((turnstoneref01_Sub.f kj9 t446 t447 bt464.1 bt464.2).bind fun bt468 => ((turnstoneref02_Is.f kj9 t446 t447 a2 bt452.1 bt452.2 bt468.1 bt468.2).bind fun t472 => (some t472))))))) else (none)) = some r := by rw [if_neg (show ¬ (false = true) by decide)] at H; exact H
     clear H
     have H := H1
     clear H1
     by_cases c41 : t436 = true
     ·subst c41
      have H1 : ((turnstonelaw01_Of.f kj9 t434 t435).bind fun bt452 => ((turnstonelaw01_Of.f kj9 t434 t435).bind fun bt456 => ((turnstoneref01_U.f kj9 a2).bind fun bt460 => ((turnstoneref01_Mul.f kj9 bt456.1 bt456.2 bt460.1 bt460.2).bind fun bt464 => ((turnstoneref01_Sub.f kj9 t446 t447 bt464.1 bt464.2).bind fun bt468 => ((turnstoneref02_Is.f kj9 t446 t447 a2 bt452.1 bt452.2 bt468.1 bt468.2).bind fun t472 => (some t472))))))) = some r := by rw [if_pos rfl] at H; exact H
      clear H
      have H := H1
      clear H1
      replace H := Option.bind_eq_some_iff.mp H
      obtain ⟨⟨t452, t453⟩, A420, H⟩ := H
      replace H : ((turnstonelaw01_Of.f kj9 t434 t435).bind fun bt456 => ((turnstoneref01_U.f kj9 a2).bind fun bt460 => ((turnstoneref01_Mul.f kj9 bt456.1 bt456.2 bt460.1 bt460.2).bind fun bt464 => ((turnstoneref01_Sub.f kj9 t446 t447 bt464.1 bt464.2).bind fun bt468 => ((turnstoneref02_Is.f kj9 t446 t447 a2 t452 t453 bt468.1 bt468.2).bind fun t472 => (some t472)))))) = some r := H
      have A42 := Aside0.mk A420
      clear A420
      replace H := Option.bind_eq_some_iff.mp H
      obtain ⟨⟨t456, t457⟩, A430, H⟩ := H
      replace H : ((turnstoneref01_U.f kj9 a2).bind fun bt460 => ((turnstoneref01_Mul.f kj9 t456 t457 bt460.1 bt460.2).bind fun bt464 => ((turnstoneref01_Sub.f kj9 t446 t447 bt464.1 bt464.2).bind fun bt468 => ((turnstoneref02_Is.f kj9 t446 t447 a2 t452 t453 bt468.1 bt468.2).bind fun t472 => (some t472))))) = some r := H
      have A43 := Aside0.mk A430
      clear A430
      replace H := Option.bind_eq_some_iff.mp H
      obtain ⟨⟨t460, t461⟩, A440, H⟩ := H
      replace H : ((turnstoneref01_Mul.f kj9 t456 t457 t460 t461).bind fun bt464 => ((turnstoneref01_Sub.f kj9 t446 t447 bt464.1 bt464.2).bind fun bt468 => ((turnstoneref02_Is.f kj9 t446 t447 a2 t452 t453 bt468.1 bt468.2).bind fun t472 => (some t472)))) = some r := H
      have A44 := Aside0.mk A440
      clear A440
      replace H := Option.bind_eq_some_iff.mp H
      obtain ⟨⟨t464, t465⟩, A450, H⟩ := H
      replace H : ((turnstoneref01_Sub.f kj9 t446 t447 t464 t465).bind fun bt468 => ((turnstoneref02_Is.f kj9 t446 t447 a2 t452 t453 bt468.1 bt468.2).bind fun t472 => (some t472))) = some r := H
      have A45 := Aside0.mk A450
      clear A450
      replace H := Option.bind_eq_some_iff.mp H
      obtain ⟨⟨t468, t469⟩, A460, H⟩ := H
      replace H : ((turnstoneref02_Is.f kj9 t446 t447 a2 t452 t453 t468 t469).bind fun t472 => (some t472)) = some r := H
      have A46 := Aside0.mk A460
      clear A460
      replace H := Option.bind_eq_some_iff.mp H
      obtain ⟨t472, A470, H⟩ := H
      replace H : (some t472) = some r := H
      have A47 := Aside0.mk A470
      clear A470
      obtain rfl := Option.some.inj H
      try go_wp2
      have n0_ := Aside0.mk (Kd.V_drew HO_451001.out)
      have n1_ := Aside0.mk (blk_drew BK432.out)
      have n2_ := Aside0.mk (blk_drew BK437.out)
      have n3_ := Aside0.mk (blk_drew BK450.out)
      have n4_ := Aside0.mk (below_drew1 HB.out)
      clear HO_451001
      clear BK432
      clear BK437
      clear BK450
      clear HB
      have HO_451001 := n0_
      have BK432 := n1_
      have BK437 := n2_
      have BK450 := n3_
      have HB := n4_
      clear n0_ n1_ n2_ n3_ n4_
      refine start_ (n := 16) (S := fun w' => w'.cell? ⟨gb450, 0, none⟩ = some (.bool t446) ∧ w'.cell? ⟨gb450, 1, none⟩ = some (.slice Ao28 t447.length co28) ∧ w'.cell? ⟨gb437, 0, none⟩ = some (.int .i64 t434) ∧ w'.cell? ⟨gb437, 1, none⟩ = some (.int .u64 t435)) (ds := []) #[false, false, false, false, false, false, false, false, false, false, false, false, false, false, false, false] (by kernel_rfl) rfl rfl ⟨(blk_cell BK450.out 0).trans rfl, (blk_cell BK450.out 1).trans rfl, (blk_cell BK437.out 0).trans rfl, (blk_cell BK437.out 1).trans rfl⟩ (fun hHeld => ?_); refine with_tabW turnstonelaw02_MuldivFloors.tab7 turnstonelaw02_MuldivFloors.bits7 (fun HT_ HW_ => ?_)
      generalize wc.drew = w48 at HO_451001 BK432 BK437 BK450 HB hHeld ⊢
      refine pure_ (i := 0) (N := some 42) (v := ?_) (a' := ?_) #[true, false, false, false, false, false, false, false, false, false, false, false, false, false, false, false] rfl rfl (any_of HT_.out (by kernel_rfl)) (fun _ _ _ h => h) (Or.inl ⟨by rfl, ?_⟩) ?_ ?_
      rotate_left
      ·intro w'
       go_simp
       with_reducible rfl
      rotate_left
      ·simp only [Act.put, List.setIfInBounds_toArray, List.set_cons_zero, List.set_cons_succ, i64_w, i32_w]
       rfl
      refine pure_ (i := 1) (N := some 43) (v := ?_) (a' := ?_) #[true, true, false, false, false, false, false, false, false, false, false, false, false, false, false, false] rfl rfl (any_of HT_.out (by kernel_rfl)) (fun _ _ _ h => h) (Or.inl ⟨by rfl, ?_⟩) ?_ ?_
      rotate_left
      ·intro w'
       go_simp
       with_reducible rfl
      rotate_left
      ·simp only [Act.put, List.setIfInBounds_toArray, List.set_cons_zero, List.set_cons_succ, i64_w, i32_w]
       rfl
      refine pure_ (i := 3) (N := some 45) (v := ?_) (a' := ?_) #[true, true, false, true, false, false, false, false, false, false, false, false, false, false, false, false] rfl rfl (any_of HT_.out (by kernel_rfl)) (fun _ _ _ h => h) (Or.inl ⟨by rfl, ?_⟩) ?_ ?_
      rotate_left
      ·intro w'
       go_simp
       with_reducible rfl
      rotate_left
      ·simp only [Act.put, List.setIfInBounds_toArray, List.set_cons_zero, List.set_cons_succ, i64_w, i32_w]
       rfl
      refine pure_ (i := 9) (N := some 51) (v := ?_) (a' := ?_) #[true, true, false, true, false, false, false, false, false, true, false, false, false, false, false, false] rfl rfl (any_of HT_.out (by kernel_rfl)) (fun _ _ _ h => h) (Or.inl ⟨by rfl, ?_⟩) ?_ ?_
      rotate_left
      ·intro w'
       go_simp
       with_reducible rfl
      rotate_left
      ·simp only [Act.put, List.setIfInBounds_toArray, List.set_cons_zero, List.set_cons_succ, i64_w, i32_w]
       rfl
      refine take_ (i := 2) (N := some 44) (v := ?_) (a' := ?_) #[true, true, true, true, false, false, false, false, false, true, false, false, false, false, false, false] rfl rfl (take_ofW HT_.out HW_.out (by kernel_rfl)) (fun _ _ _ h => h) (Or.inl ⟨by rfl, ?_⟩) hHeld ?_ ?_
      rotate_left
      ·rintro w' ⟨s0, s1, s2, s3⟩
       go_simp
       with_reducible rfl
      rotate_left
      ·simp only [Act.put, List.setIfInBounds_toArray, List.set_cons_zero, List.set_cons_succ, i64_w, i32_w]
       rfl
      refine take_ (i := 4) (N := some 46) (v := ?_) (a' := ?_) #[true, true, true, true, true, false, false, false, false, true, false, false, false, false, false, false] rfl rfl (take_ofW HT_.out HW_.out (by kernel_rfl)) (fun _ _ _ h => h) (Or.inl ⟨by rfl, ?_⟩) hHeld ?_ ?_
      rotate_left
      ·rintro w' ⟨s0, s1, s2, s3⟩
       go_simp
       with_reducible rfl
      rotate_left
      ·simp only [Act.put, List.setIfInBounds_toArray, List.set_cons_zero, List.set_cons_succ, i64_w, i32_w]
       rfl
      refine take_ (i := 6) (N := some 48) (v := ?_) (a' := ?_) #[true, true, true, true, true, false, true, false, false, true, false, false, false, false, false, false] rfl rfl (take_ofW HT_.out HW_.out (by kernel_rfl)) (fun _ _ _ h => h) (Or.inl ⟨by rfl, ?_⟩) hHeld ?_ ?_
      rotate_left
      ·rintro w' ⟨s0, s1, s2, s3⟩
       go_simp
       with_reducible rfl
      rotate_left
      ·simp only [Act.put, List.setIfInBounds_toArray, List.set_cons_zero, List.set_cons_succ, i64_w, i32_w]
       rfl
      refine take_ (i := 7) (N := some 49) (v := ?_) (a' := ?_) #[true, true, true, true, true, false, true, true, false, true, false, false, false, false, false, false] rfl rfl (take_ofW HT_.out HW_.out (by kernel_rfl)) (fun _ _ _ h => h) (Or.inl ⟨by rfl, ?_⟩) hHeld ?_ ?_
      rotate_left
      ·rintro w' ⟨s0, s1, s2, s3⟩
       go_simp
       with_reducible rfl
      rotate_left
      ·simp only [Act.put, List.setIfInBounds_toArray, List.set_cons_zero, List.set_cons_succ, i64_w, i32_w]
       rfl
      refine one_ (i := 5) (N := some 47) #[true, true, true, true, true, true, true, true, false, true, false, false, false, false, false, false] rfl rfl (one_of HT_.out (by kernel_rfl)) (by decide) (fun K hK => ?_)
      refine goes_ Try.func41 (by kernel_rfl) rfl #[.agg #[.int .i64 t434, .int .u64 t435]] (by rfl) rfl rfl argt ?_
      with_reducible refine (turnstonelaw01_Of.calls kj9 t434 t435 t452 t453 _ A42.out).mono ?_
      rintro e w49 ⟨v454, rfl, ho0, hb⟩
      refine ⟨_, rfl, ?_⟩
      have n0_ := vb HO_451001 hb
      have n1_ := Aside0.mk (Kd.V_lower (Kd.V_mono (ok' := fun k_ => k_ ≠ gb432 ∧ k_ ≠ gb437 ∧ k_ ≠ gb450) ho0 (fun k_ hk_ => ⟨(Kd.freshB (blkt BK432) k_ hk_), (Kd.freshB (blkt BK437) k_ hk_), (Kd.freshB (blkt BK450) k_ hk_)⟩)) (below_size (belt HB)))
      have n2_ := blkb BK432 hb
      have n3_ := blkb BK437 hb
      have n4_ := blkb BK450 hb
      have n5_ := belb HB hb
      clear HO_451001
      clear BK432
      clear BK437
      clear BK450
      clear HB
      have HO_451001 := n0_
      have HO455 := n1_
      have BK432 := n2_
      have BK437 := n3_
      have BK450 := n4_
      have HB := n5_
      clear n0_ n1_ n2_ n3_ n4_ n5_
      (try clear hb)
      (try clear hb2)
      (try clear hk)
      (try clear hi)
      (try clear ho0)
      refine hK.out _ _ ⟨(blk_cell BK450.out 0).trans rfl, (blk_cell BK450.out 1).trans rfl, (blk_cell BK437.out 0).trans rfl, (blk_cell BK437.out 1).trans rfl⟩ (fun hHeld => ?_)
      clear hK K
      refine norm_ (a' := ?_) ?_ ?_
      rotate_left
      ·show Act.put _ (some 47) _ = _
       simp only [Act.put, List.setIfInBounds_toArray, List.set_cons_zero, List.set_cons_succ, i64_w, i32_w]
       rfl
      refine one_ (i := 8) (N := some 50) #[true, true, true, true, true, true, true, true, true, true, false, false, false, false, false, false] rfl rfl (one_of HT_.out (by kernel_rfl)) (by decide) (fun K hK => ?_)
      refine goes_ Try.func41 (by kernel_rfl) rfl #[.agg #[.int .i64 t434, .int .u64 t435]] (by rfl) rfl rfl argt ?_
      with_reducible refine (turnstonelaw01_Of.calls kj9 t434 t435 t456 t457 _ A43.out).mono ?_
      rintro e w50 ⟨v458, rfl, ho0, hb⟩
      refine ⟨_, rfl, ?_⟩
      have n0_ := vb HO_451001 hb
      have n1_ := vb HO455 hb
      have n2_ := Aside0.mk (Kd.V_lower (Kd.V_mono (ok' := fun k_ => k_ ≠ gb432 ∧ k_ ≠ gb437 ∧ k_ ≠ gb450) ho0 (fun k_ hk_ => ⟨(Kd.freshB (blkt BK432) k_ hk_), (Kd.freshB (blkt BK437) k_ hk_), (Kd.freshB (blkt BK450) k_ hk_)⟩)) (below_size (belt HB)))
      have n3_ := blkb BK432 hb
      have n4_ := blkb BK437 hb
      have n5_ := blkb BK450 hb
      have n6_ := belb HB hb
      clear HO_451001
      clear HO455
      clear BK432
      clear BK437
      clear BK450
      clear HB
      have HO_451001 := n0_
      have HO455 := n1_
      have HO459 := n2_
      have BK432 := n3_
      have BK437 := n4_
      have BK450 := n5_
      have HB := n6_
      clear n0_ n1_ n2_ n3_ n4_ n5_ n6_
      (try clear hb)
      (try clear hb2)
      (try clear hk)
      (try clear hi)
      (try clear ho0)
      refine hK.out _ _ ⟨(blk_cell BK450.out 0).trans rfl, (blk_cell BK450.out 1).trans rfl, (blk_cell BK437.out 0).trans rfl, (blk_cell BK437.out 1).trans rfl⟩ (fun hHeld => ?_)
      clear hK K
      refine norm_ (a' := ?_) ?_ ?_
      rotate_left
      ·show Act.put _ (some 50) _ = _
       simp only [Act.put, List.setIfInBounds_toArray, List.set_cons_zero, List.set_cons_succ, i64_w, i32_w]
       rfl
      refine one_ (i := 10) (N := some 52) #[true, true, true, true, true, true, true, true, true, true, true, false, false, false, false, false] rfl rfl (one_of HT_.out (by kernel_rfl)) (by decide) (fun K hK => ?_)
      refine goes_ Try.func24 (by kernel_rfl) rfl #[.int .u64 a2] (by rfl) rfl rfl argt ?_
      with_reducible refine (turnstoneref01_U.calls kj9 a2 t460 t461 _ A44.out).mono ?_
      rintro e w51 ⟨v462, rfl, ho0, hb⟩
      refine ⟨_, rfl, ?_⟩
      have n0_ := Aside0.mk (Kd.V_elder' (vt HO_451001) (Kd.R_base ho0) hb)
      have n1_ := Aside0.mk (Kd.V_elder' (vt HO455) (Kd.R_base ho0) hb)
      have n2_ := Aside0.mk (Kd.V_elder' (vt HO459) (Kd.R_base ho0) hb)
      have n3_ := Aside0.mk (Kd.R_lower ho0 (below_size (belt HB)))
      have n4_ := blkb BK432 hb
      have n5_ := blkb BK437 hb
      have n6_ := blkb BK450 hb
      have n7_ := belb HB hb
      clear HO_451001
      clear HO455
      clear HO459
      clear BK432
      clear BK437
      clear BK450
      clear HB
      have HO_451001 := n0_
      have HO455 := n1_
      have HO459 := n2_
      have HO463 := n3_
      have BK432 := n4_
      have BK437 := n5_
      have BK450 := n6_
      have HB := n7_
      clear n0_ n1_ n2_ n3_ n4_ n5_ n6_ n7_
      (try clear hb)
      (try clear hb2)
      (try clear hk)
      (try clear hi)
      (try clear ho0)
      obtain ⟨Ao52, co52, eo52⟩ := Kd.V_slice HO459.out
      (first | subst eo52 | (injection eo52 with f1_ f2_ f3_; have f4_ := f1_.symm; have f5_ := f3_.symm; clear f1_ f2_ f3_; subst f4_; subst f5_))
      obtain ⟨Ao53, co53, eo53⟩ := Kd.R_slice HO463.out
      (first | subst eo53 | (injection eo53 with f1_ f2_ f3_; have f4_ := f1_.symm; have f5_ := f3_.symm; clear f1_ f2_ f3_; subst f4_; subst f5_))
      refine hK.out _ _ ⟨(blk_cell BK450.out 0).trans rfl, (blk_cell BK450.out 1).trans rfl, (blk_cell BK437.out 0).trans rfl, (blk_cell BK437.out 1).trans rfl⟩ (fun hHeld => ?_)
      clear hK K
      refine norm_ (a' := ?_) ?_ ?_
      rotate_left
      ·show Act.put _ (some 52) _ = _
       simp only [Act.put, List.setIfInBounds_toArray, List.set_cons_zero, List.set_cons_succ, i64_w, i32_w]
       rfl
      refine one_ (i := 11) (N := some 53) #[true, true, true, true, true, true, true, true, true, true, true, true, false, false, false, false] rfl rfl (one_of HT_.out (by kernel_rfl)) (by decide) (fun K hK => ?_)
      refine goes_ Try.func40 (by kernel_rfl) rfl #[.agg #[.bool t456, .slice Ao52 t457.length co52], .agg #[.bool t460, .slice Ao53 t461.length co53]] (by rfl) rfl rfl argt ?_
      with_reducible refine (turnstoneref01_Mul.calls kj9 t456 _ _ t457 t460 _ _ t461 t464 t465 _ ?side1 ?side2 ?side3 ?side4 A45.out).mono ?_
      (case side1 => repeat (first | exact (Kd.V_reads' HO459.out).2.2 | (with_reducible refine Kd.C_alloc ?_ _) | (with_reducible refine Kd.C_drewN ?_ _) | (with_reducible refine Kd.C_drew ?_)))
      (case side2 => exact (Kd.V_reads' HO459.out).2.1)
      (case side3 => repeat (first | exact (Kd.R_reads' HO463.out).2.2 | (with_reducible refine Kd.C_alloc ?_ _) | (with_reducible refine Kd.C_drewN ?_ _) | (with_reducible refine Kd.C_drew ?_)))
      (case side4 => exact (Kd.R_reads' HO463.out).2.1)
      rintro e w54 ⟨v466, rfl, ho0, hb⟩
      refine ⟨_, rfl, ?_⟩
      have n0_ := vb HO_451001 hb
      have n1_ := vb HO455 hb
      have n2_ := vb HO459 hb
      have n3_ := rb HO463 hb
      have n4_ := Aside0.mk (Kd.V_lower (Kd.V_mono (ok' := fun k_ => some k_ ≠ (.slice Ao53 t461.length co53 : Value).ownBlock ∧ k_ ≠ gb432 ∧ k_ ≠ gb437 ∧ k_ ≠ gb450) ho0 (fun k_ hk_ => ⟨(Kd.fresh' (Kd.R_lt (rt HO463)) k_ hk_), (Kd.freshB (blkt BK432) k_ hk_), (Kd.freshB (blkt BK437) k_ hk_), (Kd.freshB (blkt BK450) k_ hk_)⟩)) (below_size (belt HB)))
      have n5_ := blkb BK432 hb
      have n6_ := blkb BK437 hb
      have n7_ := blkb BK450 hb
      have n8_ := belb HB hb
      clear HO_451001
      clear HO455
      clear HO459
      clear HO463
      clear BK432
      clear BK437
      clear BK450
      clear HB
      have HO_451001 := n0_
      have HO455 := n1_
      have HO459 := n2_
      have HO463 := n3_
      have HO467 := n4_
      have BK432 := n5_
      have BK437 := n6_
      have BK450 := n7_
      have HB := n8_
      clear n0_ n1_ n2_ n3_ n4_ n5_ n6_ n7_ n8_
      (try clear hb)
      (try clear hb2)
      (try clear hk)
      (try clear hi)
      (try clear ho0)
      obtain ⟨Ao55, co55, eo55⟩ := Kd.V_slice HO467.out
      (first | subst eo55 | (injection eo55 with f1_ f2_ f3_; have f4_ := f1_.symm; have f5_ := f3_.symm; clear f1_ f2_ f3_; subst f4_; subst f5_))
      refine hK.out _ _ ⟨(blk_cell BK450.out 0).trans rfl, (blk_cell BK450.out 1).trans rfl, (blk_cell BK437.out 0).trans rfl, (blk_cell BK437.out 1).trans rfl⟩ (fun hHeld => ?_)
      clear hK K
      refine norm_ (a' := ?_) ?_ ?_
      rotate_left
      ·show Act.put _ (some 53) _ = _
       simp only [Act.put, List.setIfInBounds_toArray, List.set_cons_zero, List.set_cons_succ, i64_w, i32_w]
       rfl
      refine one_ (i := 12) (N := some 54) #[true, true, true, true, true, true, true, true, true, true, true, true, true, false, false, false] rfl rfl (one_of HT_.out (by kernel_rfl)) (by decide) (fun K hK => ?_)
      refine goes_ Try.func43 (by kernel_rfl) rfl #[.agg #[.bool t446, .slice Ao28 t447.length co28], .agg #[.bool t464, .slice Ao55 t465.length co55]] (by rfl) rfl rfl argt ?_
      with_reducible refine (turnstoneref01_Sub.calls kj9 t446 _ _ t447 t464 (fun k_ => (some k_ ≠ (.slice Ao53 t461.length co53 : Value).ownBlock ∧ (k_ ≠ gb432 ∧ (k_ ≠ gb437 ∧ k_ ≠ gb450)))) _ _ t465 t468 t469 _ ?side1 ?side2 ?side3 A46.out).mono ?_
      (case side1 => repeat (first | exact (Kd.V_reads' HO_451001.out).2.2 | (with_reducible refine Kd.C_alloc ?_ _) | (with_reducible refine Kd.C_drewN ?_ _) | (with_reducible refine Kd.C_drew ?_)))
      (case side2 => exact (Kd.V_reads' HO_451001.out).2.1)
      (case side3 => exact HO467.out)
      rintro e w56 ⟨v470, rfl, ho0, hb⟩
      refine ⟨_, rfl, ?_⟩
      have n0_ := vb HO_451001 hb
      have n1_ := vb HO455 hb
      have n2_ := vb HO459 hb
      have n3_ := rb HO463 hb
      have n4_ := vb HO467 hb
      have n5_ := Aside0.mk (Kd.V_lower (Kd.V_mono (ok' := fun k_ => some k_ ≠ (.slice Ao53 t461.length co53 : Value).ownBlock ∧ k_ ≠ gb432 ∧ k_ ≠ gb437 ∧ k_ ≠ gb450) ho0 (fun k_ hk_ => ⟨Or.elim hk_ (fun hs_ => hs_.1) (fun hn_ => (Kd.fresh' (Kd.R_lt (rt HO463)) k_ hn_)), Or.elim hk_ (fun hs_ => hs_.2.1) (fun hn_ => (Kd.freshB (blkt BK432) k_ hn_)), Or.elim hk_ (fun hs_ => hs_.2.2.1) (fun hn_ => (Kd.freshB (blkt BK437) k_ hn_)), Or.elim hk_ (fun hs_ => hs_.2.2.2) (fun hn_ => (Kd.freshB (blkt BK450) k_ hn_))⟩)) (below_size (belt HB)))
      have n6_ := blkb BK432 hb
      have n7_ := blkb BK437 hb
      have n8_ := blkb BK450 hb
      have n9_ := belb HB hb
      clear HO_451001
      clear HO455
      clear HO459
      clear HO463
      clear HO467
      clear BK432
      clear BK437
      clear BK450
      clear HB
      have HO_451001 := n0_
      have HO455 := n1_
      have HO459 := n2_
      have HO463 := n3_
      have HO467 := n4_
      have HO471 := n5_
      have BK432 := n6_
      have BK437 := n7_
      have BK450 := n8_
      have HB := n9_
      clear n0_ n1_ n2_ n3_ n4_ n5_ n6_ n7_ n8_ n9_
      (try clear hb)
      (try clear hb2)
      (try clear hk)
      (try clear hi)
      (try clear ho0)
      obtain ⟨Ao57, co57, eo57⟩ := Kd.V_slice HO455.out
      (first | subst eo57 | (injection eo57 with f1_ f2_ f3_; have f4_ := f1_.symm; have f5_ := f3_.symm; clear f1_ f2_ f3_; subst f4_; subst f5_))
      obtain ⟨Ao58, co58, eo58⟩ := Kd.V_slice HO471.out
      (first | subst eo58 | (injection eo58 with f1_ f2_ f3_; have f4_ := f1_.symm; have f5_ := f3_.symm; clear f1_ f2_ f3_; subst f4_; subst f5_))
      refine hK.out _ _ ⟨(blk_cell BK450.out 0).trans rfl, (blk_cell BK450.out 1).trans rfl, (blk_cell BK437.out 0).trans rfl, (blk_cell BK437.out 1).trans rfl⟩ (fun hHeld => ?_)
      clear hK K
      refine norm_ (a' := ?_) ?_ ?_
      rotate_left
      ·show Act.put _ (some 54) _ = _
       simp only [Act.put, List.setIfInBounds_toArray, List.set_cons_zero, List.set_cons_succ, i64_w, i32_w]
       rfl
      refine one_ (i := 13) (N := some 55) #[true, true, true, true, true, true, true, true, true, true, true, true, true, true, false, false] rfl rfl (one_of HT_.out (by kernel_rfl)) (by decide) (fun K hK => ?_)
      refine goes_ Try.func37 (by kernel_rfl) rfl #[.agg #[.bool t446, .slice Ao28 t447.length co28], .int .u64 a2, .agg #[.bool t452, .slice Ao57 t453.length co57], .agg #[.bool t468, .slice Ao58 t469.length co58]] (by rfl) rfl rfl argt ?_
      with_reducible refine (turnstoneref02_Is.calls kj9 t446 _ _ t447 a2 t452 _ _ t453 t468 _ _ t469 t472 _ ?side1 ?side2 ?side3 ?side4 ?side5 ?side6 A47.out).mono ?_
      (case side1 => repeat (first | exact (Kd.V_reads' HO_451001.out).2.2 | (with_reducible refine Kd.C_alloc ?_ _) | (with_reducible refine Kd.C_drewN ?_ _) | (with_reducible refine Kd.C_drew ?_)))
      (case side2 => exact (Kd.V_reads' HO_451001.out).2.1)
      (case side3 => repeat (first | exact (Kd.V_reads' HO455.out).2.2 | (with_reducible refine Kd.C_alloc ?_ _) | (with_reducible refine Kd.C_drewN ?_ _) | (with_reducible refine Kd.C_drew ?_)))
      (case side4 => exact (Kd.V_reads' HO455.out).2.1)
      (case side5 => repeat (first | exact (Kd.V_reads' HO471.out).2.2 | (with_reducible refine Kd.C_alloc ?_ _) | (with_reducible refine Kd.C_drewN ?_ _) | (with_reducible refine Kd.C_drew ?_)))
      (case side6 => exact (Kd.V_reads' HO471.out).2.1)
      rintro e w59 ⟨rfl, hb⟩
      refine ⟨_, rfl, ?_⟩
      have n0_ := vb HO_451001 hb
      have n1_ := vb HO455 hb
      have n2_ := vb HO459 hb
      have n3_ := rb HO463 hb
      have n4_ := vb HO467 hb
      have n5_ := vb HO471 hb
      have n6_ := blkb BK432 hb
      have n7_ := blkb BK437 hb
      have n8_ := blkb BK450 hb
      have n9_ := belb HB hb
      clear HO_451001
      clear HO455
      clear HO459
      clear HO463
      clear HO467
      clear HO471
      clear BK432
      clear BK437
      clear BK450
      clear HB
      have HO_451001 := n0_
      have HO455 := n1_
      have HO459 := n2_
      have HO463 := n3_
      have HO467 := n4_
      have HO471 := n5_
      have BK432 := n6_
      have BK437 := n7_
      have BK450 := n8_
      have HB := n9_
      clear n0_ n1_ n2_ n3_ n4_ n5_ n6_ n7_ n8_ n9_
      (try clear hb)
      (try clear hb2)
      (try clear hk)
      (try clear hi)
      refine hK.out _ _ ⟨(blk_cell BK450.out 0).trans rfl, (blk_cell BK450.out 1).trans rfl, (blk_cell BK437.out 0).trans rfl, (blk_cell BK437.out 1).trans rfl⟩ (fun hHeld => ?_)
      clear hK K
      refine norm_ (a' := ?_) ?_ ?_
      rotate_left
      ·show Act.put _ (some 55) _ = _
       simp only [Act.put, List.setIfInBounds_toArray, List.set_cons_zero, List.set_cons_succ, i64_w, i32_w]
       rfl
      refine pure_ (i := 14) (N := some 56) (v := ?_) (a' := ?_) #[true, true, true, true, true, true, true, true, true, true, true, true, true, true, true, false] rfl rfl (any_of HT_.out (by kernel_rfl)) (fun _ _ _ h => h) (Or.inl ⟨by rfl, ?_⟩) ?_ ?_
      rotate_left
      ·intro w'
       go_simp
       with_reducible rfl
      rotate_left
      ·simp only [Act.put, List.setIfInBounds_toArray, List.set_cons_zero, List.set_cons_succ, i64_w, i32_w]
       rfl
      refine pure_ (i := 15) (N := some 6) (v := ?_) (a' := ?_) #[true, true, true, true, true, true, true, true, true, true, true, true, true, true, true, true] rfl rfl (any_of HT_.out (by kernel_rfl)) (fun _ _ _ h => h) (Or.inl ⟨by rfl, ?_⟩) ?_ ?_
      rotate_left
      ·intro w'
       go_simp
       with_reducible rfl
      rotate_left
      ·simp only [Act.put, List.setIfInBounds_toArray, List.set_cons_zero, List.set_cons_succ, i64_w, i32_w]
       rfl
      refine done_ (done_of HT_.out (by kernel_rfl)) ?_
      try go_wp2
      go_ret
      exact ⟨by first | rfl | (simp [errW_none, errW_some] <;> rfl) | (simp [*, errW_none, errW_some] <;> rfl), by repeat (first | (with_reducible first | exact HB.out | apply below_alloc | apply pw_below_drewN | apply below_drew1 | refine below_set ?_ GE432.out | refine below_set ?_ GE437.out | refine below_set ?_ GE450.out) | exact HB.out)⟩
     ·replace c41 := Bool.eq_false_iff.mpr c41
      subst c41
      have H1 : (none) = some r := by rw [if_neg (show ¬ (false = true) by decide)] at H; exact H
      clear H
      have H := H1
      clear H1
      exact absurd H (by simp)
 ·replace c5 := Bool.eq_false_iff.mpr c5
  subst c5
  have H1 : (none) = some r := by rw [if_neg (show ¬ (false = true) by decide)] at H; exact H
  clear H
  have H := H1
  clear H1
  exact absurd H (by simp)

/-- THE ONE PURE STATEMENT of turnstonelaw02_MuldivFloors. -/
def turnstonelaw02_MuldivFloors.Pure : Prop := ∀ (a0_0 : Int) (a0_1 : Int) (a1 : Int) (a2 : Int), (Lit.int .i64 a0_0).wf = true → (Lit.int .u64 a0_1).wf = true → (Lit.int .u64 a1).wf = true → (Lit.int .u64 a2).wf = true → ∃ k, turnstonelaw02_MuldivFloors.f k a0_0 a0_1 a1 a2 = some true
theorem turnstonelaw02_MuldivFloors.walk (P : turnstonelaw02_MuldivFloors.Pure) (a0_0 : Int) (a0_1 : Int) (a1 : Int) (a2 : Int) (w : World) (w0_0 : (Lit.int .i64 a0_0).wf = true) (w0_1 : (Lit.int .u64 a0_1).wf = true) (w1 : (Lit.int .u64 a1).wf = true) (w2 : (Lit.int .u64 a2).wf = true) :
  Calls Try.prog 12 #[.agg #[.int .i64 a0_0, .int .u64 a0_1], .int .u64 a1, .int .u64 a2] w fun e w' => e = .returned (.bool true) ∧ Below w.heap.size w w' := by
 obtain ⟨k, h⟩ := P a0_0 a0_1 a1 a2 w0_0 w0_1 w1 w2
 refine (turnstonelaw02_MuldivFloors.calls k a0_0 a0_1 a1 a2 true w h).mono ?_
 rintro e w' ⟨rfl, hd⟩
 exact ⟨rfl, hd⟩

end Go.Proofs.Ytimgiiceipjpaaa.Print
