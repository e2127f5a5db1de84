/- What each Go function that is named below answers, as a Lean function, and that its walk comes to just that: for whatever arguments that function gives an answer for. Written by a program of this session (wip/mkpr.py, pr.sh). -/
import Derived.Test.YtimgiiceipjpaaaPrint0
import Derived.Test.YtimgiiceipjpaaaPrint2
import Derived.Test.YtimgiiceipjpaaaPrint3
import Derived.Test.YtimgiiceipjpaaaPrint15
import Derived.Test.YtimgiiceipjpaaaPrint16
import Derived.Test.YtimgiiceipjpaaaPrint18
namespace Go.Proofs.Ytimgiiceipjpaaa.Print
open Go.RowKit Go.Proofs.YtimgiiceipjpaaaW.PrintWords Go.Proofs.YtimgiiceipjpaaaW.PrintLast Go.Proofs.YtimgiiceipjpaaaW.PrintMore
attribute [local go_sem] max2_int min2_int max_two min_two max_three min_three max_four min_four   -- for this text's walks alone
open Go.Proofs.Ytimgiiceipjpaaa.Bits
attribute [local go_sem] add64_run0 sub64_run0 add64_run sub64_run
set_option linter.unusedVariables false
set_option linter.unusedSimpArgs false

attribute [local go_sem high] eqA67
/-! ### turnstonelaw04_PosMoves: function 15 -/
mutual
def turnstonelaw04_PosMoves.j0 : Nat → Int → Int → Bool → Int → Int → Int → Int → Int → Int → Option (Bool)
 | 0, _, _, _, _, _, _, _, _, _ => none
 | k + 1, x2, x3, x29, x341000, x341001, x341002, x342000, x342001, x342002 => if x29 = true then (some true) else ((pos_Pos_Move.f k x341000 x341001 x341002 x2).bind fun bt344 => ((pos_Pos_Move.f k bt344.1 bt344.2.1 bt344.2.2.1 x3).bind fun bt349 => ((pos_Pos_Move.f k x341000 x341001 x341002 (IntKind.u64.wrap (x2 + x3))).bind fun bt354 => (if bt344.2.2.2 = true then (if bt349.2.2.2 = true then (if bt354.2.2.2 = true then (if (!(bt349.1 == bt354.1) || (!(bt349.2.1 == bt354.2.1) || (!(bt349.2.2.1 == bt354.2.2.1)))) = true then (turnstonelaw04_PosMoves.j1 k x2 true x341000 x341001 x341002 x342000 x342001 x342002 bt344.1 bt344.2.1 bt344.2.2.1) else ((pos_Pos_Right.f bt344.1 bt344.2.1 bt344.2.2.1).bind fun t359 => (turnstonelaw04_PosMoves.j1 k x2 (!t359) x341000 x341001 x341002 x342000 x342001 x342002 bt344.1 bt344.2.1 bt344.2.2.1))) else (turnstonelaw04_PosMoves.j1 k x2 true x341000 x341001 x341002 x342000 x342001 x342002 bt344.1 bt344.2.1 bt344.2.2.1)) else (turnstonelaw04_PosMoves.j1 k x2 true x341000 x341001 x341002 x342000 x342001 x342002 bt344.1 bt344.2.1 bt344.2.2.1)) else (turnstonelaw04_PosMoves.j1 k x2 true x341000 x341001 x341002 x342000 x342001 x342002 bt344.1 bt344.2.1 bt344.2.2.1)))))
def turnstonelaw04_PosMoves.j1 : Nat → Int → Bool → Int → Int → Int → Int → Int → Int → Int → Int → Int → Option (Bool)
 | 0, _, _, _, _, _, _, _, _, _, _, _ => none
 | k + 1, x2, x69, x341000, x341001, x341002, x342000, x342001, x342002, x349000, x349001, x349002 => if x69 = true then (none) else ((vtime_Time_Since.f x349000 x341000).bind fun t360 => (if t360 < 0 then (turnstonelaw04_PosMoves.j2 k x2 true x341000 x341001 x341002 x342000 x342001 x342002 x349000 x349001 x349002) else ((pos_Pos_Cmp.f k x349000 x349001 x349002 x341000 x341001 x341002).bind fun t361 => (turnstonelaw04_PosMoves.j2 k x2 (t361 != (mn 1 (wrap64 (x2)))) x341000 x341001 x341002 x342000 x342001 x342002 x349000 x349001 x349002))))
def turnstonelaw04_PosMoves.j2 : Nat → Int → Bool → Int → Int → Int → Int → Int → Int → Int → Int → Int → Option (Bool)
 | 0, _, _, _, _, _, _, _, _, _, _, _ => none
 | k + 1, x2, x84, x341000, x341001, x341002, x342000, x342001, x342002, x349000, x349001, x349002 => if x84 = true then (none) else ((pos_Pos_Right.f x342000 x342001 x341002).bind fun t362 => (if t362 = true then ((vtime_Time_Since.f x342000 x341000).bind fun t363 => (if t363 ≥ 2305843009213693952 then (turnstonelaw04_PosMoves.j3 k x2 true x341000 x341001 x341002 x342000 x342001 x341002 x349000 x349001 x349002) else (turnstonelaw04_PosMoves.j3 k x2 (decide (t363 ≤ (-2305843009213693952))) x341000 x341001 x341002 x342000 x342001 x341002 x349000 x349001 x349002))) else (turnstonelaw04_PosMoves.j3 k x2 true x341000 x341001 x341002 x342000 x342001 x341002 x349000 x349001 x349002)))
def turnstonelaw04_PosMoves.j3 : Nat → Int → Bool → Int → Int → Int → Int → Int → Int → Int → Int → Int → Option (Bool)
 | 0, _, _, _, _, _, _, _, _, _, _, _ => none
 | k + 1, x2, x106, x341000, x341001, x341002, x342000, x342001, x342002, x349000, x349001, x349002 => if x106 = true then (some true) else ((pos_Pos_Move.f k x342000 x342001 x342002 x2).bind fun bt364 => (if bt364.2.2.2 = true then ((pos_Pos_Cmp.f k bt364.1 bt364.2.1 bt364.2.2.1 x349000 x349001 x349002).bind fun t369 => ((pos_Pos_Cmp.f k x342000 x342001 x342002 x341000 x341001 x341002).bind fun t370 => (some (t369 == t370)))) else (none)))
end
def turnstonelaw04_PosMoves.f (k : Nat) (a0_0 : Int) (a0_1 : Int) (a0_2 : Int) (a1_0 : Int) (a1_1 : Int) (a1_2 : Int) (a2 : Int) (a3 : Int) : Option (Bool) := (turnstonelaw04_awake.f k).bind fun t342 => (if t342 = true then ((pos_Pos_Right.f a0_0 a0_1 a0_2).bind fun t343 => (if t343 = true then (if a2 > 2305843009213693952 then (turnstonelaw04_PosMoves.j0 k a2 a3 true a0_0 a0_1 a0_2 a1_0 a1_1 a1_2) else (turnstonelaw04_PosMoves.j0 k a2 a3 (decide (a3 > 2305843009213693952)) a0_0 a0_1 a0_2 a1_0 a1_1 a1_2)) else (turnstonelaw04_PosMoves.j0 k a2 a3 true a0_0 a0_1 a0_2 a1_0 a1_1 a1_2))) else (none))
theorem turnstonelaw04_PosMoves.mono_l : ∀ k, (∀ y0 y1 y2 y3 y4 y5 y6 y7 y8, LeO (turnstonelaw04_PosMoves.j0 k y0 y1 y2 y3 y4 y5 y6 y7 y8) (turnstonelaw04_PosMoves.j0 (k + 1) y0 y1 y2 y3 y4 y5 y6 y7 y8)) ∧ (∀ y0 y1 y2 y3 y4 y5 y6 y7 y8 y9 y10, LeO (turnstonelaw04_PosMoves.j1 k y0 y1 y2 y3 y4 y5 y6 y7 y8 y9 y10) (turnstonelaw04_PosMoves.j1 (k + 1) y0 y1 y2 y3 y4 y5 y6 y7 y8 y9 y10)) ∧ (∀ y0 y1 y2 y3 y4 y5 y6 y7 y8 y9 y10, LeO (turnstonelaw04_PosMoves.j2 k y0 y1 y2 y3 y4 y5 y6 y7 y8 y9 y10) (turnstonelaw04_PosMoves.j2 (k + 1) y0 y1 y2 y3 y4 y5 y6 y7 y8 y9 y10)) ∧ (∀ y0 y1 y2 y3 y4 y5 y6 y7 y8 y9 y10, LeO (turnstonelaw04_PosMoves.j3 k y0 y1 y2 y3 y4 y5 y6 y7 y8 y9 y10) (turnstonelaw04_PosMoves.j3 (k + 1) y0 y1 y2 y3 y4 y5 y6 y7 y8 y9 y10))
 | 0 => ⟨fun _ _ _ _ _ _ _ _ _ r h => by simp [turnstonelaw04_PosMoves.j0] at h, fun _ _ _ _ _ _ _ _ _ _ _ r h => by simp [turnstonelaw04_PosMoves.j1] at h, fun _ _ _ _ _ _ _ _ _ _ _ r h => by simp [turnstonelaw04_PosMoves.j2] at h, fun _ _ _ _ _ _ _ _ _ _ _ r h => by simp [turnstonelaw04_PosMoves.j3] at h⟩
 | k + 1 => by
  obtain ⟨ih0, ih1, ih2, ih3⟩ := turnstonelaw04_PosMoves.mono_l k
  refine ⟨?_, ?_, ?_, ?_⟩
  ·intro y0 y1 y2 y3 y4 y5 y6 y7 y8
   unfold turnstonelaw04_PosMoves.j0
   repeat' first
   | (with_reducible exact ih0 _ _ _ _ _ _ _ _ _)
   | (with_reducible exact ih1 _ _ _ _ _ _ _ _ _ _ _)
   | (with_reducible exact ih2 _ _ _ _ _ _ _ _ _ _ _)
   | (with_reducible exact ih3 _ _ _ _ _ _ _ _ _ _ _)
   | (with_reducible exact pos_Pos_Cmp.mono _ _ _ _ _ _ _)
   | (with_reducible exact pos_Pos_Move.mono _ _ _ _ _)
   | (with_reducible exact turnstonelaw04_awake.mono _)
   | (with_reducible exact LeO.refl _)
   | (with_reducible exact LeO.none _)
   | (with_reducible refine LeO.ite ?_ ?_)
   | (with_reducible refine LeO.bind ?_ (fun _ => ?_))
   | exact ih0 _ _ _ _ _ _ _ _ _
   | exact ih1 _ _ _ _ _ _ _ _ _ _ _
   | exact ih2 _ _ _ _ _ _ _ _ _ _ _
   | exact ih3 _ _ _ _ _ _ _ _ _ _ _
   | exact pos_Pos_Cmp.mono _ _ _ _ _ _ _
   | exact pos_Pos_Move.mono _ _ _ _ _
   | exact turnstonelaw04_awake.mono _
   | exact LeO.none _
   | refine LeO.ite ?_ ?_
   | refine LeO.bind ?_ (fun _ => ?_)
  ·intro y0 y1 y2 y3 y4 y5 y6 y7 y8 y9 y10
   unfold turnstonelaw04_PosMoves.j1
   repeat' first
   | (with_reducible exact ih0 _ _ _ _ _ _ _ _ _)
   | (with_reducible exact ih1 _ _ _ _ _ _ _ _ _ _ _)
   | (with_reducible exact ih2 _ _ _ _ _ _ _ _ _ _ _)
   | (with_reducible exact ih3 _ _ _ _ _ _ _ _ _ _ _)
   | (with_reducible exact pos_Pos_Cmp.mono _ _ _ _ _ _ _)
   | (with_reducible exact pos_Pos_Move.mono _ _ _ _ _)
   | (with_reducible exact turnstonelaw04_awake.mono _)
   | (with_reducible exact LeO.refl _)
   | (with_reducible exact LeO.none _)
   | (with_reducible refine LeO.ite ?_ ?_)
   | (with_reducible refine LeO.bind ?_ (fun _ => ?_))
   | exact ih0 _ _ _ _ _ _ _ _ _
   | exact ih1 _ _ _ _ _ _ _ _ _ _ _
   | exact ih2 _ _ _ _ _ _ _ _ _ _ _
   | exact ih3 _ _ _ _ _ _ _ _ _ _ _
   | exact pos_Pos_Cmp.mono _ _ _ _ _ _ _
   | exact pos_Pos_Move.mono _ _ _ _ _
   | exact turnstonelaw04_awake.mono _
   | exact LeO.none _
   | refine LeO.ite ?_ ?_
   | refine LeO.bind ?_ (fun _ => ?_)
  ·intro y0 y1 y2 y3 y4 y5 y6 y7 y8 y9 y10
   unfold turnstonelaw04_PosMoves.j2
   repeat' first
   | (with_reducible exact ih0 _ _ _ _ _ _ _ _ _)
   | (with_reducible exact ih1 _ _ _ _ _ _ _ _ _ _ _)
   | (with_reducible exact ih2 _ _ _ _ _ _ _ _ _ _ _)
   | (with_reducible exact ih3 _ _ _ _ _ _ _ _ _ _ _)
   | (with_reducible exact pos_Pos_Cmp.mono _ _ _ _ _ _ _)
   | (with_reducible exact pos_Pos_Move.mono _ _ _ _ _)
   | (with_reducible exact turnstonelaw04_awake.mono _)
   | (with_reducible exact LeO.refl _)
   | (with_reducible exact LeO.none _)
   | (with_reducible refine LeO.ite ?_ ?_)
   | (with_reducible refine LeO.bind ?_ (fun _ => ?_))
   | exact ih0 _ _ _ _ _ _ _ _ _
   | exact ih1 _ _ _ _ _ _ _ _ _ _ _
   | exact ih2 _ _ _ _ _ _ _ _ _ _ _
   | exact ih3 _ _ _ _ _ _ _ _ _ _ _
   | exact pos_Pos_Cmp.mono _ _ _ _ _ _ _
   | exact pos_Pos_Move.mono _ _ _ _ _
   | exact turnstonelaw04_awake.mono _
   | exact LeO.none _
   | refine LeO.ite ?_ ?_
   | refine LeO.bind ?_ (fun _ => ?_)
  ·intro y0 y1 y2 y3 y4 y5 y6 y7 y8 y9 y10
   unfold turnstonelaw04_PosMoves.j3
   repeat' first
   | (with_reducible exact ih0 _ _ _ _ _ _ _ _ _)
   | (with_reducible exact ih1 _ _ _ _ _ _ _ _ _ _ _)
   | (with_reducible exact ih2 _ _ _ _ _ _ _ _ _ _ _)
   | (with_reducible exact ih3 _ _ _ _ _ _ _ _ _ _ _)
   | (with_reducible exact pos_Pos_Cmp.mono _ _ _ _ _ _ _)
   | (with_reducible exact pos_Pos_Move.mono _ _ _ _ _)
   | (with_reducible exact turnstonelaw04_awake.mono _)
   | (with_reducible exact LeO.refl _)
   | (with_reducible exact LeO.none _)
   | (with_reducible refine LeO.ite ?_ ?_)
   | (with_reducible refine LeO.bind ?_ (fun _ => ?_))
   | exact ih0 _ _ _ _ _ _ _ _ _
   | exact ih1 _ _ _ _ _ _ _ _ _ _ _
   | exact ih2 _ _ _ _ _ _ _ _ _ _ _
   | exact ih3 _ _ _ _ _ _ _ _ _ _ _
   | exact pos_Pos_Cmp.mono _ _ _ _ _ _ _
   | exact pos_Pos_Move.mono _ _ _ _ _
   | exact turnstonelaw04_awake.mono _
   | exact LeO.none _
   | refine LeO.ite ?_ ?_
   | refine LeO.bind ?_ (fun _ => ?_)
theorem turnstonelaw04_PosMoves.mono : ∀ a0 a1 a2 a3 a4 a5 a6 a7 k, LeO (turnstonelaw04_PosMoves.f k a0 a1 a2 a3 a4 a5 a6 a7) (turnstonelaw04_PosMoves.f (k + 1) a0 a1 a2 a3 a4 a5 a6 a7) := by
 intro a0 a1 a2 a3 a4 a5 a6 a7 k
 obtain ⟨ih0, ih1, ih2, ih3⟩ := turnstonelaw04_PosMoves.mono_l k
 unfold turnstonelaw04_PosMoves.f
 repeat' first
   | (with_reducible exact ih0 _ _ _ _ _ _ _ _ _)
   | (with_reducible exact ih1 _ _ _ _ _ _ _ _ _ _ _)
   | (with_reducible exact ih2 _ _ _ _ _ _ _ _ _ _ _)
   | (with_reducible exact ih3 _ _ _ _ _ _ _ _ _ _ _)
   | (with_reducible exact pos_Pos_Cmp.mono _ _ _ _ _ _ _)
   | (with_reducible exact pos_Pos_Move.mono _ _ _ _ _)
   | (with_reducible exact turnstonelaw04_awake.mono _)
   | (with_reducible exact LeO.refl _)
   | (with_reducible exact LeO.none _)
   | (with_reducible refine LeO.ite ?_ ?_)
   | (with_reducible refine LeO.bind ?_ (fun _ => ?_))
   | exact ih0 _ _ _ _ _ _ _ _ _
   | exact ih1 _ _ _ _ _ _ _ _ _ _ _
   | exact ih2 _ _ _ _ _ _ _ _ _ _ _
   | exact ih3 _ _ _ _ _ _ _ _ _ _ _
   | exact pos_Pos_Cmp.mono _ _ _ _ _ _ _
   | exact pos_Pos_Move.mono _ _ _ _ _
   | exact turnstonelaw04_awake.mono _
   | exact LeO.none _
   | refine LeO.ite ?_ ?_
   | refine LeO.bind ?_ (fun _ => ?_)
def turnstonelaw04_PosMoves.T16 : Bool × List (List Nat × List Nat) := (true, [([], []), ([0], [0]), ([1], [1]), ([1], [1]), ([2, 3, 1, 1], [1, 2, 3]), ([1], [1]), ([1], [1]), ([5, 6, 4, 1], [1, 5, 6]), ([4, 7, 1], [1, 4, 7]), ([1, 8], [1, 8]), ([9, 7, 0, 1, 2, 3, 4, 5, 6, 7, 8, 9], [9])])
def turnstonelaw04_PosMoves.B16 : List Nat := [0, 1, 3, 3, 15, 3, 3, 127, 255, 511, 1023]
theorem turnstonelaw04_PosMoves.tab16 : rtab .any (opsOf Try.f15 16) = turnstonelaw04_PosMoves.T16 := by kernel_rfl
theorem turnstonelaw04_PosMoves.bits16 : waitsOk turnstonelaw04_PosMoves.T16.2 turnstonelaw04_PosMoves.B16 = true := by kernel_rfl
set_option maxHeartbeats 8000000 in
set_option maxRecDepth 100000 in
theorem turnstonelaw04_PosMoves.calls (k : Nat) (a0_0 : Int) (a0_1 : Int) (a0_2 : Int) (a1_0 : Int) (a1_1 : Int) (a1_2 : Int) (a2 : Int) (a3 : Int) (r : Bool) (w : World) (h : turnstonelaw04_PosMoves.f k a0_0 a0_1 a0_2 a1_0 a1_1 a1_2 a2 a3 = some r) :
  Calls Try.prog 15 #[.agg #[.int .u64 a0_0, .int .u32 a0_1, .int .u32 a0_2], .agg #[.int .u64 a1_0, .int .u32 a1_1, .int .u32 a1_2], .int .u64 a2, .int .u64 a3] w fun e w' => e = .returned (.bool r) ∧ Below w.heap.size w w' := by
 have hu67 := Try.underlying67
 have HB := Aside0.mk (Below.refl w.heap.size w)
 have H : ((turnstonelaw04_awake.f k).bind fun t342 => (if t342 = true then ((pos_Pos_Right.f a0_0 a0_1 a0_2).bind fun t343 => (if t343 = true then (if a2 > 2305843009213693952 then (turnstonelaw04_PosMoves.j0 k a2 a3 true a0_0 a0_1 a0_2 a1_0 a1_1 a1_2) else (turnstonelaw04_PosMoves.j0 k a2 a3 (decide (a3 > 2305843009213693952)) a0_0 a0_1 a0_2 a1_0 a1_1 a1_2)) else (turnstonelaw04_PosMoves.j0 k a2 a3 true a0_0 a0_1 a0_2 a1_0 a1_1 a1_2))) else (none))) = some r := h
 clear h
 replace H := Option.bind_eq_some_iff.mp H
 obtain ⟨t342, A50, H⟩ := H
 replace H : (if t342 = true then ((pos_Pos_Right.f a0_0 a0_1 a0_2).bind fun t343 => (if t343 = true then (if a2 > 2305843009213693952 then (turnstonelaw04_PosMoves.j0 k a2 a3 true a0_0 a0_1 a0_2 a1_0 a1_1 a1_2) else (turnstonelaw04_PosMoves.j0 k a2 a3 (decide (a3 > 2305843009213693952)) a0_0 a0_1 a0_2 a1_0 a1_1 a1_2)) else (turnstonelaw04_PosMoves.j0 k a2 a3 true a0_0 a0_1 a0_2 a1_0 a1_1 a1_2))) else (none)) = some r := H
 have A5 := Aside0.mk A50
 clear A50
 by_cases c6 : t342 = true
 ·subst c6
  have H1 : ((pos_Pos_Right.f a0_0 a0_1 a0_2).bind fun t343 => (if t343 = true then (if a2 > 2305843009213693952 then (turnstonelaw04_PosMoves.j0 k a2 a3 true a0_0 a0_1 a0_2 a1_0 a1_1 a1_2) else (turnstonelaw04_PosMoves.j0 k a2 a3 (decide (a3 > 2305843009213693952)) a0_0 a0_1 a0_2 a1_0 a1_1 a1_2)) else (turnstonelaw04_PosMoves.j0 k a2 a3 true a0_0 a0_1 a0_2 a1_0 a1_1 a1_2))) = some r := by rw [if_pos rfl] at H; exact H
  clear H
  have H := H1
  clear H1
  have HC7 := Aside0.mk H
  clear H
  go_enter Try.func15, Try.ntmps15
  go_upto_region 3 with (first | ((with_reducible refine gate_dst (N := 4) rfl ?_); (try (refine gate_guard (by rfl) ?_; dsimp only)); refine box_event ?hg (N := 4) ?hd (cs := #[.int .u64 a0_0, .int .u32 a0_1, .int .u32 a0_2]) (t := 67) ?hr ?_; (case hd => rfl); (case hg => rfl); (case hr => first | (go_simp; done) | (go_simp; rfl)); intro gb340 hg w8 hbox hb; have n0_ := Aside0.mk (below_step (by repeat (first | (with_reducible first | exact HB.out | apply below_alloc | apply pw_below_drewN | apply below_drew1) | exact HB.out)) hb); have n1_ := Aside0.mk (hbox); have n2_ := Aside0.mk ((by rw [hg]; exact (below_size (by repeat (first | (with_reducible first | exact HB.out | apply below_alloc | apply pw_below_drewN | apply below_drew1) | exact HB.out))) : w.heap.size ≤ gb340)); have n3_ := Aside0.mk ((by rw [hg]; exact (below_size (by repeat (first | (with_reducible first | exact HB.out | apply below_alloc | apply pw_below_drewN | apply below_drew1) | exact HB.out))) : w.heap.size ≤ gb340)); clear HB; have HB := n0_; have BK340 := n1_; have GW340 := n2_; have GE340 := n3_; clear n0_ n1_ n2_ n3_; clear hb hbox hg) | ((with_reducible refine gate_dst (N := 5) rfl ?_); (try (refine gate_guard (by rfl) ?_; dsimp only)); refine box_event ?hg (N := 5) ?hd (cs := #[.int .u64 a1_0, .int .u32 a1_1, .int .u32 a1_2]) (t := 67) ?hr ?_; (case hd => rfl); (case hg => rfl); (case hr => first | (go_simp; done) | (go_simp; rfl)); intro gb341 hg w9 hbox hb; have n0_ := Aside0.mk (blk_below (g := gb340) (o := .cells #[.int .u64 a0_0, .int .u32 a0_1, .int .u32 a0_2] 67 (0, 0)) (by (with_reducible repeat (first | refine blk_drewN ?_ _ | refine blk_drew ?_ | refine blk_alloc ?_ _)); exact BK340.out) hb); have n1_ := Aside0.mk (below_step (by repeat (first | (with_reducible first | exact HB.out | apply below_alloc | apply pw_below_drewN | apply below_drew1 | refine below_set ?_ GE340.out) | exact HB.out)) hb); have n2_ := Aside0.mk (hbox); have n3_ := Aside0.mk ((by rw [hg]; exact (below_size (by repeat (first | (with_reducible first | exact HB.out | apply below_alloc | apply pw_below_drewN | apply below_drew1 | refine below_set ?_ GE340.out) | exact HB.out))) : w.heap.size ≤ gb341)); have n4_ := Aside0.mk ((by rw [hg]; exact (below_size (by repeat (first | (with_reducible first | exact HB.out | apply below_alloc | apply pw_below_drewN | apply below_drew1 | refine below_set ?_ GE340.out) | exact HB.out))) : w.heap.size ≤ gb341)); have n5_ := Aside0.mk ((by rw [hg]; exact Nat.ne_of_lt (blk_lt (g := gb340) (o := .cells #[.int .u64 a0_0, .int .u32 a0_1, .int .u32 a0_2] 67 (0, 0)) (by (with_reducible repeat (first | refine blk_drewN ?_ _ | refine blk_drew ?_ | refine blk_alloc ?_ _)); exact BK340.out)) : gb340 ≠ gb341)); have n6_ := Aside0.mk ((by rw [hg]; exact Nat.ne_of_gt (blk_lt (g := gb340) (o := .cells #[.int .u64 a0_0, .int .u32 a0_1, .int .u32 a0_2] 67 (0, 0)) (by (with_reducible repeat (first | refine blk_drewN ?_ _ | refine blk_drew ?_ | refine blk_alloc ?_ _)); exact BK340.out)) : gb341 ≠ gb340)); clear BK340; clear HB; have BK340 := n0_; have HB := n1_; have BK341 := n2_; have GW341 := n3_; have GE341 := n4_; have NB340_341 := n5_; have NB341_340 := n6_; clear n0_ n1_ n2_ n3_ n4_ n5_ n6_; clear hb hbox hg) | ((with_reducible refine gate_callee (f := 44) rfl ?_); refine goesL_ (some 17) rfl rfl Try.func44 (by kernel_rfl) rfl #[] rfl (by (try simp only [List.map_toArray, List.map_cons, List.map_nil]); first | done | rfl | (simp only [List.length_drop, List.length_take]; rfl)) ?_; (with_reducible refine (turnstonelaw04_awake.calls k  true _ A5.out).mono ?_); rintro e w10 ⟨rfl, hb⟩; refine ⟨_, rfl, ?_⟩; have n0_ := Aside0.mk (blk_below (g := gb340) (o := .cells #[.int .u64 a0_0, .int .u32 a0_1, .int .u32 a0_2] 67 (0, 0)) (by (with_reducible repeat (first | refine blk_drewN ?_ _ | refine blk_drew ?_ | refine blk_alloc ?_ _)); exact BK340.out) hb); have n1_ := Aside0.mk (blk_below (g := gb341) (o := .cells #[.int .u64 a1_0, .int .u32 a1_1, .int .u32 a1_2] 67 (0, 0)) (by (with_reducible repeat (first | refine blk_drewN ?_ _ | refine blk_drew ?_ | refine blk_alloc ?_ _)); exact BK341.out) hb); have n2_ := Aside0.mk (below_step (by repeat (first | (with_reducible first | exact HB.out | apply below_alloc | apply pw_below_drewN | apply below_drew1 | refine below_set ?_ GE340.out | refine below_set ?_ GE341.out) | exact HB.out)) hb); clear BK340; clear BK341; clear HB; have BK340 := n0_; have BK341 := n1_; have HB := n2_; clear n0_ n1_ n2_; (try clear hb); (try clear hb2); (try clear hk); (try clear hi)))
  (try simp only [Act.put, List.setIfInBounds_toArray, List.set_cons_zero, List.set_cons_succ])
  go_cut [29] (fun v29 wc => ∃ (kq : Nat) (x29_6 : Bool), v29 = .bool x29_6 ∧ Aside0 (turnstonelaw04_PosMoves.j0 kq a2 a3 x29_6 a0_0 a0_1 a0_2 a1_0 a1_1 a1_2 = some r) ∧ Aside0 (kq ≤ k) ∧ Aside0 (wc.heap[gb340]? = some (.cells #[.int .u64 a0_0, .int .u32 a0_1, .int .u32 a0_2] 67 (0, 0))) ∧ Aside0 (wc.heap[gb341]? = some (.cells #[.int .u64 a1_0, .int .u32 a1_1, .int .u32 a1_2] 67 (0, 0))) ∧ Aside0 (Below w.heap.size w wc))
  case first =>
   have H := HC7.out
   clear HC7
   replace H := Option.bind_eq_some_iff.mp H
   obtain ⟨t343, A110, H⟩ := H
   replace H : (if t343 = true then (if a2 > 2305843009213693952 then (turnstonelaw04_PosMoves.j0 k a2 a3 true a0_0 a0_1 a0_2 a1_0 a1_1 a1_2) else (turnstonelaw04_PosMoves.j0 k a2 a3 (decide (a3 > 2305843009213693952)) a0_0 a0_1 a0_2 a1_0 a1_1 a1_2)) else (turnstonelaw04_PosMoves.j0 k a2 a3 true a0_0 a0_1 a0_2 a1_0 a1_1 a1_2)) = some r := H
   have A11 := Aside0.mk A110
   clear A110
   by_cases c12 : t343 = true
   ·subst c12
    have H1 : (if a2 > 2305843009213693952 then (turnstonelaw04_PosMoves.j0 k a2 a3 true a0_0 a0_1 a0_2 a1_0 a1_1 a1_2) else (turnstonelaw04_PosMoves.j0 k a2 a3 (decide (a3 > 2305843009213693952)) a0_0 a0_1 a0_2 a1_0 a1_1 a1_2)) = some r := by rw [if_pos rfl] at H; exact H
    clear H
    have H := H1
    clear H1
    by_cases c13 : a2 > 2305843009213693952
    ·rw [if_pos c13] at H
     have c13b0 : decide (2305843009213693952 < a2) = true := decide_eq_true c13
     clear c13
     (first | rw [c13b0] | (simp only [i64_w, i32_w]; rw [c13b0]) | skip)
     have H' := Aside0.mk H
     clear H
     have hnb14 := NB340_341.out
     have hnc14 := NB341_340.out
     have hcz15_0 : w10.cell? ⟨gb340, 0, none⟩ = some (.int .u64 a0_0) := (blk_cell BK340.out 0).trans rfl
     have hcz15_1 : w10.cell? ⟨gb340, 1, none⟩ = some (.int .u32 a0_1) := (blk_cell BK340.out 1).trans rfl
     have hcz15_2 : w10.cell? ⟨gb340, 2, none⟩ = some (.int .u32 a0_2) := (blk_cell BK340.out 2).trans rfl
     have hfz15_0 := blk_frozen BK340.out 0
     have hfz15_1 := blk_frozen BK340.out 1
     have hfz15_2 := blk_frozen BK340.out 2
     go_wp2_with (first | ((with_reducible refine gate_callee (f := 50) rfl ?_); refine goesL_ (some 20) rfl rfl Try.func50 (by kernel_rfl) rfl #[.agg #[.int .u64 a0_0, .int .u32 a0_1, .int .u32 a0_2]] rfl (by (try simp only [List.map_toArray, List.map_cons, List.map_nil]); first | done | rfl | (simp only [List.length_drop, List.length_take]; rfl)) ?_; (with_reducible refine (pos_Pos_Right.calls a0_0 a0_1 a0_2 true _ A11.out).mono ?_); rintro e w16 ⟨rfl, hb⟩; refine ⟨_, rfl, ?_⟩; have n0_ := Aside0.mk (blk_below (g := gb340) (o := .cells #[.int .u64 a0_0, .int .u32 a0_1, .int .u32 a0_2] 67 (0, 0)) (by (with_reducible repeat (first | refine blk_drewN ?_ _ | refine blk_drew ?_ | refine blk_alloc ?_ _)); exact BK340.out) hb); have n1_ := Aside0.mk (blk_below (g := gb341) (o := .cells #[.int .u64 a1_0, .int .u32 a1_1, .int .u32 a1_2] 67 (0, 0)) (by (with_reducible repeat (first | refine blk_drewN ?_ _ | refine blk_drew ?_ | refine blk_alloc ?_ _)); exact BK341.out) hb); have n2_ := Aside0.mk (below_step (by repeat (first | (with_reducible first | exact HB.out | apply below_alloc | apply pw_below_drewN | apply below_drew1 | refine below_set ?_ GE340.out | refine below_set ?_ GE341.out) | exact HB.out)) hb); clear BK340; clear BK341; clear HB; have BK340 := n0_; have BK341 := n1_; have HB := n2_; clear n0_ n1_ n2_; (try clear hb); (try clear hb2); (try clear hk); (try clear hi)))
     go_meet
     case rel => exact ⟨_, (true), (by first | rfl | (simp; done) | (simp [*]; done)), H', ⟨by first | omega | exact Nat.le_refl _⟩, ⟨by (with_reducible repeat (first | refine blk_drewN ?_ _ | refine blk_drew ?_ | refine blk_alloc ?_ _)); exact BK340.out⟩, ⟨by (with_reducible repeat (first | refine blk_drewN ?_ _ | refine blk_drew ?_ | refine blk_alloc ?_ _)); exact BK341.out⟩, ⟨by repeat (first | (with_reducible first | exact HB.out | apply below_alloc | apply pw_below_drewN | apply below_drew1 | refine below_set ?_ GE340.out | refine below_set ?_ GE341.out) | exact HB.out)⟩⟩
    ·rw [if_neg c13] at H
     have c13b0 : decide (2305843009213693952 < a2) = false := decide_eq_false c13
     clear c13
     (first | rw [c13b0] | (simp only [i64_w, i32_w]; rw [c13b0]) | skip)
     have H' := Aside0.mk H
     clear H
     have hnb17 := NB340_341.out
     have hnc17 := NB341_340.out
     have hcz18_0 : w10.cell? ⟨gb340, 0, none⟩ = some (.int .u64 a0_0) := (blk_cell BK340.out 0).trans rfl
     have hcz18_1 : w10.cell? ⟨gb340, 1, none⟩ = some (.int .u32 a0_1) := (blk_cell BK340.out 1).trans rfl
     have hcz18_2 : w10.cell? ⟨gb340, 2, none⟩ = some (.int .u32 a0_2) := (blk_cell BK340.out 2).trans rfl
     have hfz18_0 := blk_frozen BK340.out 0
     have hfz18_1 := blk_frozen BK340.out 1
     have hfz18_2 := blk_frozen BK340.out 2
     go_wp2_with (first | ((with_reducible refine gate_callee (f := 50) rfl ?_); refine goesL_ (some 20) rfl rfl Try.func50 (by kernel_rfl) rfl #[.agg #[.int .u64 a0_0, .int .u32 a0_1, .int .u32 a0_2]] rfl (by (try simp only [List.map_toArray, List.map_cons, List.map_nil]); first | done | rfl | (simp only [List.length_drop, List.length_take]; rfl)) ?_; (with_reducible refine (pos_Pos_Right.calls a0_0 a0_1 a0_2 true _ A11.out).mono ?_); rintro e w19 ⟨rfl, hb⟩; refine ⟨_, rfl, ?_⟩; have n0_ := Aside0.mk (blk_below (g := gb340) (o := .cells #[.int .u64 a0_0, .int .u32 a0_1, .int .u32 a0_2] 67 (0, 0)) (by (with_reducible repeat (first | refine blk_drewN ?_ _ | refine blk_drew ?_ | refine blk_alloc ?_ _)); exact BK340.out) hb); have n1_ := Aside0.mk (blk_below (g := gb341) (o := .cells #[.int .u64 a1_0, .int .u32 a1_1, .int .u32 a1_2] 67 (0, 0)) (by (with_reducible repeat (first | refine blk_drewN ?_ _ | refine blk_drew ?_ | refine blk_alloc ?_ _)); exact BK341.out) hb); have n2_ := Aside0.mk (below_step (by repeat (first | (with_reducible first | exact HB.out | apply below_alloc | apply pw_below_drewN | apply below_drew1 | refine below_set ?_ GE340.out | refine below_set ?_ GE341.out) | exact HB.out)) hb); clear BK340; clear BK341; clear HB; have BK340 := n0_; have BK341 := n1_; have HB := n2_; clear n0_ n1_ n2_; (try clear hb); (try clear hb2); (try clear hk); (try clear hi)))
     go_meet
     case rel => exact ⟨_, (decide (a3 > 2305843009213693952)), (by first | rfl | (simp; done) | (simp [*]; done)), H', ⟨by first | omega | exact Nat.le_refl _⟩, ⟨by (with_reducible repeat (first | refine blk_drewN ?_ _ | refine blk_drew ?_ | refine blk_alloc ?_ _)); exact BK340.out⟩, ⟨by (with_reducible repeat (first | refine blk_drewN ?_ _ | refine blk_drew ?_ | refine blk_alloc ?_ _)); exact BK341.out⟩, ⟨by repeat (first | (with_reducible first | exact HB.out | apply below_alloc | apply pw_below_drewN | apply below_drew1 | refine below_set ?_ GE340.out | refine below_set ?_ GE341.out) | exact HB.out)⟩⟩
   ·replace c12 := Bool.eq_false_iff.mpr c12
    subst c12
    have H1 : (turnstonelaw04_PosMoves.j0 k a2 a3 true a0_0 a0_1 a0_2 a1_0 a1_1 a1_2) = some r := by rw [if_neg (show ¬ (false = true) by decide)] at H; exact H
    clear H
    have H := H1
    clear H1
    have H' := Aside0.mk H
    clear H
    have hnb20 := NB340_341.out
    have hnc20 := NB341_340.out
    have hcz21_0 : w10.cell? ⟨gb340, 0, none⟩ = some (.int .u64 a0_0) := (blk_cell BK340.out 0).trans rfl
    have hcz21_1 : w10.cell? ⟨gb340, 1, none⟩ = some (.int .u32 a0_1) := (blk_cell BK340.out 1).trans rfl
    have hcz21_2 : w10.cell? ⟨gb340, 2, none⟩ = some (.int .u32 a0_2) := (blk_cell BK340.out 2).trans rfl
    have hfz21_0 := blk_frozen BK340.out 0
    have hfz21_1 := blk_frozen BK340.out 1
    have hfz21_2 := blk_frozen BK340.out 2
    go_wp2_with (first | ((with_reducible refine gate_callee (f := 50) rfl ?_); refine goesL_ (some 20) rfl rfl Try.func50 (by kernel_rfl) rfl #[.agg #[.int .u64 a0_0, .int .u32 a0_1, .int .u32 a0_2]] rfl (by (try simp only [List.map_toArray, List.map_cons, List.map_nil]); first | done | rfl | (simp only [List.length_drop, List.length_take]; rfl)) ?_; (with_reducible refine (pos_Pos_Right.calls a0_0 a0_1 a0_2 false _ A11.out).mono ?_); rintro e w22 ⟨rfl, hb⟩; refine ⟨_, rfl, ?_⟩; have n0_ := Aside0.mk (blk_below (g := gb340) (o := .cells #[.int .u64 a0_0, .int .u32 a0_1, .int .u32 a0_2] 67 (0, 0)) (by (with_reducible repeat (first | refine blk_drewN ?_ _ | refine blk_drew ?_ | refine blk_alloc ?_ _)); exact BK340.out) hb); have n1_ := Aside0.mk (blk_below (g := gb341) (o := .cells #[.int .u64 a1_0, .int .u32 a1_1, .int .u32 a1_2] 67 (0, 0)) (by (with_reducible repeat (first | refine blk_drewN ?_ _ | refine blk_drew ?_ | refine blk_alloc ?_ _)); exact BK341.out) hb); have n2_ := Aside0.mk (below_step (by repeat (first | (with_reducible first | exact HB.out | apply below_alloc | apply pw_below_drewN | apply below_drew1 | refine below_set ?_ GE340.out | refine below_set ?_ GE341.out) | exact HB.out)) hb); clear BK340; clear BK341; clear HB; have BK340 := n0_; have BK341 := n1_; have HB := n2_; clear n0_ n1_ n2_; (try clear hb); (try clear hb2); (try clear hk); (try clear hi)))
    go_meet
    case rel => exact ⟨_, (true), (by first | rfl | (simp; done) | (simp [*]; done)), H', ⟨by first | omega | exact Nat.le_refl _⟩, ⟨by (with_reducible repeat (first | refine blk_drewN ?_ _ | refine blk_drew ?_ | refine blk_alloc ?_ _)); exact BK340.out⟩, ⟨by (with_reducible repeat (first | refine blk_drewN ?_ _ | refine blk_drew ?_ | refine blk_alloc ?_ _)); exact BK341.out⟩, ⟨by repeat (first | (with_reducible first | exact HB.out | apply below_alloc | apply pw_below_drewN | apply below_drew1 | refine below_set ?_ GE340.out | refine below_set ?_ GE341.out) | exact HB.out)⟩⟩
  case rest =>
   clear HC7
   try clear c1
   try clear c2
   try clear p2
   try clear c4
   try clear c5
   try clear c6
   try clear c12
   try clear c13
   try clear c13b0
   try clear c14
   try clear c15
   try clear c17
   try clear c20
   try clear hcz15_0
   try clear hcz15_1
   try clear hcz15_2
   try clear hcz18_0
   try clear hcz18_1
   try clear hcz18_2
   try clear hcz21_0
   try clear hcz21_1
   try clear hcz21_2
   try clear hfz15_0
   try clear hfz15_1
   try clear hfz15_2
   try clear hfz18_0
   try clear hfz18_1
   try clear hfz18_2
   try clear hfz21_0
   try clear hfz21_1
   try clear hfz21_2
   obtain ⟨kq, x29_6, rfl, HA, HJ6, BK340, BK341, HB⟩ := hcut
   cases kq with
   | zero => exact absurd HA.out (by simp [turnstonelaw04_PosMoves.j0])
   | succ kj6 =>
    have H := HA.out
    clear HA
    simp only [turnstonelaw04_PosMoves.j0] at H
    by_cases c23 : x29_6 = true
    ·subst c23
     have H1 : (some true) = some r := by rw [if_pos rfl] at H; exact H
     clear H
     have H := H1
     clear H1
     obtain rfl := Option.some.inj H
     go_wp2
     go_ret
     exact ⟨by first | rfl | (simp [errW_none, errW_some] <;> rfl) | (simp [*, errW_none, errW_some] <;> rfl), by repeat (first | (with_reducible first | exact HB.out | apply below_alloc | apply pw_below_drewN | apply below_drew1 | refine below_set ?_ GE340.out | refine below_set ?_ GE341.out) | exact HB.out)⟩
    ·replace c23 := Bool.eq_false_iff.mpr c23
     subst c23
     have H1 : ((pos_Pos_Move.f kj6 a0_0 a0_1 a0_2 a2).bind fun bt344 => ((pos_Pos_Move.f kj6 bt344.1 bt344.2.1 bt344.2.2.1 a3).bind fun bt349 => ((pos_Pos_Move.f kj6 a0_0 a0_1 a0_2 (IntKind.u64.wrap (a2 + a3))).bind fun bt354 => (if bt344.2.2.2 = true then (if bt349.2.2.2 = true then (if bt354.2.2.2 = true then (if (!(bt349.1 == bt354.1) || (!(bt349.2.1 == bt354.2.1) || (!(bt349.2.2.1 == bt354.2.2.1)))) = true then (turnstonelaw04_PosMoves.j1 kj6 a2 true a0_0 a0_1 a0_2 a1_0 a1_1 a1_2 bt344.1 bt344.2.1 bt344.2.2.1) else ((pos_Pos_Right.f bt344.1 bt344.2.1 bt344.2.2.1).bind fun t359 => (turnstonelaw04_PosMoves.j1 kj6 a2 (!t359) a0_0 a0_1 a0_2 a1_0 a1_1 a1_2 bt344.1 bt344.2.1 bt344.2.2.1))) else (turnstonelaw04_PosMoves.j1 kj6 a2 true a0_0 a0_1 a0_2 a1_0 a1_1 a1_2 bt344.1 bt344.2.1 bt344.2.2.1)) else (turnstonelaw04_PosMoves.j1 kj6 a2 true a0_0 a0_1 a0_2 a1_0 a1_1 a1_2 bt344.1 bt344.2.1 bt344.2.2.1)) else (turnstonelaw04_PosMoves.j1 kj6 a2 true a0_0 a0_1 a0_2 a1_0 a1_1 a1_2 bt344.1 bt344.2.1 bt344.2.2.1))))) = some r := by rw [if_neg (show ¬ (false = true) by decide)] at H; exact H
     clear H
     have H := H1
     clear H1
     replace H := Option.bind_eq_some_iff.mp H
     obtain ⟨⟨t344, t345, t346, t347⟩, A240, H⟩ := H
     replace H : ((pos_Pos_Move.f kj6 t344 t345 t346 a3).bind fun bt349 => ((pos_Pos_Move.f kj6 a0_0 a0_1 a0_2 (IntKind.u64.wrap (a2 + a3))).bind fun bt354 => (if t347 = true then (if bt349.2.2.2 = true then (if bt354.2.2.2 = true then (if (!(bt349.1 == bt354.1) || (!(bt349.2.1 == bt354.2.1) || (!(bt349.2.2.1 == bt354.2.2.1)))) = true then (turnstonelaw04_PosMoves.j1 kj6 a2 true a0_0 a0_1 a0_2 a1_0 a1_1 a1_2 t344 t345 t346) else ((pos_Pos_Right.f t344 t345 t346).bind fun t359 => (turnstonelaw04_PosMoves.j1 kj6 a2 (!t359) a0_0 a0_1 a0_2 a1_0 a1_1 a1_2 t344 t345 t346))) else (turnstonelaw04_PosMoves.j1 kj6 a2 true a0_0 a0_1 a0_2 a1_0 a1_1 a1_2 t344 t345 t346)) else (turnstonelaw04_PosMoves.j1 kj6 a2 true a0_0 a0_1 a0_2 a1_0 a1_1 a1_2 t344 t345 t346)) else (turnstonelaw04_PosMoves.j1 kj6 a2 true a0_0 a0_1 a0_2 a1_0 a1_1 a1_2 t344 t345 t346)))) = some r := H
     have A24 := Aside0.mk A240
     clear A240
     replace H := Option.bind_eq_some_iff.mp H
     obtain ⟨⟨t349, t350, t351, t352⟩, A250, H⟩ := H
     replace H : ((pos_Pos_Move.f kj6 a0_0 a0_1 a0_2 (IntKind.u64.wrap (a2 + a3))).bind fun bt354 => (if t347 = true then (if t352 = true then (if bt354.2.2.2 = true then (if (!(t349 == bt354.1) || (!(t350 == bt354.2.1) || (!(t351 == bt354.2.2.1)))) = true then (turnstonelaw04_PosMoves.j1 kj6 a2 true a0_0 a0_1 a0_2 a1_0 a1_1 a1_2 t344 t345 t346) else ((pos_Pos_Right.f t344 t345 t346).bind fun t359 => (turnstonelaw04_PosMoves.j1 kj6 a2 (!t359) a0_0 a0_1 a0_2 a1_0 a1_1 a1_2 t344 t345 t346))) else (turnstonelaw04_PosMoves.j1 kj6 a2 true a0_0 a0_1 a0_2 a1_0 a1_1 a1_2 t344 t345 t346)) else (turnstonelaw04_PosMoves.j1 kj6 a2 true a0_0 a0_1 a0_2 a1_0 a1_1 a1_2 t344 t345 t346)) else (turnstonelaw04_PosMoves.j1 kj6 a2 true a0_0 a0_1 a0_2 a1_0 a1_1 a1_2 t344 t345 t346))) = some r := H
     have A25 := Aside0.mk A250
     clear A250
     replace H := Option.bind_eq_some_iff.mp H
     obtain ⟨⟨t354, t355, t356, t357⟩, A260, H⟩ := H
     replace H : (if t347 = true then (if t352 = true then (if t357 = true then (if (!(t349 == t354) || (!(t350 == t355) || (!(t351 == t356)))) = true then (turnstonelaw04_PosMoves.j1 kj6 a2 true a0_0 a0_1 a0_2 a1_0 a1_1 a1_2 t344 t345 t346) else ((pos_Pos_Right.f t344 t345 t346).bind fun t359 => (turnstonelaw04_PosMoves.j1 kj6 a2 (!t359) a0_0 a0_1 a0_2 a1_0 a1_1 a1_2 t344 t345 t346))) else (turnstonelaw04_PosMoves.j1 kj6 a2 true a0_0 a0_1 a0_2 a1_0 a1_1 a1_2 t344 t345 t346)) else (turnstonelaw04_PosMoves.j1 kj6 a2 true a0_0 a0_1 a0_2 a1_0 a1_1 a1_2 t344 t345 t346)) else (turnstonelaw04_PosMoves.j1 kj6 a2 true a0_0 a0_1 a0_2 a1_0 a1_1 a1_2 t344 t345 t346)) = some r := H
     have A26 := Aside0.mk A260
     clear A260
     have HC27 := Aside0.mk H
     clear H
     have hnb28 := NB340_341.out
     have hnc28 := NB341_340.out
     have hcz29_0 : wc.cell? ⟨gb340, 0, none⟩ = some (.int .u64 a0_0) := (blk_cell BK340.out 0).trans rfl
     have hcz29_1 : wc.cell? ⟨gb340, 1, none⟩ = some (.int .u32 a0_1) := (blk_cell BK340.out 1).trans rfl
     have hcz29_2 : wc.cell? ⟨gb340, 2, none⟩ = some (.int .u32 a0_2) := (blk_cell BK340.out 2).trans rfl
     have hfz29_0 := blk_frozen BK340.out 0
     have hfz29_1 := blk_frozen BK340.out 1
     have hfz29_2 := blk_frozen BK340.out 2
     go_upto_region 8 with (first | ((with_reducible refine gate_callee (f := 47) rfl ?_); refine goesL_ (some 33) rfl rfl Try.func47 (by kernel_rfl) rfl #[.agg #[.int .u64 a0_0, .int .u32 a0_1, .int .u32 a0_2], .int .u64 a2] rfl (by (try simp only [List.map_toArray, List.map_cons, List.map_nil]); first | done | rfl | (simp only [List.length_drop, List.length_take]; rfl)) ?_; (with_reducible refine (pos_Pos_Move.calls kj6 a0_0 a0_1 a0_2 a2 t344 t345 t346 t347 _ A24.out).mono ?_); rintro e w30 ⟨rfl, hb⟩; refine ⟨_, rfl, ?_⟩; have n0_ := Aside0.mk (blk_below (g := gb340) (o := .cells #[.int .u64 a0_0, .int .u32 a0_1, .int .u32 a0_2] 67 (0, 0)) (by (with_reducible repeat (first | refine blk_drewN ?_ _ | refine blk_drew ?_ | refine blk_alloc ?_ _)); exact BK340.out) hb); have n1_ := Aside0.mk (blk_below (g := gb341) (o := .cells #[.int .u64 a1_0, .int .u32 a1_1, .int .u32 a1_2] 67 (0, 0)) (by (with_reducible repeat (first | refine blk_drewN ?_ _ | refine blk_drew ?_ | refine blk_alloc ?_ _)); exact BK341.out) hb); have n2_ := Aside0.mk (below_step (by repeat (first | (with_reducible first | exact HB.out | apply below_alloc | apply pw_below_drewN | apply below_drew1 | refine below_set ?_ GE340.out | refine below_set ?_ GE341.out) | exact HB.out)) hb); clear BK340; clear BK341; clear HB; have BK340 := n0_; have BK341 := n1_; have HB := n2_; clear n0_ n1_ n2_; (try clear hb); (try clear hb2); (try clear hk); (try clear hi)) | ((with_reducible refine gate_dst (N := 9) rfl ?_); (try (refine gate_guard (by rfl) ?_; dsimp only)); refine box_event ?hg (N := 9) ?hd (cs := #[.int .u64 0, .int .u32 0, .int .u32 0]) (t := 67) ?hr ?_; (case hd => rfl); (case hg => rfl); (case hr => first | (go_simp; done) | (go_simp; rfl)); intro gb348 hg w31 hbox hb; have n0_ := Aside0.mk (blk_below (g := gb340) (o := .cells #[.int .u64 a0_0, .int .u32 a0_1, .int .u32 a0_2] 67 (0, 0)) (by (with_reducible repeat (first | refine blk_drewN ?_ _ | refine blk_drew ?_ | refine blk_alloc ?_ _)); exact BK340.out) hb); have n1_ := Aside0.mk (blk_below (g := gb341) (o := .cells #[.int .u64 a1_0, .int .u32 a1_1, .int .u32 a1_2] 67 (0, 0)) (by (with_reducible repeat (first | refine blk_drewN ?_ _ | refine blk_drew ?_ | refine blk_alloc ?_ _)); exact BK341.out) hb); have n2_ := Aside0.mk (below_step (by repeat (first | (with_reducible first | exact HB.out | apply below_alloc | apply pw_below_drewN | apply below_drew1 | refine below_set ?_ GE340.out | refine below_set ?_ GE341.out) | exact HB.out)) hb); have n3_ := Aside0.mk (hbox); have n4_ := Aside0.mk ((by rw [hg]; exact (below_size (by repeat (first | (with_reducible first | exact HB.out | apply below_alloc | apply pw_below_drewN | apply below_drew1 | refine below_set ?_ GE340.out | refine below_set ?_ GE341.out) | exact HB.out))) : w.heap.size ≤ gb348)); have n5_ := Aside0.mk ((by rw [hg]; exact (below_size (by repeat (first | (with_reducible first | exact HB.out | apply below_alloc | apply pw_below_drewN | apply below_drew1 | refine below_set ?_ GE340.out | refine below_set ?_ GE341.out) | exact HB.out))) : w.heap.size ≤ gb348)); have n6_ := Aside0.mk ((by rw [hg]; exact Nat.ne_of_lt (blk_lt (g := gb340) (o := .cells #[.int .u64 a0_0, .int .u32 a0_1, .int .u32 a0_2] 67 (0, 0)) (by (with_reducible repeat (first | refine blk_drewN ?_ _ | refine blk_drew ?_ | refine blk_alloc ?_ _)); exact BK340.out)) : gb340 ≠ gb348)); have n7_ := Aside0.mk ((by rw [hg]; exact Nat.ne_of_gt (blk_lt (g := gb340) (o := .cells #[.int .u64 a0_0, .int .u32 a0_1, .int .u32 a0_2] 67 (0, 0)) (by (with_reducible repeat (first | refine blk_drewN ?_ _ | refine blk_drew ?_ | refine blk_alloc ?_ _)); exact BK340.out)) : gb348 ≠ gb340)); have n8_ := Aside0.mk ((by rw [hg]; exact Nat.ne_of_lt (blk_lt (g := gb341) (o := .cells #[.int .u64 a1_0, .int .u32 a1_1, .int .u32 a1_2] 67 (0, 0)) (by (with_reducible repeat (first | refine blk_drewN ?_ _ | refine blk_drew ?_ | refine blk_alloc ?_ _)); exact BK341.out)) : gb341 ≠ gb348)); have n9_ := Aside0.mk ((by rw [hg]; exact Nat.ne_of_gt (blk_lt (g := gb341) (o := .cells #[.int .u64 a1_0, .int .u32 a1_1, .int .u32 a1_2] 67 (0, 0)) (by (with_reducible repeat (first | refine blk_drewN ?_ _ | refine blk_drew ?_ | refine blk_alloc ?_ _)); exact BK341.out)) : gb348 ≠ gb341)); clear BK340; clear BK341; clear HB; have BK340 := n0_; have BK341 := n1_; have HB := n2_; have BK348 := n3_; have GW348 := n4_; have GE348 := n5_; have NB340_348 := n6_; have NB348_340 := n7_; have NB341_348 := n8_; have NB348_341 := n9_; clear n0_ n1_ n2_ n3_ n4_ n5_ n6_ n7_ n8_ n9_; clear hb hbox hg; have hnb32 := NB348_340.out; have hnc32 := NB340_348.out; have hnb33 := NB348_341.out; have hnc33 := NB341_348.out; have hcz34_0 : w31.cell? ⟨gb348, 0, none⟩ = some (.int .u64 0) := (blk_cell BK348.out 0).trans rfl; have hcz34_1 : w31.cell? ⟨gb348, 1, none⟩ = some (.int .u32 0) := (blk_cell BK348.out 1).trans rfl; have hcz34_2 : w31.cell? ⟨gb348, 2, none⟩ = some (.int .u32 0) := (blk_cell BK348.out 2).trans rfl; have hfz34_0 := blk_frozen BK348.out 0; have hfz34_1 := blk_frozen BK348.out 1; have hfz34_2 := blk_frozen BK348.out 2) | ((with_reducible refine gate_callee (f := 47) rfl ?_); refine goesL_ (some 39) rfl rfl Try.func47 (by kernel_rfl) rfl #[.agg #[.int .u64 t344, .int .u32 t345, .int .u32 t346], .int .u64 a3] rfl (by (try simp only [List.map_toArray, List.map_cons, List.map_nil]); first | done | rfl | (simp only [List.length_drop, List.length_take]; rfl)) ?_; (with_reducible refine (pos_Pos_Move.calls kj6 t344 t345 t346 a3 t349 t350 t351 t352 _ A25.out).mono ?_); rintro e w35 ⟨rfl, hb⟩; refine ⟨_, rfl, ?_⟩; have n0_ := Aside0.mk (blk_below (g := gb340) (o := .cells #[.int .u64 a0_0, .int .u32 a0_1, .int .u32 a0_2] 67 (0, 0)) (by (with_reducible repeat (first | refine blk_drewN ?_ _ | refine blk_drew ?_ | refine blk_alloc ?_ _)); refine blk_far ?_ NB340_348.out _; (with_reducible repeat (first | refine blk_drewN ?_ _ | refine blk_drew ?_ | refine blk_alloc ?_ _)); refine blk_far ?_ NB340_348.out _; (with_reducible repeat (first | refine blk_drewN ?_ _ | refine blk_drew ?_ | refine blk_alloc ?_ _)); refine blk_far ?_ NB340_348.out _; (with_reducible repeat (first | refine blk_drewN ?_ _ | refine blk_drew ?_ | refine blk_alloc ?_ _)); exact BK340.out) hb); have n1_ := Aside0.mk (blk_below (g := gb341) (o := .cells #[.int .u64 a1_0, .int .u32 a1_1, .int .u32 a1_2] 67 (0, 0)) (by (with_reducible repeat (first | refine blk_drewN ?_ _ | refine blk_drew ?_ | refine blk_alloc ?_ _)); refine blk_far ?_ NB341_348.out _; (with_reducible repeat (first | refine blk_drewN ?_ _ | refine blk_drew ?_ | refine blk_alloc ?_ _)); refine blk_far ?_ NB341_348.out _; (with_reducible repeat (first | refine blk_drewN ?_ _ | refine blk_drew ?_ | refine blk_alloc ?_ _)); refine blk_far ?_ NB341_348.out _; (with_reducible repeat (first | refine blk_drewN ?_ _ | refine blk_drew ?_ | refine blk_alloc ?_ _)); exact BK341.out) hb); have n2_ := Aside0.mk (blk_below (g := gb348) (o := .cells #[.int .u64 t344, .int .u32 t345, .int .u32 t346] 67 (0, 0)) (by (with_reducible repeat (first | refine blk_drewN ?_ _ | refine blk_drew ?_ | refine blk_alloc ?_ _)); refine blk_put (cs := #[.int .u64 t344, .int .u32 t345, .int .u32 0]) ?_ 2 _ rfl; (with_reducible repeat (first | refine blk_drewN ?_ _ | refine blk_drew ?_ | refine blk_alloc ?_ _)); refine blk_put (cs := #[.int .u64 t344, .int .u32 0, .int .u32 0]) ?_ 1 _ rfl; (with_reducible repeat (first | refine blk_drewN ?_ _ | refine blk_drew ?_ | refine blk_alloc ?_ _)); refine blk_put (cs := #[.int .u64 0, .int .u32 0, .int .u32 0]) ?_ 0 _ rfl; (with_reducible repeat (first | refine blk_drewN ?_ _ | refine blk_drew ?_ | refine blk_alloc ?_ _)); exact BK348.out) hb); have n3_ := Aside0.mk (below_step (by repeat (first | (with_reducible first | exact HB.out | apply below_alloc | apply pw_below_drewN | apply below_drew1 | refine below_set ?_ GE340.out | refine below_set ?_ GE341.out | refine below_set ?_ GE348.out) | exact HB.out)) hb); clear BK340; clear BK341; clear BK348; clear HB; have BK340 := n0_; have BK341 := n1_; have BK348 := n2_; have HB := n3_; clear n0_ n1_ n2_ n3_; (try clear hb); (try clear hb2); (try clear hk); (try clear hi)) | ((with_reducible refine gate_dst (N := 11) rfl ?_); (try (refine gate_guard (by rfl) ?_; dsimp only)); refine box_event ?hg (N := 11) ?hd (cs := #[.int .u64 0, .int .u32 0, .int .u32 0]) (t := 67) ?hr ?_; (case hd => rfl); (case hg => rfl); (case hr => first | (go_simp; done) | (go_simp; rfl)); intro gb353 hg w36 hbox hb; have n0_ := Aside0.mk (blk_below (g := gb340) (o := .cells #[.int .u64 a0_0, .int .u32 a0_1, .int .u32 a0_2] 67 (0, 0)) (by (with_reducible repeat (first | refine blk_drewN ?_ _ | refine blk_drew ?_ | refine blk_alloc ?_ _)); exact BK340.out) hb); have n1_ := Aside0.mk (blk_below (g := gb341) (o := .cells #[.int .u64 a1_0, .int .u32 a1_1, .int .u32 a1_2] 67 (0, 0)) (by (with_reducible repeat (first | refine blk_drewN ?_ _ | refine blk_drew ?_ | refine blk_alloc ?_ _)); exact BK341.out) hb); have n2_ := Aside0.mk (blk_below (g := gb348) (o := .cells #[.int .u64 t344, .int .u32 t345, .int .u32 t346] 67 (0, 0)) (by (with_reducible repeat (first | refine blk_drewN ?_ _ | refine blk_drew ?_ | refine blk_alloc ?_ _)); exact BK348.out) hb); have n3_ := Aside0.mk (below_step (by repeat (first | (with_reducible first | exact HB.out | apply below_alloc | apply pw_below_drewN | apply below_drew1 | refine below_set ?_ GE340.out | refine below_set ?_ GE341.out | refine below_set ?_ GE348.out) | exact HB.out)) hb); have n4_ := Aside0.mk (hbox); have n5_ := Aside0.mk ((by rw [hg]; exact (below_size (by repeat (first | (with_reducible first | exact HB.out | apply below_alloc | apply pw_below_drewN | apply below_drew1 | refine below_set ?_ GE340.out | refine below_set ?_ GE341.out | refine below_set ?_ GE348.out) | exact HB.out))) : w.heap.size ≤ gb353)); have n6_ := Aside0.mk ((by rw [hg]; exact (below_size (by repeat (first | (with_reducible first | exact HB.out | apply below_alloc | apply pw_below_drewN | apply below_drew1 | refine below_set ?_ GE340.out | refine below_set ?_ GE341.out | refine below_set ?_ GE348.out) | exact HB.out))) : w.heap.size ≤ gb353)); have n7_ := Aside0.mk ((by rw [hg]; exact Nat.ne_of_lt (blk_lt (g := gb340) (o := .cells #[.int .u64 a0_0, .int .u32 a0_1, .int .u32 a0_2] 67 (0, 0)) (by (with_reducible repeat (first | refine blk_drewN ?_ _ | refine blk_drew ?_ | refine blk_alloc ?_ _)); exact BK340.out)) : gb340 ≠ gb353)); have n8_ := Aside0.mk ((by rw [hg]; exact Nat.ne_of_gt (blk_lt (g := gb340) (o := .cells #[.int .u64 a0_0, .int .u32 a0_1, .int .u32 a0_2] 67 (0, 0)) (by (with_reducible repeat (first | refine blk_drewN ?_ _ | refine blk_drew ?_ | refine blk_alloc ?_ _)); exact BK340.out)) : gb353 ≠ gb340)); have n9_ := Aside0.mk ((by rw [hg]; exact Nat.ne_of_lt (blk_lt (g := gb341) (o := .cells #[.int .u64 a1_0, .int .u32 a1_1, .int .u32 a1_2] 67 (0, 0)) (by (with_reducible repeat (first | refine blk_drewN ?_ _ | refine blk_drew ?_ | refine blk_alloc ?_ _)); exact BK341.out)) : gb341 ≠ gb353)); have n10_ := Aside0.mk ((by rw [hg]; exact Nat.ne_of_gt (blk_lt (g := gb341) (o := .cells #[.int .u64 a1_0, .int .u32 a1_1, .int .u32 a1_2] 67 (0, 0)) (by (with_reducible repeat (first | refine blk_drewN ?_ _ | refine blk_drew ?_ | refine blk_alloc ?_ _)); exact BK341.out)) : gb353 ≠ gb341)); have n11_ := Aside0.mk ((by rw [hg]; exact Nat.ne_of_lt (blk_lt (g := gb348) (o := .cells #[.int .u64 t344, .int .u32 t345, .int .u32 t346] 67 (0, 0)) (by (with_reducible repeat (first | refine blk_drewN ?_ _ | refine blk_drew ?_ | refine blk_alloc ?_ _)); exact BK348.out)) : gb348 ≠ gb353)); have n12_ := Aside0.mk ((by rw [hg]; exact Nat.ne_of_gt (blk_lt (g := gb348) (o := .cells #[.int .u64 t344, .int .u32 t345, .int .u32 t346] 67 (0, 0)) (by (with_reducible repeat (first | refine blk_drewN ?_ _ | refine blk_drew ?_ | refine blk_alloc ?_ _)); exact BK348.out)) : gb353 ≠ gb348)); clear BK340; clear BK341; clear BK348; clear HB; have BK340 := n0_; have BK341 := n1_; have BK348 := n2_; have HB := n3_; have BK353 := n4_; have GW353 := n5_; have GE353 := n6_; have NB340_353 := n7_; have NB353_340 := n8_; have NB341_353 := n9_; have NB353_341 := n10_; have NB348_353 := n11_; have NB353_348 := n12_; clear n0_ n1_ n2_ n3_ n4_ n5_ n6_ n7_ n8_ n9_ n10_ n11_ n12_; clear hb hbox hg; have hnb37 := NB353_340.out; have hnc37 := NB340_353.out; have hnb38 := NB353_341.out; have hnc38 := NB341_353.out; have hnb39 := NB353_348.out; have hnc39 := NB348_353.out; have hcz40_0 : w36.cell? ⟨gb353, 0, none⟩ = some (.int .u64 0) := (blk_cell BK353.out 0).trans rfl; have hcz40_1 : w36.cell? ⟨gb353, 1, none⟩ = some (.int .u32 0) := (blk_cell BK353.out 1).trans rfl; have hcz40_2 : w36.cell? ⟨gb353, 2, none⟩ = some (.int .u32 0) := (blk_cell BK353.out 2).trans rfl; have hfz40_0 := blk_frozen BK353.out 0; have hfz40_1 := blk_frozen BK353.out 1; have hfz40_2 := blk_frozen BK353.out 2; have hcz41_0 : w36.cell? ⟨gb340, 0, none⟩ = some (.int .u64 a0_0) := (blk_cell BK340.out 0).trans rfl; have hcz41_1 : w36.cell? ⟨gb340, 1, none⟩ = some (.int .u32 a0_1) := (blk_cell BK340.out 1).trans rfl; have hcz41_2 : w36.cell? ⟨gb340, 2, none⟩ = some (.int .u32 a0_2) := (blk_cell BK340.out 2).trans rfl; have hfz41_0 := blk_frozen BK340.out 0; have hfz41_1 := blk_frozen BK340.out 1; have hfz41_2 := blk_frozen BK340.out 2) | ((with_reducible refine gate_callee (f := 47) rfl ?_); refine goesL_ (some 47) rfl rfl Try.func47 (by kernel_rfl) rfl #[.agg #[.int .u64 a0_0, .int .u32 a0_1, .int .u32 a0_2], .int .u64 (IntKind.u64.wrap (a2 + a3))] rfl (by (try simp only [List.map_toArray, List.map_cons, List.map_nil]); first | done | rfl | (simp only [List.length_drop, List.length_take]; rfl)) ?_; (with_reducible refine (pos_Pos_Move.calls kj6 a0_0 a0_1 a0_2 (IntKind.u64.wrap (a2 + a3)) t354 t355 t356 t357 _ A26.out).mono ?_); rintro e w42 ⟨rfl, hb⟩; refine ⟨_, rfl, ?_⟩; have n0_ := Aside0.mk (blk_below (g := gb340) (o := .cells #[.int .u64 a0_0, .int .u32 a0_1, .int .u32 a0_2] 67 (0, 0)) (by (with_reducible repeat (first | refine blk_drewN ?_ _ | refine blk_drew ?_ | refine blk_alloc ?_ _)); refine blk_far ?_ NB340_353.out _; (with_reducible repeat (first | refine blk_drewN ?_ _ | refine blk_drew ?_ | refine blk_alloc ?_ _)); refine blk_far ?_ NB340_353.out _; (with_reducible repeat (first | refine blk_drewN ?_ _ | refine blk_drew ?_ | refine blk_alloc ?_ _)); refine blk_far ?_ NB340_353.out _; (with_reducible repeat (first | refine blk_drewN ?_ _ | refine blk_drew ?_ | refine blk_alloc ?_ _)); exact BK340.out) hb); have n1_ := Aside0.mk (blk_below (g := gb341) (o := .cells #[.int .u64 a1_0, .int .u32 a1_1, .int .u32 a1_2] 67 (0, 0)) (by (with_reducible repeat (first | refine blk_drewN ?_ _ | refine blk_drew ?_ | refine blk_alloc ?_ _)); refine blk_far ?_ NB341_353.out _; (with_reducible repeat (first | refine blk_drewN ?_ _ | refine blk_drew ?_ | refine blk_alloc ?_ _)); refine blk_far ?_ NB341_353.out _; (with_reducible repeat (first | refine blk_drewN ?_ _ | refine blk_drew ?_ | refine blk_alloc ?_ _)); refine blk_far ?_ NB341_353.out _; (with_reducible repeat (first | refine blk_drewN ?_ _ | refine blk_drew ?_ | refine blk_alloc ?_ _)); exact BK341.out) hb); have n2_ := Aside0.mk (blk_below (g := gb348) (o := .cells #[.int .u64 t344, .int .u32 t345, .int .u32 t346] 67 (0, 0)) (by (with_reducible repeat (first | refine blk_drewN ?_ _ | refine blk_drew ?_ | refine blk_alloc ?_ _)); refine blk_far ?_ NB348_353.out _; (with_reducible repeat (first | refine blk_drewN ?_ _ | refine blk_drew ?_ | refine blk_alloc ?_ _)); refine blk_far ?_ NB348_353.out _; (with_reducible repeat (first | refine blk_drewN ?_ _ | refine blk_drew ?_ | refine blk_alloc ?_ _)); refine blk_far ?_ NB348_353.out _; (with_reducible repeat (first | refine blk_drewN ?_ _ | refine blk_drew ?_ | refine blk_alloc ?_ _)); exact BK348.out) hb); have n3_ := Aside0.mk (blk_below (g := gb353) (o := .cells #[.int .u64 t349, .int .u32 t350, .int .u32 t351] 67 (0, 0)) (by (with_reducible repeat (first | refine blk_drewN ?_ _ | refine blk_drew ?_ | refine blk_alloc ?_ _)); refine blk_put (cs := #[.int .u64 t349, .int .u32 t350, .int .u32 0]) ?_ 2 _ rfl; (with_reducible repeat (first | refine blk_drewN ?_ _ | refine blk_drew ?_ | refine blk_alloc ?_ _)); refine blk_put (cs := #[.int .u64 t349, .int .u32 0, .int .u32 0]) ?_ 1 _ rfl; (with_reducible repeat (first | refine blk_drewN ?_ _ | refine blk_drew ?_ | refine blk_alloc ?_ _)); refine blk_put (cs := #[.int .u64 0, .int .u32 0, .int .u32 0]) ?_ 0 _ rfl; (with_reducible repeat (first | refine blk_drewN ?_ _ | refine blk_drew ?_ | refine blk_alloc ?_ _)); exact BK353.out) hb); have n4_ := Aside0.mk (below_step (by repeat (first | (with_reducible first | exact HB.out | apply below_alloc | apply pw_below_drewN | apply below_drew1 | refine below_set ?_ GE340.out | refine below_set ?_ GE341.out | refine below_set ?_ GE348.out | refine below_set ?_ GE353.out) | exact HB.out)) hb); clear BK340; clear BK341; clear BK348; clear BK353; clear HB; have BK340 := n0_; have BK341 := n1_; have BK348 := n2_; have BK353 := n3_; have HB := n4_; clear n0_ n1_ n2_ n3_ n4_; (try clear hb); (try clear hb2); (try clear hk); (try clear hi)) | ((with_reducible refine gate_dst (N := 13) rfl ?_); (try (refine gate_guard (by rfl) ?_; dsimp only)); refine box_event ?hg (N := 13) ?hd (cs := #[.int .u64 0, .int .u32 0, .int .u32 0]) (t := 67) ?hr ?_; (case hd => rfl); (case hg => rfl); (case hr => first | (go_simp; done) | (go_simp; rfl)); intro gb358 hg w43 hbox hb; have n0_ := Aside0.mk (blk_below (g := gb340) (o := .cells #[.int .u64 a0_0, .int .u32 a0_1, .int .u32 a0_2] 67 (0, 0)) (by (with_reducible repeat (first | refine blk_drewN ?_ _ | refine blk_drew ?_ | refine blk_alloc ?_ _)); exact BK340.out) hb); have n1_ := Aside0.mk (blk_below (g := gb341) (o := .cells #[.int .u64 a1_0, .int .u32 a1_1, .int .u32 a1_2] 67 (0, 0)) (by (with_reducible repeat (first | refine blk_drewN ?_ _ | refine blk_drew ?_ | refine blk_alloc ?_ _)); exact BK341.out) hb); have n2_ := Aside0.mk (blk_below (g := gb348) (o := .cells #[.int .u64 t344, .int .u32 t345, .int .u32 t346] 67 (0, 0)) (by (with_reducible repeat (first | refine blk_drewN ?_ _ | refine blk_drew ?_ | refine blk_alloc ?_ _)); exact BK348.out) hb); have n3_ := Aside0.mk (blk_below (g := gb353) (o := .cells #[.int .u64 t349, .int .u32 t350, .int .u32 t351] 67 (0, 0)) (by (with_reducible repeat (first | refine blk_drewN ?_ _ | refine blk_drew ?_ | refine blk_alloc ?_ _)); exact BK353.out) hb); have n4_ := Aside0.mk (below_step (by repeat (first | (with_reducible first | exact HB.out | apply below_alloc | apply pw_below_drewN | apply below_drew1 | refine below_set ?_ GE340.out | refine below_set ?_ GE341.out | refine below_set ?_ GE348.out | refine below_set ?_ GE353.out) | exact HB.out)) hb); have n5_ := Aside0.mk (hbox); have n6_ := Aside0.mk ((by rw [hg]; exact (below_size (by repeat (first | (with_reducible first | exact HB.out | apply below_alloc | apply pw_below_drewN | apply below_drew1 | refine below_set ?_ GE340.out | refine below_set ?_ GE341.out | refine below_set ?_ GE348.out | refine below_set ?_ GE353.out) | exact HB.out))) : w.heap.size ≤ gb358)); have n7_ := Aside0.mk ((by rw [hg]; exact (below_size (by repeat (first | (with_reducible first | exact HB.out | apply below_alloc | apply pw_below_drewN | apply below_drew1 | refine below_set ?_ GE340.out | refine below_set ?_ GE341.out | refine below_set ?_ GE348.out | refine below_set ?_ GE353.out) | exact HB.out))) : w.heap.size ≤ gb358)); have n8_ := Aside0.mk ((by rw [hg]; exact Nat.ne_of_lt (blk_lt (g := gb340) (o := .cells #[.int .u64 a0_0, .int .u32 a0_1, .int .u32 a0_2] 67 (0, 0)) (by (with_reducible repeat (first | refine blk_drewN ?_ _ | refine blk_drew ?_ | refine blk_alloc ?_ _)); exact BK340.out)) : gb340 ≠ gb358)); have n9_ := Aside0.mk ((by rw [hg]; exact Nat.ne_of_gt (blk_lt (g := gb340) (o := .cells #[.int .u64 a0_0, .int .u32 a0_1, .int .u32 a0_2] 67 (0, 0)) (by (with_reducible repeat (first | refine blk_drewN ?_ _ | refine blk_drew ?_ | refine blk_alloc ?_ _)); exact BK340.out)) : gb358 ≠ gb340)); have n10_ := Aside0.mk ((by rw [hg]; exact Nat.ne_of_lt (blk_lt (g := gb341) (o := .cells #[.int .u64 a1_0, .int .u32 a1_1, .int .u32 a1_2] 67 (0, 0)) (by (with_reducible repeat (first | refine blk_drewN ?_ _ | refine blk_drew ?_ | refine blk_alloc ?_ _)); exact BK341.out)) : gb341 ≠ gb358)); have n11_ := Aside0.mk ((by rw [hg]; exact Nat.ne_of_gt (blk_lt (g := gb341) (o := .cells #[.int .u64 a1_0, .int .u32 a1_1, .int .u32 a1_2] 67 (0, 0)) (by (with_reducible repeat (first | refine blk_drewN ?_ _ | refine blk_drew ?_ | refine blk_alloc ?_ _)); exact BK341.out)) : gb358 ≠ gb341)); have n12_ := Aside0.mk ((by rw [hg]; exact Nat.ne_of_lt (blk_lt (g := gb348) (o := .cells #[.int .u64 t344, .int .u32 t345, .int .u32 t346] 67 (0, 0)) (by (with_reducible repeat (first | refine blk_drewN ?_ _ | refine blk_drew ?_ | refine blk_alloc ?_ _)); exact BK348.out)) : gb348 ≠ gb358)); have n13_ := Aside0.mk ((by rw [hg]; exact Nat.ne_of_gt (blk_lt (g := gb348) (o := .cells #[.int .u64 t344, .int .u32 t345, .int .u32 t346] 67 (0, 0)) (by (with_reducible repeat (first | refine blk_drewN ?_ _ | refine blk_drew ?_ | refine blk_alloc ?_ _)); exact BK348.out)) : gb358 ≠ gb348)); have n14_ := Aside0.mk ((by rw [hg]; exact Nat.ne_of_lt (blk_lt (g := gb353) (o := .cells #[.int .u64 t349, .int .u32 t350, .int .u32 t351] 67 (0, 0)) (by (with_reducible repeat (first | refine blk_drewN ?_ _ | refine blk_drew ?_ | refine blk_alloc ?_ _)); exact BK353.out)) : gb353 ≠ gb358)); have n15_ := Aside0.mk ((by rw [hg]; exact Nat.ne_of_gt (blk_lt (g := gb353) (o := .cells #[.int .u64 t349, .int .u32 t350, .int .u32 t351] 67 (0, 0)) (by (with_reducible repeat (first | refine blk_drewN ?_ _ | refine blk_drew ?_ | refine blk_alloc ?_ _)); exact BK353.out)) : gb358 ≠ gb353)); clear BK340; clear BK341; clear BK348; clear BK353; clear HB; have BK340 := n0_; have BK341 := n1_; have BK348 := n2_; have BK353 := n3_; have HB := n4_; have BK358 := n5_; have GW358 := n6_; have GE358 := n7_; have NB340_358 := n8_; have NB358_340 := n9_; have NB341_358 := n10_; have NB358_341 := n11_; have NB348_358 := n12_; have NB358_348 := n13_; have NB353_358 := n14_; have NB358_353 := n15_; clear n0_ n1_ n2_ n3_ n4_ n5_ n6_ n7_ n8_ n9_ n10_ n11_ n12_ n13_ n14_ n15_; clear hb hbox hg; have hnb44 := NB358_340.out; have hnc44 := NB340_358.out; have hnb45 := NB358_341.out; have hnc45 := NB341_358.out; have hnb46 := NB358_348.out; have hnc46 := NB348_358.out; have hnb47 := NB358_353.out; have hnc47 := NB353_358.out; have hcz48_0 : w43.cell? ⟨gb358, 0, none⟩ = some (.int .u64 0) := (blk_cell BK358.out 0).trans rfl; have hcz48_1 : w43.cell? ⟨gb358, 1, none⟩ = some (.int .u32 0) := (blk_cell BK358.out 1).trans rfl; have hcz48_2 : w43.cell? ⟨gb358, 2, none⟩ = some (.int .u32 0) := (blk_cell BK358.out 2).trans rfl; have hfz48_0 := blk_frozen BK358.out 0; have hfz48_1 := blk_frozen BK358.out 1; have hfz48_2 := blk_frozen BK358.out 2))
     (try simp only [Act.put, List.setIfInBounds_toArray, List.set_cons_zero, List.set_cons_succ])
     go_cut [69] (fun v69 wc => ∃ (kq : Nat) (x69_26 : Bool), v69 = .bool x69_26 ∧ Aside0 (turnstonelaw04_PosMoves.j1 kq a2 x69_26 a0_0 a0_1 a0_2 a1_0 a1_1 a1_2 t344 t345 t346 = some r) ∧ Aside0 (kq ≤ kj6) ∧ Aside0 (wc.heap[gb340]? = some (.cells #[.int .u64 a0_0, .int .u32 a0_1, .int .u32 a0_2] 67 (0, 0))) ∧ Aside0 (wc.heap[gb341]? = some (.cells #[.int .u64 a1_0, .int .u32 a1_1, .int .u32 a1_2] 67 (0, 0))) ∧ Aside0 (wc.heap[gb348]? = some (.cells #[.int .u64 t344, .int .u32 t345, .int .u32 t346] 67 (0, 0))) ∧ Aside0 (wc.heap[gb353]? = some (.cells #[.int .u64 t349, .int .u32 t350, .int .u32 t351] 67 (0, 0))) ∧ Aside0 (wc.heap[gb358]? = some (.cells #[.int .u64 t354, .int .u32 t355, .int .u32 t356] 67 (0, 0))) ∧ Aside0 (Below w.heap.size w wc))
     case first =>
      have H := HC27.out
      clear HC27
      by_cases c49 : t347 = true
      ·subst c49
       have H1 : (if t352 = true then (if t357 = true then (if (!(t349 == t354) || (!(t350 == t355) || (!(t351 == t356)))) = true then (turnstonelaw04_PosMoves.j1 kj6 a2 true a0_0 a0_1 a0_2 a1_0 a1_1 a1_2 t344 t345 t346) else ((pos_Pos_Right.f t344 t345 t346).bind fun t359 => (turnstonelaw04_PosMoves.j1 kj6 a2 (!t359) a0_0 a0_1 a0_2 a1_0 a1_1 a1_2 t344 t345 t346))) else (turnstonelaw04_PosMoves.j1 kj6 a2 true a0_0 a0_1 a0_2 a1_0 a1_1 a1_2 t344 t345 t346)) else (turnstonelaw04_PosMoves.j1 kj6 a2 true a0_0 a0_1 a0_2 a1_0 a1_1 a1_2 t344 t345 t346)) = some r := by rw [if_pos rfl] at H; exact H
       clear H
       have H := H1
       clear H1
       by_cases c50 : t352 = true
       ·subst c50
        have H1 : (if t357 = true then (if (!(t349 == t354) || (!(t350 == t355) || (!(t351 == t356)))) = true then (turnstonelaw04_PosMoves.j1 kj6 a2 true a0_0 a0_1 a0_2 a1_0 a1_1 a1_2 t344 t345 t346) else ((pos_Pos_Right.f t344 t345 t346).bind fun t359 => (turnstonelaw04_PosMoves.j1 kj6 a2 (!t359) a0_0 a0_1 a0_2 a1_0 a1_1 a1_2 t344 t345 t346))) else (turnstonelaw04_PosMoves.j1 kj6 a2 true a0_0 a0_1 a0_2 a1_0 a1_1 a1_2 t344 t345 t346)) = some r := by rw [if_pos rfl] at H; exact H
        clear H
        have H := H1
        clear H1
        by_cases c51 : t357 = true
        ·subst c51
         have H1 : (if (!(t349 == t354) || (!(t350 == t355) || (!(t351 == t356)))) = true then (turnstonelaw04_PosMoves.j1 kj6 a2 true a0_0 a0_1 a0_2 a1_0 a1_1 a1_2 t344 t345 t346) else ((pos_Pos_Right.f t344 t345 t346).bind fun t359 => (turnstonelaw04_PosMoves.j1 kj6 a2 (!t359) a0_0 a0_1 a0_2 a1_0 a1_1 a1_2 t344 t345 t346))) = some r := by rw [if_pos rfl] at H; exact H
         clear H
         have H := H1
         clear H1
         by_cases c52 : (!(t349 == t354) || (!(t350 == t355) || (!(t351 == t356)))) = true
         ·rw [if_pos c52] at H
          have c52b0 : (!(t349 == t354) || (!(t350 == t355) || (!(t351 == t356)))) = true := c52
          clear c52
          (first | rw [c52b0] | (simp only [i64_w, i32_w]; rw [c52b0]) | skip)
          have H' := Aside0.mk H
          clear H
          have hnb53 := NB353_340.out
          have hnc53 := NB340_353.out
          have hnb54 := NB353_341.out
          have hnc54 := NB341_353.out
          have hnb55 := NB353_348.out
          have hnc55 := NB348_353.out
          have hnb56 := NB353_358.out
          have hnc56 := NB358_353.out
          have hcz57_0 : w43.cell? ⟨gb353, 0, none⟩ = some (.int .u64 t349) := (blk_cell BK353.out 0).trans rfl
          have hcz57_1 : w43.cell? ⟨gb353, 1, none⟩ = some (.int .u32 t350) := (blk_cell BK353.out 1).trans rfl
          have hcz57_2 : w43.cell? ⟨gb353, 2, none⟩ = some (.int .u32 t351) := (blk_cell BK353.out 2).trans rfl
          have hfz57_0 := blk_frozen BK353.out 0
          have hfz57_1 := blk_frozen BK353.out 1
          have hfz57_2 := blk_frozen BK353.out 2
          have hnb58 := NB358_340.out
          have hnc58 := NB340_358.out
          have hnb59 := NB358_341.out
          have hnc59 := NB341_358.out
          have hnb60 := NB358_348.out
          have hnc60 := NB348_358.out
          have hcz61_0 : w43.cell? ⟨gb358, 0, none⟩ = some (.int .u64 0) := (blk_cell BK358.out 0).trans rfl
          have hcz61_1 : w43.cell? ⟨gb358, 1, none⟩ = some (.int .u32 0) := (blk_cell BK358.out 1).trans rfl
          have hcz61_2 : w43.cell? ⟨gb358, 2, none⟩ = some (.int .u32 0) := (blk_cell BK358.out 2).trans rfl
          have hfz61_0 := blk_frozen BK358.out 0
          have hfz61_1 := blk_frozen BK358.out 1
          have hfz61_2 := blk_frozen BK358.out 2
          go_wp2
          go_meet
          case rel => exact ⟨_, (true), (by first | rfl | (simp; done) | (simp [*]; done)), H', ⟨by have := HJ6.out; first | omega | exact Nat.le_refl _⟩, ⟨by (with_reducible repeat (first | refine blk_drewN ?_ _ | refine blk_drew ?_ | refine blk_alloc ?_ _)); refine blk_far ?_ NB340_358.out _; (with_reducible repeat (first | refine blk_drewN ?_ _ | refine blk_drew ?_ | refine blk_alloc ?_ _)); refine blk_far ?_ NB340_358.out _; (with_reducible repeat (first | refine blk_drewN ?_ _ | refine blk_drew ?_ | refine blk_alloc ?_ _)); refine blk_far ?_ NB340_358.out _; (with_reducible repeat (first | refine blk_drewN ?_ _ | refine blk_drew ?_ | refine blk_alloc ?_ _)); exact BK340.out⟩, ⟨by (with_reducible repeat (first | refine blk_drewN ?_ _ | refine blk_drew ?_ | refine blk_alloc ?_ _)); refine blk_far ?_ NB341_358.out _; (with_reducible repeat (first | refine blk_drewN ?_ _ | refine blk_drew ?_ | refine blk_alloc ?_ _)); refine blk_far ?_ NB341_358.out _; (with_reducible repeat (first | refine blk_drewN ?_ _ | refine blk_drew ?_ | refine blk_alloc ?_ _)); refine blk_far ?_ NB341_358.out _; (with_reducible repeat (first | refine blk_drewN ?_ _ | refine blk_drew ?_ | refine blk_alloc ?_ _)); exact BK341.out⟩, ⟨by (with_reducible repeat (first | refine blk_drewN ?_ _ | refine blk_drew ?_ | refine blk_alloc ?_ _)); refine blk_far ?_ NB348_358.out _; (with_reducible repeat (first | refine blk_drewN ?_ _ | refine blk_drew ?_ | refine blk_alloc ?_ _)); refine blk_far ?_ NB348_358.out _; (with_reducible repeat (first | refine blk_drewN ?_ _ | refine blk_drew ?_ | refine blk_alloc ?_ _)); refine blk_far ?_ NB348_358.out _; (with_reducible repeat (first | refine blk_drewN ?_ _ | refine blk_drew ?_ | refine blk_alloc ?_ _)); exact BK348.out⟩, ⟨by (with_reducible repeat (first | refine blk_drewN ?_ _ | refine blk_drew ?_ | refine blk_alloc ?_ _)); refine blk_far ?_ NB353_358.out _; (with_reducible repeat (first | refine blk_drewN ?_ _ | refine blk_drew ?_ | refine blk_alloc ?_ _)); refine blk_far ?_ NB353_358.out _; (with_reducible repeat (first | refine blk_drewN ?_ _ | refine blk_drew ?_ | refine blk_alloc ?_ _)); refine blk_far ?_ NB353_358.out _; (with_reducible repeat (first | refine blk_drewN ?_ _ | refine blk_drew ?_ | refine blk_alloc ?_ _)); exact BK353.out⟩, ⟨by (with_reducible repeat (first | refine blk_drewN ?_ _ | refine blk_drew ?_ | refine blk_alloc ?_ _)); refine blk_put (cs := #[.int .u64 t354, .int .u32 t355, .int .u32 0]) ?_ 2 _ rfl; (with_reducible repeat (first | refine blk_drewN ?_ _ | refine blk_drew ?_ | refine blk_alloc ?_ _)); refine blk_put (cs := #[.int .u64 t354, .int .u32 0, .int .u32 0]) ?_ 1 _ rfl; (with_reducible repeat (first | refine blk_drewN ?_ _ | refine blk_drew ?_ | refine blk_alloc ?_ _)); refine blk_put (cs := #[.int .u64 0, .int .u32 0, .int .u32 0]) ?_ 0 _ rfl; (with_reducible repeat (first | refine blk_drewN ?_ _ | refine blk_drew ?_ | refine blk_alloc ?_ _)); exact BK358.out⟩, ⟨by repeat (first | (with_reducible first | exact HB.out | apply below_alloc | apply pw_below_drewN | apply below_drew1 | refine below_set ?_ GE340.out | refine below_set ?_ GE341.out | refine below_set ?_ GE348.out | refine below_set ?_ GE353.out | refine below_set ?_ GE358.out) | exact HB.out)⟩⟩
         ·rw [if_neg c52] at H
          have c52b0 : (!(t349 == t354) || (!(t350 == t355) || (!(t351 == t356)))) = false := by simpa using c52
          clear c52
          (first | rw [c52b0] | (simp only [i64_w, i32_w]; rw [c52b0]) | skip)
          replace H := Option.bind_eq_some_iff.mp H
          obtain ⟨t359, A620, H⟩ := H
          replace H : (turnstonelaw04_PosMoves.j1 kj6 a2 (!t359) a0_0 a0_1 a0_2 a1_0 a1_1 a1_2 t344 t345 t346) = some r := H
          have A62 := Aside0.mk A620
          clear A620
          have H' := Aside0.mk H
          clear H
          have hnb63 := NB353_340.out
          have hnc63 := NB340_353.out
          have hnb64 := NB353_341.out
          have hnc64 := NB341_353.out
          have hnb65 := NB353_348.out
          have hnc65 := NB348_353.out
          have hnb66 := NB353_358.out
          have hnc66 := NB358_353.out
          have hcz67_0 : w43.cell? ⟨gb353, 0, none⟩ = some (.int .u64 t349) := (blk_cell BK353.out 0).trans rfl
          have hcz67_1 : w43.cell? ⟨gb353, 1, none⟩ = some (.int .u32 t350) := (blk_cell BK353.out 1).trans rfl
          have hcz67_2 : w43.cell? ⟨gb353, 2, none⟩ = some (.int .u32 t351) := (blk_cell BK353.out 2).trans rfl
          have hfz67_0 := blk_frozen BK353.out 0
          have hfz67_1 := blk_frozen BK353.out 1
          have hfz67_2 := blk_frozen BK353.out 2
          have hnb68 := NB358_340.out
          have hnc68 := NB340_358.out
          have hnb69 := NB358_341.out
          have hnc69 := NB341_358.out
          have hnb70 := NB358_348.out
          have hnc70 := NB348_358.out
          have hcz71_0 : w43.cell? ⟨gb358, 0, none⟩ = some (.int .u64 0) := (blk_cell BK358.out 0).trans rfl
          have hcz71_1 : w43.cell? ⟨gb358, 1, none⟩ = some (.int .u32 0) := (blk_cell BK358.out 1).trans rfl
          have hcz71_2 : w43.cell? ⟨gb358, 2, none⟩ = some (.int .u32 0) := (blk_cell BK358.out 2).trans rfl
          have hfz71_0 := blk_frozen BK358.out 0
          have hfz71_1 := blk_frozen BK358.out 1
          have hfz71_2 := blk_frozen BK358.out 2
          have hnb72 := NB348_340.out
          have hnc72 := NB340_348.out
          have hnb73 := NB348_341.out
          have hnc73 := NB341_348.out
          have hcz74_0 : w43.cell? ⟨gb348, 0, none⟩ = some (.int .u64 t344) := (blk_cell BK348.out 0).trans rfl
          have hcz74_1 : w43.cell? ⟨gb348, 1, none⟩ = some (.int .u32 t345) := (blk_cell BK348.out 1).trans rfl
          have hcz74_2 : w43.cell? ⟨gb348, 2, none⟩ = some (.int .u32 t346) := (blk_cell BK348.out 2).trans rfl
          have hfz74_0 := blk_frozen BK348.out 0
          have hfz74_1 := blk_frozen BK348.out 1
          have hfz74_2 := blk_frozen BK348.out 2
          go_wp2_with (first | (go_at_call 50; (with_reducible refine (pos_Pos_Right.calls t344 t345 t346 t359 _ A62.out).mono ?_); rintro e w75 ⟨rfl, hb⟩; have n0_ := Aside0.mk (blk_below (g := gb340) (o := .cells #[.int .u64 a0_0, .int .u32 a0_1, .int .u32 a0_2] 67 (0, 0)) (by (with_reducible repeat (first | refine blk_drewN ?_ _ | refine blk_drew ?_ | refine blk_alloc ?_ _)); refine blk_far ?_ NB340_358.out _; (with_reducible repeat (first | refine blk_drewN ?_ _ | refine blk_drew ?_ | refine blk_alloc ?_ _)); refine blk_far ?_ NB340_358.out _; (with_reducible repeat (first | refine blk_drewN ?_ _ | refine blk_drew ?_ | refine blk_alloc ?_ _)); refine blk_far ?_ NB340_358.out _; (with_reducible repeat (first | refine blk_drewN ?_ _ | refine blk_drew ?_ | refine blk_alloc ?_ _)); exact BK340.out) hb); have n1_ := Aside0.mk (blk_below (g := gb341) (o := .cells #[.int .u64 a1_0, .int .u32 a1_1, .int .u32 a1_2] 67 (0, 0)) (by (with_reducible repeat (first | refine blk_drewN ?_ _ | refine blk_drew ?_ | refine blk_alloc ?_ _)); refine blk_far ?_ NB341_358.out _; (with_reducible repeat (first | refine blk_drewN ?_ _ | refine blk_drew ?_ | refine blk_alloc ?_ _)); refine blk_far ?_ NB341_358.out _; (with_reducible repeat (first | refine blk_drewN ?_ _ | refine blk_drew ?_ | refine blk_alloc ?_ _)); refine blk_far ?_ NB341_358.out _; (with_reducible repeat (first | refine blk_drewN ?_ _ | refine blk_drew ?_ | refine blk_alloc ?_ _)); exact BK341.out) hb); have n2_ := Aside0.mk (blk_below (g := gb348) (o := .cells #[.int .u64 t344, .int .u32 t345, .int .u32 t346] 67 (0, 0)) (by (with_reducible repeat (first | refine blk_drewN ?_ _ | refine blk_drew ?_ | refine blk_alloc ?_ _)); refine blk_far ?_ NB348_358.out _; (with_reducible repeat (first | refine blk_drewN ?_ _ | refine blk_drew ?_ | refine blk_alloc ?_ _)); refine blk_far ?_ NB348_358.out _; (with_reducible repeat (first | refine blk_drewN ?_ _ | refine blk_drew ?_ | refine blk_alloc ?_ _)); refine blk_far ?_ NB348_358.out _; (with_reducible repeat (first | refine blk_drewN ?_ _ | refine blk_drew ?_ | refine blk_alloc ?_ _)); exact BK348.out) hb); have n3_ := Aside0.mk (blk_below (g := gb353) (o := .cells #[.int .u64 t349, .int .u32 t350, .int .u32 t351] 67 (0, 0)) (by (with_reducible repeat (first | refine blk_drewN ?_ _ | refine blk_drew ?_ | refine blk_alloc ?_ _)); refine blk_far ?_ NB353_358.out _; (with_reducible repeat (first | refine blk_drewN ?_ _ | refine blk_drew ?_ | refine blk_alloc ?_ _)); refine blk_far ?_ NB353_358.out _; (with_reducible repeat (first | refine blk_drewN ?_ _ | refine blk_drew ?_ | refine blk_alloc ?_ _)); refine blk_far ?_ NB353_358.out _; (with_reducible repeat (first | refine blk_drewN ?_ _ | refine blk_drew ?_ | refine blk_alloc ?_ _)); exact BK353.out) hb); have n4_ := Aside0.mk (blk_below (g := gb358) (o := .cells #[.int .u64 t354, .int .u32 t355, .int .u32 t356] 67 (0, 0)) (by (with_reducible repeat (first | refine blk_drewN ?_ _ | refine blk_drew ?_ | refine blk_alloc ?_ _)); refine blk_put (cs := #[.int .u64 t354, .int .u32 t355, .int .u32 0]) ?_ 2 _ rfl; (with_reducible repeat (first | refine blk_drewN ?_ _ | refine blk_drew ?_ | refine blk_alloc ?_ _)); refine blk_put (cs := #[.int .u64 t354, .int .u32 0, .int .u32 0]) ?_ 1 _ rfl; (with_reducible repeat (first | refine blk_drewN ?_ _ | refine blk_drew ?_ | refine blk_alloc ?_ _)); refine blk_put (cs := #[.int .u64 0, .int .u32 0, .int .u32 0]) ?_ 0 _ rfl; (with_reducible repeat (first | refine blk_drewN ?_ _ | refine blk_drew ?_ | refine blk_alloc ?_ _)); exact BK358.out) hb); have n5_ := Aside0.mk (below_step (by repeat (first | (with_reducible first | exact HB.out | apply below_alloc | apply pw_below_drewN | apply below_drew1 | refine below_set ?_ GE340.out | refine below_set ?_ GE341.out | refine below_set ?_ GE348.out | refine below_set ?_ GE353.out | refine below_set ?_ GE358.out) | exact HB.out)) hb); clear BK340; clear BK341; clear BK348; clear BK353; clear BK358; clear HB; have BK340 := n0_; have BK341 := n1_; have BK348 := n2_; have BK353 := n3_; have BK358 := n4_; have HB := n5_; clear n0_ n1_ n2_ n3_ n4_ n5_; (try clear hb); (try clear hb2); (try clear hk); (try clear hi)))
          go_meet
          case rel => exact ⟨_, (!t359), (by first | rfl | (simp; done) | (simp [*]; done)), H', ⟨by have := HJ6.out; first | omega | exact Nat.le_refl _⟩, ⟨by (with_reducible repeat (first | refine blk_drewN ?_ _ | refine blk_drew ?_ | refine blk_alloc ?_ _)); exact BK340.out⟩, ⟨by (with_reducible repeat (first | refine blk_drewN ?_ _ | refine blk_drew ?_ | refine blk_alloc ?_ _)); exact BK341.out⟩, ⟨by (with_reducible repeat (first | refine blk_drewN ?_ _ | refine blk_drew ?_ | refine blk_alloc ?_ _)); exact BK348.out⟩, ⟨by (with_reducible repeat (first | refine blk_drewN ?_ _ | refine blk_drew ?_ | refine blk_alloc ?_ _)); exact BK353.out⟩, ⟨by (with_reducible repeat (first | refine blk_drewN ?_ _ | refine blk_drew ?_ | refine blk_alloc ?_ _)); exact BK358.out⟩, ⟨by repeat (first | (with_reducible first | exact HB.out | apply below_alloc | apply pw_below_drewN | apply below_drew1 | refine below_set ?_ GE340.out | refine below_set ?_ GE341.out | refine below_set ?_ GE348.out | refine below_set ?_ GE353.out | refine below_set ?_ GE358.out) | exact HB.out)⟩⟩
        ·replace c51 := Bool.eq_false_iff.mpr c51
         subst c51
         have H1 : (turnstonelaw04_PosMoves.j1 kj6 a2 true a0_0 a0_1 a0_2 a1_0 a1_1 a1_2 t344 t345 t346) = some r := by rw [if_neg (show ¬ (false = true) by decide)] at H; exact H
         clear H
         have H := H1
         clear H1
         have H' := Aside0.mk H
         clear H
         go_wp2
         go_meet
         case rel => exact ⟨_, (true), (by first | rfl | (simp; done) | (simp [*]; done)), H', ⟨by have := HJ6.out; first | omega | exact Nat.le_refl _⟩, ⟨by (with_reducible repeat (first | refine blk_drewN ?_ _ | refine blk_drew ?_ | refine blk_alloc ?_ _)); refine blk_far ?_ NB340_358.out _; (with_reducible repeat (first | refine blk_drewN ?_ _ | refine blk_drew ?_ | refine blk_alloc ?_ _)); refine blk_far ?_ NB340_358.out _; (with_reducible repeat (first | refine blk_drewN ?_ _ | refine blk_drew ?_ | refine blk_alloc ?_ _)); refine blk_far ?_ NB340_358.out _; (with_reducible repeat (first | refine blk_drewN ?_ _ | refine blk_drew ?_ | refine blk_alloc ?_ _)); exact BK340.out⟩, ⟨by (with_reducible repeat (first | refine blk_drewN ?_ _ | refine blk_drew ?_ | refine blk_alloc ?_ _)); refine blk_far ?_ NB341_358.out _; (with_reducible repeat (first | refine blk_drewN ?_ _ | refine blk_drew ?_ | refine blk_alloc ?_ _)); refine blk_far ?_ NB341_358.out _; (with_reducible repeat (first | refine blk_drewN ?_ _ | refine blk_drew ?_ | refine blk_alloc ?_ _)); refine blk_far ?_ NB341_358.out _; (with_reducible repeat (first | refine blk_drewN ?_ _ | refine blk_drew ?_ | refine blk_alloc ?_ _)); exact BK341.out⟩, ⟨by (with_reducible repeat (first | refine blk_drewN ?_ _ | refine blk_drew ?_ | refine blk_alloc ?_ _)); refine blk_far ?_ NB348_358.out _; (with_reducible repeat (first | refine blk_drewN ?_ _ | refine blk_drew ?_ | refine blk_alloc ?_ _)); refine blk_far ?_ NB348_358.out _; (with_reducible repeat (first | refine blk_drewN ?_ _ | refine blk_drew ?_ | refine blk_alloc ?_ _)); refine blk_far ?_ NB348_358.out _; (with_reducible repeat (first | refine blk_drewN ?_ _ | refine blk_drew ?_ | refine blk_alloc ?_ _)); exact BK348.out⟩, ⟨by (with_reducible repeat (first | refine blk_drewN ?_ _ | refine blk_drew ?_ | refine blk_alloc ?_ _)); refine blk_far ?_ NB353_358.out _; (with_reducible repeat (first | refine blk_drewN ?_ _ | refine blk_drew ?_ | refine blk_alloc ?_ _)); refine blk_far ?_ NB353_358.out _; (with_reducible repeat (first | refine blk_drewN ?_ _ | refine blk_drew ?_ | refine blk_alloc ?_ _)); refine blk_far ?_ NB353_358.out _; (with_reducible repeat (first | refine blk_drewN ?_ _ | refine blk_drew ?_ | refine blk_alloc ?_ _)); exact BK353.out⟩, ⟨by (with_reducible repeat (first | refine blk_drewN ?_ _ | refine blk_drew ?_ | refine blk_alloc ?_ _)); refine blk_put (cs := #[.int .u64 t354, .int .u32 t355, .int .u32 0]) ?_ 2 _ rfl; (with_reducible repeat (first | refine blk_drewN ?_ _ | refine blk_drew ?_ | refine blk_alloc ?_ _)); refine blk_put (cs := #[.int .u64 t354, .int .u32 0, .int .u32 0]) ?_ 1 _ rfl; (with_reducible repeat (first | refine blk_drewN ?_ _ | refine blk_drew ?_ | refine blk_alloc ?_ _)); refine blk_put (cs := #[.int .u64 0, .int .u32 0, .int .u32 0]) ?_ 0 _ rfl; (with_reducible repeat (first | refine blk_drewN ?_ _ | refine blk_drew ?_ | refine blk_alloc ?_ _)); exact BK358.out⟩, ⟨by repeat (first | (with_reducible first | exact HB.out | apply below_alloc | apply pw_below_drewN | apply below_drew1 | refine below_set ?_ GE340.out | refine below_set ?_ GE341.out | refine below_set ?_ GE348.out | refine below_set ?_ GE353.out | refine below_set ?_ GE358.out) | exact HB.out)⟩⟩
       ·replace c50 := Bool.eq_false_iff.mpr c50
        subst c50
        have H1 : (turnstonelaw04_PosMoves.j1 kj6 a2 true a0_0 a0_1 a0_2 a1_0 a1_1 a1_2 t344 t345 t346) = some r := by rw [if_neg (show ¬ (false = true) by decide)] at H; exact H
        clear H
        have H := H1
        clear H1
        have H' := Aside0.mk H
        clear H
        go_wp2
        go_meet
        case rel => exact ⟨_, (true), (by first | rfl | (simp; done) | (simp [*]; done)), H', ⟨by have := HJ6.out; first | omega | exact Nat.le_refl _⟩, ⟨by (with_reducible repeat (first | refine blk_drewN ?_ _ | refine blk_drew ?_ | refine blk_alloc ?_ _)); refine blk_far ?_ NB340_358.out _; (with_reducible repeat (first | refine blk_drewN ?_ _ | refine blk_drew ?_ | refine blk_alloc ?_ _)); refine blk_far ?_ NB340_358.out _; (with_reducible repeat (first | refine blk_drewN ?_ _ | refine blk_drew ?_ | refine blk_alloc ?_ _)); refine blk_far ?_ NB340_358.out _; (with_reducible repeat (first | refine blk_drewN ?_ _ | refine blk_drew ?_ | refine blk_alloc ?_ _)); exact BK340.out⟩, ⟨by (with_reducible repeat (first | refine blk_drewN ?_ _ | refine blk_drew ?_ | refine blk_alloc ?_ _)); refine blk_far ?_ NB341_358.out _; (with_reducible repeat (first | refine blk_drewN ?_ _ | refine blk_drew ?_ | refine blk_alloc ?_ _)); refine blk_far ?_ NB341_358.out _; (with_reducible repeat (first | refine blk_drewN ?_ _ | refine blk_drew ?_ | refine blk_alloc ?_ _)); refine blk_far ?_ NB341_358.out _; (with_reducible repeat (first | refine blk_drewN ?_ _ | refine blk_drew ?_ | refine blk_alloc ?_ _)); exact BK341.out⟩, ⟨by (with_reducible repeat (first | refine blk_drewN ?_ _ | refine blk_drew ?_ | refine blk_alloc ?_ _)); refine blk_far ?_ NB348_358.out _; (with_reducible repeat (first | refine blk_drewN ?_ _ | refine blk_drew ?_ | refine blk_alloc ?_ _)); refine blk_far ?_ NB348_358.out _; (with_reducible repeat (first | refine blk_drewN ?_ _ | refine blk_drew ?_ | refine blk_alloc ?_ _)); refine blk_far ?_ NB348_358.out _; (with_reducible repeat (first | refine blk_drewN ?_ _ | refine blk_drew ?_ | refine blk_alloc ?_ _)); exact BK348.out⟩, ⟨by (with_reducible repeat (first | refine blk_drewN ?_ _ | refine blk_drew ?_ | refine blk_alloc ?_ _)); refine blk_far ?_ NB353_358.out _; (with_reducible repeat (first | refine blk_drewN ?_ _ | refine blk_drew ?_ | refine blk_alloc ?_ _)); refine blk_far ?_ NB353_358.out _; (with_reducible repeat (first | refine blk_drewN ?_ _ | refine blk_drew ?_ | refine blk_alloc ?_ _)); refine blk_far ?_ NB353_358.out _; (with_reducible repeat (first | refine blk_drewN ?_ _ | refine blk_drew ?_ | refine blk_alloc ?_ _)); exact BK353.out⟩, ⟨by (with_reducible repeat (first | refine blk_drewN ?_ _ | refine blk_drew ?_ | refine blk_alloc ?_ _)); refine blk_put (cs := #[.int .u64 t354, .int .u32 t355, .int .u32 0]) ?_ 2 _ rfl; (with_reducible repeat (first | refine blk_drewN ?_ _ | refine blk_drew ?_ | refine blk_alloc ?_ _)); refine blk_put (cs := #[.int .u64 t354, .int .u32 0, .int .u32 0]) ?_ 1 _ rfl; (with_reducible repeat (first | refine blk_drewN ?_ _ | refine blk_drew ?_ | refine blk_alloc ?_ _)); refine blk_put (cs := #[.int .u64 0, .int .u32 0, .int .u32 0]) ?_ 0 _ rfl; (with_reducible repeat (first | refine blk_drewN ?_ _ | refine blk_drew ?_ | refine blk_alloc ?_ _)); exact BK358.out⟩, ⟨by repeat (first | (with_reducible first | exact HB.out | apply below_alloc | apply pw_below_drewN | apply below_drew1 | refine below_set ?_ GE340.out | refine below_set ?_ GE341.out | refine below_set ?_ GE348.out | refine below_set ?_ GE353.out | refine below_set ?_ GE358.out) | exact HB.out)⟩⟩
      ·replace c49 := Bool.eq_false_iff.mpr c49
       subst c49
       have H1 : (turnstonelaw04_PosMoves.j1 kj6 a2 true a0_0 a0_1 a0_2 a1_0 a1_1 a1_2 t344 t345 t346) = some r := by rw [if_neg (show ¬ (false = true) by decide)] at H; exact H
       clear H
       have H := H1
       clear H1
       have H' := Aside0.mk H
       clear H
       go_wp2
       go_meet
       case rel => exact ⟨_, (true), (by first | rfl | (simp; done) | (simp [*]; done)), H', ⟨by have := HJ6.out; first | omega | exact Nat.le_refl _⟩, ⟨by (with_reducible repeat (first | refine blk_drewN ?_ _ | refine blk_drew ?_ | refine blk_alloc ?_ _)); refine blk_far ?_ NB340_358.out _; (with_reducible repeat (first | refine blk_drewN ?_ _ | refine blk_drew ?_ | refine blk_alloc ?_ _)); refine blk_far ?_ NB340_358.out _; (with_reducible repeat (first | refine blk_drewN ?_ _ | refine blk_drew ?_ | refine blk_alloc ?_ _)); refine blk_far ?_ NB340_358.out _; (with_reducible repeat (first | refine blk_drewN ?_ _ | refine blk_drew ?_ | refine blk_alloc ?_ _)); exact BK340.out⟩, ⟨by (with_reducible repeat (first | refine blk_drewN ?_ _ | refine blk_drew ?_ | refine blk_alloc ?_ _)); refine blk_far ?_ NB341_358.out _; (with_reducible repeat (first | refine blk_drewN ?_ _ | refine blk_drew ?_ | refine blk_alloc ?_ _)); refine blk_far ?_ NB341_358.out _; (with_reducible repeat (first | refine blk_drewN ?_ _ | refine blk_drew ?_ | refine blk_alloc ?_ _)); refine blk_far ?_ NB341_358.out _; (with_reducible repeat (first | refine blk_drewN ?_ _ | refine blk_drew ?_ | refine blk_alloc ?_ _)); exact BK341.out⟩, ⟨by (with_reducible repeat (first | refine blk_drewN ?_ _ | refine blk_drew ?_ | refine blk_alloc ?_ _)); refine blk_far ?_ NB348_358.out _; (with_reducible repeat (first | refine blk_drewN ?_ _ | refine blk_drew ?_ | refine blk_alloc ?_ _)); refine blk_far ?_ NB348_358.out _; (with_reducible repeat (first | refine blk_drewN ?_ _ | refine blk_drew ?_ | refine blk_alloc ?_ _)); refine blk_far ?_ NB348_358.out _; (with_reducible repeat (first | refine blk_drewN ?_ _ | refine blk_drew ?_ | refine blk_alloc ?_ _)); exact BK348.out⟩, ⟨by (with_reducible repeat (first | refine blk_drewN ?_ _ | refine blk_drew ?_ | refine blk_alloc ?_ _)); refine blk_far ?_ NB353_358.out _; (with_reducible repeat (first | refine blk_drewN ?_ _ | refine blk_drew ?_ | refine blk_alloc ?_ _)); refine blk_far ?_ NB353_358.out _; (with_reducible repeat (first | refine blk_drewN ?_ _ | refine blk_drew ?_ | refine blk_alloc ?_ _)); refine blk_far ?_ NB353_358.out _; (with_reducible repeat (first | refine blk_drewN ?_ _ | refine blk_drew ?_ | refine blk_alloc ?_ _)); exact BK353.out⟩, ⟨by (with_reducible repeat (first | refine blk_drewN ?_ _ | refine blk_drew ?_ | refine blk_alloc ?_ _)); refine blk_put (cs := #[.int .u64 t354, .int .u32 t355, .int .u32 0]) ?_ 2 _ rfl; (with_reducible repeat (first | refine blk_drewN ?_ _ | refine blk_drew ?_ | refine blk_alloc ?_ _)); refine blk_put (cs := #[.int .u64 t354, .int .u32 0, .int .u32 0]) ?_ 1 _ rfl; (with_reducible repeat (first | refine blk_drewN ?_ _ | refine blk_drew ?_ | refine blk_alloc ?_ _)); refine blk_put (cs := #[.int .u64 0, .int .u32 0, .int .u32 0]) ?_ 0 _ rfl; (with_reducible repeat (first | refine blk_drewN ?_ _ | refine blk_drew ?_ | refine blk_alloc ?_ _)); exact BK358.out⟩, ⟨by repeat (first | (with_reducible first | exact HB.out | apply below_alloc | apply pw_below_drewN | apply below_drew1 | refine below_set ?_ GE340.out | refine below_set ?_ GE341.out | refine below_set ?_ GE348.out | refine below_set ?_ GE353.out | refine below_set ?_ GE358.out) | exact HB.out)⟩⟩
     case rest =>
      clear HC27
      try clear c1
      try clear c2
      try clear p2
      try clear c3
      try clear c4
      try clear c5
      try clear c6
      try clear c7
      try clear c12
      try clear c13
      try clear c13b0
      try clear c14
      try clear c15
      try clear c17
      try clear c20
      try clear c23
      try clear c28
      try clear c32
      try clear c33
      try clear c37
      try clear c38
      try clear c39
      try clear c44
      try clear c45
      try clear c46
      try clear c47
      try clear c49
      try clear c50
      try clear c51
      try clear c52
      try clear c52b0
      try clear c53
      try clear c54
      try clear c55
      try clear c56
      try clear c58
      try clear c59
      try clear c60
      try clear c63
      try clear c64
      try clear c65
      try clear c66
      try clear c68
      try clear c69
      try clear c70
      try clear c72
      try clear c73
      try clear hcz15_0
      try clear hcz15_1
      try clear hcz15_2
      try clear hcz18_0
      try clear hcz18_1
      try clear hcz18_2
      try clear hcz21_0
      try clear hcz21_1
      try clear hcz21_2
      try clear hcz29_0
      try clear hcz29_1
      try clear hcz29_2
      try clear hcz34_0
      try clear hcz34_1
      try clear hcz34_2
      try clear hcz40_0
      try clear hcz40_1
      try clear hcz40_2
      try clear hcz41_0
      try clear hcz41_1
      try clear hcz41_2
      try clear hcz48_0
      try clear hcz48_1
      try clear hcz48_2
      try clear hcz57_0
      try clear hcz57_1
      try clear hcz57_2
      try clear hcz61_0
      try clear hcz61_1
      try clear hcz61_2
      try clear hcz67_0
      try clear hcz67_1
      try clear hcz67_2
      try clear hcz71_0
      try clear hcz71_1
      try clear hcz71_2
      try clear hcz74_0
      try clear hcz74_1
      try clear hcz74_2
      try clear hfz15_0
      try clear hfz15_1
      try clear hfz15_2
      try clear hfz18_0
      try clear hfz18_1
      try clear hfz18_2
      try clear hfz21_0
      try clear hfz21_1
      try clear hfz21_2
      try clear hfz29_0
      try clear hfz29_1
      try clear hfz29_2
      try clear hfz34_0
      try clear hfz34_1
      try clear hfz34_2
      try clear hfz40_0
      try clear hfz40_1
      try clear hfz40_2
      try clear hfz41_0
      try clear hfz41_1
      try clear hfz41_2
      try clear hfz48_0
      try clear hfz48_1
      try clear hfz48_2
      try clear hfz57_0
      try clear hfz57_1
      try clear hfz57_2
      try clear hfz61_0
      try clear hfz61_1
      try clear hfz61_2
      try clear hfz67_0
      try clear hfz67_1
      try clear hfz67_2
      try clear hfz71_0
      try clear hfz71_1
      try clear hfz71_2
      try clear hfz74_0
      try clear hfz74_1
      try clear hfz74_2
      try clear p2
      obtain ⟨kq, x69_26, rfl, HA, HJ26, BK340, BK341, BK348, BK353, BK358, HB⟩ := hcut
      cases kq with
      | zero => exact absurd HA.out (by simp [turnstonelaw04_PosMoves.j1])
      | succ kj26 =>
       have H := HA.out
       clear HA
       simp only [turnstonelaw04_PosMoves.j1] at H
       by_cases c76 : x69_26 = true
       ·subst c76
        have H1 : (none) = some r := by rw [if_pos rfl] at H; exact H
        clear H
        have H := H1
        clear H1
        exact absurd H (by simp)
       ·replace c76 := Bool.eq_false_iff.mpr c76
        subst c76
        have H1 : ((vtime_Time_Since.f t344 a0_0).bind fun t360 => (if t360 < 0 then (turnstonelaw04_PosMoves.j2 kj26 a2 true a0_0 a0_1 a0_2 a1_0 a1_1 a1_2 t344 t345 t346) else ((pos_Pos_Cmp.f kj26 t344 t345 t346 a0_0 a0_1 a0_2).bind fun t361 => (turnstonelaw04_PosMoves.j2 kj26 a2 (t361 != (mn 1 (wrap64 (a2)))) a0_0 a0_1 a0_2 a1_0 a1_1 a1_2 t344 t345 t346)))) = some r := by rw [if_neg (show ¬ (false = true) by decide)] at H; exact H
        clear H
        have H := H1
        clear H1
        have HC77 := Aside0.mk H
        clear H
        go_upto_region 10 with (fail)
        go_cut [84] (fun v84 wc => ∃ (kq : Nat) (x84_76 : Bool), v84 = .bool x84_76 ∧ Aside0 (turnstonelaw04_PosMoves.j2 kq a2 x84_76 a0_0 a0_1 a0_2 a1_0 a1_1 a1_2 t344 t345 t346 = some r) ∧ Aside0 (kq ≤ kj26) ∧ Aside0 (wc.heap[gb340]? = some (.cells #[.int .u64 a0_0, .int .u32 a0_1, .int .u32 a0_2] 67 (0, 0))) ∧ Aside0 (wc.heap[gb341]? = some (.cells #[.int .u64 a1_0, .int .u32 a1_1, .int .u32 a1_2] 67 (0, 0))) ∧ Aside0 (wc.heap[gb348]? = some (.cells #[.int .u64 t344, .int .u32 t345, .int .u32 t346] 67 (0, 0))) ∧ Aside0 (wc.heap[gb353]? = some (.cells #[.int .u64 t349, .int .u32 t350, .int .u32 t351] 67 (0, 0))) ∧ Aside0 (wc.heap[gb358]? = some (.cells #[.int .u64 t354, .int .u32 t355, .int .u32 t356] 67 (0, 0))) ∧ Aside0 (Below w.heap.size w wc))
        case first =>
         have H := HC77.out
         clear HC77
         replace H := Option.bind_eq_some_iff.mp H
         obtain ⟨t360, A780, H⟩ := H
         replace H : (if t360 < 0 then (turnstonelaw04_PosMoves.j2 kj26 a2 true a0_0 a0_1 a0_2 a1_0 a1_1 a1_2 t344 t345 t346) else ((pos_Pos_Cmp.f kj26 t344 t345 t346 a0_0 a0_1 a0_2).bind fun t361 => (turnstonelaw04_PosMoves.j2 kj26 a2 (t361 != (mn 1 (wrap64 (a2)))) a0_0 a0_1 a0_2 a1_0 a1_1 a1_2 t344 t345 t346))) = some r := H
         have A78 := Aside0.mk A780
         clear A780
         by_cases c79 : t360 < 0
         ·rw [if_pos c79] at H
          have c79b0 : decide (t360 < 0) = true := decide_eq_true c79
          clear c79
          (first | rw [c79b0] | (simp only [i64_w, i32_w]; rw [c79b0]) | skip)
          have H' := Aside0.mk H
          clear H
          have hnb80 := NB348_340.out
          have hnc80 := NB340_348.out
          have hnb81 := NB348_341.out
          have hnc81 := NB341_348.out
          have hnb82 := NB348_353.out
          have hnc82 := NB353_348.out
          have hnb83 := NB348_358.out
          have hnc83 := NB358_348.out
          have hcz84_0 : wc.cell? ⟨gb348, 0, none⟩ = some (.int .u64 t344) := (blk_cell BK348.out 0).trans rfl
          have hcz84_1 : wc.cell? ⟨gb348, 1, none⟩ = some (.int .u32 t345) := (blk_cell BK348.out 1).trans rfl
          have hcz84_2 : wc.cell? ⟨gb348, 2, none⟩ = some (.int .u32 t346) := (blk_cell BK348.out 2).trans rfl
          have hfz84_0 := blk_frozen BK348.out 0
          have hfz84_1 := blk_frozen BK348.out 1
          have hfz84_2 := blk_frozen BK348.out 2
          have hnb85 := NB340_341.out
          have hnc85 := NB341_340.out
          have hnb86 := NB340_353.out
          have hnc86 := NB353_340.out
          have hnb87 := NB340_358.out
          have hnc87 := NB358_340.out
          have hcz88_0 : wc.cell? ⟨gb340, 0, none⟩ = some (.int .u64 a0_0) := (blk_cell BK340.out 0).trans rfl
          have hcz88_1 : wc.cell? ⟨gb340, 1, none⟩ = some (.int .u32 a0_1) := (blk_cell BK340.out 1).trans rfl
          have hcz88_2 : wc.cell? ⟨gb340, 2, none⟩ = some (.int .u32 a0_2) := (blk_cell BK340.out 2).trans rfl
          have hfz88_0 := blk_frozen BK340.out 0
          have hfz88_1 := blk_frozen BK340.out 1
          have hfz88_2 := blk_frozen BK340.out 2
          go_wp2_with (first | ((with_reducible refine gate_callee (f := 20) rfl ?_); refine goesL_ (some 74) rfl rfl Try.func20 (by kernel_rfl) rfl #[.int .u64 t344, .int .u64 a0_0] rfl (by (try simp only [List.map_toArray, List.map_cons, List.map_nil]); first | done | rfl | (simp only [List.length_drop, List.length_take]; rfl)) ?_; (with_reducible refine (vtime_Time_Since.calls t344 a0_0 t360 _ A78.out).mono ?_); rintro e w' ⟨rfl, ⟨nd, rfl⟩⟩; refine ⟨_, rfl, ?_⟩))
          go_meet
          case rel => exact ⟨_, (true), (by first | rfl | (simp; done) | (simp [*]; done)), H', ⟨by have := HJ6.out; have := HJ26.out; first | omega | exact Nat.le_refl _⟩, ⟨by (with_reducible repeat (first | refine blk_drewN ?_ _ | refine blk_drew ?_ | refine blk_alloc ?_ _)); exact BK340.out⟩, ⟨by (with_reducible repeat (first | refine blk_drewN ?_ _ | refine blk_drew ?_ | refine blk_alloc ?_ _)); exact BK341.out⟩, ⟨by (with_reducible repeat (first | refine blk_drewN ?_ _ | refine blk_drew ?_ | refine blk_alloc ?_ _)); exact BK348.out⟩, ⟨by (with_reducible repeat (first | refine blk_drewN ?_ _ | refine blk_drew ?_ | refine blk_alloc ?_ _)); exact BK353.out⟩, ⟨by (with_reducible repeat (first | refine blk_drewN ?_ _ | refine blk_drew ?_ | refine blk_alloc ?_ _)); exact BK358.out⟩, ⟨by repeat (first | (with_reducible first | exact HB.out | apply below_alloc | apply pw_below_drewN | apply below_drew1 | refine below_set ?_ GE340.out | refine below_set ?_ GE341.out | refine below_set ?_ GE348.out | refine below_set ?_ GE353.out | refine below_set ?_ GE358.out) | exact HB.out)⟩⟩
         ·rw [if_neg c79] at H
          have c79b0 : decide (t360 < 0) = false := decide_eq_false c79
          clear c79
          (first | rw [c79b0] | (simp only [i64_w, i32_w]; rw [c79b0]) | skip)
          replace H := Option.bind_eq_some_iff.mp H
          obtain ⟨t361, A890, H⟩ := H
          replace H : (turnstonelaw04_PosMoves.j2 kj26 a2 (t361 != (mn 1 (wrap64 (a2)))) a0_0 a0_1 a0_2 a1_0 a1_1 a1_2 t344 t345 t346) = some r := H
          have A89 := Aside0.mk A890
          clear A890
          obtain ⟨ji90, hji90⟩ : ∃ j_ : Int, (mn 1 (wrap64 (a2))) = j_ := ⟨_, rfl⟩
          replace H : (turnstonelaw04_PosMoves.j2 kj26 a2 (t361 != (ji90)) a0_0 a0_1 a0_2 a1_0 a1_1 a1_2 t344 t345 t346) = some r := by first | (rw [hji90] at H; exact H) | (simp only [hji90] at H ⊢; exact H)
          (try rw [hji90] at A78)
          (try rw [hji90] at A89)
          have hji90_ : (if (wrap64 (a2)) < 1 then (wrap64 (a2)) else 1) = ji90 := hji90
          have H' := Aside0.mk H
          clear H
          have hnb91 := NB348_340.out
          have hnc91 := NB340_348.out
          have hnb92 := NB348_341.out
          have hnc92 := NB341_348.out
          have hnb93 := NB348_353.out
          have hnc93 := NB353_348.out
          have hnb94 := NB348_358.out
          have hnc94 := NB358_348.out
          have hcz95_0 : wc.cell? ⟨gb348, 0, none⟩ = some (.int .u64 t344) := (blk_cell BK348.out 0).trans rfl
          have hcz95_1 : wc.cell? ⟨gb348, 1, none⟩ = some (.int .u32 t345) := (blk_cell BK348.out 1).trans rfl
          have hcz95_2 : wc.cell? ⟨gb348, 2, none⟩ = some (.int .u32 t346) := (blk_cell BK348.out 2).trans rfl
          have hfz95_0 := blk_frozen BK348.out 0
          have hfz95_1 := blk_frozen BK348.out 1
          have hfz95_2 := blk_frozen BK348.out 2
          have hnb96 := NB340_341.out
          have hnc96 := NB341_340.out
          have hnb97 := NB340_353.out
          have hnc97 := NB353_340.out
          have hnb98 := NB340_358.out
          have hnc98 := NB358_340.out
          have hcz99_0 : wc.cell? ⟨gb340, 0, none⟩ = some (.int .u64 a0_0) := (blk_cell BK340.out 0).trans rfl
          have hcz99_1 : wc.cell? ⟨gb340, 1, none⟩ = some (.int .u32 a0_1) := (blk_cell BK340.out 1).trans rfl
          have hcz99_2 : wc.cell? ⟨gb340, 2, none⟩ = some (.int .u32 a0_2) := (blk_cell BK340.out 2).trans rfl
          have hfz99_0 := blk_frozen BK340.out 0
          have hfz99_1 := blk_frozen BK340.out 1
          have hfz99_2 := blk_frozen BK340.out 2
          go_wp2_with (first | ((with_reducible refine gate_callee (f := 20) rfl ?_); refine goesL_ (some 74) rfl rfl Try.func20 (by kernel_rfl) rfl #[.int .u64 t344, .int .u64 a0_0] rfl (by (try simp only [List.map_toArray, List.map_cons, List.map_nil]); first | done | rfl | (simp only [List.length_drop, List.length_take]; rfl)) ?_; (with_reducible refine (vtime_Time_Since.calls t344 a0_0 t360 _ A78.out).mono ?_); rintro e w' ⟨rfl, ⟨nd, rfl⟩⟩; refine ⟨_, rfl, ?_⟩) | (go_at_call 51; (with_reducible refine (pos_Pos_Cmp.calls kj26 t344 t345 t346 a0_0 a0_1 a0_2 t361 _ A89.out).mono ?_); rintro e w100 ⟨rfl, hb⟩; have n0_ := Aside0.mk (blk_below (g := gb340) (o := .cells #[.int .u64 a0_0, .int .u32 a0_1, .int .u32 a0_2] 67 (0, 0)) (by (with_reducible repeat (first | refine blk_drewN ?_ _ | refine blk_drew ?_ | refine blk_alloc ?_ _)); exact BK340.out) hb); have n1_ := Aside0.mk (blk_below (g := gb341) (o := .cells #[.int .u64 a1_0, .int .u32 a1_1, .int .u32 a1_2] 67 (0, 0)) (by (with_reducible repeat (first | refine blk_drewN ?_ _ | refine blk_drew ?_ | refine blk_alloc ?_ _)); exact BK341.out) hb); have n2_ := Aside0.mk (blk_below (g := gb348) (o := .cells #[.int .u64 t344, .int .u32 t345, .int .u32 t346] 67 (0, 0)) (by (with_reducible repeat (first | refine blk_drewN ?_ _ | refine blk_drew ?_ | refine blk_alloc ?_ _)); exact BK348.out) hb); have n3_ := Aside0.mk (blk_below (g := gb353) (o := .cells #[.int .u64 t349, .int .u32 t350, .int .u32 t351] 67 (0, 0)) (by (with_reducible repeat (first | refine blk_drewN ?_ _ | refine blk_drew ?_ | refine blk_alloc ?_ _)); exact BK353.out) hb); have n4_ := Aside0.mk (blk_below (g := gb358) (o := .cells #[.int .u64 t354, .int .u32 t355, .int .u32 t356] 67 (0, 0)) (by (with_reducible repeat (first | refine blk_drewN ?_ _ | refine blk_drew ?_ | refine blk_alloc ?_ _)); exact BK358.out) hb); have n5_ := Aside0.mk (below_step (by repeat (first | (with_reducible first | exact HB.out | apply below_alloc | apply pw_below_drewN | apply below_drew1 | refine below_set ?_ GE340.out | refine below_set ?_ GE341.out | refine below_set ?_ GE348.out | refine below_set ?_ GE353.out | refine below_set ?_ GE358.out) | exact HB.out)) hb); clear BK340; clear BK341; clear BK348; clear BK353; clear BK358; clear HB; have BK340 := n0_; have BK341 := n1_; have BK348 := n2_; have BK353 := n3_; have BK358 := n4_; have HB := n5_; clear n0_ n1_ n2_ n3_ n4_ n5_; (try clear hb); (try clear hb2); (try clear hk); (try clear hi)))
          go_meet
          case rel => exact ⟨_, ((t361 != (ji90))), (by first | rfl | (simp; done) | (simp only [← hji90] <;> (first | rfl | simp)) | (simp [*]; done)), H', ⟨by have := HJ6.out; have := HJ26.out; first | omega | exact Nat.le_refl _⟩, ⟨by (with_reducible repeat (first | refine blk_drewN ?_ _ | refine blk_drew ?_ | refine blk_alloc ?_ _)); exact BK340.out⟩, ⟨by (with_reducible repeat (first | refine blk_drewN ?_ _ | refine blk_drew ?_ | refine blk_alloc ?_ _)); exact BK341.out⟩, ⟨by (with_reducible repeat (first | refine blk_drewN ?_ _ | refine blk_drew ?_ | refine blk_alloc ?_ _)); exact BK348.out⟩, ⟨by (with_reducible repeat (first | refine blk_drewN ?_ _ | refine blk_drew ?_ | refine blk_alloc ?_ _)); exact BK353.out⟩, ⟨by (with_reducible repeat (first | refine blk_drewN ?_ _ | refine blk_drew ?_ | refine blk_alloc ?_ _)); exact BK358.out⟩, ⟨by repeat (first | (with_reducible first | exact HB.out | apply below_alloc | apply pw_below_drewN | apply below_drew1 | refine below_set ?_ GE340.out | refine below_set ?_ GE341.out | refine below_set ?_ GE348.out | refine below_set ?_ GE353.out | refine below_set ?_ GE358.out) | exact HB.out)⟩⟩
        case rest =>
         clear HC77
         try clear c1
         try clear c2
         try clear p2
         try clear c3
         try clear c4
         try clear c5
         try clear c6
         try clear p6
         try clear c7
         try clear c8
         try clear c9
         try clear c12
         try clear c13
         try clear c13b0
         try clear c14
         try clear c15
         try clear c17
         try clear c20
         try clear c23
         try clear c28
         try clear c32
         try clear c33
         try clear c37
         try clear c38
         try clear c39
         try clear c44
         try clear c45
         try clear c46
         try clear c47
         try clear c49
         try clear c50
         try clear c51
         try clear c52
         try clear c52b0
         try clear c53
         try clear c54
         try clear c55
         try clear c56
         try clear c58
         try clear c59
         try clear c60
         try clear c63
         try clear c64
         try clear p64
         try clear c65
         try clear c66
         try clear c68
         try clear c69
         try clear c70
         try clear c72
         try clear c73
         try clear c76
         try clear c79
         try clear c79b0
         try clear c80
         try clear c81
         try clear c82
         try clear c83
         try clear c85
         try clear c86
         try clear c87
         try clear c91
         try clear c92
         try clear c93
         try clear c94
         try clear c96
         try clear c97
         try clear c98
         try clear hcz15_0
         try clear hcz15_1
         try clear hcz15_2
         try clear hcz18_0
         try clear hcz18_1
         try clear hcz18_2
         try clear hcz21_0
         try clear hcz21_1
         try clear hcz21_2
         try clear hcz29_0
         try clear hcz29_1
         try clear hcz29_2
         try clear hcz34_0
         try clear hcz34_1
         try clear hcz34_2
         try clear hcz40_0
         try clear hcz40_1
         try clear hcz40_2
         try clear hcz41_0
         try clear hcz41_1
         try clear hcz41_2
         try clear hcz48_0
         try clear hcz48_1
         try clear hcz48_2
         try clear hcz57_0
         try clear hcz57_1
         try clear hcz57_2
         try clear hcz61_0
         try clear hcz61_1
         try clear hcz61_2
         try clear hcz67_0
         try clear hcz67_1
         try clear hcz67_2
         try clear hcz71_0
         try clear hcz71_1
         try clear hcz71_2
         try clear hcz74_0
         try clear hcz74_1
         try clear hcz74_2
         try clear hcz84_0
         try clear hcz84_1
         try clear hcz84_2
         try clear hcz88_0
         try clear hcz88_1
         try clear hcz88_2
         try clear hcz95_0
         try clear hcz95_1
         try clear hcz95_2
         try clear hcz99_0
         try clear hcz99_1
         try clear hcz99_2
         try clear hfz15_0
         try clear hfz15_1
         try clear hfz15_2
         try clear hfz18_0
         try clear hfz18_1
         try clear hfz18_2
         try clear hfz21_0
         try clear hfz21_1
         try clear hfz21_2
         try clear hfz29_0
         try clear hfz29_1
         try clear hfz29_2
         try clear hfz34_0
         try clear hfz34_1
         try clear hfz34_2
         try clear hfz40_0
         try clear hfz40_1
         try clear hfz40_2
         try clear hfz41_0
         try clear hfz41_1
         try clear hfz41_2
         try clear hfz48_0
         try clear hfz48_1
         try clear hfz48_2
         try clear hfz57_0
         try clear hfz57_1
         try clear hfz57_2
         try clear hfz61_0
         try clear hfz61_1
         try clear hfz61_2
         try clear hfz67_0
         try clear hfz67_1
         try clear hfz67_2
         try clear hfz71_0
         try clear hfz71_1
         try clear hfz71_2
         try clear hfz74_0
         try clear hfz74_1
         try clear hfz74_2
         try clear hfz84_0
         try clear hfz84_1
         try clear hfz84_2
         try clear hfz88_0
         try clear hfz88_1
         try clear hfz88_2
         try clear hfz95_0
         try clear hfz95_1
         try clear hfz95_2
         try clear hfz99_0
         try clear hfz99_1
         try clear hfz99_2
         try clear p2
         obtain ⟨kq, x84_76, rfl, HA, HJ76, BK340, BK341, BK348, BK353, BK358, HB⟩ := hcut
         cases kq with
         | zero => exact absurd HA.out (by simp [turnstonelaw04_PosMoves.j2])
         | succ kj76 =>
          have H := HA.out
          clear HA
          simp only [turnstonelaw04_PosMoves.j2] at H
          by_cases c101 : x84_76 = true
          ·subst c101
           have H1 : (none) = some r := by rw [if_pos rfl] at H; exact H
           clear H
           have H := H1
           clear H1
           exact absurd H (by simp)
          ·replace c101 := Bool.eq_false_iff.mpr c101
           subst c101
           have H1 : ((pos_Pos_Right.f a1_0 a1_1 a0_2).bind fun t362 => (if t362 = true then ((vtime_Time_Since.f a1_0 a0_0).bind fun t363 => (if t363 ≥ 2305843009213693952 then (turnstonelaw04_PosMoves.j3 kj76 a2 true a0_0 a0_1 a0_2 a1_0 a1_1 a0_2 t344 t345 t346) else (turnstonelaw04_PosMoves.j3 kj76 a2 (decide (t363 ≤ (-2305843009213693952))) a0_0 a0_1 a0_2 a1_0 a1_1 a0_2 t344 t345 t346))) else (turnstonelaw04_PosMoves.j3 kj76 a2 true a0_0 a0_1 a0_2 a1_0 a1_1 a0_2 t344 t345 t346))) = some r := by rw [if_neg (show ¬ (false = true) by decide)] at H; exact H
           clear H
           have H := H1
           clear H1
           have HC102 := Aside0.mk H
           clear H
           have hnb103 := NB340_341.out
           have hnc103 := NB341_340.out
           have hnb104 := NB340_348.out
           have hnc104 := NB348_340.out
           have hnb105 := NB340_353.out
           have hnc105 := NB353_340.out
           have hnb106 := NB340_358.out
           have hnc106 := NB358_340.out
           have hcz107_0 : wc.cell? ⟨gb340, 0, none⟩ = some (.int .u64 a0_0) := (blk_cell BK340.out 0).trans rfl
           have hcz107_1 : wc.cell? ⟨gb340, 1, none⟩ = some (.int .u32 a0_1) := (blk_cell BK340.out 1).trans rfl
           have hcz107_2 : wc.cell? ⟨gb340, 2, none⟩ = some (.int .u32 a0_2) := (blk_cell BK340.out 2).trans rfl
           have hfz107_0 := blk_frozen BK340.out 0
           have hfz107_1 := blk_frozen BK340.out 1
           have hfz107_2 := blk_frozen BK340.out 2
           have hnb108 := NB341_348.out
           have hnc108 := NB348_341.out
           have hnb109 := NB341_353.out
           have hnc109 := NB353_341.out
           have hnb110 := NB341_358.out
           have hnc110 := NB358_341.out
           have hcz111_0 : wc.cell? ⟨gb341, 0, none⟩ = some (.int .u64 a1_0) := (blk_cell BK341.out 0).trans rfl
           have hcz111_1 : wc.cell? ⟨gb341, 1, none⟩ = some (.int .u32 a1_1) := (blk_cell BK341.out 1).trans rfl
           have hcz111_2 : wc.cell? ⟨gb341, 2, none⟩ = some (.int .u32 a1_2) := (blk_cell BK341.out 2).trans rfl
           have hfz111_0 := blk_frozen BK341.out 0
           have hfz111_1 := blk_frozen BK341.out 1
           have hfz111_2 := blk_frozen BK341.out 2
           go_upto_region 13 with (fail)
           go_cut [106] (fun v106 wc => ∃ (kq : Nat) (x106_101 : Bool), v106 = .bool x106_101 ∧ Aside0 (turnstonelaw04_PosMoves.j3 kq a2 x106_101 a0_0 a0_1 a0_2 a1_0 a1_1 a0_2 t344 t345 t346 = some r) ∧ Aside0 (kq ≤ kj76) ∧ Aside0 (wc.heap[gb340]? = some (.cells #[.int .u64 a0_0, .int .u32 a0_1, .int .u32 a0_2] 67 (0, 0))) ∧ Aside0 (wc.heap[gb341]? = some (.cells #[.int .u64 a1_0, .int .u32 a1_1, .int .u32 a0_2] 67 (0, 0))) ∧ Aside0 (wc.heap[gb348]? = some (.cells #[.int .u64 t344, .int .u32 t345, .int .u32 t346] 67 (0, 0))) ∧ Aside0 (wc.heap[gb353]? = some (.cells #[.int .u64 t349, .int .u32 t350, .int .u32 t351] 67 (0, 0))) ∧ Aside0 (wc.heap[gb358]? = some (.cells #[.int .u64 t354, .int .u32 t355, .int .u32 t356] 67 (0, 0))) ∧ Aside0 (Below w.heap.size w wc))
           case first =>
            have H := HC102.out
            clear HC102
            replace H := Option.bind_eq_some_iff.mp H
            obtain ⟨t362, A1120, H⟩ := H
            replace H : (if t362 = true then ((vtime_Time_Since.f a1_0 a0_0).bind fun t363 => (if t363 ≥ 2305843009213693952 then (turnstonelaw04_PosMoves.j3 kj76 a2 true a0_0 a0_1 a0_2 a1_0 a1_1 a0_2 t344 t345 t346) else (turnstonelaw04_PosMoves.j3 kj76 a2 (decide (t363 ≤ (-2305843009213693952))) a0_0 a0_1 a0_2 a1_0 a1_1 a0_2 t344 t345 t346))) else (turnstonelaw04_PosMoves.j3 kj76 a2 true a0_0 a0_1 a0_2 a1_0 a1_1 a0_2 t344 t345 t346)) = some r := H
            have A112 := Aside0.mk A1120
            clear A1120
            by_cases c113 : t362 = true
            ·subst c113
             have H1 : ((vtime_Time_Since.f a1_0 a0_0).bind fun t363 => (if t363 ≥ 2305843009213693952 then (turnstonelaw04_PosMoves.j3 kj76 a2 true a0_0 a0_1 a0_2 a1_0 a1_1 a0_2 t344 t345 t346) else (turnstonelaw04_PosMoves.j3 kj76 a2 (decide (t363 ≤ (-2305843009213693952))) a0_0 a0_1 a0_2 a1_0 a1_1 a0_2 t344 t345 t346))) = some r := by rw [if_pos rfl] at H; exact H
             clear H
             have H := H1
             clear H1
             replace H := Option.bind_eq_some_iff.mp H
             obtain ⟨t363, A1140, H⟩ := H
             replace H : (if t363 ≥ 2305843009213693952 then (turnstonelaw04_PosMoves.j3 kj76 a2 true a0_0 a0_1 a0_2 a1_0 a1_1 a0_2 t344 t345 t346) else (turnstonelaw04_PosMoves.j3 kj76 a2 (decide (t363 ≤ (-2305843009213693952))) a0_0 a0_1 a0_2 a1_0 a1_1 a0_2 t344 t345 t346)) = some r := H
             have A114 := Aside0.mk A1140
             clear A1140
             by_cases c115 : t363 ≥ 2305843009213693952
             ·rw [if_pos c115] at H
              have c115b0 : decide (2305843009213693952 ≤ t363) = true := decide_eq_true c115
              clear c115
              (first | rw [c115b0] | (simp only [i64_w, i32_w]; rw [c115b0]) | skip)
              have H' := Aside0.mk H
              clear H
              have hnb116 := NB341_340.out
              have hnc116 := NB340_341.out
              have hnb117 := NB341_348.out
              have hnc117 := NB348_341.out
              have hnb118 := NB341_353.out
              have hnc118 := NB353_341.out
              have hnb119 := NB341_358.out
              have hnc119 := NB358_341.out
              have hcz120_0 : wc.cell? ⟨gb341, 0, none⟩ = some (.int .u64 a1_0) := (blk_cell BK341.out 0).trans rfl
              have hcz120_1 : wc.cell? ⟨gb341, 1, none⟩ = some (.int .u32 a1_1) := (blk_cell BK341.out 1).trans rfl
              have hcz120_2 : wc.cell? ⟨gb341, 2, none⟩ = some (.int .u32 a1_2) := (blk_cell BK341.out 2).trans rfl
              have hfz120_0 := blk_frozen BK341.out 0
              have hfz120_1 := blk_frozen BK341.out 1
              have hfz120_2 := blk_frozen BK341.out 2
              go_wp2_with (first | ((with_reducible refine gate_callee (f := 50) rfl ?_); refine goesL_ (some 89) rfl rfl Try.func50 (by kernel_rfl) rfl #[.agg #[.int .u64 a1_0, .int .u32 a1_1, .int .u32 a0_2]] rfl (by (try simp only [List.map_toArray, List.map_cons, List.map_nil]); first | done | rfl | (simp only [List.length_drop, List.length_take]; rfl)) ?_; (with_reducible refine (pos_Pos_Right.calls a1_0 a1_1 a0_2 true _ A112.out).mono ?_); rintro e w121 ⟨rfl, hb⟩; refine ⟨_, rfl, ?_⟩; have n0_ := Aside0.mk (blk_below (g := gb340) (o := .cells #[.int .u64 a0_0, .int .u32 a0_1, .int .u32 a0_2] 67 (0, 0)) (by (with_reducible repeat (first | refine blk_drewN ?_ _ | refine blk_drew ?_ | refine blk_alloc ?_ _)); refine blk_far ?_ NB340_341.out _; (with_reducible repeat (first | refine blk_drewN ?_ _ | refine blk_drew ?_ | refine blk_alloc ?_ _)); exact BK340.out) hb); have n1_ := Aside0.mk (blk_below (g := gb341) (o := .cells #[.int .u64 a1_0, .int .u32 a1_1, .int .u32 a0_2] 67 (0, 0)) (by (with_reducible repeat (first | refine blk_drewN ?_ _ | refine blk_drew ?_ | refine blk_alloc ?_ _)); refine blk_put (cs := #[.int .u64 a1_0, .int .u32 a1_1, .int .u32 a1_2]) ?_ 2 _ rfl; (with_reducible repeat (first | refine blk_drewN ?_ _ | refine blk_drew ?_ | refine blk_alloc ?_ _)); exact BK341.out) hb); have n2_ := Aside0.mk (blk_below (g := gb348) (o := .cells #[.int .u64 t344, .int .u32 t345, .int .u32 t346] 67 (0, 0)) (by (with_reducible repeat (first | refine blk_drewN ?_ _ | refine blk_drew ?_ | refine blk_alloc ?_ _)); refine blk_far ?_ NB348_341.out _; (with_reducible repeat (first | refine blk_drewN ?_ _ | refine blk_drew ?_ | refine blk_alloc ?_ _)); exact BK348.out) hb); have n3_ := Aside0.mk (blk_below (g := gb353) (o := .cells #[.int .u64 t349, .int .u32 t350, .int .u32 t351] 67 (0, 0)) (by (with_reducible repeat (first | refine blk_drewN ?_ _ | refine blk_drew ?_ | refine blk_alloc ?_ _)); refine blk_far ?_ NB353_341.out _; (with_reducible repeat (first | refine blk_drewN ?_ _ | refine blk_drew ?_ | refine blk_alloc ?_ _)); exact BK353.out) hb); have n4_ := Aside0.mk (blk_below (g := gb358) (o := .cells #[.int .u64 t354, .int .u32 t355, .int .u32 t356] 67 (0, 0)) (by (with_reducible repeat (first | refine blk_drewN ?_ _ | refine blk_drew ?_ | refine blk_alloc ?_ _)); refine blk_far ?_ NB358_341.out _; (with_reducible repeat (first | refine blk_drewN ?_ _ | refine blk_drew ?_ | refine blk_alloc ?_ _)); exact BK358.out) hb); have n5_ := Aside0.mk (below_step (by repeat (first | (with_reducible first | exact HB.out | apply below_alloc | apply pw_below_drewN | apply below_drew1 | refine below_set ?_ GE340.out | refine below_set ?_ GE341.out | refine below_set ?_ GE348.out | refine below_set ?_ GE353.out | refine below_set ?_ GE358.out) | exact HB.out)) hb); clear BK340; clear BK341; clear BK348; clear BK353; clear BK358; clear HB; have BK340 := n0_; have BK341 := n1_; have BK348 := n2_; have BK353 := n3_; have BK358 := n4_; have HB := n5_; clear n0_ n1_ n2_ n3_ n4_ n5_; (try clear hb); (try clear hb2); (try clear hk); (try clear hi); have hcz122_0 : w121.cell? ⟨gb341, 0, none⟩ = some (.int .u64 a1_0) := (blk_cell BK341.out 0).trans rfl; have hcz122_1 : w121.cell? ⟨gb341, 1, none⟩ = some (.int .u32 a1_1) := (blk_cell BK341.out 1).trans rfl; have hcz122_2 : w121.cell? ⟨gb341, 2, none⟩ = some (.int .u32 a0_2) := (blk_cell BK341.out 2).trans rfl; have hfz122_0 := blk_frozen BK341.out 0; have hfz122_1 := blk_frozen BK341.out 1; have hfz122_2 := blk_frozen BK341.out 2; have hnb123 := NB340_348.out; have hnc123 := NB348_340.out; have hnb124 := NB340_353.out; have hnc124 := NB353_340.out; have hnb125 := NB340_358.out; have hnc125 := NB358_340.out; have hcz126_0 : w121.cell? ⟨gb340, 0, none⟩ = some (.int .u64 a0_0) := (blk_cell BK340.out 0).trans rfl; have hcz126_1 : w121.cell? ⟨gb340, 1, none⟩ = some (.int .u32 a0_1) := (blk_cell BK340.out 1).trans rfl; have hcz126_2 : w121.cell? ⟨gb340, 2, none⟩ = some (.int .u32 a0_2) := (blk_cell BK340.out 2).trans rfl; have hfz126_0 := blk_frozen BK340.out 0; have hfz126_1 := blk_frozen BK340.out 1; have hfz126_2 := blk_frozen BK340.out 2) | (go_at_call 20; (with_reducible refine (vtime_Time_Since.calls a1_0 a0_0 t363 _ A114.out).mono ?_); rintro e w' ⟨rfl, ⟨nd, rfl⟩⟩))
              go_meet
              case rel => exact ⟨_, (true), (by first | rfl | (simp; done) | (simp [*]; done)), H', ⟨by have := HJ6.out; have := HJ26.out; have := HJ76.out; first | omega | exact Nat.le_refl _⟩, ⟨by (with_reducible repeat (first | refine blk_drewN ?_ _ | refine blk_drew ?_ | refine blk_alloc ?_ _)); exact BK340.out⟩, ⟨by (with_reducible repeat (first | refine blk_drewN ?_ _ | refine blk_drew ?_ | refine blk_alloc ?_ _)); exact BK341.out⟩, ⟨by (with_reducible repeat (first | refine blk_drewN ?_ _ | refine blk_drew ?_ | refine blk_alloc ?_ _)); exact BK348.out⟩, ⟨by (with_reducible repeat (first | refine blk_drewN ?_ _ | refine blk_drew ?_ | refine blk_alloc ?_ _)); exact BK353.out⟩, ⟨by (with_reducible repeat (first | refine blk_drewN ?_ _ | refine blk_drew ?_ | refine blk_alloc ?_ _)); exact BK358.out⟩, ⟨by repeat (first | (with_reducible first | exact HB.out | apply below_alloc | apply pw_below_drewN | apply below_drew1 | refine below_set ?_ GE340.out | refine below_set ?_ GE341.out | refine below_set ?_ GE348.out | refine below_set ?_ GE353.out | refine below_set ?_ GE358.out) | exact HB.out)⟩⟩
             ·rw [if_neg c115] at H
              have c115b0 : decide (2305843009213693952 ≤ t363) = false := decide_eq_false c115
              clear c115
              (first | rw [c115b0] | (simp only [i64_w, i32_w]; rw [c115b0]) | skip)
              have H' := Aside0.mk H
              clear H
              have hnb127 := NB341_340.out
              have hnc127 := NB340_341.out
              have hnb128 := NB341_348.out
              have hnc128 := NB348_341.out
              have hnb129 := NB341_353.out
              have hnc129 := NB353_341.out
              have hnb130 := NB341_358.out
              have hnc130 := NB358_341.out
              have hcz131_0 : wc.cell? ⟨gb341, 0, none⟩ = some (.int .u64 a1_0) := (blk_cell BK341.out 0).trans rfl
              have hcz131_1 : wc.cell? ⟨gb341, 1, none⟩ = some (.int .u32 a1_1) := (blk_cell BK341.out 1).trans rfl
              have hcz131_2 : wc.cell? ⟨gb341, 2, none⟩ = some (.int .u32 a1_2) := (blk_cell BK341.out 2).trans rfl
              have hfz131_0 := blk_frozen BK341.out 0
              have hfz131_1 := blk_frozen BK341.out 1
              have hfz131_2 := blk_frozen BK341.out 2
              go_wp2_with (first | ((with_reducible refine gate_callee (f := 50) rfl ?_); refine goesL_ (some 89) rfl rfl Try.func50 (by kernel_rfl) rfl #[.agg #[.int .u64 a1_0, .int .u32 a1_1, .int .u32 a0_2]] rfl (by (try simp only [List.map_toArray, List.map_cons, List.map_nil]); first | done | rfl | (simp only [List.length_drop, List.length_take]; rfl)) ?_; (with_reducible refine (pos_Pos_Right.calls a1_0 a1_1 a0_2 true _ A112.out).mono ?_); rintro e w132 ⟨rfl, hb⟩; refine ⟨_, rfl, ?_⟩; have n0_ := Aside0.mk (blk_below (g := gb340) (o := .cells #[.int .u64 a0_0, .int .u32 a0_1, .int .u32 a0_2] 67 (0, 0)) (by (with_reducible repeat (first | refine blk_drewN ?_ _ | refine blk_drew ?_ | refine blk_alloc ?_ _)); refine blk_far ?_ NB340_341.out _; (with_reducible repeat (first | refine blk_drewN ?_ _ | refine blk_drew ?_ | refine blk_alloc ?_ _)); exact BK340.out) hb); have n1_ := Aside0.mk (blk_below (g := gb341) (o := .cells #[.int .u64 a1_0, .int .u32 a1_1, .int .u32 a0_2] 67 (0, 0)) (by (with_reducible repeat (first | refine blk_drewN ?_ _ | refine blk_drew ?_ | refine blk_alloc ?_ _)); refine blk_put (cs := #[.int .u64 a1_0, .int .u32 a1_1, .int .u32 a1_2]) ?_ 2 _ rfl; (with_reducible repeat (first | refine blk_drewN ?_ _ | refine blk_drew ?_ | refine blk_alloc ?_ _)); exact BK341.out) hb); have n2_ := Aside0.mk (blk_below (g := gb348) (o := .cells #[.int .u64 t344, .int .u32 t345, .int .u32 t346] 67 (0, 0)) (by (with_reducible repeat (first | refine blk_drewN ?_ _ | refine blk_drew ?_ | refine blk_alloc ?_ _)); refine blk_far ?_ NB348_341.out _; (with_reducible repeat (first | refine blk_drewN ?_ _ | refine blk_drew ?_ | refine blk_alloc ?_ _)); exact BK348.out) hb); have n3_ := Aside0.mk (blk_below (g := gb353) (o := .cells #[.int .u64 t349, .int .u32 t350, .int .u32 t351] 67 (0, 0)) (by (with_reducible repeat (first | refine blk_drewN ?_ _ | refine blk_drew ?_ | refine blk_alloc ?_ _)); refine blk_far ?_ NB353_341.out _; (with_reducible repeat (first | refine blk_drewN ?_ _ | refine blk_drew ?_ | refine blk_alloc ?_ _)); exact BK353.out) hb); have n4_ := Aside0.mk (blk_below (g := gb358) (o := .cells #[.int .u64 t354, .int .u32 t355, .int .u32 t356] 67 (0, 0)) (by (with_reducible repeat (first | refine blk_drewN ?_ _ | refine blk_drew ?_ | refine blk_alloc ?_ _)); refine blk_far ?_ NB358_341.out _; (with_reducible repeat (first | refine blk_drewN ?_ _ | refine blk_drew ?_ | refine blk_alloc ?_ _)); exact BK358.out) hb); have n5_ := Aside0.mk (below_step (by repeat (first | (with_reducible first | exact HB.out | apply below_alloc | apply pw_below_drewN | apply below_drew1 | refine below_set ?_ GE340.out | refine below_set ?_ GE341.out | refine below_set ?_ GE348.out | refine below_set ?_ GE353.out | refine below_set ?_ GE358.out) | exact HB.out)) hb); clear BK340; clear BK341; clear BK348; clear BK353; clear BK358; clear HB; have BK340 := n0_; have BK341 := n1_; have BK348 := n2_; have BK353 := n3_; have BK358 := n4_; have HB := n5_; clear n0_ n1_ n2_ n3_ n4_ n5_; (try clear hb); (try clear hb2); (try clear hk); (try clear hi); have hcz133_0 : w132.cell? ⟨gb341, 0, none⟩ = some (.int .u64 a1_0) := (blk_cell BK341.out 0).trans rfl; have hcz133_1 : w132.cell? ⟨gb341, 1, none⟩ = some (.int .u32 a1_1) := (blk_cell BK341.out 1).trans rfl; have hcz133_2 : w132.cell? ⟨gb341, 2, none⟩ = some (.int .u32 a0_2) := (blk_cell BK341.out 2).trans rfl; have hfz133_0 := blk_frozen BK341.out 0; have hfz133_1 := blk_frozen BK341.out 1; have hfz133_2 := blk_frozen BK341.out 2; have hnb134 := NB340_348.out; have hnc134 := NB348_340.out; have hnb135 := NB340_353.out; have hnc135 := NB353_340.out; have hnb136 := NB340_358.out; have hnc136 := NB358_340.out; have hcz137_0 : w132.cell? ⟨gb340, 0, none⟩ = some (.int .u64 a0_0) := (blk_cell BK340.out 0).trans rfl; have hcz137_1 : w132.cell? ⟨gb340, 1, none⟩ = some (.int .u32 a0_1) := (blk_cell BK340.out 1).trans rfl; have hcz137_2 : w132.cell? ⟨gb340, 2, none⟩ = some (.int .u32 a0_2) := (blk_cell BK340.out 2).trans rfl; have hfz137_0 := blk_frozen BK340.out 0; have hfz137_1 := blk_frozen BK340.out 1; have hfz137_2 := blk_frozen BK340.out 2) | (go_at_call 20; (with_reducible refine (vtime_Time_Since.calls a1_0 a0_0 t363 _ A114.out).mono ?_); rintro e w' ⟨rfl, ⟨nd, rfl⟩⟩))
              go_meet
              case rel => exact ⟨_, (decide (t363 ≤ (-2305843009213693952))), (by first | rfl | (simp; done) | (simp [*]; done)), H', ⟨by have := HJ6.out; have := HJ26.out; have := HJ76.out; first | omega | exact Nat.le_refl _⟩, ⟨by (with_reducible repeat (first | refine blk_drewN ?_ _ | refine blk_drew ?_ | refine blk_alloc ?_ _)); exact BK340.out⟩, ⟨by (with_reducible repeat (first | refine blk_drewN ?_ _ | refine blk_drew ?_ | refine blk_alloc ?_ _)); exact BK341.out⟩, ⟨by (with_reducible repeat (first | refine blk_drewN ?_ _ | refine blk_drew ?_ | refine blk_alloc ?_ _)); exact BK348.out⟩, ⟨by (with_reducible repeat (first | refine blk_drewN ?_ _ | refine blk_drew ?_ | refine blk_alloc ?_ _)); exact BK353.out⟩, ⟨by (with_reducible repeat (first | refine blk_drewN ?_ _ | refine blk_drew ?_ | refine blk_alloc ?_ _)); exact BK358.out⟩, ⟨by repeat (first | (with_reducible first | exact HB.out | apply below_alloc | apply pw_below_drewN | apply below_drew1 | refine below_set ?_ GE340.out | refine below_set ?_ GE341.out | refine below_set ?_ GE348.out | refine below_set ?_ GE353.out | refine below_set ?_ GE358.out) | exact HB.out)⟩⟩
            ·replace c113 := Bool.eq_false_iff.mpr c113
             subst c113
             have H1 : (turnstonelaw04_PosMoves.j3 kj76 a2 true a0_0 a0_1 a0_2 a1_0 a1_1 a0_2 t344 t345 t346) = some r := by rw [if_neg (show ¬ (false = true) by decide)] at H; exact H
             clear H
             have H := H1
             clear H1
             have H' := Aside0.mk H
             clear H
             have hnb138 := NB341_340.out
             have hnc138 := NB340_341.out
             have hnb139 := NB341_348.out
             have hnc139 := NB348_341.out
             have hnb140 := NB341_353.out
             have hnc140 := NB353_341.out
             have hnb141 := NB341_358.out
             have hnc141 := NB358_341.out
             have hcz142_0 : wc.cell? ⟨gb341, 0, none⟩ = some (.int .u64 a1_0) := (blk_cell BK341.out 0).trans rfl
             have hcz142_1 : wc.cell? ⟨gb341, 1, none⟩ = some (.int .u32 a1_1) := (blk_cell BK341.out 1).trans rfl
             have hcz142_2 : wc.cell? ⟨gb341, 2, none⟩ = some (.int .u32 a1_2) := (blk_cell BK341.out 2).trans rfl
             have hfz142_0 := blk_frozen BK341.out 0
             have hfz142_1 := blk_frozen BK341.out 1
             have hfz142_2 := blk_frozen BK341.out 2
             go_wp2_with (first | ((with_reducible refine gate_callee (f := 50) rfl ?_); refine goesL_ (some 89) rfl rfl Try.func50 (by kernel_rfl) rfl #[.agg #[.int .u64 a1_0, .int .u32 a1_1, .int .u32 a0_2]] rfl (by (try simp only [List.map_toArray, List.map_cons, List.map_nil]); first | done | rfl | (simp only [List.length_drop, List.length_take]; rfl)) ?_; (with_reducible refine (pos_Pos_Right.calls a1_0 a1_1 a0_2 false _ A112.out).mono ?_); rintro e w143 ⟨rfl, hb⟩; refine ⟨_, rfl, ?_⟩; have n0_ := Aside0.mk (blk_below (g := gb340) (o := .cells #[.int .u64 a0_0, .int .u32 a0_1, .int .u32 a0_2] 67 (0, 0)) (by (with_reducible repeat (first | refine blk_drewN ?_ _ | refine blk_drew ?_ | refine blk_alloc ?_ _)); refine blk_far ?_ NB340_341.out _; (with_reducible repeat (first | refine blk_drewN ?_ _ | refine blk_drew ?_ | refine blk_alloc ?_ _)); exact BK340.out) hb); have n1_ := Aside0.mk (blk_below (g := gb341) (o := .cells #[.int .u64 a1_0, .int .u32 a1_1, .int .u32 a0_2] 67 (0, 0)) (by (with_reducible repeat (first | refine blk_drewN ?_ _ | refine blk_drew ?_ | refine blk_alloc ?_ _)); refine blk_put (cs := #[.int .u64 a1_0, .int .u32 a1_1, .int .u32 a1_2]) ?_ 2 _ rfl; (with_reducible repeat (first | refine blk_drewN ?_ _ | refine blk_drew ?_ | refine blk_alloc ?_ _)); exact BK341.out) hb); have n2_ := Aside0.mk (blk_below (g := gb348) (o := .cells #[.int .u64 t344, .int .u32 t345, .int .u32 t346] 67 (0, 0)) (by (with_reducible repeat (first | refine blk_drewN ?_ _ | refine blk_drew ?_ | refine blk_alloc ?_ _)); refine blk_far ?_ NB348_341.out _; (with_reducible repeat (first | refine blk_drewN ?_ _ | refine blk_drew ?_ | refine blk_alloc ?_ _)); exact BK348.out) hb); have n3_ := Aside0.mk (blk_below (g := gb353) (o := .cells #[.int .u64 t349, .int .u32 t350, .int .u32 t351] 67 (0, 0)) (by (with_reducible repeat (first | refine blk_drewN ?_ _ | refine blk_drew ?_ | refine blk_alloc ?_ _)); refine blk_far ?_ NB353_341.out _; (with_reducible repeat (first | refine blk_drewN ?_ _ | refine blk_drew ?_ | refine blk_alloc ?_ _)); exact BK353.out) hb); have n4_ := Aside0.mk (blk_below (g := gb358) (o := .cells #[.int .u64 t354, .int .u32 t355, .int .u32 t356] 67 (0, 0)) (by (with_reducible repeat (first | refine blk_drewN ?_ _ | refine blk_drew ?_ | refine blk_alloc ?_ _)); refine blk_far ?_ NB358_341.out _; (with_reducible repeat (first | refine blk_drewN ?_ _ | refine blk_drew ?_ | refine blk_alloc ?_ _)); exact BK358.out) hb); have n5_ := Aside0.mk (below_step (by repeat (first | (with_reducible first | exact HB.out | apply below_alloc | apply pw_below_drewN | apply below_drew1 | refine below_set ?_ GE340.out | refine below_set ?_ GE341.out | refine below_set ?_ GE348.out | refine below_set ?_ GE353.out | refine below_set ?_ GE358.out) | exact HB.out)) hb); clear BK340; clear BK341; clear BK348; clear BK353; clear BK358; clear HB; have BK340 := n0_; have BK341 := n1_; have BK348 := n2_; have BK353 := n3_; have BK358 := n4_; have HB := n5_; clear n0_ n1_ n2_ n3_ n4_ n5_; (try clear hb); (try clear hb2); (try clear hk); (try clear hi)))
             go_meet
             case rel => exact ⟨_, (true), (by first | rfl | (simp; done) | (simp [*]; done)), H', ⟨by have := HJ6.out; have := HJ26.out; have := HJ76.out; first | omega | exact Nat.le_refl _⟩, ⟨by (with_reducible repeat (first | refine blk_drewN ?_ _ | refine blk_drew ?_ | refine blk_alloc ?_ _)); exact BK340.out⟩, ⟨by (with_reducible repeat (first | refine blk_drewN ?_ _ | refine blk_drew ?_ | refine blk_alloc ?_ _)); exact BK341.out⟩, ⟨by (with_reducible repeat (first | refine blk_drewN ?_ _ | refine blk_drew ?_ | refine blk_alloc ?_ _)); exact BK348.out⟩, ⟨by (with_reducible repeat (first | refine blk_drewN ?_ _ | refine blk_drew ?_ | refine blk_alloc ?_ _)); exact BK353.out⟩, ⟨by (with_reducible repeat (first | refine blk_drewN ?_ _ | refine blk_drew ?_ | refine blk_alloc ?_ _)); exact BK358.out⟩, ⟨by repeat (first | (with_reducible first | exact HB.out | apply below_alloc | apply pw_below_drewN | apply below_drew1 | refine below_set ?_ GE340.out | refine below_set ?_ GE341.out | refine below_set ?_ GE348.out | refine below_set ?_ GE353.out | refine below_set ?_ GE358.out) | exact HB.out)⟩⟩
           case rest =>
            clear HC102
            try clear c1
            try clear c2
            try clear p2
            try clear c3
            try clear c4
            try clear c5
            try clear c6
            try clear p6
            try clear c7
            try clear c8
            try clear c9
            try clear c10
            try clear c11
            try clear c12
            try clear c13
            try clear c13b0
            try clear c14
            try clear c15
            try clear c17
            try clear c20
            try clear c23
            try clear c28
            try clear c32
            try clear c33
            try clear c37
            try clear c38
            try clear c39
            try clear c44
            try clear c45
            try clear c46
            try clear c47
            try clear c49
            try clear c50
            try clear c51
            try clear c52
            try clear c52b0
            try clear c53
            try clear c54
            try clear c55
            try clear c56
            try clear c58
            try clear c59
            try clear c60
            try clear c63
            try clear c64
            try clear p64
            try clear c65
            try clear c66
            try clear c68
            try clear c69
            try clear c70
            try clear c72
            try clear c73
            try clear c76
            try clear c79
            try clear c79b0
            try clear c80
            try clear c81
            try clear c82
            try clear c83
            try clear c85
            try clear c86
            try clear c87
            try clear c91
            try clear c92
            try clear c93
            try clear c94
            try clear c96
            try clear c97
            try clear c98
            try clear c101
            try clear c103
            try clear c104
            try clear c105
            try clear c106
            try clear c108
            try clear c109
            try clear c110
            try clear c113
            try clear c115
            try clear c115b0
            try clear c116
            try clear c117
            try clear c118
            try clear c119
            try clear c123
            try clear c124
            try clear c125
            try clear c127
            try clear c128
            try clear c129
            try clear c130
            try clear c134
            try clear c135
            try clear c136
            try clear c138
            try clear c139
            try clear c140
            try clear c141
            try clear hcz107_0
            try clear hcz107_1
            try clear hcz107_2
            try clear hcz111_0
            try clear hcz111_1
            try clear hcz111_2
            try clear hcz120_0
            try clear hcz120_1
            try clear hcz120_2
            try clear hcz122_0
            try clear hcz122_1
            try clear hcz122_2
            try clear hcz126_0
            try clear hcz126_1
            try clear hcz126_2
            try clear hcz131_0
            try clear hcz131_1
            try clear hcz131_2
            try clear hcz133_0
            try clear hcz133_1
            try clear hcz133_2
            try clear hcz137_0
            try clear hcz137_1
            try clear hcz137_2
            try clear hcz142_0
            try clear hcz142_1
            try clear hcz142_2
            try clear hcz15_0
            try clear hcz15_1
            try clear hcz15_2
            try clear hcz18_0
            try clear hcz18_1
            try clear hcz18_2
            try clear hcz21_0
            try clear hcz21_1
            try clear hcz21_2
            try clear hcz29_0
            try clear hcz29_1
            try clear hcz29_2
            try clear hcz34_0
            try clear hcz34_1
            try clear hcz34_2
            try clear hcz40_0
            try clear hcz40_1
            try clear hcz40_2
            try clear hcz41_0
            try clear hcz41_1
            try clear hcz41_2
            try clear hcz48_0
            try clear hcz48_1
            try clear hcz48_2
            try clear hcz57_0
            try clear hcz57_1
            try clear hcz57_2
            try clear hcz61_0
            try clear hcz61_1
            try clear hcz61_2
            try clear hcz67_0
            try clear hcz67_1
            try clear hcz67_2
            try clear hcz71_0
            try clear hcz71_1
            try clear hcz71_2
            try clear hcz74_0
            try clear hcz74_1
            try clear hcz74_2
            try clear hcz84_0
            try clear hcz84_1
            try clear hcz84_2
            try clear hcz88_0
            try clear hcz88_1
            try clear hcz88_2
            try clear hcz95_0
            try clear hcz95_1
            try clear hcz95_2
            try clear hcz99_0
            try clear hcz99_1
            try clear hcz99_2
            try clear hfz107_0
            try clear hfz107_1
            try clear hfz107_2
            try clear hfz111_0
            try clear hfz111_1
            try clear hfz111_2
            try clear hfz120_0
            try clear hfz120_1
            try clear hfz120_2
            try clear hfz122_0
            try clear hfz122_1
            try clear hfz122_2
            try clear hfz126_0
            try clear hfz126_1
            try clear hfz126_2
            try clear hfz131_0
            try clear hfz131_1
            try clear hfz131_2
            try clear hfz133_0
            try clear hfz133_1
            try clear hfz133_2
            try clear hfz137_0
            try clear hfz137_1
            try clear hfz137_2
            try clear hfz142_0
            try clear hfz142_1
            try clear hfz142_2
            try clear hfz15_0
            try clear hfz15_1
            try clear hfz15_2
            try clear hfz18_0
            try clear hfz18_1
            try clear hfz18_2
            try clear hfz21_0
            try clear hfz21_1
            try clear hfz21_2
            try clear hfz29_0
            try clear hfz29_1
            try clear hfz29_2
            try clear hfz34_0
            try clear hfz34_1
            try clear hfz34_2
            try clear hfz40_0
            try clear hfz40_1
            try clear hfz40_2
            try clear hfz41_0
            try clear hfz41_1
            try clear hfz41_2
            try clear hfz48_0
            try clear hfz48_1
            try clear hfz48_2
            try clear hfz57_0
            try clear hfz57_1
            try clear hfz57_2
            try clear hfz61_0
            try clear hfz61_1
            try clear hfz61_2
            try clear hfz67_0
            try clear hfz67_1
            try clear hfz67_2
            try clear hfz71_0
            try clear hfz71_1
            try clear hfz71_2
            try clear hfz74_0
            try clear hfz74_1
            try clear hfz74_2
            try clear hfz84_0
            try clear hfz84_1
            try clear hfz84_2
            try clear hfz88_0
            try clear hfz88_1
            try clear hfz88_2
            try clear hfz95_0
            try clear hfz95_1
            try clear hfz95_2
            try clear hfz99_0
            try clear hfz99_1
            try clear hfz99_2
            try clear p2
            try clear p6
            try clear p64
            obtain ⟨kq, x106_101, rfl, HA, HJ101, BK340, BK341, BK348, BK353, BK358, HB⟩ := hcut
            cases kq with
            | zero => exact absurd HA.out (by simp [turnstonelaw04_PosMoves.j3])
            | succ kj101 =>
             have H := HA.out
             clear HA
             simp only [turnstonelaw04_PosMoves.j3] at H
             by_cases c144 : x106_101 = true
             ·subst c144
              have H1 : (some true) = some r := by rw [if_pos rfl] at H; exact H
              clear H
              have H := H1
              clear H1
              obtain rfl := Option.some.inj H
              go_wp2
              go_ret
              exact ⟨by first | rfl | (simp [errW_none, errW_some] <;> rfl) | (simp [*, errW_none, errW_some] <;> rfl), by repeat (first | (with_reducible first | exact HB.out | apply below_alloc | apply pw_below_drewN | apply below_drew1 | refine below_set ?_ GE340.out | refine below_set ?_ GE341.out | refine below_set ?_ GE348.out | refine below_set ?_ GE353.out | refine below_set ?_ GE358.out) | exact HB.out)⟩
             ·replace c144 := Bool.eq_false_iff.mpr c144
              subst c144
              have H1 : ((pos_Pos_Move.f kj101 a1_0 a1_1 a0_2 a2).bind fun bt364 => (if bt364.2.2.2 = true then ((pos_Pos_Cmp.f kj101 bt364.1 bt364.2.1 bt364.2.2.1 t344 t345 t346).bind fun t369 => ((pos_Pos_Cmp.f kj101 a1_0 a1_1 a0_2 a0_0 a0_1 a0_2).bind fun t370 => (some (t369 == t370)))) else (none))) = some r := by rw [if_neg (show ¬ (false = true) by decide)] at H; exact H
              clear H
              have H := H1
              clear H1
              replace H := Option.bind_eq_some_iff.mp H
              obtain ⟨⟨t364, t365, t366, t367⟩, A1450, H⟩ := H
              replace H : (if t367 = true then ((pos_Pos_Cmp.f kj101 t364 t365 t366 t344 t345 t346).bind fun t369 => ((pos_Pos_Cmp.f kj101 a1_0 a1_1 a0_2 a0_0 a0_1 a0_2).bind fun t370 => (some (t369 == t370)))) else (none)) = some r := H
              have A145 := Aside0.mk A1450
              clear A1450
              by_cases c146 : t367 = true
              ·subst c146
               have H1 : ((pos_Pos_Cmp.f kj101 t364 t365 t366 t344 t345 t346).bind fun t369 => ((pos_Pos_Cmp.f kj101 a1_0 a1_1 a0_2 a0_0 a0_1 a0_2).bind fun t370 => (some (t369 == t370)))) = some r := by rw [if_pos rfl] at H; exact H
               clear H
               have H := H1
               clear H1
               replace H := Option.bind_eq_some_iff.mp H
               obtain ⟨t369, A1470, H⟩ := H
               replace H : ((pos_Pos_Cmp.f kj101 a1_0 a1_1 a0_2 a0_0 a0_1 a0_2).bind fun t370 => (some (t369 == t370))) = some r := H
               have A147 := Aside0.mk A1470
               clear A1470
               replace H := Option.bind_eq_some_iff.mp H
               obtain ⟨t370, A1480, H⟩ := H
               replace H : (some (t369 == t370)) = some r := H
               have A148 := Aside0.mk A1480
               clear A1480
               obtain rfl := Option.some.inj H
               have hnb149 := NB341_340.out
               have hnc149 := NB340_341.out
               have hnb150 := NB341_348.out
               have hnc150 := NB348_341.out
               have hnb151 := NB341_353.out
               have hnc151 := NB353_341.out
               have hnb152 := NB341_358.out
               have hnc152 := NB358_341.out
               have hcz153_0 : wc.cell? ⟨gb341, 0, none⟩ = some (.int .u64 a1_0) := (blk_cell BK341.out 0).trans rfl
               have hcz153_1 : wc.cell? ⟨gb341, 1, none⟩ = some (.int .u32 a1_1) := (blk_cell BK341.out 1).trans rfl
               have hcz153_2 : wc.cell? ⟨gb341, 2, none⟩ = some (.int .u32 a0_2) := (blk_cell BK341.out 2).trans rfl
               have hfz153_0 := blk_frozen BK341.out 0
               have hfz153_1 := blk_frozen BK341.out 1
               have hfz153_2 := blk_frozen BK341.out 2
               try go_wp2_with (first | ((with_reducible refine gate_callee (f := 47) rfl ?_); refine goesL_ (some 110) rfl rfl Try.func47 (by kernel_rfl) rfl #[.agg #[.int .u64 a1_0, .int .u32 a1_1, .int .u32 a0_2], .int .u64 a2] rfl (by (try simp only [List.map_toArray, List.map_cons, List.map_nil]); first | done | rfl | (simp only [List.length_drop, List.length_take]; rfl)) ?_; (with_reducible refine (pos_Pos_Move.calls kj101 a1_0 a1_1 a0_2 a2 t364 t365 t366 true _ A145.out).mono ?_); rintro e w154 ⟨rfl, hb⟩; refine ⟨_, rfl, ?_⟩; have n0_ := Aside0.mk (blk_below (g := gb340) (o := .cells #[.int .u64 a0_0, .int .u32 a0_1, .int .u32 a0_2] 67 (0, 0)) (by (with_reducible repeat (first | refine blk_drewN ?_ _ | refine blk_drew ?_ | refine blk_alloc ?_ _)); exact BK340.out) hb); have n1_ := Aside0.mk (blk_below (g := gb341) (o := .cells #[.int .u64 a1_0, .int .u32 a1_1, .int .u32 a0_2] 67 (0, 0)) (by (with_reducible repeat (first | refine blk_drewN ?_ _ | refine blk_drew ?_ | refine blk_alloc ?_ _)); exact BK341.out) hb); have n2_ := Aside0.mk (blk_below (g := gb348) (o := .cells #[.int .u64 t344, .int .u32 t345, .int .u32 t346] 67 (0, 0)) (by (with_reducible repeat (first | refine blk_drewN ?_ _ | refine blk_drew ?_ | refine blk_alloc ?_ _)); exact BK348.out) hb); have n3_ := Aside0.mk (blk_below (g := gb353) (o := .cells #[.int .u64 t349, .int .u32 t350, .int .u32 t351] 67 (0, 0)) (by (with_reducible repeat (first | refine blk_drewN ?_ _ | refine blk_drew ?_ | refine blk_alloc ?_ _)); exact BK353.out) hb); have n4_ := Aside0.mk (blk_below (g := gb358) (o := .cells #[.int .u64 t354, .int .u32 t355, .int .u32 t356] 67 (0, 0)) (by (with_reducible repeat (first | refine blk_drewN ?_ _ | refine blk_drew ?_ | refine blk_alloc ?_ _)); exact BK358.out) hb); have n5_ := Aside0.mk (below_step (by repeat (first | (with_reducible first | exact HB.out | apply below_alloc | apply pw_below_drewN | apply below_drew1 | refine below_set ?_ GE340.out | refine below_set ?_ GE341.out | refine below_set ?_ GE348.out | refine below_set ?_ GE353.out | refine below_set ?_ GE358.out) | exact HB.out)) hb); clear BK340; clear BK341; clear BK348; clear BK353; clear BK358; clear HB; have BK340 := n0_; have BK341 := n1_; have BK348 := n2_; have BK353 := n3_; have BK358 := n4_; have HB := n5_; clear n0_ n1_ n2_ n3_ n4_ n5_; (try clear hb); (try clear hb2); (try clear hk); (try clear hi)) | ((with_reducible refine gate_dst (N := 15) rfl ?_); (try (refine gate_guard (by rfl) ?_; dsimp only)); refine box_event ?hg (N := 15) ?hd (cs := #[.int .u64 0, .int .u32 0, .int .u32 0]) (t := 67) ?hr ?_; (case hd => rfl); (case hg => rfl); (case hr => first | (go_simp; done) | (go_simp; rfl)); intro gb368 hg w155 hbox hb; have n0_ := Aside0.mk (blk_below (g := gb340) (o := .cells #[.int .u64 a0_0, .int .u32 a0_1, .int .u32 a0_2] 67 (0, 0)) (by (with_reducible repeat (first | refine blk_drewN ?_ _ | refine blk_drew ?_ | refine blk_alloc ?_ _)); exact BK340.out) hb); have n1_ := Aside0.mk (blk_below (g := gb341) (o := .cells #[.int .u64 a1_0, .int .u32 a1_1, .int .u32 a0_2] 67 (0, 0)) (by (with_reducible repeat (first | refine blk_drewN ?_ _ | refine blk_drew ?_ | refine blk_alloc ?_ _)); exact BK341.out) hb); have n2_ := Aside0.mk (blk_below (g := gb348) (o := .cells #[.int .u64 t344, .int .u32 t345, .int .u32 t346] 67 (0, 0)) (by (with_reducible repeat (first | refine blk_drewN ?_ _ | refine blk_drew ?_ | refine blk_alloc ?_ _)); exact BK348.out) hb); have n3_ := Aside0.mk (blk_below (g := gb353) (o := .cells #[.int .u64 t349, .int .u32 t350, .int .u32 t351] 67 (0, 0)) (by (with_reducible repeat (first | refine blk_drewN ?_ _ | refine blk_drew ?_ | refine blk_alloc ?_ _)); exact BK353.out) hb); have n4_ := Aside0.mk (blk_below (g := gb358) (o := .cells #[.int .u64 t354, .int .u32 t355, .int .u32 t356] 67 (0, 0)) (by (with_reducible repeat (first | refine blk_drewN ?_ _ | refine blk_drew ?_ | refine blk_alloc ?_ _)); exact BK358.out) hb); have n5_ := Aside0.mk (below_step (by repeat (first | (with_reducible first | exact HB.out | apply below_alloc | apply pw_below_drewN | apply below_drew1 | refine below_set ?_ GE340.out | refine below_set ?_ GE341.out | refine below_set ?_ GE348.out | refine below_set ?_ GE353.out | refine below_set ?_ GE358.out) | exact HB.out)) hb); have n6_ := Aside0.mk (hbox); have n7_ := Aside0.mk ((by rw [hg]; exact (below_size (by repeat (first | (with_reducible first | exact HB.out | apply below_alloc | apply pw_below_drewN | apply below_drew1 | refine below_set ?_ GE340.out | refine below_set ?_ GE341.out | refine below_set ?_ GE348.out | refine below_set ?_ GE353.out | refine below_set ?_ GE358.out) | exact HB.out))) : w.heap.size ≤ gb368)); have n8_ := Aside0.mk ((by rw [hg]; exact (below_size (by repeat (first | (with_reducible first | exact HB.out | apply below_alloc | apply pw_below_drewN | apply below_drew1 | refine below_set ?_ GE340.out | refine below_set ?_ GE341.out | refine below_set ?_ GE348.out | refine below_set ?_ GE353.out | refine below_set ?_ GE358.out) | exact HB.out))) : w.heap.size ≤ gb368)); have n9_ := Aside0.mk ((by rw [hg]; exact Nat.ne_of_lt (blk_lt (g := gb340) (o := .cells #[.int .u64 a0_0, .int .u32 a0_1, .int .u32 a0_2] 67 (0, 0)) (by (with_reducible repeat (first | refine blk_drewN ?_ _ | refine blk_drew ?_ | refine blk_alloc ?_ _)); exact BK340.out)) : gb340 ≠ gb368)); have n10_ := Aside0.mk ((by rw [hg]; exact Nat.ne_of_gt (blk_lt (g := gb340) (o := .cells #[.int .u64 a0_0, .int .u32 a0_1, .int .u32 a0_2] 67 (0, 0)) (by (with_reducible repeat (first | refine blk_drewN ?_ _ | refine blk_drew ?_ | refine blk_alloc ?_ _)); exact BK340.out)) : gb368 ≠ gb340)); have n11_ := Aside0.mk ((by rw [hg]; exact Nat.ne_of_lt (blk_lt (g := gb341) (o := .cells #[.int .u64 a1_0, .int .u32 a1_1, .int .u32 a0_2] 67 (0, 0)) (by (with_reducible repeat (first | refine blk_drewN ?_ _ | refine blk_drew ?_ | refine blk_alloc ?_ _)); exact BK341.out)) : gb341 ≠ gb368)); have n12_ := Aside0.mk ((by rw [hg]; exact Nat.ne_of_gt (blk_lt (g := gb341) (o := .cells #[.int .u64 a1_0, .int .u32 a1_1, .int .u32 a0_2] 67 (0, 0)) (by (with_reducible repeat (first | refine blk_drewN ?_ _ | refine blk_drew ?_ | refine blk_alloc ?_ _)); exact BK341.out)) : gb368 ≠ gb341)); have n13_ := Aside0.mk ((by rw [hg]; exact Nat.ne_of_lt (blk_lt (g := gb348) (o := .cells #[.int .u64 t344, .int .u32 t345, .int .u32 t346] 67 (0, 0)) (by (with_reducible repeat (first | refine blk_drewN ?_ _ | refine blk_drew ?_ | refine blk_alloc ?_ _)); exact BK348.out)) : gb348 ≠ gb368)); have n14_ := Aside0.mk ((by rw [hg]; exact Nat.ne_of_gt (blk_lt (g := gb348) (o := .cells #[.int .u64 t344, .int .u32 t345, .int .u32 t346] 67 (0, 0)) (by (with_reducible repeat (first | refine blk_drewN ?_ _ | refine blk_drew ?_ | refine blk_alloc ?_ _)); exact BK348.out)) : gb368 ≠ gb348)); have n15_ := Aside0.mk ((by rw [hg]; exact Nat.ne_of_lt (blk_lt (g := gb353) (o := .cells #[.int .u64 t349, .int .u32 t350, .int .u32 t351] 67 (0, 0)) (by (with_reducible repeat (first | refine blk_drewN ?_ _ | refine blk_drew ?_ | refine blk_alloc ?_ _)); exact BK353.out)) : gb353 ≠ gb368)); have n16_ := Aside0.mk ((by rw [hg]; exact Nat.ne_of_gt (blk_lt (g := gb353) (o := .cells #[.int .u64 t349, .int .u32 t350, .int .u32 t351] 67 (0, 0)) (by (with_reducible repeat (first | refine blk_drewN ?_ _ | refine blk_drew ?_ | refine blk_alloc ?_ _)); exact BK353.out)) : gb368 ≠ gb353)); have n17_ := Aside0.mk ((by rw [hg]; exact Nat.ne_of_lt (blk_lt (g := gb358) (o := .cells #[.int .u64 t354, .int .u32 t355, .int .u32 t356] 67 (0, 0)) (by (with_reducible repeat (first | refine blk_drewN ?_ _ | refine blk_drew ?_ | refine blk_alloc ?_ _)); exact BK358.out)) : gb358 ≠ gb368)); have n18_ := Aside0.mk ((by rw [hg]; exact Nat.ne_of_gt (blk_lt (g := gb358) (o := .cells #[.int .u64 t354, .int .u32 t355, .int .u32 t356] 67 (0, 0)) (by (with_reducible repeat (first | refine blk_drewN ?_ _ | refine blk_drew ?_ | refine blk_alloc ?_ _)); exact BK358.out)) : gb368 ≠ gb358)); clear BK340; clear BK341; clear BK348; clear BK353; clear BK358; clear HB; have BK340 := n0_; have BK341 := n1_; have BK348 := n2_; have BK353 := n3_; have BK358 := n4_; have HB := n5_; have BK368 := n6_; have GW368 := n7_; have GE368 := n8_; have NB340_368 := n9_; have NB368_340 := n10_; have NB341_368 := n11_; have NB368_341 := n12_; have NB348_368 := n13_; have NB368_348 := n14_; have NB353_368 := n15_; have NB368_353 := n16_; have NB358_368 := n17_; have NB368_358 := n18_; clear n0_ n1_ n2_ n3_ n4_ n5_ n6_ n7_ n8_ n9_ n10_ n11_ n12_ n13_ n14_ n15_ n16_ n17_ n18_; clear hb hbox hg; have hnb156 := NB368_340.out; have hnc156 := NB340_368.out; have hnb157 := NB368_341.out; have hnc157 := NB341_368.out; have hnb158 := NB368_348.out; have hnc158 := NB348_368.out; have hnb159 := NB368_353.out; have hnc159 := NB353_368.out; have hnb160 := NB368_358.out; have hnc160 := NB358_368.out; have hcz161_0 : w155.cell? ⟨gb368, 0, none⟩ = some (.int .u64 0) := (blk_cell BK368.out 0).trans rfl; have hcz161_1 : w155.cell? ⟨gb368, 1, none⟩ = some (.int .u32 0) := (blk_cell BK368.out 1).trans rfl; have hcz161_2 : w155.cell? ⟨gb368, 2, none⟩ = some (.int .u32 0) := (blk_cell BK368.out 2).trans rfl; have hfz161_0 := blk_frozen BK368.out 0; have hfz161_1 := blk_frozen BK368.out 1; have hfz161_2 := blk_frozen BK368.out 2))
               have n0_ : Aside0 ((((w155.setCell ⟨gb368, 0, none⟩ (.int .u64 t364)).setCell ⟨gb368, 1, none⟩ (.int .u32 t365)).setCell ⟨gb368, 2, none⟩ (.int .u32 t366)).heap[gb340]? = some (.cells #[.int .u64 a0_0, .int .u32 a0_1, .int .u32 a0_2] 67 (0, 0))) := ⟨by (with_reducible repeat (first | refine blk_drewN ?_ _ | refine blk_drew ?_ | refine blk_alloc ?_ _)); refine blk_far ?_ NB340_368.out _; (with_reducible repeat (first | refine blk_drewN ?_ _ | refine blk_drew ?_ | refine blk_alloc ?_ _)); refine blk_far ?_ NB340_368.out _; (with_reducible repeat (first | refine blk_drewN ?_ _ | refine blk_drew ?_ | refine blk_alloc ?_ _)); refine blk_far ?_ NB340_368.out _; (with_reducible repeat (first | refine blk_drewN ?_ _ | refine blk_drew ?_ | refine blk_alloc ?_ _)); exact BK340.out⟩
               have n1_ : Aside0 ((((w155.setCell ⟨gb368, 0, none⟩ (.int .u64 t364)).setCell ⟨gb368, 1, none⟩ (.int .u32 t365)).setCell ⟨gb368, 2, none⟩ (.int .u32 t366)).heap[gb341]? = some (.cells #[.int .u64 a1_0, .int .u32 a1_1, .int .u32 a0_2] 67 (0, 0))) := ⟨by (with_reducible repeat (first | refine blk_drewN ?_ _ | refine blk_drew ?_ | refine blk_alloc ?_ _)); refine blk_far ?_ NB341_368.out _; (with_reducible repeat (first | refine blk_drewN ?_ _ | refine blk_drew ?_ | refine blk_alloc ?_ _)); refine blk_far ?_ NB341_368.out _; (with_reducible repeat (first | refine blk_drewN ?_ _ | refine blk_drew ?_ | refine blk_alloc ?_ _)); refine blk_far ?_ NB341_368.out _; (with_reducible repeat (first | refine blk_drewN ?_ _ | refine blk_drew ?_ | refine blk_alloc ?_ _)); exact BK341.out⟩
               have n2_ : Aside0 ((((w155.setCell ⟨gb368, 0, none⟩ (.int .u64 t364)).setCell ⟨gb368, 1, none⟩ (.int .u32 t365)).setCell ⟨gb368, 2, none⟩ (.int .u32 t366)).heap[gb348]? = some (.cells #[.int .u64 t344, .int .u32 t345, .int .u32 t346] 67 (0, 0))) := ⟨by (with_reducible repeat (first | refine blk_drewN ?_ _ | refine blk_drew ?_ | refine blk_alloc ?_ _)); refine blk_far ?_ NB348_368.out _; (with_reducible repeat (first | refine blk_drewN ?_ _ | refine blk_drew ?_ | refine blk_alloc ?_ _)); refine blk_far ?_ NB348_368.out _; (with_reducible repeat (first | refine blk_drewN ?_ _ | refine blk_drew ?_ | refine blk_alloc ?_ _)); refine blk_far ?_ NB348_368.out _; (with_reducible repeat (first | refine blk_drewN ?_ _ | refine blk_drew ?_ | refine blk_alloc ?_ _)); exact BK348.out⟩
               have n3_ : Aside0 ((((w155.setCell ⟨gb368, 0, none⟩ (.int .u64 t364)).setCell ⟨gb368, 1, none⟩ (.int .u32 t365)).setCell ⟨gb368, 2, none⟩ (.int .u32 t366)).heap[gb353]? = some (.cells #[.int .u64 t349, .int .u32 t350, .int .u32 t351] 67 (0, 0))) := ⟨by (with_reducible repeat (first | refine blk_drewN ?_ _ | refine blk_drew ?_ | refine blk_alloc ?_ _)); refine blk_far ?_ NB353_368.out _; (with_reducible repeat (first | refine blk_drewN ?_ _ | refine blk_drew ?_ | refine blk_alloc ?_ _)); refine blk_far ?_ NB353_368.out _; (with_reducible repeat (first | refine blk_drewN ?_ _ | refine blk_drew ?_ | refine blk_alloc ?_ _)); refine blk_far ?_ NB353_368.out _; (with_reducible repeat (first | refine blk_drewN ?_ _ | refine blk_drew ?_ | refine blk_alloc ?_ _)); exact BK353.out⟩
               have n4_ : Aside0 ((((w155.setCell ⟨gb368, 0, none⟩ (.int .u64 t364)).setCell ⟨gb368, 1, none⟩ (.int .u32 t365)).setCell ⟨gb368, 2, none⟩ (.int .u32 t366)).heap[gb358]? = some (.cells #[.int .u64 t354, .int .u32 t355, .int .u32 t356] 67 (0, 0))) := ⟨by (with_reducible repeat (first | refine blk_drewN ?_ _ | refine blk_drew ?_ | refine blk_alloc ?_ _)); refine blk_far ?_ NB358_368.out _; (with_reducible repeat (first | refine blk_drewN ?_ _ | refine blk_drew ?_ | refine blk_alloc ?_ _)); refine blk_far ?_ NB358_368.out _; (with_reducible repeat (first | refine blk_drewN ?_ _ | refine blk_drew ?_ | refine blk_alloc ?_ _)); refine blk_far ?_ NB358_368.out _; (with_reducible repeat (first | refine blk_drewN ?_ _ | refine blk_drew ?_ | refine blk_alloc ?_ _)); exact BK358.out⟩
               have n5_ : Aside0 ((((w155.setCell ⟨gb368, 0, none⟩ (.int .u64 t364)).setCell ⟨gb368, 1, none⟩ (.int .u32 t365)).setCell ⟨gb368, 2, none⟩ (.int .u32 t366)).heap[gb368]? = some (.cells #[.int .u64 t364, .int .u32 t365, .int .u32 t366] 67 (0, 0))) := ⟨by (with_reducible repeat (first | refine blk_drewN ?_ _ | refine blk_drew ?_ | refine blk_alloc ?_ _)); refine blk_put (cs := #[.int .u64 t364, .int .u32 t365, .int .u32 0]) ?_ 2 _ rfl; (with_reducible repeat (first | refine blk_drewN ?_ _ | refine blk_drew ?_ | refine blk_alloc ?_ _)); refine blk_put (cs := #[.int .u64 t364, .int .u32 0, .int .u32 0]) ?_ 1 _ rfl; (with_reducible repeat (first | refine blk_drewN ?_ _ | refine blk_drew ?_ | refine blk_alloc ?_ _)); refine blk_put (cs := #[.int .u64 0, .int .u32 0, .int .u32 0]) ?_ 0 _ rfl; (with_reducible repeat (first | refine blk_drewN ?_ _ | refine blk_drew ?_ | refine blk_alloc ?_ _)); exact BK368.out⟩
               have n6_ : Aside0 (Below w.heap.size w (((w155.setCell ⟨gb368, 0, none⟩ (.int .u64 t364)).setCell ⟨gb368, 1, none⟩ (.int .u32 t365)).setCell ⟨gb368, 2, none⟩ (.int .u32 t366))) := ⟨by repeat (first | (with_reducible first | exact HB.out | apply below_alloc | apply pw_below_drewN | apply below_drew1 | refine below_set ?_ GE340.out | refine below_set ?_ GE341.out | refine below_set ?_ GE348.out | refine below_set ?_ GE353.out | refine below_set ?_ GE358.out | refine below_set ?_ GE368.out) | exact HB.out)⟩
               (try clear BK340)
               (try clear BK341)
               (try clear BK348)
               (try clear BK353)
               (try clear BK358)
               (try clear BK368)
               (try clear HB)
               generalize (((w155.setCell ⟨gb368, 0, none⟩ (.int .u64 t364)).setCell ⟨gb368, 1, none⟩ (.int .u32 t365)).setCell ⟨gb368, 2, none⟩ (.int .u32 t366)) = w162 at n0_ n1_ n2_ n3_ n4_ n5_ n6_ ⊢
               have BK340 := n0_
               have BK341 := n1_
               have BK348 := n2_
               have BK353 := n3_
               have BK358 := n4_
               have BK368 := n5_
               have HB := n6_
               clear n0_ n1_ n2_ n3_ n4_ n5_ n6_
               have n0_ := Aside0.mk (blk_drew BK340.out)
               have n1_ := Aside0.mk (blk_drew BK341.out)
               have n2_ := Aside0.mk (blk_drew BK348.out)
               have n3_ := Aside0.mk (blk_drew BK353.out)
               have n4_ := Aside0.mk (blk_drew BK358.out)
               have n5_ := Aside0.mk (blk_drew BK368.out)
               have n6_ := Aside0.mk (below_drew1 HB.out)
               clear BK340
               clear BK341
               clear BK348
               clear BK353
               clear BK358
               clear BK368
               clear HB
               have BK340 := n0_
               have BK341 := n1_
               have BK348 := n2_
               have BK353 := n3_
               have BK358 := n4_
               have BK368 := n5_
               have HB := n6_
               clear n0_ n1_ n2_ n3_ n4_ n5_ n6_
               refine start_ (n := 11) (S := fun w' => w'.cell? ⟨gb368, 0, none⟩ = some (.int .u64 t364) ∧ w'.cell? ⟨gb368, 1, none⟩ = some (.int .u32 t365) ∧ w'.cell? ⟨gb368, 2, none⟩ = some (.int .u32 t366) ∧ w'.cell? ⟨gb348, 0, none⟩ = some (.int .u64 t344) ∧ w'.cell? ⟨gb348, 1, none⟩ = some (.int .u32 t345) ∧ w'.cell? ⟨gb348, 2, none⟩ = some (.int .u32 t346) ∧ w'.cell? ⟨gb341, 0, none⟩ = some (.int .u64 a1_0) ∧ w'.cell? ⟨gb341, 1, none⟩ = some (.int .u32 a1_1) ∧ w'.cell? ⟨gb341, 2, none⟩ = some (.int .u32 a0_2) ∧ w'.cell? ⟨gb340, 0, none⟩ = some (.int .u64 a0_0) ∧ w'.cell? ⟨gb340, 1, none⟩ = some (.int .u32 a0_1) ∧ w'.cell? ⟨gb340, 2, none⟩ = some (.int .u32 a0_2)) (ds := []) #[false, false, false, false, false, false, false, false, false, false, false] (by kernel_rfl) rfl rfl ⟨(blk_cell BK368.out 0).trans rfl, (blk_cell BK368.out 1).trans rfl, (blk_cell BK368.out 2).trans rfl, (blk_cell BK348.out 0).trans rfl, (blk_cell BK348.out 1).trans rfl, (blk_cell BK348.out 2).trans rfl, (blk_cell BK341.out 0).trans rfl, (blk_cell BK341.out 1).trans rfl, (blk_cell BK341.out 2).trans rfl, (blk_cell BK340.out 0).trans rfl, (blk_cell BK340.out 1).trans rfl, (blk_cell BK340.out 2).trans rfl⟩ (fun hHeld => ?_); refine with_tabW turnstonelaw04_PosMoves.tab16 turnstonelaw04_PosMoves.bits16 (fun HT_ HW_ => ?_)
               generalize w162.drew = w163 at BK340 BK341 BK348 BK353 BK358 BK368 HB hHeld ⊢
               refine pure_ (i := 0) (N := some 113) (v := ?_) (a' := ?_) #[true, false, false, false, false, false, false, false, false, false, false] rfl rfl (any_of HT_.out (by kernel_rfl)) (fun _ _ _ h => h) (Or.inl ⟨by rfl, ?_⟩) ?_ ?_
               rotate_left
               ·intro w'
                go_simp
                with_reducible rfl
               rotate_left
               ·simp only [Act.put, List.setIfInBounds_toArray, List.set_cons_zero, List.set_cons_succ, i64_w, i32_w]
                rfl
               refine pure_ (i := 1) (N := some 114) (v := ?_) (a' := ?_) #[true, true, false, false, false, false, false, false, false, false, false] rfl rfl (any_of HT_.out (by kernel_rfl)) (fun _ _ _ h => h) (Or.inl ⟨by rfl, ?_⟩) ?_ ?_
               rotate_left
               ·intro w'
                go_simp
                with_reducible rfl
               rotate_left
               ·simp only [Act.put, List.setIfInBounds_toArray, List.set_cons_zero, List.set_cons_succ, i64_w, i32_w]
                rfl
               refine take_ (i := 2) (N := some 115) (v := ?_) (a' := ?_) #[true, true, true, false, false, false, false, false, false, false, false] rfl rfl (take_ofW HT_.out HW_.out (by kernel_rfl)) (fun _ _ _ h => h) (Or.inl ⟨by rfl, ?_⟩) hHeld ?_ ?_
               rotate_left
               ·rintro w' ⟨s0, s1, s2, s3, s4, s5, s6, s7, s8, s9, s10, s11⟩
                go_simp
                with_reducible rfl
               rotate_left
               ·simp only [Act.put, List.setIfInBounds_toArray, List.set_cons_zero, List.set_cons_succ, i64_w, i32_w]
                rfl
               refine take_ (i := 3) (N := some 116) (v := ?_) (a' := ?_) #[true, true, true, true, false, false, false, false, false, false, false] rfl rfl (take_ofW HT_.out HW_.out (by kernel_rfl)) (fun _ _ _ h => h) (Or.inl ⟨by rfl, ?_⟩) hHeld ?_ ?_
               rotate_left
               ·rintro w' ⟨s0, s1, s2, s3, s4, s5, s6, s7, s8, s9, s10, s11⟩
                go_simp
                with_reducible rfl
               rotate_left
               ·simp only [Act.put, List.setIfInBounds_toArray, List.set_cons_zero, List.set_cons_succ, i64_w, i32_w]
                rfl
               refine take_ (i := 5) (N := some 118) (v := ?_) (a' := ?_) #[true, true, true, true, false, true, false, false, false, false, false] rfl rfl (take_ofW HT_.out HW_.out (by kernel_rfl)) (fun _ _ _ h => h) (Or.inl ⟨by rfl, ?_⟩) hHeld ?_ ?_
               rotate_left
               ·rintro w' ⟨s0, s1, s2, s3, s4, s5, s6, s7, s8, s9, s10, s11⟩
                go_simp
                with_reducible rfl
               rotate_left
               ·simp only [Act.put, List.setIfInBounds_toArray, List.set_cons_zero, List.set_cons_succ, i64_w, i32_w]
                rfl
               refine take_ (i := 6) (N := some 119) (v := ?_) (a' := ?_) #[true, true, true, true, false, true, true, false, false, false, false] rfl rfl (take_ofW HT_.out HW_.out (by kernel_rfl)) (fun _ _ _ h => h) (Or.inl ⟨by rfl, ?_⟩) hHeld ?_ ?_
               rotate_left
               ·rintro w' ⟨s0, s1, s2, s3, s4, s5, s6, s7, s8, s9, s10, s11⟩
                go_simp
                with_reducible rfl
               rotate_left
               ·simp only [Act.put, List.setIfInBounds_toArray, List.set_cons_zero, List.set_cons_succ, i64_w, i32_w]
                rfl
               refine one_ (i := 4) (N := some 117) #[true, true, true, true, true, true, true, false, false, false, false] rfl rfl (one_of HT_.out (by kernel_rfl)) (by decide) (fun K hK => ?_)
               refine goes_ Try.func51 (by kernel_rfl) rfl #[.agg #[.int .u64 t364, .int .u32 t365, .int .u32 t366], .agg #[.int .u64 t344, .int .u32 t345, .int .u32 t346]] (by rfl) rfl rfl (by (try simp only [List.map_toArray, List.map_cons, List.map_nil]); first | done | rfl | (simp only [List.length_drop, List.length_take]; rfl)) ?_
               with_reducible refine (pos_Pos_Cmp.calls kj101 t364 t365 t366 t344 t345 t346 t369 _ A147.out).mono ?_
               rintro e w164 ⟨rfl, hb⟩
               refine ⟨_, rfl, ?_⟩
               have n0_ := Aside0.mk (blk_below (g := gb340) (o := .cells #[.int .u64 a0_0, .int .u32 a0_1, .int .u32 a0_2] 67 (0, 0)) (by (with_reducible repeat (first | refine blk_drewN ?_ _ | refine blk_drew ?_ | refine blk_alloc ?_ _)); exact BK340.out) hb)
               have n1_ := Aside0.mk (blk_below (g := gb341) (o := .cells #[.int .u64 a1_0, .int .u32 a1_1, .int .u32 a0_2] 67 (0, 0)) (by (with_reducible repeat (first | refine blk_drewN ?_ _ | refine blk_drew ?_ | refine blk_alloc ?_ _)); exact BK341.out) hb)
               have n2_ := Aside0.mk (blk_below (g := gb348) (o := .cells #[.int .u64 t344, .int .u32 t345, .int .u32 t346] 67 (0, 0)) (by (with_reducible repeat (first | refine blk_drewN ?_ _ | refine blk_drew ?_ | refine blk_alloc ?_ _)); exact BK348.out) hb)
               have n3_ := Aside0.mk (blk_below (g := gb353) (o := .cells #[.int .u64 t349, .int .u32 t350, .int .u32 t351] 67 (0, 0)) (by (with_reducible repeat (first | refine blk_drewN ?_ _ | refine blk_drew ?_ | refine blk_alloc ?_ _)); exact BK353.out) hb)
               have n4_ := Aside0.mk (blk_below (g := gb358) (o := .cells #[.int .u64 t354, .int .u32 t355, .int .u32 t356] 67 (0, 0)) (by (with_reducible repeat (first | refine blk_drewN ?_ _ | refine blk_drew ?_ | refine blk_alloc ?_ _)); exact BK358.out) hb)
               have n5_ := Aside0.mk (blk_below (g := gb368) (o := .cells #[.int .u64 t364, .int .u32 t365, .int .u32 t366] 67 (0, 0)) (by (with_reducible repeat (first | refine blk_drewN ?_ _ | refine blk_drew ?_ | refine blk_alloc ?_ _)); exact BK368.out) hb)
               have n6_ := Aside0.mk (below_step (by repeat (first | (with_reducible first | exact HB.out | apply below_alloc | apply pw_below_drewN | apply below_drew1 | refine below_set ?_ GE340.out | refine below_set ?_ GE341.out | refine below_set ?_ GE348.out | refine below_set ?_ GE353.out | refine below_set ?_ GE358.out | refine below_set ?_ GE368.out) | exact HB.out)) hb)
               clear BK340
               clear BK341
               clear BK348
               clear BK353
               clear BK358
               clear BK368
               clear HB
               have BK340 := n0_
               have BK341 := n1_
               have BK348 := n2_
               have BK353 := n3_
               have BK358 := n4_
               have BK368 := n5_
               have HB := n6_
               clear n0_ n1_ n2_ n3_ n4_ n5_ n6_
               (try clear hb)
               (try clear hb2)
               (try clear hk)
               (try clear hi)
               refine hK.out _ _ ⟨(blk_cell BK368.out 0).trans rfl, (blk_cell BK368.out 1).trans rfl, (blk_cell BK368.out 2).trans rfl, (blk_cell BK348.out 0).trans rfl, (blk_cell BK348.out 1).trans rfl, (blk_cell BK348.out 2).trans rfl, (blk_cell BK341.out 0).trans rfl, (blk_cell BK341.out 1).trans rfl, (blk_cell BK341.out 2).trans rfl, (blk_cell BK340.out 0).trans rfl, (blk_cell BK340.out 1).trans rfl, (blk_cell BK340.out 2).trans rfl⟩ (fun hHeld => ?_)
               clear hK K
               refine norm_ (a' := ?_) ?_ ?_
               rotate_left
               ·show Act.put _ (some 117) _ = _
                simp only [Act.put, List.setIfInBounds_toArray, List.set_cons_zero, List.set_cons_succ, i64_w, i32_w]
                rfl
               refine one_ (i := 7) (N := some 120) #[true, true, true, true, true, true, true, true, false, false, false] rfl rfl (one_of HT_.out (by kernel_rfl)) (by decide) (fun K hK => ?_)
               refine goes_ Try.func51 (by kernel_rfl) rfl #[.agg #[.int .u64 a1_0, .int .u32 a1_1, .int .u32 a0_2], .agg #[.int .u64 a0_0, .int .u32 a0_1, .int .u32 a0_2]] (by rfl) rfl rfl (by (try simp only [List.map_toArray, List.map_cons, List.map_nil]); first | done | rfl | (simp only [List.length_drop, List.length_take]; rfl)) ?_
               with_reducible refine (pos_Pos_Cmp.calls kj101 a1_0 a1_1 a0_2 a0_0 a0_1 a0_2 t370 _ A148.out).mono ?_
               rintro e w165 ⟨rfl, hb⟩
               refine ⟨_, rfl, ?_⟩
               have n0_ := Aside0.mk (blk_below (g := gb340) (o := .cells #[.int .u64 a0_0, .int .u32 a0_1, .int .u32 a0_2] 67 (0, 0)) (by (with_reducible repeat (first | refine blk_drewN ?_ _ | refine blk_drew ?_ | refine blk_alloc ?_ _)); exact BK340.out) hb)
               have n1_ := Aside0.mk (blk_below (g := gb341) (o := .cells #[.int .u64 a1_0, .int .u32 a1_1, .int .u32 a0_2] 67 (0, 0)) (by (with_reducible repeat (first | refine blk_drewN ?_ _ | refine blk_drew ?_ | refine blk_alloc ?_ _)); exact BK341.out) hb)
               have n2_ := Aside0.mk (blk_below (g := gb348) (o := .cells #[.int .u64 t344, .int .u32 t345, .int .u32 t346] 67 (0, 0)) (by (with_reducible repeat (first | refine blk_drewN ?_ _ | refine blk_drew ?_ | refine blk_alloc ?_ _)); exact BK348.out) hb)
               have n3_ := Aside0.mk (blk_below (g := gb353) (o := .cells #[.int .u64 t349, .int .u32 t350, .int .u32 t351] 67 (0, 0)) (by (with_reducible repeat (first | refine blk_drewN ?_ _ | refine blk_drew ?_ | refine blk_alloc ?_ _)); exact BK353.out) hb)
               have n4_ := Aside0.mk (blk_below (g := gb358) (o := .cells #[.int .u64 t354, .int .u32 t355, .int .u32 t356] 67 (0, 0)) (by (with_reducible repeat (first | refine blk_drewN ?_ _ | refine blk_drew ?_ | refine blk_alloc ?_ _)); exact BK358.out) hb)
               have n5_ := Aside0.mk (blk_below (g := gb368) (o := .cells #[.int .u64 t364, .int .u32 t365, .int .u32 t366] 67 (0, 0)) (by (with_reducible repeat (first | refine blk_drewN ?_ _ | refine blk_drew ?_ | refine blk_alloc ?_ _)); exact BK368.out) hb)
               have n6_ := Aside0.mk (below_step (by repeat (first | (with_reducible first | exact HB.out | apply below_alloc | apply pw_below_drewN | apply below_drew1 | refine below_set ?_ GE340.out | refine below_set ?_ GE341.out | refine below_set ?_ GE348.out | refine below_set ?_ GE353.out | refine below_set ?_ GE358.out | refine below_set ?_ GE368.out) | exact HB.out)) hb)
               clear BK340
               clear BK341
               clear BK348
               clear BK353
               clear BK358
               clear BK368
               clear HB
               have BK340 := n0_
               have BK341 := n1_
               have BK348 := n2_
               have BK353 := n3_
               have BK358 := n4_
               have BK368 := n5_
               have HB := n6_
               clear n0_ n1_ n2_ n3_ n4_ n5_ n6_
               (try clear hb)
               (try clear hb2)
               (try clear hk)
               (try clear hi)
               refine hK.out _ _ ⟨(blk_cell BK368.out 0).trans rfl, (blk_cell BK368.out 1).trans rfl, (blk_cell BK368.out 2).trans rfl, (blk_cell BK348.out 0).trans rfl, (blk_cell BK348.out 1).trans rfl, (blk_cell BK348.out 2).trans rfl, (blk_cell BK341.out 0).trans rfl, (blk_cell BK341.out 1).trans rfl, (blk_cell BK341.out 2).trans rfl, (blk_cell BK340.out 0).trans rfl, (blk_cell BK340.out 1).trans rfl, (blk_cell BK340.out 2).trans rfl⟩ (fun hHeld => ?_)
               clear hK K
               refine norm_ (a' := ?_) ?_ ?_
               rotate_left
               ·show Act.put _ (some 120) _ = _
                simp only [Act.put, List.setIfInBounds_toArray, List.set_cons_zero, List.set_cons_succ, i64_w, i32_w]
                rfl
               refine pure_ (i := 8) (N := some 121) (v := ?_) (a' := ?_) #[true, true, true, true, true, true, true, true, true, false, false] rfl rfl (any_of HT_.out (by kernel_rfl)) (fun _ _ _ h => h) (Or.inl ⟨by rfl, ?_⟩) ?_ ?_
               rotate_left
               ·intro w'
                go_simp
                with_reducible rfl
               rotate_left
               ·simp only [Act.put, List.setIfInBounds_toArray, List.set_cons_zero, List.set_cons_succ, i64_w, i32_w]
                rfl
               refine pure_ (i := 9) (N := some 122) (v := ?_) (a' := ?_) #[true, true, true, true, true, true, true, true, true, true, false] rfl rfl (any_of HT_.out (by kernel_rfl)) (fun _ _ _ h => h) (Or.inl ⟨by rfl, ?_⟩) ?_ ?_
               rotate_left
               ·intro w'
                go_simp
                with_reducible rfl
               rotate_left
               ·simp only [Act.put, List.setIfInBounds_toArray, List.set_cons_zero, List.set_cons_succ, i64_w, i32_w]
                rfl
               refine pure_ (i := 10) (N := some 8) (v := ?_) (a' := ?_) #[true, true, true, true, true, true, true, true, true, true, true] rfl rfl (any_of HT_.out (by kernel_rfl)) (fun _ _ _ h => h) (Or.inl ⟨by rfl, ?_⟩) ?_ ?_
               rotate_left
               ·intro w'
                go_simp
                with_reducible rfl
               rotate_left
               ·simp only [Act.put, List.setIfInBounds_toArray, List.set_cons_zero, List.set_cons_succ, i64_w, i32_w]
                rfl
               refine done_ (done_of HT_.out (by kernel_rfl)) ?_
               try go_wp2
               go_ret
               exact ⟨by first | rfl | (simp [errW_none, errW_some] <;> rfl) | (simp [*, errW_none, errW_some] <;> rfl), by repeat (first | (with_reducible first | exact HB.out | apply below_alloc | apply pw_below_drewN | apply below_drew1 | refine below_set ?_ GE340.out | refine below_set ?_ GE341.out | refine below_set ?_ GE348.out | refine below_set ?_ GE353.out | refine below_set ?_ GE358.out | refine below_set ?_ GE368.out) | exact HB.out)⟩
              ·replace c146 := Bool.eq_false_iff.mpr c146
               subst c146
               have H1 : (none) = some r := by rw [if_neg (show ¬ (false = true) by decide)] at H; exact H
               clear H
               have H := H1
               clear H1
               exact absurd H (by simp)
 ·replace c6 := Bool.eq_false_iff.mpr c6
  subst c6
  have H1 : (none) = some r := by rw [if_neg (show ¬ (false = true) by decide)] at H; exact H
  clear H
  have H := H1
  clear H1
  exact absurd H (by simp)

/-- THE ONE PURE STATEMENT of turnstonelaw04_PosMoves. -/
def turnstonelaw04_PosMoves.Pure : Prop := ∀ (a0_0 : Int) (a0_1 : Int) (a0_2 : Int) (a1_0 : Int) (a1_1 : Int) (a1_2 : Int) (a2 : Int) (a3 : Int), (Lit.int .u64 a0_0).wf = true → (Lit.int .u32 a0_1).wf = true → (Lit.int .u32 a0_2).wf = true → (Lit.int .u64 a1_0).wf = true → (Lit.int .u32 a1_1).wf = true → (Lit.int .u32 a1_2).wf = true → (Lit.int .u64 a2).wf = true → (Lit.int .u64 a3).wf = true → ∃ k, turnstonelaw04_PosMoves.f k a0_0 a0_1 a0_2 a1_0 a1_1 a1_2 a2 a3 = some true
theorem turnstonelaw04_PosMoves.walk (P : turnstonelaw04_PosMoves.Pure) (a0_0 : Int) (a0_1 : Int) (a0_2 : Int) (a1_0 : Int) (a1_1 : Int) (a1_2 : Int) (a2 : Int) (a3 : Int) (w : World) (w0_0 : (Lit.int .u64 a0_0).wf = true) (w0_1 : (Lit.int .u32 a0_1).wf = true) (w0_2 : (Lit.int .u32 a0_2).wf = true) (w1_0 : (Lit.int .u64 a1_0).wf = true) (w1_1 : (Lit.int .u32 a1_1).wf = true) (w1_2 : (Lit.int .u32 a1_2).wf = true) (w2 : (Lit.int .u64 a2).wf = true) (w3 : (Lit.int .u64 a3).wf = true) :
  Calls Try.prog 15 #[.agg #[.int .u64 a0_0, .int .u32 a0_1, .int .u32 a0_2], .agg #[.int .u64 a1_0, .int .u32 a1_1, .int .u32 a1_2], .int .u64 a2, .int .u64 a3] w fun e w' => e = .returned (.bool true) ∧ Below w.heap.size w w' := by
 obtain ⟨k, h⟩ := P a0_0 a0_1 a0_2 a1_0 a1_1 a1_2 a2 a3 w0_0 w0_1 w0_2 w1_0 w1_1 w1_2 w2 w3
 refine (turnstonelaw04_PosMoves.calls k a0_0 a0_1 a0_2 a1_0 a1_1 a1_2 a2 a3 true w h).mono ?_
 rintro e w' ⟨rfl, hd⟩
 exact ⟨rfl, hd⟩

end Go.Proofs.Ytimgiiceipjpaaa.Print
