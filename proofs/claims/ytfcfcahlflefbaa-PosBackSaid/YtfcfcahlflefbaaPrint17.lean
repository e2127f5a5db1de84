/- What each Go function that is named below answers, as a Lean function, and that its walk comes to just that: for whatever arguments that function gives an answer for. Written by a program of this session (wip/mkpr.py, pr.sh). -/
import Derived.Test.YtfcfcahlflefbaaPrint0
import Derived.Test.YtfcfcahlflefbaaPrint1
import Derived.Test.YtfcfcahlflefbaaPrint6
import Derived.Test.YtfcfcahlflefbaaPrint7
import Derived.Test.YtfcfcahlflefbaaPrint11
import Derived.Test.YtfcfcahlflefbaaPrint12
import Derived.Test.YtfcfcahlflefbaaPrint13
import Derived.Test.YtfcfcahlflefbaaPrint14
import Derived.Test.YtfcfcahlflefbaaPrint16
namespace Go.Proofs.Ytfcfcahlflefbaa.Print
open Go.RowKit Go.Proofs.YtfcfcahlflefbaaW.PrintWords Go.Proofs.YtfcfcahlflefbaaW.PrintLast Go.Proofs.YtfcfcahlflefbaaW.PrintMore
attribute [local go_sem] max2_int min2_int max_two min_two max_three min_three max_four min_four   -- for this text's walks alone
open Go.Proofs.Ytfcfcahlflefbaa.Bits
attribute [local go_sem] add64_run0 sub64_run0 add64_run sub64_run
set_option linter.unusedVariables false
set_option linter.unusedSimpArgs false

attribute [local go_sem high] eqA26
/-! ### turnstonelaw04_PosBack: function 4 -/
def turnstonelaw04_PosBack.j0 : Nat → Int → Bool → Int → Int → Int → Option (Bool)
 | 0, _, _, _, _, _ => none
 | k + 1, x1, x28, x253000, x253001, x253002 => if x28 = true then (some true) else ((pos_Pos_Distance.f k x253000 x253001 x253002 x1).bind fun bt256 => ((pos_At.f k x1 bt256.1 bt256.2 x253002).bind fun bt258 => ((pos_Pos_Move.f k x253000 x253001 x253002 (IntKind.u64.wrap (x253002))).bind fun bt263 => ((pos_Floors.f k x253000 (([(⟨x253000, x253001, x253002⟩ : S26), (⟨bt263.1, bt263.2.1, bt263.2.2.1⟩ : S26)] : List (S26)))).bind fun bt271 => (if bt258.2.2.2 = true then (if (bt258.1 == x253000 && (bt258.2.1 == x253001 && (bt258.2.2.1 == x253002))) = true then (if bt263.2.2.2 = true then ((pos_Pos_Shift.f x253000 x253001 x253002 1).bind fun bt273 => (if (bt263.1 == bt273.1 && (bt263.2.1 == bt273.2.1 && (bt263.2.2.1 == bt273.2.2))) = true then (if bt271.1 = 0 then (if bt271.2 = 1 then ((pos_Pos_Cmp.f k x253000 x253001 x253002 bt263.1 bt263.2.1 bt263.2.2.1).bind fun t276 => (if t276 = (-1) then ((pos_Pos_Cmp.f k x253000 x253001 x253002 bt258.1 bt258.2.1 bt258.2.2.1).bind fun t277 => (some (t277 == 0))) else (none))) else (none)) else (none)) else (none))) else (none)) else (none)) else (none))))))
def turnstonelaw04_PosBack.f (k : Nat) (a0_0 : Int) (a0_1 : Int) (a0_2 : Int) (a1 : Int) : Option (Bool) := (turnstonelaw04_awake.f k).bind fun t253 => (if t253 = true then ((vtime_Time_Since.f a0_0 a1).bind fun t254 => ((pos_Pos_Right.f a0_0 a0_1 a0_2).bind fun t255 => (if t255 = true then (if t254 ≤ (-4611686018427387904) then (turnstonelaw04_PosBack.j0 k a1 true a0_0 a0_1 a0_2) else (turnstonelaw04_PosBack.j0 k a1 (decide (t254 ≥ 4611686018427387904)) a0_0 a0_1 a0_2)) else (turnstonelaw04_PosBack.j0 k a1 true a0_0 a0_1 a0_2)))) else (none))
theorem turnstonelaw04_PosBack.mono_l : ∀ k, (∀ y0 y1 y2 y3 y4, LeO (turnstonelaw04_PosBack.j0 k y0 y1 y2 y3 y4) (turnstonelaw04_PosBack.j0 (k + 1) y0 y1 y2 y3 y4))
 | 0 => fun _ _ _ _ _ r h => by simp [turnstonelaw04_PosBack.j0] at h
 | k + 1 => by
  have ih0 := turnstonelaw04_PosBack.mono_l k
  ·intro y0 y1 y2 y3 y4
   unfold turnstonelaw04_PosBack.j0
   repeat' first
   | (with_reducible exact ih0 _ _ _ _ _)
   | (with_reducible exact pos_At.mono _ _ _ _ _)
   | (with_reducible exact pos_Floors.mono _ _ _)
   | (with_reducible exact pos_Pos_Cmp.mono _ _ _ _ _ _ _)
   | (with_reducible exact pos_Pos_Distance.mono _ _ _ _ _)
   | (with_reducible exact pos_Pos_Move.mono _ _ _ _ _)
   | (with_reducible exact turnstonelaw04_awake.mono _)
   | (with_reducible exact LeO.refl _)
   | (with_reducible exact LeO.none _)
   | (with_reducible refine LeO.ite ?_ ?_)
   | (with_reducible refine LeO.bind ?_ (fun _ => ?_))
   | exact ih0 _ _ _ _ _
   | exact pos_At.mono _ _ _ _ _
   | exact pos_Floors.mono _ _ _
   | exact pos_Pos_Cmp.mono _ _ _ _ _ _ _
   | exact pos_Pos_Distance.mono _ _ _ _ _
   | exact pos_Pos_Move.mono _ _ _ _ _
   | exact turnstonelaw04_awake.mono _
   | exact LeO.none _
   | refine LeO.ite ?_ ?_
   | refine LeO.bind ?_ (fun _ => ?_)
theorem turnstonelaw04_PosBack.mono : ∀ a0 a1 a2 a3 k, LeO (turnstonelaw04_PosBack.f k a0 a1 a2 a3) (turnstonelaw04_PosBack.f (k + 1) a0 a1 a2 a3) := by
 intro a0 a1 a2 a3 k
 have ih0 := turnstonelaw04_PosBack.mono_l k
 unfold turnstonelaw04_PosBack.f
 repeat' first
   | (with_reducible exact ih0 _ _ _ _ _)
   | (with_reducible exact pos_At.mono _ _ _ _ _)
   | (with_reducible exact pos_Floors.mono _ _ _)
   | (with_reducible exact pos_Pos_Cmp.mono _ _ _ _ _ _ _)
   | (with_reducible exact pos_Pos_Distance.mono _ _ _ _ _)
   | (with_reducible exact pos_Pos_Move.mono _ _ _ _ _)
   | (with_reducible exact turnstonelaw04_awake.mono _)
   | (with_reducible exact LeO.refl _)
   | (with_reducible exact LeO.none _)
   | (with_reducible refine LeO.ite ?_ ?_)
   | (with_reducible refine LeO.bind ?_ (fun _ => ?_))
   | exact ih0 _ _ _ _ _
   | exact pos_At.mono _ _ _ _ _
   | exact pos_Floors.mono _ _ _
   | exact pos_Pos_Cmp.mono _ _ _ _ _ _ _
   | exact pos_Pos_Distance.mono _ _ _ _ _
   | exact pos_Pos_Move.mono _ _ _ _ _
   | exact turnstonelaw04_awake.mono _
   | exact LeO.none _
   | refine LeO.ite ?_ ?_
   | refine LeO.bind ?_ (fun _ => ?_)
def turnstonelaw04_PosBack.T6 : Bool × List (List Nat × List Nat) := (true, [([], []), ([], []), ([], []), ([1, 2], [1, 2]), ([], []), ([4], [4]), ([0, 3, 5, 3], [0, 3, 5]), ([6], [6]), ([7], [7]), ([7], [7]), ([], []), ([10, 8, 6, 0, 1, 2, 3, 4, 5, 6, 7, 8, 10], [8, 10]), ([9, 11, 0, 1, 2, 3, 4, 5, 6, 7, 8, 9, 10, 11], [9])])
def turnstonelaw04_PosBack.B6 : List Nat := [0, 0, 0, 6, 0, 16, 63, 127, 255, 255, 0, 1535, 4095]
theorem turnstonelaw04_PosBack.tab6 : rtab .any (opsOf Try.f4 6) = turnstonelaw04_PosBack.T6 := by kernel_rfl
theorem turnstonelaw04_PosBack.bits6 : waitsOk turnstonelaw04_PosBack.T6.2 turnstonelaw04_PosBack.B6 = true := by kernel_rfl
def turnstonelaw04_PosBack.T9 : Bool × List (List Nat × List Nat) := (true, [([], []), ([0], [0]), ([1], [1]), ([1], [1]), ([2, 3, 1], [1, 2, 3]), ([1, 4], [1, 4]), ([5, 1], [5]), ([6], [6]), ([6, 7], [6, 7]), ([8, 6], [8]), ([9], [9]), ([9], [9]), ([11, 9, 9], [9, 11]), ([10, 12, 9], [9, 10, 12]), ([9, 13], [9, 13]), ([14, 12], [14]), ([15], [15]), ([16, 15], [15, 16]), ([15, 17], [15, 17]), ([18, 15], [18]), ([19], [19]), ([20, 19], [19, 20]), ([19, 21], [19, 21]), ([22, 19], [22]), ([23], [23]), ([23], [23]), ([24, 25, 23, 23], [23, 24, 25]), ([26, 23], [23, 26]), ([23, 27], [23, 27]), ([28, 26], [28]), ([29], [29]), ([29], [29]), ([30, 31, 29, 29], [29, 30, 31]), ([32, 29], [29, 32]), ([29, 33], [29, 33]), ([34, 32, 0, 1, 2, 3, 4, 5, 6, 7, 8, 9, 10, 11, 12, 13, 14, 15, 16, 17, 18, 19, 20, 21, 22, 23, 24, 25, 26, 27, 28, 29, 30, 31, 32, 33, 34], [34])])
def turnstonelaw04_PosBack.B9 : List Nat := [0, 1, 3, 3, 15, 31, 63, 127, 255, 511, 1023, 1023, 3071, 8191, 16383, 32767, 65535, 131071, 262143, 524287, 1048575, 2097151, 4194303, 8388607, 16777215, 16777215, 67108863, 134217727, 268435455, 536870911, 1073741823, 1073741823, 4294967295, 8589934591, 17179869183, 34359738367]
theorem turnstonelaw04_PosBack.tab9 : rtab .any (opsOf Try.f4 9) = turnstonelaw04_PosBack.T9 := by kernel_rfl
theorem turnstonelaw04_PosBack.bits9 : waitsOk turnstonelaw04_PosBack.T9.2 turnstonelaw04_PosBack.B9 = true := by kernel_rfl
set_option maxHeartbeats 8000000 in
set_option maxRecDepth 100000 in
theorem turnstonelaw04_PosBack.calls (k : Nat) (a0_0 : Int) (a0_1 : Int) (a0_2 : Int) (a1 : Int) (r : Bool) (w : World) (h : turnstonelaw04_PosBack.f k a0_0 a0_1 a0_2 a1 = some r) :
  Calls Try.prog 4 #[.agg #[.int .u64 a0_0, .int .u32 a0_1, .int .u32 a0_2], .int .u64 a1] w fun e w' => e = .returned (.bool r) ∧ Below w.heap.size w w' := by
 have hu26 := Try.underlying26
 have HB := Aside0.mk (Below.refl w.heap.size w)
 have H : ((turnstonelaw04_awake.f k).bind fun t253 => (if t253 = true then ((vtime_Time_Since.f a0_0 a1).bind fun t254 => ((pos_Pos_Right.f a0_0 a0_1 a0_2).bind fun t255 => (if t255 = true then (if t254 ≤ (-4611686018427387904) then (turnstonelaw04_PosBack.j0 k a1 true a0_0 a0_1 a0_2) else (turnstonelaw04_PosBack.j0 k a1 (decide (t254 ≥ 4611686018427387904)) a0_0 a0_1 a0_2)) else (turnstonelaw04_PosBack.j0 k a1 true a0_0 a0_1 a0_2)))) else (none))) = some r := h
 clear h
 replace H := Option.bind_eq_some_iff.mp H
 obtain ⟨t253, A30, H⟩ := H
 replace H : (if t253 = true then ((vtime_Time_Since.f a0_0 a1).bind fun t254 => ((pos_Pos_Right.f a0_0 a0_1 a0_2).bind fun t255 => (if t255 = true then (if t254 ≤ (-4611686018427387904) then (turnstonelaw04_PosBack.j0 k a1 true a0_0 a0_1 a0_2) else (turnstonelaw04_PosBack.j0 k a1 (decide (t254 ≥ 4611686018427387904)) a0_0 a0_1 a0_2)) else (turnstonelaw04_PosBack.j0 k a1 true a0_0 a0_1 a0_2)))) else (none)) = some r := H
 have A3 := Aside0.mk A30
 clear A30
 by_cases c4 : t253 = true
 ·subst c4
  have H1 : ((vtime_Time_Since.f a0_0 a1).bind fun t254 => ((pos_Pos_Right.f a0_0 a0_1 a0_2).bind fun t255 => (if t255 = true then (if t254 ≤ (-4611686018427387904) then (turnstonelaw04_PosBack.j0 k a1 true a0_0 a0_1 a0_2) else (turnstonelaw04_PosBack.j0 k a1 (decide (t254 ≥ 4611686018427387904)) a0_0 a0_1 a0_2)) else (turnstonelaw04_PosBack.j0 k a1 true a0_0 a0_1 a0_2)))) = some r := by rw [if_pos rfl] at H; exact H
  clear H
  have H := H1
  clear H1
  replace H := Option.bind_eq_some_iff.mp H
  obtain ⟨t254, A50, H⟩ := H
  replace H : ((pos_Pos_Right.f a0_0 a0_1 a0_2).bind fun t255 => (if t255 = true then (if t254 ≤ (-4611686018427387904) then (turnstonelaw04_PosBack.j0 k a1 true a0_0 a0_1 a0_2) else (turnstonelaw04_PosBack.j0 k a1 (decide (t254 ≥ 4611686018427387904)) a0_0 a0_1 a0_2)) else (turnstonelaw04_PosBack.j0 k a1 true a0_0 a0_1 a0_2))) = some r := H
  have A5 := Aside0.mk A50
  clear A50
  have HC6 := Aside0.mk H
  clear H
  go_enter Try.func4, Try.ntmps4
  go_upto_region 4 with (first | ((with_reducible refine gate_dst (N := 2) rfl ?_); refine box_event ?hg (N := 2) ?hd (cs := #[.int .u64 a0_0, .int .u32 a0_1, .int .u32 a0_2]) (t := 26) ?hr ?_; (case hd => rfl); (case hg => rfl); (case hr => first | (go_simp; done) | (go_simp; rfl)); intro gb252 hg w7 hbox hb; have n0_ := Aside0.mk (below_step (by repeat (first | (with_reducible first | exact HB.out | apply below_alloc | apply pw_below_drewN | apply below_drew1) | exact HB.out)) hb); have n1_ := Aside0.mk (hbox); have n2_ := Aside0.mk ((by rw [hg]; exact (below_size (by repeat (first | (with_reducible first | exact HB.out | apply below_alloc | apply pw_below_drewN | apply below_drew1) | exact HB.out))) : w.heap.size ≤ gb252)); have n3_ := Aside0.mk ((by rw [hg]; exact (below_size (by repeat (first | (with_reducible first | exact HB.out | apply below_alloc | apply pw_below_drewN | apply below_drew1) | exact HB.out))) : w.heap.size ≤ gb252)); clear HB; have HB := n0_; have BK252 := n1_; have GW252 := n2_; have GE252 := n3_; clear n0_ n1_ n2_ n3_; clear hb hbox hg) | ((with_reducible refine gate_callee (f := 11) rfl ?_); refine goesL_ (some 12) rfl rfl Try.func11 (by kernel_rfl) rfl #[] rfl (by (try simp only [List.map_toArray, List.map_cons, List.map_nil]); first | done | rfl | (simp only [List.length_drop, List.length_take]; rfl)) ?_; (with_reducible refine (turnstonelaw04_awake.calls k  true _ A3.out).mono ?_); rintro e w8 ⟨rfl, hb⟩; refine ⟨_, rfl, ?_⟩; have n0_ := Aside0.mk (blk_below (g := gb252) (o := .cells #[.int .u64 a0_0, .int .u32 a0_1, .int .u32 a0_2] 26 (0, 0)) (by (with_reducible repeat (first | refine blk_drewN ?_ _ | refine blk_drew ?_ | refine blk_alloc ?_ _)); exact BK252.out) hb); have n1_ := Aside0.mk (below_step (by repeat (first | (with_reducible first | exact HB.out | apply below_alloc | apply pw_below_drewN | apply below_drew1 | refine below_set ?_ GE252.out) | exact HB.out)) hb); clear BK252; clear HB; have BK252 := n0_; have HB := n1_; clear n0_ n1_; (try clear hb); (try clear hb2); (try clear hk); (try clear hi); have hcz9_0 : w8.cell? ⟨gb252, 0, none⟩ = some (.int .u64 a0_0) := (blk_cell BK252.out 0).trans rfl; have hcz9_1 : w8.cell? ⟨gb252, 1, none⟩ = some (.int .u32 a0_1) := (blk_cell BK252.out 1).trans rfl; have hcz9_2 : w8.cell? ⟨gb252, 2, none⟩ = some (.int .u32 a0_2) := (blk_cell BK252.out 2).trans rfl; have hfz9_0 := blk_frozen BK252.out 0; have hfz9_1 := blk_frozen BK252.out 1; have hfz9_2 := blk_frozen BK252.out 2) | ((with_reducible refine gate_callee (f := 12) rfl ?_); refine goesL_ (some 17) rfl rfl Try.func12 (by kernel_rfl) rfl #[.int .u64 a0_0, .int .u64 a1] rfl (by (try simp only [List.map_toArray, List.map_cons, List.map_nil]); first | done | rfl | (simp only [List.length_drop, List.length_take]; rfl)) ?_; (with_reducible refine (vtime_Time_Since.calls a0_0 a1 t254 _ A5.out).mono ?_); rintro e w' ⟨rfl, ⟨nd, rfl⟩⟩; refine ⟨_, rfl, ?_⟩))
  (try simp only [Act.put, List.setIfInBounds_toArray, List.set_cons_zero, List.set_cons_succ])
  go_cut [28] (fun v28 wc => ∃ (kq : Nat) (x28_5 : Bool), v28 = .bool x28_5 ∧ Aside0 (turnstonelaw04_PosBack.j0 kq a1 x28_5 a0_0 a0_1 a0_2 = some r) ∧ Aside0 (kq ≤ k) ∧ Aside0 (wc.heap[gb252]? = some (.cells #[.int .u64 a0_0, .int .u32 a0_1, .int .u32 a0_2] 26 (0, 0))) ∧ Aside0 (Below w.heap.size w wc))
  case first =>
   have H := HC6.out
   clear HC6
   replace H := Option.bind_eq_some_iff.mp H
   obtain ⟨t255, A100, H⟩ := H
   replace H : (if t255 = true then (if t254 ≤ (-4611686018427387904) then (turnstonelaw04_PosBack.j0 k a1 true a0_0 a0_1 a0_2) else (turnstonelaw04_PosBack.j0 k a1 (decide (t254 ≥ 4611686018427387904)) a0_0 a0_1 a0_2)) else (turnstonelaw04_PosBack.j0 k a1 true a0_0 a0_1 a0_2)) = some r := H
   have A10 := Aside0.mk A100
   clear A100
   by_cases c11 : t255 = true
   ·subst c11
    have H1 : (if t254 ≤ (-4611686018427387904) then (turnstonelaw04_PosBack.j0 k a1 true a0_0 a0_1 a0_2) else (turnstonelaw04_PosBack.j0 k a1 (decide (t254 ≥ 4611686018427387904)) a0_0 a0_1 a0_2)) = some r := by rw [if_pos rfl] at H; exact H
    clear H
    have H := H1
    clear H1
    by_cases c12 : t254 ≤ (-4611686018427387904)
    ·rw [if_pos c12] at H
     have c12b0 : decide (t254 ≤ (-4611686018427387904)) = true := decide_eq_true c12
     clear c12
     (first | rw [c12b0] | (simp only [i64_w, i32_w]; rw [c12b0]) | skip)
     have H' := Aside0.mk H
     clear H
     have hcz13_0 : w8.cell? ⟨gb252, 0, none⟩ = some (.int .u64 a0_0) := (blk_cell BK252.out 0).trans rfl
     have hcz13_1 : w8.cell? ⟨gb252, 1, none⟩ = some (.int .u32 a0_1) := (blk_cell BK252.out 1).trans rfl
     have hcz13_2 : w8.cell? ⟨gb252, 2, none⟩ = some (.int .u32 a0_2) := (blk_cell BK252.out 2).trans rfl
     have hfz13_0 := blk_frozen BK252.out 0
     have hfz13_1 := blk_frozen BK252.out 1
     have hfz13_2 := blk_frozen BK252.out 2
     go_wp2_with (first | ((with_reducible refine gate_callee (f := 13) rfl ?_); refine goesL_ (some 19) rfl rfl Try.func13 (by kernel_rfl) rfl #[.agg #[.int .u64 a0_0, .int .u32 a0_1, .int .u32 a0_2]] rfl (by (try simp only [List.map_toArray, List.map_cons, List.map_nil]); first | done | rfl | (simp only [List.length_drop, List.length_take]; rfl)) ?_; (with_reducible refine (pos_Pos_Right.calls a0_0 a0_1 a0_2 true _ A10.out).mono ?_); rintro e w14 ⟨rfl, hb⟩; refine ⟨_, rfl, ?_⟩; have n0_ := Aside0.mk (blk_below (g := gb252) (o := .cells #[.int .u64 a0_0, .int .u32 a0_1, .int .u32 a0_2] 26 (0, 0)) (by (with_reducible repeat (first | refine blk_drewN ?_ _ | refine blk_drew ?_ | refine blk_alloc ?_ _)); exact BK252.out) hb); have n1_ := Aside0.mk (below_step (by repeat (first | (with_reducible first | exact HB.out | apply below_alloc | apply pw_below_drewN | apply below_drew1 | refine below_set ?_ GE252.out) | exact HB.out)) hb); clear BK252; clear HB; have BK252 := n0_; have HB := n1_; clear n0_ n1_; (try clear hb); (try clear hb2); (try clear hk); (try clear hi)))
     go_meet
     case rel => exact ⟨_, (true), (by first | rfl | (simp; done) | (simp [*]; done)), H', ⟨by first | omega | exact Nat.le_refl _⟩, ⟨by (with_reducible repeat (first | refine blk_drewN ?_ _ | refine blk_drew ?_ | refine blk_alloc ?_ _)); exact BK252.out⟩, ⟨by repeat (first | (with_reducible first | exact HB.out | apply below_alloc | apply pw_below_drewN | apply below_drew1 | refine below_set ?_ GE252.out) | exact HB.out)⟩⟩
    ·rw [if_neg c12] at H
     have c12b0 : decide (t254 ≤ (-4611686018427387904)) = false := decide_eq_false c12
     clear c12
     (first | rw [c12b0] | (simp only [i64_w, i32_w]; rw [c12b0]) | skip)
     have H' := Aside0.mk H
     clear H
     have hcz15_0 : w8.cell? ⟨gb252, 0, none⟩ = some (.int .u64 a0_0) := (blk_cell BK252.out 0).trans rfl
     have hcz15_1 : w8.cell? ⟨gb252, 1, none⟩ = some (.int .u32 a0_1) := (blk_cell BK252.out 1).trans rfl
     have hcz15_2 : w8.cell? ⟨gb252, 2, none⟩ = some (.int .u32 a0_2) := (blk_cell BK252.out 2).trans rfl
     have hfz15_0 := blk_frozen BK252.out 0
     have hfz15_1 := blk_frozen BK252.out 1
     have hfz15_2 := blk_frozen BK252.out 2
     go_wp2_with (first | ((with_reducible refine gate_callee (f := 13) rfl ?_); refine goesL_ (some 19) rfl rfl Try.func13 (by kernel_rfl) rfl #[.agg #[.int .u64 a0_0, .int .u32 a0_1, .int .u32 a0_2]] rfl (by (try simp only [List.map_toArray, List.map_cons, List.map_nil]); first | done | rfl | (simp only [List.length_drop, List.length_take]; rfl)) ?_; (with_reducible refine (pos_Pos_Right.calls a0_0 a0_1 a0_2 true _ A10.out).mono ?_); rintro e w16 ⟨rfl, hb⟩; refine ⟨_, rfl, ?_⟩; have n0_ := Aside0.mk (blk_below (g := gb252) (o := .cells #[.int .u64 a0_0, .int .u32 a0_1, .int .u32 a0_2] 26 (0, 0)) (by (with_reducible repeat (first | refine blk_drewN ?_ _ | refine blk_drew ?_ | refine blk_alloc ?_ _)); exact BK252.out) hb); have n1_ := Aside0.mk (below_step (by repeat (first | (with_reducible first | exact HB.out | apply below_alloc | apply pw_below_drewN | apply below_drew1 | refine below_set ?_ GE252.out) | exact HB.out)) hb); clear BK252; clear HB; have BK252 := n0_; have HB := n1_; clear n0_ n1_; (try clear hb); (try clear hb2); (try clear hk); (try clear hi)))
     go_meet
     case rel => exact ⟨_, (decide (t254 ≥ 4611686018427387904)), (by first | rfl | (simp; done) | (simp [*]; done)), H', ⟨by first | omega | exact Nat.le_refl _⟩, ⟨by (with_reducible repeat (first | refine blk_drewN ?_ _ | refine blk_drew ?_ | refine blk_alloc ?_ _)); exact BK252.out⟩, ⟨by repeat (first | (with_reducible first | exact HB.out | apply below_alloc | apply pw_below_drewN | apply below_drew1 | refine below_set ?_ GE252.out) | exact HB.out)⟩⟩
   ·replace c11 := Bool.eq_false_iff.mpr c11
    subst c11
    have H1 : (turnstonelaw04_PosBack.j0 k a1 true a0_0 a0_1 a0_2) = some r := by rw [if_neg (show ¬ (false = true) by decide)] at H; exact H
    clear H
    have H := H1
    clear H1
    have H' := Aside0.mk H
    clear H
    have hcz17_0 : w8.cell? ⟨gb252, 0, none⟩ = some (.int .u64 a0_0) := (blk_cell BK252.out 0).trans rfl
    have hcz17_1 : w8.cell? ⟨gb252, 1, none⟩ = some (.int .u32 a0_1) := (blk_cell BK252.out 1).trans rfl
    have hcz17_2 : w8.cell? ⟨gb252, 2, none⟩ = some (.int .u32 a0_2) := (blk_cell BK252.out 2).trans rfl
    have hfz17_0 := blk_frozen BK252.out 0
    have hfz17_1 := blk_frozen BK252.out 1
    have hfz17_2 := blk_frozen BK252.out 2
    go_wp2_with (first | ((with_reducible refine gate_callee (f := 13) rfl ?_); refine goesL_ (some 19) rfl rfl Try.func13 (by kernel_rfl) rfl #[.agg #[.int .u64 a0_0, .int .u32 a0_1, .int .u32 a0_2]] rfl (by (try simp only [List.map_toArray, List.map_cons, List.map_nil]); first | done | rfl | (simp only [List.length_drop, List.length_take]; rfl)) ?_; (with_reducible refine (pos_Pos_Right.calls a0_0 a0_1 a0_2 false _ A10.out).mono ?_); rintro e w18 ⟨rfl, hb⟩; refine ⟨_, rfl, ?_⟩; have n0_ := Aside0.mk (blk_below (g := gb252) (o := .cells #[.int .u64 a0_0, .int .u32 a0_1, .int .u32 a0_2] 26 (0, 0)) (by (with_reducible repeat (first | refine blk_drewN ?_ _ | refine blk_drew ?_ | refine blk_alloc ?_ _)); exact BK252.out) hb); have n1_ := Aside0.mk (below_step (by repeat (first | (with_reducible first | exact HB.out | apply below_alloc | apply pw_below_drewN | apply below_drew1 | refine below_set ?_ GE252.out) | exact HB.out)) hb); clear BK252; clear HB; have BK252 := n0_; have HB := n1_; clear n0_ n1_; (try clear hb); (try clear hb2); (try clear hk); (try clear hi)))
    go_meet
    case rel => exact ⟨_, (true), (by first | rfl | (simp; done) | (simp [*]; done)), H', ⟨by first | omega | exact Nat.le_refl _⟩, ⟨by (with_reducible repeat (first | refine blk_drewN ?_ _ | refine blk_drew ?_ | refine blk_alloc ?_ _)); exact BK252.out⟩, ⟨by repeat (first | (with_reducible first | exact HB.out | apply below_alloc | apply pw_below_drewN | apply below_drew1 | refine below_set ?_ GE252.out) | exact HB.out)⟩⟩
  case rest =>
   clear HC6
   try clear c1
   try clear p2
   try clear c4
   try clear c11
   try clear c12
   try clear c12b0
   try clear c13
   try clear hcz13_0
   try clear hcz13_1
   try clear hcz13_2
   try clear hcz15_0
   try clear hcz15_1
   try clear hcz15_2
   try clear hcz17_0
   try clear hcz17_1
   try clear hcz17_2
   try clear hcz9_0
   try clear hcz9_1
   try clear hcz9_2
   try clear hfz13_0
   try clear hfz13_1
   try clear hfz13_2
   try clear hfz15_0
   try clear hfz15_1
   try clear hfz15_2
   try clear hfz17_0
   try clear hfz17_1
   try clear hfz17_2
   try clear hfz9_0
   try clear hfz9_1
   try clear hfz9_2
   obtain ⟨kq, x28_5, rfl, HA, HJ5, BK252, HB⟩ := hcut
   cases kq with
   | zero => exact absurd HA.out (by simp [turnstonelaw04_PosBack.j0])
   | succ kj5 =>
    have H := HA.out
    clear HA
    simp only [turnstonelaw04_PosBack.j0] at H
    by_cases c19 : x28_5 = true
    ·subst c19
     have H1 : (some true) = some r := by rw [if_pos rfl] at H; exact H
     clear H
     have H := H1
     clear H1
     obtain rfl := Option.some.inj H
     go_wp2
     go_ret
     exact ⟨by first | rfl | (simp [errW_none, errW_some] <;> rfl) | (simp [*, errW_none, errW_some] <;> rfl), by repeat (first | (with_reducible first | exact HB.out | apply below_alloc | apply pw_below_drewN | apply below_drew1 | refine below_set ?_ GE252.out) | exact HB.out)⟩
    ·replace c19 := Bool.eq_false_iff.mpr c19
     subst c19
     have H1 : ((pos_Pos_Distance.f kj5 a0_0 a0_1 a0_2 a1).bind fun bt256 => ((pos_At.f kj5 a1 bt256.1 bt256.2 a0_2).bind fun bt258 => ((pos_Pos_Move.f kj5 a0_0 a0_1 a0_2 (IntKind.u64.wrap (a0_2))).bind fun bt263 => ((pos_Floors.f kj5 a0_0 (([(⟨a0_0, a0_1, a0_2⟩ : S26), (⟨bt263.1, bt263.2.1, bt263.2.2.1⟩ : S26)] : List (S26)))).bind fun bt271 => (if bt258.2.2.2 = true then (if (bt258.1 == a0_0 && (bt258.2.1 == a0_1 && (bt258.2.2.1 == a0_2))) = true then (if bt263.2.2.2 = true then ((pos_Pos_Shift.f a0_0 a0_1 a0_2 1).bind fun bt273 => (if (bt263.1 == bt273.1 && (bt263.2.1 == bt273.2.1 && (bt263.2.2.1 == bt273.2.2))) = true then (if bt271.1 = 0 then (if bt271.2 = 1 then ((pos_Pos_Cmp.f kj5 a0_0 a0_1 a0_2 bt263.1 bt263.2.1 bt263.2.2.1).bind fun t276 => (if t276 = (-1) then ((pos_Pos_Cmp.f kj5 a0_0 a0_1 a0_2 bt258.1 bt258.2.1 bt258.2.2.1).bind fun t277 => (some (t277 == 0))) else (none))) else (none)) else (none)) else (none))) else (none)) else (none)) else (none)))))) = some r := by rw [if_neg (show ¬ (false = true) by decide)] at H; exact H
     clear H
     have H := H1
     clear H1
     replace H := Option.bind_eq_some_iff.mp H
     obtain ⟨⟨t256, t257⟩, A200, H⟩ := H
     replace H : ((pos_At.f kj5 a1 t256 t257 a0_2).bind fun bt258 => ((pos_Pos_Move.f kj5 a0_0 a0_1 a0_2 (IntKind.u64.wrap (a0_2))).bind fun bt263 => ((pos_Floors.f kj5 a0_0 (([(⟨a0_0, a0_1, a0_2⟩ : S26), (⟨bt263.1, bt263.2.1, bt263.2.2.1⟩ : S26)] : List (S26)))).bind fun bt271 => (if bt258.2.2.2 = true then (if (bt258.1 == a0_0 && (bt258.2.1 == a0_1 && (bt258.2.2.1 == a0_2))) = true then (if bt263.2.2.2 = true then ((pos_Pos_Shift.f a0_0 a0_1 a0_2 1).bind fun bt273 => (if (bt263.1 == bt273.1 && (bt263.2.1 == bt273.2.1 && (bt263.2.2.1 == bt273.2.2))) = true then (if bt271.1 = 0 then (if bt271.2 = 1 then ((pos_Pos_Cmp.f kj5 a0_0 a0_1 a0_2 bt263.1 bt263.2.1 bt263.2.2.1).bind fun t276 => (if t276 = (-1) then ((pos_Pos_Cmp.f kj5 a0_0 a0_1 a0_2 bt258.1 bt258.2.1 bt258.2.2.1).bind fun t277 => (some (t277 == 0))) else (none))) else (none)) else (none)) else (none))) else (none)) else (none)) else (none))))) = some r := H
     have A20 := Aside0.mk A200
     clear A200
     replace H := Option.bind_eq_some_iff.mp H
     obtain ⟨⟨t258, t259, t260, t261⟩, A210, H⟩ := H
     replace H : ((pos_Pos_Move.f kj5 a0_0 a0_1 a0_2 (IntKind.u64.wrap (a0_2))).bind fun bt263 => ((pos_Floors.f kj5 a0_0 (([(⟨a0_0, a0_1, a0_2⟩ : S26), (⟨bt263.1, bt263.2.1, bt263.2.2.1⟩ : S26)] : List (S26)))).bind fun bt271 => (if t261 = true then (if (t258 == a0_0 && (t259 == a0_1 && (t260 == a0_2))) = true then (if bt263.2.2.2 = true then ((pos_Pos_Shift.f a0_0 a0_1 a0_2 1).bind fun bt273 => (if (bt263.1 == bt273.1 && (bt263.2.1 == bt273.2.1 && (bt263.2.2.1 == bt273.2.2))) = true then (if bt271.1 = 0 then (if bt271.2 = 1 then ((pos_Pos_Cmp.f kj5 a0_0 a0_1 a0_2 bt263.1 bt263.2.1 bt263.2.2.1).bind fun t276 => (if t276 = (-1) then ((pos_Pos_Cmp.f kj5 a0_0 a0_1 a0_2 t258 t259 t260).bind fun t277 => (some (t277 == 0))) else (none))) else (none)) else (none)) else (none))) else (none)) else (none)) else (none)))) = some r := H
     have A21 := Aside0.mk A210
     clear A210
     replace H := Option.bind_eq_some_iff.mp H
     obtain ⟨⟨t263, t264, t265, t266⟩, A220, H⟩ := H
     replace H : ((pos_Floors.f kj5 a0_0 (([(⟨a0_0, a0_1, a0_2⟩ : S26), (⟨t263, t264, t265⟩ : S26)] : List (S26)))).bind fun bt271 => (if t261 = true then (if (t258 == a0_0 && (t259 == a0_1 && (t260 == a0_2))) = true then (if t266 = true then ((pos_Pos_Shift.f a0_0 a0_1 a0_2 1).bind fun bt273 => (if (t263 == bt273.1 && (t264 == bt273.2.1 && (t265 == bt273.2.2))) = true then (if bt271.1 = 0 then (if bt271.2 = 1 then ((pos_Pos_Cmp.f kj5 a0_0 a0_1 a0_2 t263 t264 t265).bind fun t276 => (if t276 = (-1) then ((pos_Pos_Cmp.f kj5 a0_0 a0_1 a0_2 t258 t259 t260).bind fun t277 => (some (t277 == 0))) else (none))) else (none)) else (none)) else (none))) else (none)) else (none)) else (none))) = some r := H
     have A22 := Aside0.mk A220
     clear A220
     obtain ⟨y268, hy268⟩ : ∃ y_ : List (S26), y_ = (([(⟨a0_0, a0_1, a0_2⟩ : S26), (⟨t263, t264, t265⟩ : S26)] : List (S26))) := ⟨_, rfl⟩
     replace H : ((pos_Floors.f kj5 a0_0 y268).bind fun bt271 => (if t261 = true then (if (t258 == a0_0 && (t259 == a0_1 && (t260 == a0_2))) = true then (if t266 = true then ((pos_Pos_Shift.f a0_0 a0_1 a0_2 1).bind fun bt273 => (if (t263 == bt273.1 && (t264 == bt273.2.1 && (t265 == bt273.2.2))) = true then (if bt271.1 = 0 then (if bt271.2 = 1 then ((pos_Pos_Cmp.f kj5 a0_0 a0_1 a0_2 t263 t264 t265).bind fun t276 => (if t276 = (-1) then ((pos_Pos_Cmp.f kj5 a0_0 a0_1 a0_2 t258 t259 t260).bind fun t277 => (some (t277 == 0))) else (none))) else (none)) else (none)) else (none))) else (none)) else (none)) else (none))) = some r := by first | (rw [hy268]; with_reducible exact H) | (have H2_ := (Option.bind_some _ _).symm.trans H; rw [hy268]; with_reducible exact H2_) | (have H2_ := (Option.bind_some _ _).symm.trans H; with_reducible exact H2_) | with_reducible exact H | (rw [hy268]; exact H) | exact H
     have Ny268 := Aside0.mk hy268
     clear hy268
     replace H := Option.bind_eq_some_iff.mp H
     obtain ⟨⟨t271, t272⟩, A230, H⟩ := H
     replace H : (if t261 = true then (if (t258 == a0_0 && (t259 == a0_1 && (t260 == a0_2))) = true then (if t266 = true then ((pos_Pos_Shift.f a0_0 a0_1 a0_2 1).bind fun bt273 => (if (t263 == bt273.1 && (t264 == bt273.2.1 && (t265 == bt273.2.2))) = true then (if t271 = 0 then (if t272 = 1 then ((pos_Pos_Cmp.f kj5 a0_0 a0_1 a0_2 t263 t264 t265).bind fun t276 => (if t276 = (-1) then ((pos_Pos_Cmp.f kj5 a0_0 a0_1 a0_2 t258 t259 t260).bind fun t277 => (some (t277 == 0))) else (none))) else (none)) else (none)) else (none))) else (none)) else (none)) else (none)) = some r := H
     have A23 := Aside0.mk A230
     clear A230
     by_cases c24 : t261 = true
     ·subst c24
      have H1 : (if (t258 == a0_0 && (t259 == a0_1 && (t260 == a0_2))) = true then (if t266 = true then ((pos_Pos_Shift.f a0_0 a0_1 a0_2 1).bind fun bt273 => (if (t263 == bt273.1 && (t264 == bt273.2.1 && (t265 == bt273.2.2))) = true then (if t271 = 0 then (if t272 = 1 then ((pos_Pos_Cmp.f kj5 a0_0 a0_1 a0_2 t263 t264 t265).bind fun t276 => (if t276 = (-1) then ((pos_Pos_Cmp.f kj5 a0_0 a0_1 a0_2 t258 t259 t260).bind fun t277 => (some (t277 == 0))) else (none))) else (none)) else (none)) else (none))) else (none)) else (none)) = some r := by rw [if_pos rfl] at H; exact H
      clear H
      have H := H1
      clear H1
      by_cases c25 : (t258 == a0_0 && (t259 == a0_1 && (t260 == a0_2))) = true
      ·rw [if_pos c25] at H
       have c25b0 : (t258 == a0_0 && (t259 == a0_1 && (t260 == a0_2))) = true := c25
       (try (have c25b1 : decide (t258 = a0_0 && (t259 == a0_1 && (t260 == a0_2))) = true := by simpa using c25))
       (try (have c25b2 : (t258 == a0_0 && (t259 == a0_1 && (t260 == a0_2))) = true := by simpa using c25))
       clear c25
       by_cases c26 : t266 = true
       ·subst c26
        have H1 : ((pos_Pos_Shift.f a0_0 a0_1 a0_2 1).bind fun bt273 => (if (t263 == bt273.1 && (t264 == bt273.2.1 && (t265 == bt273.2.2))) = true then (if t271 = 0 then (if t272 = 1 then ((pos_Pos_Cmp.f kj5 a0_0 a0_1 a0_2 t263 t264 t265).bind fun t276 => (if t276 = (-1) then ((pos_Pos_Cmp.f kj5 a0_0 a0_1 a0_2 t258 t259 t260).bind fun t277 => (some (t277 == 0))) else (none))) else (none)) else (none)) else (none))) = some r := by rw [if_pos rfl] at H; exact H
        clear H
        have H := H1
        clear H1
        replace H := Option.bind_eq_some_iff.mp H
        obtain ⟨⟨t273, t274, t275⟩, A270, H⟩ := H
        replace H : (if (t263 == t273 && (t264 == t274 && (t265 == t275))) = true then (if t271 = 0 then (if t272 = 1 then ((pos_Pos_Cmp.f kj5 a0_0 a0_1 a0_2 t263 t264 t265).bind fun t276 => (if t276 = (-1) then ((pos_Pos_Cmp.f kj5 a0_0 a0_1 a0_2 t258 t259 t260).bind fun t277 => (some (t277 == 0))) else (none))) else (none)) else (none)) else (none)) = some r := H
        have A27 := Aside0.mk A270
        clear A270
        by_cases c28 : (t263 == t273 && (t264 == t274 && (t265 == t275))) = true
        ·rw [if_pos c28] at H
         have c28b0 : (t263 == t273 && (t264 == t274 && (t265 == t275))) = true := c28
         (try (have c28b1 : decide (t263 = t273 && (t264 == t274 && (t265 == t275))) = true := by simpa using c28))
         (try (have c28b2 : (t263 == t273 && (t264 == t274 && (t265 == t275))) = true := by simpa using c28))
         clear c28
         by_cases c29 : t271 = 0
         ·rw [if_pos c29] at H
          have c29b0 : (t271 == 0) = true := beq_iff_eq.mpr c29
          have c29b1 : (t271 != 0) = false := bne_eq_false_iff_eq.mpr c29
          clear c29
          by_cases c30 : t272 = 1
          ·rw [if_pos c30] at H
           have c30b0 : (t272 == 1) = true := beq_iff_eq.mpr c30
           have c30b1 : (t272 != 1) = false := bne_eq_false_iff_eq.mpr c30
           clear c30
           replace H := Option.bind_eq_some_iff.mp H
           obtain ⟨t276, A310, H⟩ := H
           replace H : (if t276 = (-1) then ((pos_Pos_Cmp.f kj5 a0_0 a0_1 a0_2 t258 t259 t260).bind fun t277 => (some (t277 == 0))) else (none)) = some r := H
           have A31 := Aside0.mk A310
           clear A310
           by_cases c32 : t276 = (-1)
           ·rw [if_pos c32] at H
            have c32b0 : (t276 == (-1)) = true := beq_iff_eq.mpr c32
            have c32b1 : (t276 != (-1)) = false := bne_eq_false_iff_eq.mpr c32
            clear c32
            replace H := Option.bind_eq_some_iff.mp H
            obtain ⟨t277, A330, H⟩ := H
            replace H : (some (t277 == 0)) = some r := H
            have A33 := Aside0.mk A330
            clear A330
            obtain rfl := Option.some.inj H
            try go_wp2
            have n0_ := Aside0.mk (blk_drew BK252.out)
            have n1_ := Aside0.mk (below_drew1 HB.out)
            clear BK252
            clear HB
            have BK252 := n0_
            have HB := n1_
            clear n0_ n1_
            refine start_ (n := 13) (S := fun w' => w'.cell? ⟨gb252, 0, none⟩ = some (.int .u64 a0_0) ∧ w'.cell? ⟨gb252, 1, none⟩ = some (.int .u32 a0_1) ∧ w'.cell? ⟨gb252, 2, none⟩ = some (.int .u32 a0_2)) (ds := []) #[false, false, false, false, false, false, false, false, false, false, false, false, false] (by kernel_rfl) rfl rfl ⟨(blk_cell BK252.out 0).trans rfl, (blk_cell BK252.out 1).trans rfl, (blk_cell BK252.out 2).trans rfl⟩ (fun hHeld => ?_); refine with_tabW turnstonelaw04_PosBack.tab6 turnstonelaw04_PosBack.bits6 (fun HT_ HW_ => ?_)
            generalize wc.drew = w34 at BK252 HB hHeld ⊢
            refine pure_ (i := 0) (N := some 30) (v := ?_) (a' := ?_) #[true, false, false, false, false, false, false, false, false, false, false, false, false] rfl rfl (any_of HT_.out (by kernel_rfl)) (fun _ _ _ h => h) (Or.inl ⟨by rfl, ?_⟩) ?_ ?_
            rotate_left
            ·intro w'
             go_simp
             with_reducible rfl
            rotate_left
            ·simp only [Act.put, List.setIfInBounds_toArray, List.set_cons_zero, List.set_cons_succ, i64_w, i32_w]
             rfl
            refine pure_ (i := 2) (N := some 32) (v := ?_) (a' := ?_) #[true, false, true, false, false, false, false, false, false, false, false, false, false] rfl rfl (any_of HT_.out (by kernel_rfl)) (fun _ _ _ h => h) (Or.inl ⟨by rfl, ?_⟩) ?_ ?_
            rotate_left
            ·intro w'
             go_simp
             with_reducible rfl
            rotate_left
            ·simp only [Act.put, List.setIfInBounds_toArray, List.set_cons_zero, List.set_cons_succ, i64_w, i32_w]
             rfl
            refine pure_ (i := 4) (N := some 34) (v := ?_) (a' := ?_) #[true, false, true, false, true, false, false, false, false, false, false, false, false] rfl rfl (any_of HT_.out (by kernel_rfl)) (fun _ _ _ h => h) (Or.inl ⟨by rfl, ?_⟩) ?_ ?_
            rotate_left
            ·intro w'
             go_simp
             with_reducible rfl
            rotate_left
            ·simp only [Act.put, List.setIfInBounds_toArray, List.set_cons_zero, List.set_cons_succ, i64_w, i32_w]
             rfl
            refine take_ (i := 1) (N := some 31) (v := ?_) (a' := ?_) #[true, true, true, false, true, false, false, false, false, false, false, false, false] rfl rfl (take_ofW HT_.out HW_.out (by kernel_rfl)) (fun _ _ _ h => h) (Or.inl ⟨by rfl, ?_⟩) hHeld ?_ ?_
            rotate_left
            ·rintro w' ⟨s0, s1, s2⟩
             go_simp
             with_reducible rfl
            rotate_left
            ·simp only [Act.put, List.setIfInBounds_toArray, List.set_cons_zero, List.set_cons_succ, i64_w, i32_w]
             rfl
            refine take_ (i := 5) (N := some 35) (v := ?_) (a' := ?_) #[true, true, true, false, true, true, false, false, false, false, false, false, false] rfl rfl (take_ofW HT_.out HW_.out (by kernel_rfl)) (fun _ _ _ h => h) (Or.inl ⟨by rfl, ?_⟩) hHeld ?_ ?_
            rotate_left
            ·rintro w' ⟨s0, s1, s2⟩
             go_simp
             with_reducible rfl
            rotate_left
            ·simp only [Act.put, List.setIfInBounds_toArray, List.set_cons_zero, List.set_cons_succ, i64_w, i32_w]
             rfl
            refine join_ (σ := Nat) 2 #[true, true, true, true, true, true, true, true, true, true, true, false, false] (fun s_ => [(33, .agg #[.int .i64 t256, .int .u64 t257]), (36, .tuple #[.agg #[.int .u64 t258, .int .u32 t259, .int .u32 t260], .bool true]), (6, .pointer (some ⟨s_, 0, none⟩)), (29, .tuple #[.agg #[.int .u64 t258, .int .u32 t259, .int .u32 t260], .bool true]), (37, .agg #[.int .u64 t258, .int .u32 t259, .int .u32 t260]), (38, .bool true)]) (fun s_ w' => (w'.cell? ⟨gb252, 0, none⟩ = some (.int .u64 a0_0) ∧ w'.cell? ⟨gb252, 1, none⟩ = some (.int .u32 a0_1) ∧ w'.cell? ⟨gb252, 2, none⟩ = some (.int .u32 a0_2)) ∧ (w'.heap[gb252]? = some (.cells #[.int .u64 a0_0, .int .u32 a0_1, .int .u32 a0_2] 26 (0, 0))) ∧ (w'.heap[s_]? = some (.cells #[.int .u64 0, .int .u32 0, .int .u32 0] 26 (0, 0))) ∧ (w.heap.size ≤ s_) ∧ (w.heap.size ≤ s_) ∧ (gb252 ≠ s_) ∧ (s_ ≠ gb252) ∧ (Below w.heap.size w w')) ?_ ?_
            rotate_left
            ·intro hCont
             refine two_ (i := 3) (j := 10) (Ni := some 33) (Nj := some 6) #[true, true, true, true, true, true, false, false, false, false, false, false, false] #[true, true, true, false, true, true, false, false, false, false, true, false, false] rfl rfl rfl rfl (two_of HT_.out (by kernel_rfl)) (by decide) (by decide) (fun K hK => ?_) (fun K hK => ?_)
             ·skip
              refine goes_ Try.func15 (by kernel_rfl) rfl #[.agg #[.int .u64 a0_0, .int .u32 a0_1, .int .u32 a0_2], .int .u64 a1] (by rfl) rfl rfl (by (try simp only [List.map_toArray, List.map_cons, List.map_nil]); first | done | rfl | (simp only [List.length_drop, List.length_take]; rfl)) ?_
              with_reducible refine (pos_Pos_Distance.calls kj5 a0_0 a0_1 a0_2 a1 t256 t257 _ A20.out).mono ?_
              rintro e w35 ⟨rfl, hb⟩
              refine ⟨_, rfl, ?_⟩
              have n0_ := Aside0.mk (blk_below (g := gb252) (o := .cells #[.int .u64 a0_0, .int .u32 a0_1, .int .u32 a0_2] 26 (0, 0)) (by (with_reducible repeat (first | refine blk_drewN ?_ _ | refine blk_drew ?_ | refine blk_alloc ?_ _)); exact BK252.out) hb)
              have n1_ := Aside0.mk (below_step (by repeat (first | (with_reducible first | exact HB.out | apply below_alloc | apply pw_below_drewN | apply below_drew1 | refine below_set ?_ GE252.out) | exact HB.out)) hb)
              clear BK252
              clear HB
              have BK252 := n0_
              have HB := n1_
              clear n0_ n1_
              (try clear hb)
              (try clear hb2)
              (try clear hk)
              (try clear hi)
              refine hK.out _ _ ⟨(blk_cell BK252.out 0).trans rfl, (blk_cell BK252.out 1).trans rfl, (blk_cell BK252.out 2).trans rfl⟩ (fun hHeld => ?_)
              clear hK K
              refine norm_ (a' := ?_) ?_ ?_
              rotate_left
              ·show Act.put _ (some 33) _ = _
               simp only [Act.put, List.setIfInBounds_toArray, List.set_cons_zero, List.set_cons_succ, i64_w, i32_w]
               rfl
              refine two_ (i := 6) (j := 10) (Ni := some 36) (Nj := some 6) #[true, true, true, true, true, true, true, false, false, false, false, false, false] #[true, true, true, true, true, true, false, false, false, false, true, false, false] rfl rfl rfl rfl (two_of HT_.out (by kernel_rfl)) (by decide) (by decide) (fun K hK => ?_) (fun K hK => ?_)
              ·skip
               refine goes_ Try.func14 (by kernel_rfl) rfl #[.int .u64 a1, .agg #[.int .i64 t256, .int .u64 t257], .int .u32 a0_2] (by rfl) rfl rfl (by (try simp only [List.map_toArray, List.map_cons, List.map_nil]); first | done | rfl | (simp only [List.length_drop, List.length_take]; rfl)) ?_
               with_reducible refine (pos_At.calls kj5 a1 t256 t257 a0_2 t258 t259 t260 true _ A21.out).mono ?_
               rintro e w36 ⟨rfl, hb⟩
               refine ⟨_, rfl, ?_⟩
               have n0_ := Aside0.mk (blk_below (g := gb252) (o := .cells #[.int .u64 a0_0, .int .u32 a0_1, .int .u32 a0_2] 26 (0, 0)) (by (with_reducible repeat (first | refine blk_drewN ?_ _ | refine blk_drew ?_ | refine blk_alloc ?_ _)); exact BK252.out) hb)
               have n1_ := Aside0.mk (below_step (by repeat (first | (with_reducible first | exact HB.out | apply below_alloc | apply pw_below_drewN | apply below_drew1 | refine below_set ?_ GE252.out) | exact HB.out)) hb)
               clear BK252
               clear HB
               have BK252 := n0_
               have HB := n1_
               clear n0_ n1_
               (try clear hb)
               (try clear hb2)
               (try clear hk)
               (try clear hi)
               refine hK.out _ _ ⟨(blk_cell BK252.out 0).trans rfl, (blk_cell BK252.out 1).trans rfl, (blk_cell BK252.out 2).trans rfl⟩ (fun hHeld => ?_)
               clear hK K
               refine norm_ (a' := ?_) ?_ ?_
               rotate_left
               ·show Act.put _ (some 36) _ = _
                simp only [Act.put, List.setIfInBounds_toArray, List.set_cons_zero, List.set_cons_succ, i64_w, i32_w]
                rfl
               refine pure_ (i := 7) (N := some 29) (v := ?_) (a' := ?_) #[true, true, true, true, true, true, true, true, false, false, false, false, false] rfl rfl (any_of HT_.out (by kernel_rfl)) (fun _ _ _ h => h) (Or.inl ⟨by rfl, ?_⟩) ?_ ?_
               rotate_left
               ·intro w'
                go_simp
                with_reducible rfl
               rotate_left
               ·simp only [Act.put, List.setIfInBounds_toArray, List.set_cons_zero, List.set_cons_succ, i64_w, i32_w]
                rfl
               refine pure_ (i := 8) (N := some 37) (v := ?_) (a' := ?_) #[true, true, true, true, true, true, true, true, true, false, false, false, false] rfl rfl (any_of HT_.out (by kernel_rfl)) (fun _ _ _ h => h) (Or.inl ⟨by rfl, ?_⟩) ?_ ?_
               rotate_left
               ·intro w'
                go_simp
                with_reducible rfl
               rotate_left
               ·simp only [Act.put, List.setIfInBounds_toArray, List.set_cons_zero, List.set_cons_succ, i64_w, i32_w]
                rfl
               refine pure_ (i := 9) (N := some 38) (v := ?_) (a' := ?_) #[true, true, true, true, true, true, true, true, true, true, false, false, false] rfl rfl (any_of HT_.out (by kernel_rfl)) (fun _ _ _ h => h) (Or.inl ⟨by rfl, ?_⟩) ?_ ?_
               rotate_left
               ·intro w'
                go_simp
                with_reducible rfl
               rotate_left
               ·simp only [Act.put, List.setIfInBounds_toArray, List.set_cons_zero, List.set_cons_succ, i64_w, i32_w]
                rfl
               refine one_ (i := 10) (N := some 6) #[true, true, true, true, true, true, true, true, true, true, true, false, false] rfl rfl (one_of HT_.out (by kernel_rfl)) (by decide) (fun K hK => ?_)
               refine box_step ?hg (N := 6) ?hd (cs := #[.int .u64 0, .int .u32 0, .int .u32 0]) (t := 26) ?hr ?_; (case hd => rfl); (case hg => rfl); (case hr => first | (go_simp; done) | (go_simp; rfl))
               intro gb262 hg w37 hbox hb
               have n0_ := Aside0.mk (blk_below (g := gb252) (o := .cells #[.int .u64 a0_0, .int .u32 a0_1, .int .u32 a0_2] 26 (0, 0)) (by (with_reducible repeat (first | refine blk_drewN ?_ _ | refine blk_drew ?_ | refine blk_alloc ?_ _)); exact BK252.out) hb)
               have n1_ := Aside0.mk (below_step (by repeat (first | (with_reducible first | exact HB.out | apply below_alloc | apply pw_below_drewN | apply below_drew1 | refine below_set ?_ GE252.out) | exact HB.out)) hb)
               have n2_ := Aside0.mk (hbox)
               have n3_ := Aside0.mk ((by rw [hg]; exact (below_size (by repeat (first | (with_reducible first | exact HB.out | apply below_alloc | apply pw_below_drewN | apply below_drew1 | refine below_set ?_ GE252.out) | exact HB.out))) : w.heap.size ≤ gb262))
               have n4_ := Aside0.mk ((by rw [hg]; exact (below_size (by repeat (first | (with_reducible first | exact HB.out | apply below_alloc | apply pw_below_drewN | apply below_drew1 | refine below_set ?_ GE252.out) | exact HB.out))) : w.heap.size ≤ gb262))
               have n5_ := Aside0.mk ((by rw [hg]; exact Nat.ne_of_lt (blk_lt (g := gb252) (o := .cells #[.int .u64 a0_0, .int .u32 a0_1, .int .u32 a0_2] 26 (0, 0)) (by (with_reducible repeat (first | refine blk_drewN ?_ _ | refine blk_drew ?_ | refine blk_alloc ?_ _)); exact BK252.out)) : gb252 ≠ gb262))
               have n6_ := Aside0.mk ((by rw [hg]; exact Nat.ne_of_gt (blk_lt (g := gb252) (o := .cells #[.int .u64 a0_0, .int .u32 a0_1, .int .u32 a0_2] 26 (0, 0)) (by (with_reducible repeat (first | refine blk_drewN ?_ _ | refine blk_drew ?_ | refine blk_alloc ?_ _)); exact BK252.out)) : gb262 ≠ gb252))
               clear BK252
               clear HB
               have BK252 := n0_
               have HB := n1_
               have BK262 := n2_
               have GW262 := n3_
               have GE262 := n4_
               have NB252_262 := n5_
               have NB262_252 := n6_
               clear n0_ n1_ n2_ n3_ n4_ n5_ n6_
               clear hb hbox hg
               refine hK.out _ _ ⟨(blk_cell BK252.out 0).trans rfl, (blk_cell BK252.out 1).trans rfl, (blk_cell BK252.out 2).trans rfl⟩ (fun hHeld => ?_)
               clear hK K
               refine norm_ (a' := ?_) ?_ ?_
               rotate_left
               ·show Act.put _ (some 6) _ = _
                simp only [Act.put, List.setIfInBounds_toArray, List.set_cons_zero, List.set_cons_succ, i64_w, i32_w]
                rfl
               exact norm_ (by simp only [putAll, Act.put, List.setIfInBounds_toArray, List.set_cons_zero, List.set_cons_succ]) (hCont (gb262) _ ⟨hHeld, (by (with_reducible repeat (first | refine blk_drewN ?_ _ | refine blk_drew ?_ | refine blk_alloc ?_ _)); exact BK252.out), (by (with_reducible repeat (first | refine blk_drewN ?_ _ | refine blk_drew ?_ | refine blk_alloc ?_ _)); exact BK262.out), GW262.out, GE262.out, NB252_262.out, NB262_252.out, (by repeat (first | (with_reducible first | exact HB.out | apply below_alloc | apply pw_below_drewN | apply below_drew1 | refine below_set ?_ GE252.out | refine below_set ?_ GE262.out) | exact HB.out))⟩)
              ·skip
               refine box_step ?hg (N := 6) ?hd (cs := #[.int .u64 0, .int .u32 0, .int .u32 0]) (t := 26) ?hr ?_; (case hd => rfl); (case hg => rfl); (case hr => first | (go_simp; done) | (go_simp; rfl))
               intro gb262 hg w36 hbox hb
               have n0_ := Aside0.mk (blk_below (g := gb252) (o := .cells #[.int .u64 a0_0, .int .u32 a0_1, .int .u32 a0_2] 26 (0, 0)) (by (with_reducible repeat (first | refine blk_drewN ?_ _ | refine blk_drew ?_ | refine blk_alloc ?_ _)); exact BK252.out) hb)
               have n1_ := Aside0.mk (below_step (by repeat (first | (with_reducible first | exact HB.out | apply below_alloc | apply pw_below_drewN | apply below_drew1 | refine below_set ?_ GE252.out) | exact HB.out)) hb)
               have n2_ := Aside0.mk (hbox)
               have n3_ := Aside0.mk ((by rw [hg]; exact (below_size (by repeat (first | (with_reducible first | exact HB.out | apply below_alloc | apply pw_below_drewN | apply below_drew1 | refine below_set ?_ GE252.out) | exact HB.out))) : w.heap.size ≤ gb262))
               have n4_ := Aside0.mk ((by rw [hg]; exact (below_size (by repeat (first | (with_reducible first | exact HB.out | apply below_alloc | apply pw_below_drewN | apply below_drew1 | refine below_set ?_ GE252.out) | exact HB.out))) : w.heap.size ≤ gb262))
               have n5_ := Aside0.mk ((by rw [hg]; exact Nat.ne_of_lt (blk_lt (g := gb252) (o := .cells #[.int .u64 a0_0, .int .u32 a0_1, .int .u32 a0_2] 26 (0, 0)) (by (with_reducible repeat (first | refine blk_drewN ?_ _ | refine blk_drew ?_ | refine blk_alloc ?_ _)); exact BK252.out)) : gb252 ≠ gb262))
               have n6_ := Aside0.mk ((by rw [hg]; exact Nat.ne_of_gt (blk_lt (g := gb252) (o := .cells #[.int .u64 a0_0, .int .u32 a0_1, .int .u32 a0_2] 26 (0, 0)) (by (with_reducible repeat (first | refine blk_drewN ?_ _ | refine blk_drew ?_ | refine blk_alloc ?_ _)); exact BK252.out)) : gb262 ≠ gb252))
               clear BK252
               clear HB
               have BK252 := n0_
               have HB := n1_
               have BK262 := n2_
               have GW262 := n3_
               have GE262 := n4_
               have NB252_262 := n5_
               have NB262_252 := n6_
               clear n0_ n1_ n2_ n3_ n4_ n5_ n6_
               clear hb hbox hg
               refine hK.out _ _ ⟨(blk_cell BK252.out 0).trans rfl, (blk_cell BK252.out 1).trans rfl, (blk_cell BK252.out 2).trans rfl⟩ (fun hHeld => ?_)
               clear hK K
               refine norm_ (a' := ?_) ?_ ?_
               rotate_left
               ·show Act.put _ (some 6) _ = _
                simp only [Act.put, List.setIfInBounds_toArray, List.set_cons_zero, List.set_cons_succ, i64_w, i32_w]
                rfl
               refine one_ (i := 6) (N := some 36) #[true, true, true, true, true, true, true, false, false, false, true, false, false] rfl rfl (one_of HT_.out (by kernel_rfl)) (by decide) (fun K hK => ?_)
               refine goes_ Try.func14 (by kernel_rfl) rfl #[.int .u64 a1, .agg #[.int .i64 t256, .int .u64 t257], .int .u32 a0_2] (by rfl) rfl rfl (by (try simp only [List.map_toArray, List.map_cons, List.map_nil]); first | done | rfl | (simp only [List.length_drop, List.length_take]; rfl)) ?_
               with_reducible refine (pos_At.calls kj5 a1 t256 t257 a0_2 t258 t259 t260 true _ A21.out).mono ?_
               rintro e w37 ⟨rfl, hb⟩
               refine ⟨_, rfl, ?_⟩
               have n0_ := Aside0.mk (blk_below (g := gb252) (o := .cells #[.int .u64 a0_0, .int .u32 a0_1, .int .u32 a0_2] 26 (0, 0)) (by (with_reducible repeat (first | refine blk_drewN ?_ _ | refine blk_drew ?_ | refine blk_alloc ?_ _)); exact BK252.out) hb)
               have n1_ := Aside0.mk (blk_below (g := gb262) (o := .cells #[.int .u64 0, .int .u32 0, .int .u32 0] 26 (0, 0)) (by (with_reducible repeat (first | refine blk_drewN ?_ _ | refine blk_drew ?_ | refine blk_alloc ?_ _)); exact BK262.out) hb)
               have n2_ := Aside0.mk (below_step (by repeat (first | (with_reducible first | exact HB.out | apply below_alloc | apply pw_below_drewN | apply below_drew1 | refine below_set ?_ GE252.out | refine below_set ?_ GE262.out) | exact HB.out)) hb)
               clear BK252
               clear BK262
               clear HB
               have BK252 := n0_
               have BK262 := n1_
               have HB := n2_
               clear n0_ n1_ n2_
               (try clear hb)
               (try clear hb2)
               (try clear hk)
               (try clear hi)
               refine hK.out _ _ ⟨(blk_cell BK252.out 0).trans rfl, (blk_cell BK252.out 1).trans rfl, (blk_cell BK252.out 2).trans rfl⟩ (fun hHeld => ?_)
               clear hK K
               refine norm_ (a' := ?_) ?_ ?_
               rotate_left
               ·show Act.put _ (some 36) _ = _
                simp only [Act.put, List.setIfInBounds_toArray, List.set_cons_zero, List.set_cons_succ, i64_w, i32_w]
                rfl
               refine pure_ (i := 7) (N := some 29) (v := ?_) (a' := ?_) #[true, true, true, true, true, true, true, true, false, false, true, false, false] rfl rfl (any_of HT_.out (by kernel_rfl)) (fun _ _ _ h => h) (Or.inl ⟨by rfl, ?_⟩) ?_ ?_
               rotate_left
               ·intro w'
                go_simp
                with_reducible rfl
               rotate_left
               ·simp only [Act.put, List.setIfInBounds_toArray, List.set_cons_zero, List.set_cons_succ, i64_w, i32_w]
                rfl
               refine pure_ (i := 8) (N := some 37) (v := ?_) (a' := ?_) #[true, true, true, true, true, true, true, true, true, false, true, false, false] rfl rfl (any_of HT_.out (by kernel_rfl)) (fun _ _ _ h => h) (Or.inl ⟨by rfl, ?_⟩) ?_ ?_
               rotate_left
               ·intro w'
                go_simp
                with_reducible rfl
               rotate_left
               ·simp only [Act.put, List.setIfInBounds_toArray, List.set_cons_zero, List.set_cons_succ, i64_w, i32_w]
                rfl
               refine pure_ (i := 9) (N := some 38) (v := ?_) (a' := ?_) #[true, true, true, true, true, true, true, true, true, true, true, false, false] rfl rfl (any_of HT_.out (by kernel_rfl)) (fun _ _ _ h => h) (Or.inl ⟨by rfl, ?_⟩) ?_ ?_
               rotate_left
               ·intro w'
                go_simp
                with_reducible rfl
               rotate_left
               ·simp only [Act.put, List.setIfInBounds_toArray, List.set_cons_zero, List.set_cons_succ, i64_w, i32_w]
                rfl
               exact norm_ (by simp only [putAll, Act.put, List.setIfInBounds_toArray, List.set_cons_zero, List.set_cons_succ]) (hCont (gb262) _ ⟨hHeld, (by (with_reducible repeat (first | refine blk_drewN ?_ _ | refine blk_drew ?_ | refine blk_alloc ?_ _)); exact BK252.out), (by (with_reducible repeat (first | refine blk_drewN ?_ _ | refine blk_drew ?_ | refine blk_alloc ?_ _)); exact BK262.out), GW262.out, GE262.out, NB252_262.out, NB262_252.out, (by repeat (first | (with_reducible first | exact HB.out | apply below_alloc | apply pw_below_drewN | apply below_drew1 | refine below_set ?_ GE252.out | refine below_set ?_ GE262.out) | exact HB.out))⟩)
             ·skip
              refine box_step ?hg (N := 6) ?hd (cs := #[.int .u64 0, .int .u32 0, .int .u32 0]) (t := 26) ?hr ?_; (case hd => rfl); (case hg => rfl); (case hr => first | (go_simp; done) | (go_simp; rfl))
              intro gb262 hg w35 hbox hb
              have n0_ := Aside0.mk (blk_below (g := gb252) (o := .cells #[.int .u64 a0_0, .int .u32 a0_1, .int .u32 a0_2] 26 (0, 0)) (by (with_reducible repeat (first | refine blk_drewN ?_ _ | refine blk_drew ?_ | refine blk_alloc ?_ _)); exact BK252.out) hb)
              have n1_ := Aside0.mk (below_step (by repeat (first | (with_reducible first | exact HB.out | apply below_alloc | apply pw_below_drewN | apply below_drew1 | refine below_set ?_ GE252.out) | exact HB.out)) hb)
              have n2_ := Aside0.mk (hbox)
              have n3_ := Aside0.mk ((by rw [hg]; exact (below_size (by repeat (first | (with_reducible first | exact HB.out | apply below_alloc | apply pw_below_drewN | apply below_drew1 | refine below_set ?_ GE252.out) | exact HB.out))) : w.heap.size ≤ gb262))
              have n4_ := Aside0.mk ((by rw [hg]; exact (below_size (by repeat (first | (with_reducible first | exact HB.out | apply below_alloc | apply pw_below_drewN | apply below_drew1 | refine below_set ?_ GE252.out) | exact HB.out))) : w.heap.size ≤ gb262))
              have n5_ := Aside0.mk ((by rw [hg]; exact Nat.ne_of_lt (blk_lt (g := gb252) (o := .cells #[.int .u64 a0_0, .int .u32 a0_1, .int .u32 a0_2] 26 (0, 0)) (by (with_reducible repeat (first | refine blk_drewN ?_ _ | refine blk_drew ?_ | refine blk_alloc ?_ _)); exact BK252.out)) : gb252 ≠ gb262))
              have n6_ := Aside0.mk ((by rw [hg]; exact Nat.ne_of_gt (blk_lt (g := gb252) (o := .cells #[.int .u64 a0_0, .int .u32 a0_1, .int .u32 a0_2] 26 (0, 0)) (by (with_reducible repeat (first | refine blk_drewN ?_ _ | refine blk_drew ?_ | refine blk_alloc ?_ _)); exact BK252.out)) : gb262 ≠ gb252))
              clear BK252
              clear HB
              have BK252 := n0_
              have HB := n1_
              have BK262 := n2_
              have GW262 := n3_
              have GE262 := n4_
              have NB252_262 := n5_
              have NB262_252 := n6_
              clear n0_ n1_ n2_ n3_ n4_ n5_ n6_
              clear hb hbox hg
              refine hK.out _ _ ⟨(blk_cell BK252.out 0).trans rfl, (blk_cell BK252.out 1).trans rfl, (blk_cell BK252.out 2).trans rfl⟩ (fun hHeld => ?_)
              clear hK K
              refine norm_ (a' := ?_) ?_ ?_
              rotate_left
              ·show Act.put _ (some 6) _ = _
               simp only [Act.put, List.setIfInBounds_toArray, List.set_cons_zero, List.set_cons_succ, i64_w, i32_w]
               rfl
              refine one_ (i := 3) (N := some 33) #[true, true, true, true, true, true, false, false, false, false, true, false, false] rfl rfl (one_of HT_.out (by kernel_rfl)) (by decide) (fun K hK => ?_)
              refine goes_ Try.func15 (by kernel_rfl) rfl #[.agg #[.int .u64 a0_0, .int .u32 a0_1, .int .u32 a0_2], .int .u64 a1] (by rfl) rfl rfl (by (try simp only [List.map_toArray, List.map_cons, List.map_nil]); first | done | rfl | (simp only [List.length_drop, List.length_take]; rfl)) ?_
              with_reducible refine (pos_Pos_Distance.calls kj5 a0_0 a0_1 a0_2 a1 t256 t257 _ A20.out).mono ?_
              rintro e w36 ⟨rfl, hb⟩
              refine ⟨_, rfl, ?_⟩
              have n0_ := Aside0.mk (blk_below (g := gb252) (o := .cells #[.int .u64 a0_0, .int .u32 a0_1, .int .u32 a0_2] 26 (0, 0)) (by (with_reducible repeat (first | refine blk_drewN ?_ _ | refine blk_drew ?_ | refine blk_alloc ?_ _)); exact BK252.out) hb)
              have n1_ := Aside0.mk (blk_below (g := gb262) (o := .cells #[.int .u64 0, .int .u32 0, .int .u32 0] 26 (0, 0)) (by (with_reducible repeat (first | refine blk_drewN ?_ _ | refine blk_drew ?_ | refine blk_alloc ?_ _)); exact BK262.out) hb)
              have n2_ := Aside0.mk (below_step (by repeat (first | (with_reducible first | exact HB.out | apply below_alloc | apply pw_below_drewN | apply below_drew1 | refine below_set ?_ GE252.out | refine below_set ?_ GE262.out) | exact HB.out)) hb)
              clear BK252
              clear BK262
              clear HB
              have BK252 := n0_
              have BK262 := n1_
              have HB := n2_
              clear n0_ n1_ n2_
              (try clear hb)
              (try clear hb2)
              (try clear hk)
              (try clear hi)
              refine hK.out _ _ ⟨(blk_cell BK252.out 0).trans rfl, (blk_cell BK252.out 1).trans rfl, (blk_cell BK252.out 2).trans rfl⟩ (fun hHeld => ?_)
              clear hK K
              refine norm_ (a' := ?_) ?_ ?_
              rotate_left
              ·show Act.put _ (some 33) _ = _
               simp only [Act.put, List.setIfInBounds_toArray, List.set_cons_zero, List.set_cons_succ, i64_w, i32_w]
               rfl
              refine one_ (i := 6) (N := some 36) #[true, true, true, true, true, true, true, false, false, false, true, false, false] rfl rfl (one_of HT_.out (by kernel_rfl)) (by decide) (fun K hK => ?_)
              refine goes_ Try.func14 (by kernel_rfl) rfl #[.int .u64 a1, .agg #[.int .i64 t256, .int .u64 t257], .int .u32 a0_2] (by rfl) rfl rfl (by (try simp only [List.map_toArray, List.map_cons, List.map_nil]); first | done | rfl | (simp only [List.length_drop, List.length_take]; rfl)) ?_
              with_reducible refine (pos_At.calls kj5 a1 t256 t257 a0_2 t258 t259 t260 true _ A21.out).mono ?_
              rintro e w37 ⟨rfl, hb⟩
              refine ⟨_, rfl, ?_⟩
              have n0_ := Aside0.mk (blk_below (g := gb252) (o := .cells #[.int .u64 a0_0, .int .u32 a0_1, .int .u32 a0_2] 26 (0, 0)) (by (with_reducible repeat (first | refine blk_drewN ?_ _ | refine blk_drew ?_ | refine blk_alloc ?_ _)); exact BK252.out) hb)
              have n1_ := Aside0.mk (blk_below (g := gb262) (o := .cells #[.int .u64 0, .int .u32 0, .int .u32 0] 26 (0, 0)) (by (with_reducible repeat (first | refine blk_drewN ?_ _ | refine blk_drew ?_ | refine blk_alloc ?_ _)); exact BK262.out) hb)
              have n2_ := Aside0.mk (below_step (by repeat (first | (with_reducible first | exact HB.out | apply below_alloc | apply pw_below_drewN | apply below_drew1 | refine below_set ?_ GE252.out | refine below_set ?_ GE262.out) | exact HB.out)) hb)
              clear BK252
              clear BK262
              clear HB
              have BK252 := n0_
              have BK262 := n1_
              have HB := n2_
              clear n0_ n1_ n2_
              (try clear hb)
              (try clear hb2)
              (try clear hk)
              (try clear hi)
              refine hK.out _ _ ⟨(blk_cell BK252.out 0).trans rfl, (blk_cell BK252.out 1).trans rfl, (blk_cell BK252.out 2).trans rfl⟩ (fun hHeld => ?_)
              clear hK K
              refine norm_ (a' := ?_) ?_ ?_
              rotate_left
              ·show Act.put _ (some 36) _ = _
               simp only [Act.put, List.setIfInBounds_toArray, List.set_cons_zero, List.set_cons_succ, i64_w, i32_w]
               rfl
              refine pure_ (i := 7) (N := some 29) (v := ?_) (a' := ?_) #[true, true, true, true, true, true, true, true, false, false, true, false, false] rfl rfl (any_of HT_.out (by kernel_rfl)) (fun _ _ _ h => h) (Or.inl ⟨by rfl, ?_⟩) ?_ ?_
              rotate_left
              ·intro w'
               go_simp
               with_reducible rfl
              rotate_left
              ·simp only [Act.put, List.setIfInBounds_toArray, List.set_cons_zero, List.set_cons_succ, i64_w, i32_w]
               rfl
              refine pure_ (i := 8) (N := some 37) (v := ?_) (a' := ?_) #[true, true, true, true, true, true, true, true, true, false, true, false, false] rfl rfl (any_of HT_.out (by kernel_rfl)) (fun _ _ _ h => h) (Or.inl ⟨by rfl, ?_⟩) ?_ ?_
              rotate_left
              ·intro w'
               go_simp
               with_reducible rfl
              rotate_left
              ·simp only [Act.put, List.setIfInBounds_toArray, List.set_cons_zero, List.set_cons_succ, i64_w, i32_w]
               rfl
              refine pure_ (i := 9) (N := some 38) (v := ?_) (a' := ?_) #[true, true, true, true, true, true, true, true, true, true, true, false, false] rfl rfl (any_of HT_.out (by kernel_rfl)) (fun _ _ _ h => h) (Or.inl ⟨by rfl, ?_⟩) ?_ ?_
              rotate_left
              ·intro w'
               go_simp
               with_reducible rfl
              rotate_left
              ·simp only [Act.put, List.setIfInBounds_toArray, List.set_cons_zero, List.set_cons_succ, i64_w, i32_w]
               rfl
              exact norm_ (by simp only [putAll, Act.put, List.setIfInBounds_toArray, List.set_cons_zero, List.set_cons_succ]) (hCont (gb262) _ ⟨hHeld, (by (with_reducible repeat (first | refine blk_drewN ?_ _ | refine blk_drew ?_ | refine blk_alloc ?_ _)); exact BK252.out), (by (with_reducible repeat (first | refine blk_drewN ?_ _ | refine blk_drew ?_ | refine blk_alloc ?_ _)); exact BK262.out), GW262.out, GE262.out, NB252_262.out, NB262_252.out, (by repeat (first | (with_reducible first | exact HB.out | apply below_alloc | apply pw_below_drewN | apply below_drew1 | refine below_set ?_ GE252.out | refine below_set ?_ GE262.out) | exact HB.out))⟩)
            rintro gb262 w38 ⟨hS_, h0_, h1_, h2_, h3_, h4_, h5_, h6_⟩
            have n0_ : Aside0 (w38.heap[gb252]? = some (.cells #[.int .u64 a0_0, .int .u32 a0_1, .int .u32 a0_2] 26 (0, 0))) := ⟨h0_⟩
            have n1_ : Aside0 (w38.heap[gb262]? = some (.cells #[.int .u64 0, .int .u32 0, .int .u32 0] 26 (0, 0))) := ⟨h1_⟩
            have n2_ : Aside0 (w.heap.size ≤ gb262) := ⟨h2_⟩
            have n3_ : Aside0 (w.heap.size ≤ gb262) := ⟨h3_⟩
            have n4_ : Aside0 (gb252 ≠ gb262) := ⟨h4_⟩
            have n5_ : Aside0 (gb262 ≠ gb252) := ⟨h5_⟩
            have n6_ : Aside0 (Below w.heap.size w w38) := ⟨h6_⟩
            clear BK252
            clear HB
            clear h0_ h1_ h2_ h3_ h4_ h5_ h6_
            have BK252 := n0_
            have BK262 := n1_
            have GW262 := n2_
            have GE262 := n3_
            have NB252_262 := n4_
            have NB262_252 := n5_
            have HB := n6_
            clear n0_ n1_ n2_ n3_ n4_ n5_ n6_
            have hHeld : w38.cell? ⟨gb252, 0, none⟩ = some (.int .u64 a0_0) ∧ w38.cell? ⟨gb252, 1, none⟩ = some (.int .u32 a0_1) ∧ w38.cell? ⟨gb252, 2, none⟩ = some (.int .u32 a0_2) := hS_
            refine norm_ (a' := ?_) ?_ ?_
            rotate_left
            ·simp only [putAll, Act.put, List.setIfInBounds_toArray, List.set_cons_zero, List.set_cons_succ]
             rfl
            refine one_ (i := 11) (N := none) #[true, true, true, true, true, true, true, true, true, true, true, true, false] rfl rfl (one_of HT_.out (by kernel_rfl)) (by decide) (fun K hK => ?_)
            have hs39 : w38.cell? ⟨gb262, 0, none⟩ = some (.int .u64 0) := (blk_cell BK262.out 0).trans rfl
            have hfs39 := blk_frozen BK262.out 0
            have hns39_0 := NB252_262.out
            have hms39_0 := NB262_252.out
            have hs40 : w38.cell? ⟨gb262, 1, none⟩ = some (.int .u32 0) := (blk_cell BK262.out 1).trans rfl
            have hfs40 := blk_frozen BK262.out 1
            have hns40_0 := NB252_262.out
            have hms40_0 := NB262_252.out
            have hs41 : w38.cell? ⟨gb262, 2, none⟩ = some (.int .u32 0) := (blk_cell BK262.out 2).trans rfl
            have hfs41 := blk_frozen BK262.out 2
            have hns41_0 := NB252_262.out
            have hms41_0 := NB262_252.out
            refine skip_ (w1 := ?_) (by rfl) rfl ?_ ?_
            rotate_left
            ·go_simp
             rfl
            refine hK.out _ _ ⟨((cell_far (p := ⟨gb262, _, none⟩) NB252_262.out _).trans (((cell_far (p := ⟨gb262, _, none⟩) NB252_262.out _).trans (((cell_far (p := ⟨gb262, _, none⟩) NB252_262.out _).trans (hHeld.1)))))), ((cell_far (p := ⟨gb262, _, none⟩) NB252_262.out _).trans (((cell_far (p := ⟨gb262, _, none⟩) NB252_262.out _).trans (((cell_far (p := ⟨gb262, _, none⟩) NB252_262.out _).trans (hHeld.2.1)))))), ((cell_far (p := ⟨gb262, _, none⟩) NB252_262.out _).trans (((cell_far (p := ⟨gb262, _, none⟩) NB252_262.out _).trans (((cell_far (p := ⟨gb262, _, none⟩) NB252_262.out _).trans (hHeld.2.2))))))⟩ (fun hHeld => ?_)
            clear hK K
            refine pure_ (i := 12) (N := some 7) (v := ?_) (a' := ?_) #[true, true, true, true, true, true, true, true, true, true, true, true, true] rfl rfl (any_of HT_.out (by kernel_rfl)) (fun _ _ _ h => h) (Or.inl ⟨by rfl, ?_⟩) ?_ ?_
            rotate_left
            ·intro w'
             go_simp
             with_reducible rfl
            rotate_left
            ·simp only [Act.put, List.setIfInBounds_toArray, List.set_cons_zero, List.set_cons_succ, i64_w, i32_w]
             rfl
            refine done_ (done_of HT_.out (by kernel_rfl)) ?_
            have hnb42 := NB252_262.out
            have hnc42 := NB262_252.out
            have hcz43_0 : w38.cell? ⟨gb252, 0, none⟩ = some (.int .u64 a0_0) := (blk_cell BK252.out 0).trans rfl
            have hcz43_1 : w38.cell? ⟨gb252, 1, none⟩ = some (.int .u32 a0_1) := (blk_cell BK252.out 1).trans rfl
            have hcz43_2 : w38.cell? ⟨gb252, 2, none⟩ = some (.int .u32 a0_2) := (blk_cell BK252.out 2).trans rfl
            have hfz43_0 := blk_frozen BK252.out 0
            have hfz43_1 := blk_frozen BK252.out 1
            have hfz43_2 := blk_frozen BK252.out 2
            try go_wp2_with (first | ((with_reducible refine gate_callee (f := 16) rfl ?_); refine goesL_ (some 44) rfl rfl Try.func16 (by kernel_rfl) rfl #[.agg #[.int .u64 a0_0, .int .u32 a0_1, .int .u32 a0_2], .int .u64 (IntKind.u64.wrap (a0_2))] rfl (by (try simp only [List.map_toArray, List.map_cons, List.map_nil]); first | done | rfl | (simp only [List.length_drop, List.length_take]; rfl)) ?_; (with_reducible refine (pos_Pos_Move.calls kj5 a0_0 a0_1 a0_2 (IntKind.u64.wrap (a0_2)) t263 t264 t265 true _ A22.out).mono ?_); rintro e w44 ⟨rfl, hb⟩; refine ⟨_, rfl, ?_⟩; have n0_ := Aside0.mk (blk_below (g := gb252) (o := .cells #[.int .u64 a0_0, .int .u32 a0_1, .int .u32 a0_2] 26 (0, 0)) (by (with_reducible repeat (first | refine blk_drewN ?_ _ | refine blk_drew ?_ | refine blk_alloc ?_ _)); refine blk_far ?_ NB252_262.out _; (with_reducible repeat (first | refine blk_drewN ?_ _ | refine blk_drew ?_ | refine blk_alloc ?_ _)); refine blk_far ?_ NB252_262.out _; (with_reducible repeat (first | refine blk_drewN ?_ _ | refine blk_drew ?_ | refine blk_alloc ?_ _)); refine blk_far ?_ NB252_262.out _; (with_reducible repeat (first | refine blk_drewN ?_ _ | refine blk_drew ?_ | refine blk_alloc ?_ _)); exact BK252.out) hb); have n1_ := Aside0.mk (blk_below (g := gb262) (o := .cells #[.int .u64 t258, .int .u32 t259, .int .u32 t260] 26 (0, 0)) (by (with_reducible repeat (first | refine blk_drewN ?_ _ | refine blk_drew ?_ | refine blk_alloc ?_ _)); refine blk_put (cs := #[.int .u64 t258, .int .u32 t259, .int .u32 0]) ?_ 2 _ rfl; (with_reducible repeat (first | refine blk_drewN ?_ _ | refine blk_drew ?_ | refine blk_alloc ?_ _)); refine blk_put (cs := #[.int .u64 t258, .int .u32 0, .int .u32 0]) ?_ 1 _ rfl; (with_reducible repeat (first | refine blk_drewN ?_ _ | refine blk_drew ?_ | refine blk_alloc ?_ _)); refine blk_put (cs := #[.int .u64 0, .int .u32 0, .int .u32 0]) ?_ 0 _ rfl; (with_reducible repeat (first | refine blk_drewN ?_ _ | refine blk_drew ?_ | refine blk_alloc ?_ _)); exact BK262.out) hb); have n2_ := Aside0.mk (below_step (by repeat (first | (with_reducible first | exact HB.out | apply below_alloc | apply pw_below_drewN | apply below_drew1 | refine below_set ?_ GE252.out | refine below_set ?_ GE262.out) | exact HB.out)) hb); clear BK252; clear BK262; clear HB; have BK252 := n0_; have BK262 := n1_; have HB := n2_; clear n0_ n1_ n2_; (try clear hb); (try clear hb2); (try clear hk); (try clear hi)) | ((with_reducible refine gate_dst (N := 8) rfl ?_); refine box_event ?hg (N := 8) ?hd (cs := #[.int .u64 0, .int .u32 0, .int .u32 0]) (t := 26) ?hr ?_; (case hd => rfl); (case hg => rfl); (case hr => first | (go_simp; done) | (go_simp; rfl)); intro gb267 hg w45 hbox hb; have n0_ := Aside0.mk (blk_below (g := gb252) (o := .cells #[.int .u64 a0_0, .int .u32 a0_1, .int .u32 a0_2] 26 (0, 0)) (by (with_reducible repeat (first | refine blk_drewN ?_ _ | refine blk_drew ?_ | refine blk_alloc ?_ _)); exact BK252.out) hb); have n1_ := Aside0.mk (blk_below (g := gb262) (o := .cells #[.int .u64 t258, .int .u32 t259, .int .u32 t260] 26 (0, 0)) (by (with_reducible repeat (first | refine blk_drewN ?_ _ | refine blk_drew ?_ | refine blk_alloc ?_ _)); exact BK262.out) hb); have n2_ := Aside0.mk (below_step (by repeat (first | (with_reducible first | exact HB.out | apply below_alloc | apply pw_below_drewN | apply below_drew1 | refine below_set ?_ GE252.out | refine below_set ?_ GE262.out) | exact HB.out)) hb); have n3_ := Aside0.mk (hbox); have n4_ := Aside0.mk ((by rw [hg]; exact (below_size (by repeat (first | (with_reducible first | exact HB.out | apply below_alloc | apply pw_below_drewN | apply below_drew1 | refine below_set ?_ GE252.out | refine below_set ?_ GE262.out) | exact HB.out))) : w.heap.size ≤ gb267)); have n5_ := Aside0.mk ((by rw [hg]; exact (below_size (by repeat (first | (with_reducible first | exact HB.out | apply below_alloc | apply pw_below_drewN | apply below_drew1 | refine below_set ?_ GE252.out | refine below_set ?_ GE262.out) | exact HB.out))) : w.heap.size ≤ gb267)); have n6_ := Aside0.mk ((by rw [hg]; exact Nat.ne_of_lt (blk_lt (g := gb252) (o := .cells #[.int .u64 a0_0, .int .u32 a0_1, .int .u32 a0_2] 26 (0, 0)) (by (with_reducible repeat (first | refine blk_drewN ?_ _ | refine blk_drew ?_ | refine blk_alloc ?_ _)); exact BK252.out)) : gb252 ≠ gb267)); have n7_ := Aside0.mk ((by rw [hg]; exact Nat.ne_of_gt (blk_lt (g := gb252) (o := .cells #[.int .u64 a0_0, .int .u32 a0_1, .int .u32 a0_2] 26 (0, 0)) (by (with_reducible repeat (first | refine blk_drewN ?_ _ | refine blk_drew ?_ | refine blk_alloc ?_ _)); exact BK252.out)) : gb267 ≠ gb252)); have n8_ := Aside0.mk ((by rw [hg]; exact Nat.ne_of_lt (blk_lt (g := gb262) (o := .cells #[.int .u64 t258, .int .u32 t259, .int .u32 t260] 26 (0, 0)) (by (with_reducible repeat (first | refine blk_drewN ?_ _ | refine blk_drew ?_ | refine blk_alloc ?_ _)); exact BK262.out)) : gb262 ≠ gb267)); have n9_ := Aside0.mk ((by rw [hg]; exact Nat.ne_of_gt (blk_lt (g := gb262) (o := .cells #[.int .u64 t258, .int .u32 t259, .int .u32 t260] 26 (0, 0)) (by (with_reducible repeat (first | refine blk_drewN ?_ _ | refine blk_drew ?_ | refine blk_alloc ?_ _)); exact BK262.out)) : gb267 ≠ gb262)); clear BK252; clear BK262; clear HB; have BK252 := n0_; have BK262 := n1_; have HB := n2_; have BK267 := n3_; have GW267 := n4_; have GE267 := n5_; have NB252_267 := n6_; have NB267_252 := n7_; have NB262_267 := n8_; have NB267_262 := n9_; clear n0_ n1_ n2_ n3_ n4_ n5_ n6_ n7_ n8_ n9_; clear hb hbox hg; have hnb46 := NB267_252.out; have hnc46 := NB252_267.out; have hnb47 := NB267_262.out; have hnc47 := NB262_267.out; have hcz48_0 : w45.cell? ⟨gb267, 0, none⟩ = some (.int .u64 0) := (blk_cell BK267.out 0).trans rfl; have hcz48_1 : w45.cell? ⟨gb267, 1, none⟩ = some (.int .u32 0) := (blk_cell BK267.out 1).trans rfl; have hcz48_2 : w45.cell? ⟨gb267, 2, none⟩ = some (.int .u32 0) := (blk_cell BK267.out 2).trans rfl; have hfz48_0 := blk_frozen BK267.out 0; have hfz48_1 := blk_frozen BK267.out 1; have hfz48_2 := blk_frozen BK267.out 2; have hcz49_0 : w45.cell? ⟨gb252, 0, none⟩ = some (.int .u64 a0_0) := (blk_cell BK252.out 0).trans rfl; have hcz49_1 : w45.cell? ⟨gb252, 1, none⟩ = some (.int .u32 a0_1) := (blk_cell BK252.out 1).trans rfl; have hcz49_2 : w45.cell? ⟨gb252, 2, none⟩ = some (.int .u32 a0_2) := (blk_cell BK252.out 2).trans rfl; have hfz49_0 := blk_frozen BK252.out 0; have hfz49_1 := blk_frozen BK252.out 1; have hfz49_2 := blk_frozen BK252.out 2) | ((with_reducible refine gate_dst (N := 52) rfl ?_); refine Kd.R_lit k26 _ 26 ?hg (N := 52) ?hd (xs := ([(⟨a0_0, a0_1, a0_2⟩ : S26), (⟨t263, t264, t265⟩ : S26)] : List (S26))) (inner := [.int .u64 a0_0, .int .u32 a0_1, .int .u32 a0_2, .int .u64 t263, .int .u32 t264, .int .u32 t265]) (ok := fun _ => True) (okp := fun _ => True) ?hr ?hp (fun _ hk => hk) trivial (Below.refl _ _) (Nat.le_refl _) (by simp) ?_; (case hd => rfl); (case hg => rfl); (case hr => first | (go_simp; done) | (go_simp; rfl)); (case hp => exact (Reps.c3 (show Kd.M k26 _ _ _ (⟨a0_0, a0_1, a0_2⟩ : S26) [.int .u64 a0_0, .int .u32 a0_1, .int .u32 a0_2] from (k26_mkM _ _ _ (⟨a0_0, a0_1, a0_2⟩ : S26) )) (Reps.c3 (show Kd.M k26 _ _ _ (⟨t263, t264, t265⟩ : S26) [.int .u64 t263, .int .u32 t264, .int .u32 t265] from (k26_mkM _ _ _ (⟨t263, t264, t265⟩ : S26) )) (Reps.none _ _)))); intro v269 w50 ho51 hb hg_ hnew_; clear hg_ hnew_; (first | rw [← Ny268.out] at ho51 | (simp only [Int.reduceToNat] at ho51; rw [← Ny268.out] at ho51)); have n0_ := Aside0.mk (Kd.R_lower (Kd.R_newB (Kd.R_newB (Kd.R_newB ho51 (g := gb252) (o := .cells #[.int .u64 a0_0, .int .u32 a0_1, .int .u32 a0_2] 26 (0, 0)) (by (with_reducible repeat (first | refine blk_drewN ?_ _ | refine blk_drew ?_ | refine blk_alloc ?_ _)); refine blk_far ?_ NB252_267.out _; (with_reducible repeat (first | refine blk_drewN ?_ _ | refine blk_drew ?_ | refine blk_alloc ?_ _)); refine blk_far ?_ NB252_267.out _; (with_reducible repeat (first | refine blk_drewN ?_ _ | refine blk_drew ?_ | refine blk_alloc ?_ _)); refine blk_far ?_ NB252_267.out _; (with_reducible repeat (first | refine blk_drewN ?_ _ | refine blk_drew ?_ | refine blk_alloc ?_ _)); exact BK252.out)) (g := gb262) (o := .cells #[.int .u64 t258, .int .u32 t259, .int .u32 t260] 26 (0, 0)) (by (with_reducible repeat (first | refine blk_drewN ?_ _ | refine blk_drew ?_ | refine blk_alloc ?_ _)); refine blk_far ?_ NB262_267.out _; (with_reducible repeat (first | refine blk_drewN ?_ _ | refine blk_drew ?_ | refine blk_alloc ?_ _)); refine blk_far ?_ NB262_267.out _; (with_reducible repeat (first | refine blk_drewN ?_ _ | refine blk_drew ?_ | refine blk_alloc ?_ _)); refine blk_far ?_ NB262_267.out _; (with_reducible repeat (first | refine blk_drewN ?_ _ | refine blk_drew ?_ | refine blk_alloc ?_ _)); exact BK262.out)) (g := gb267) (o := .cells #[.int .u64 t263, .int .u32 t264, .int .u32 t265] 26 (0, 0)) (by (with_reducible repeat (first | refine blk_drewN ?_ _ | refine blk_drew ?_ | refine blk_alloc ?_ _)); refine blk_put (cs := #[.int .u64 t263, .int .u32 t264, .int .u32 0]) ?_ 2 _ rfl; (with_reducible repeat (first | refine blk_drewN ?_ _ | refine blk_drew ?_ | refine blk_alloc ?_ _)); refine blk_put (cs := #[.int .u64 t263, .int .u32 0, .int .u32 0]) ?_ 1 _ rfl; (with_reducible repeat (first | refine blk_drewN ?_ _ | refine blk_drew ?_ | refine blk_alloc ?_ _)); refine blk_put (cs := #[.int .u64 0, .int .u32 0, .int .u32 0]) ?_ 0 _ rfl; (with_reducible repeat (first | refine blk_drewN ?_ _ | refine blk_drew ?_ | refine blk_alloc ?_ _)); exact BK267.out)) (below_size (by repeat (first | (with_reducible first | exact HB.out | apply below_alloc | apply pw_below_drewN | apply below_drew1 | refine below_set ?_ GE252.out | refine below_set ?_ GE262.out | refine below_set ?_ GE267.out) | exact HB.out)))); have n1_ := Aside0.mk (blk_below (g := gb252) (o := .cells #[.int .u64 a0_0, .int .u32 a0_1, .int .u32 a0_2] 26 (0, 0)) (by (with_reducible repeat (first | refine blk_drewN ?_ _ | refine blk_drew ?_ | refine blk_alloc ?_ _)); refine blk_far ?_ NB252_267.out _; (with_reducible repeat (first | refine blk_drewN ?_ _ | refine blk_drew ?_ | refine blk_alloc ?_ _)); refine blk_far ?_ NB252_267.out _; (with_reducible repeat (first | refine blk_drewN ?_ _ | refine blk_drew ?_ | refine blk_alloc ?_ _)); refine blk_far ?_ NB252_267.out _; (with_reducible repeat (first | refine blk_drewN ?_ _ | refine blk_drew ?_ | refine blk_alloc ?_ _)); exact BK252.out) hb); have n2_ := Aside0.mk (blk_below (g := gb262) (o := .cells #[.int .u64 t258, .int .u32 t259, .int .u32 t260] 26 (0, 0)) (by (with_reducible repeat (first | refine blk_drewN ?_ _ | refine blk_drew ?_ | refine blk_alloc ?_ _)); refine blk_far ?_ NB262_267.out _; (with_reducible repeat (first | refine blk_drewN ?_ _ | refine blk_drew ?_ | refine blk_alloc ?_ _)); refine blk_far ?_ NB262_267.out _; (with_reducible repeat (first | refine blk_drewN ?_ _ | refine blk_drew ?_ | refine blk_alloc ?_ _)); refine blk_far ?_ NB262_267.out _; (with_reducible repeat (first | refine blk_drewN ?_ _ | refine blk_drew ?_ | refine blk_alloc ?_ _)); exact BK262.out) hb); have n3_ := Aside0.mk (blk_below (g := gb267) (o := .cells #[.int .u64 t263, .int .u32 t264, .int .u32 t265] 26 (0, 0)) (by (with_reducible repeat (first | refine blk_drewN ?_ _ | refine blk_drew ?_ | refine blk_alloc ?_ _)); refine blk_put (cs := #[.int .u64 t263, .int .u32 t264, .int .u32 0]) ?_ 2 _ rfl; (with_reducible repeat (first | refine blk_drewN ?_ _ | refine blk_drew ?_ | refine blk_alloc ?_ _)); refine blk_put (cs := #[.int .u64 t263, .int .u32 0, .int .u32 0]) ?_ 1 _ rfl; (with_reducible repeat (first | refine blk_drewN ?_ _ | refine blk_drew ?_ | refine blk_alloc ?_ _)); refine blk_put (cs := #[.int .u64 0, .int .u32 0, .int .u32 0]) ?_ 0 _ rfl; (with_reducible repeat (first | refine blk_drewN ?_ _ | refine blk_drew ?_ | refine blk_alloc ?_ _)); exact BK267.out) hb); have n4_ := Aside0.mk (below_step (by repeat (first | (with_reducible first | exact HB.out | apply below_alloc | apply pw_below_drewN | apply below_drew1 | refine below_set ?_ GE252.out | refine below_set ?_ GE262.out | refine below_set ?_ GE267.out) | exact HB.out)) hb); clear BK252; clear BK262; clear BK267; clear HB; have HO270 := n0_; have BK252 := n1_; have BK262 := n2_; have BK267 := n3_; have HB := n4_; clear n0_ n1_ n2_ n3_ n4_; clear hb ho51; obtain ⟨Ao52, co52, eo52⟩ := Kd.R_slice HO270.out; subst eo52) | ((with_reducible refine gate_callee (f := 17) rfl ?_); refine goesL_ (some 53) rfl rfl Try.func17 (by kernel_rfl) rfl #[.int .u64 a0_0, .slice Ao52 y268.length co52] rfl (by (try simp only [List.map_toArray, List.map_cons, List.map_nil]); first | done | rfl | (simp only [List.length_drop, List.length_take]; rfl)) ?_; (with_reducible refine (pos_Floors.calls kj5 a0_0 _ _ y268 t271 t272 _ ?side1 ?side2 A23.out).mono ?_); (case side1 => repeat (first | exact (Kd.R_reads' HO270.out).2.2 | (with_reducible refine Kd.C_alloc ?_ _) | (with_reducible refine Kd.C_drewN ?_ _) | (with_reducible refine Kd.C_drew ?_))); (case side2 => exact (Kd.R_reads' HO270.out).2.1); rintro e w53 ⟨rfl, hb⟩; refine ⟨_, rfl, ?_⟩; have n0_ := Aside0.mk (Kd.R_below (by (with_reducible repeat (first | apply Kd.R_alloc | apply Kd.R_drewN | apply Kd.R_drew)); exact HO270.out) hb); have n1_ := Aside0.mk (blk_below (g := gb252) (o := .cells #[.int .u64 a0_0, .int .u32 a0_1, .int .u32 a0_2] 26 (0, 0)) (by (with_reducible repeat (first | refine blk_drewN ?_ _ | refine blk_drew ?_ | refine blk_alloc ?_ _)); exact BK252.out) hb); have n2_ := Aside0.mk (blk_below (g := gb262) (o := .cells #[.int .u64 t258, .int .u32 t259, .int .u32 t260] 26 (0, 0)) (by (with_reducible repeat (first | refine blk_drewN ?_ _ | refine blk_drew ?_ | refine blk_alloc ?_ _)); exact BK262.out) hb); have n3_ := Aside0.mk (blk_below (g := gb267) (o := .cells #[.int .u64 t263, .int .u32 t264, .int .u32 t265] 26 (0, 0)) (by (with_reducible repeat (first | refine blk_drewN ?_ _ | refine blk_drew ?_ | refine blk_alloc ?_ _)); exact BK267.out) hb); have n4_ := Aside0.mk (below_step (by repeat (first | (with_reducible first | exact HB.out | apply below_alloc | apply pw_below_drewN | apply below_drew1 | refine below_set ?_ GE252.out | refine below_set ?_ GE262.out | refine below_set ?_ GE267.out) | exact HB.out)) hb); clear HO270; clear BK252; clear BK262; clear BK267; clear HB; have HO270 := n0_; have BK252 := n1_; have BK262 := n2_; have BK267 := n3_; have HB := n4_; clear n0_ n1_ n2_ n3_ n4_; (try clear hb); (try clear hb2); (try clear hk); (try clear hi)))
            have n0_ := Aside0.mk (Kd.R_drew HO270.out)
            have n1_ := Aside0.mk (blk_drew BK252.out)
            have n2_ := Aside0.mk (blk_drew BK262.out)
            have n3_ := Aside0.mk (blk_drew BK267.out)
            have n4_ := Aside0.mk (below_drew1 HB.out)
            clear HO270
            clear BK252
            clear BK262
            clear BK267
            clear HB
            have HO270 := n0_
            have BK252 := n1_
            have BK262 := n2_
            have BK267 := n3_
            have HB := n4_
            clear n0_ n1_ n2_ n3_ n4_
            refine start_ (n := 36) (S := fun w' => w'.cell? ⟨gb262, 0, none⟩ = some (.int .u64 t258) ∧ w'.cell? ⟨gb262, 1, none⟩ = some (.int .u32 t259) ∧ w'.cell? ⟨gb262, 2, none⟩ = some (.int .u32 t260) ∧ w'.cell? ⟨gb252, 0, none⟩ = some (.int .u64 a0_0) ∧ w'.cell? ⟨gb252, 1, none⟩ = some (.int .u32 a0_1) ∧ w'.cell? ⟨gb252, 2, none⟩ = some (.int .u32 a0_2) ∧ w'.cell? ⟨gb267, 0, none⟩ = some (.int .u64 t263) ∧ w'.cell? ⟨gb267, 1, none⟩ = some (.int .u32 t264) ∧ w'.cell? ⟨gb267, 2, none⟩ = some (.int .u32 t265)) (ds := []) #[false, false, false, false, false, false, false, false, false, false, false, false, false, false, false, false, false, false, false, false, false, false, false, false, false, false, false, false, false, false, false, false, false, false, false, false] (by kernel_rfl) rfl rfl ⟨(blk_cell BK262.out 0).trans rfl, (blk_cell BK262.out 1).trans rfl, (blk_cell BK262.out 2).trans rfl, (blk_cell BK252.out 0).trans rfl, (blk_cell BK252.out 1).trans rfl, (blk_cell BK252.out 2).trans rfl, (blk_cell BK267.out 0).trans rfl, (blk_cell BK267.out 1).trans rfl, (blk_cell BK267.out 2).trans rfl⟩ (fun hHeld => ?_); refine with_tabW turnstonelaw04_PosBack.tab9 turnstonelaw04_PosBack.bits9 (fun HT_ HW_ => ?_)
            generalize w53.drew = w54 at HO270 BK252 BK262 BK267 HB hHeld ⊢
            refine pure_ (i := 0) (N := some 56) (v := ?_) (a' := ?_) #[true, false, false, false, false, false, false, false, false, false, false, false, false, false, false, false, false, false, false, false, false, false, false, false, false, false, false, false, false, false, false, false, false, false, false, false] rfl rfl (any_of HT_.out (by kernel_rfl)) (fun _ _ _ h => h) (Or.inl ⟨by rfl, ?_⟩) ?_ ?_
            rotate_left
            ·intro w'
             go_simp
             with_reducible rfl
            rotate_left
            ·simp only [Act.put, List.setIfInBounds_toArray, List.set_cons_zero, List.set_cons_succ, i64_w, i32_w]
             rfl
            refine pure_ (i := 1) (N := some 57) (v := ?_) (a' := ?_) #[true, true, false, false, false, false, false, false, false, false, false, false, false, false, false, false, false, false, false, false, false, false, false, false, false, false, false, false, false, false, false, false, false, false, false, false] rfl rfl (any_of HT_.out (by kernel_rfl)) (fun _ _ _ h => h) (Or.inl ⟨by rfl, ?_⟩) ?_ ?_
            rotate_left
            ·intro w'
             go_simp
             with_reducible rfl
            rotate_left
            ·simp only [Act.put, List.setIfInBounds_toArray, List.set_cons_zero, List.set_cons_succ, i64_w, i32_w]
             rfl
            refine take_ (i := 2) (N := some 58) (v := ?_) (a' := ?_) #[true, true, true, false, false, false, false, false, false, false, false, false, false, false, false, false, false, false, false, false, false, false, false, false, false, false, false, false, false, false, false, false, false, false, false, false] rfl rfl (take_ofW HT_.out HW_.out (by kernel_rfl)) (fun _ _ _ h => h) (Or.inl ⟨by rfl, ?_⟩) hHeld ?_ ?_
            rotate_left
            ·rintro w' ⟨s0, s1, s2, s3, s4, s5, s6, s7, s8⟩
             go_simp
             with_reducible rfl
            rotate_left
            ·simp only [Act.put, List.setIfInBounds_toArray, List.set_cons_zero, List.set_cons_succ, i64_w, i32_w]
             rfl
            refine take_ (i := 3) (N := some 59) (v := ?_) (a' := ?_) #[true, true, true, true, false, false, false, false, false, false, false, false, false, false, false, false, false, false, false, false, false, false, false, false, false, false, false, false, false, false, false, false, false, false, false, false] rfl rfl (take_ofW HT_.out HW_.out (by kernel_rfl)) (fun _ _ _ h => h) (Or.inl ⟨by rfl, ?_⟩) hHeld ?_ ?_
            rotate_left
            ·rintro w' ⟨s0, s1, s2, s3, s4, s5, s6, s7, s8⟩
             go_simp
             with_reducible rfl
            rotate_left
            ·simp only [Act.put, List.setIfInBounds_toArray, List.set_cons_zero, List.set_cons_succ, i64_w, i32_w]
             rfl
            refine pure_ (i := 4) (N := some 60) (v := ?_) (a' := ?_) #[true, true, true, true, true, false, false, false, false, false, false, false, false, false, false, false, false, false, false, false, false, false, false, false, false, false, false, false, false, false, false, false, false, false, false, false] rfl rfl (any_of HT_.out (by kernel_rfl)) (fun _ _ _ h => h) (Or.inl ⟨by rfl, ?_⟩) ?_ ?_
            rotate_left
            ·intro w'
             go_simp
             with_reducible rfl
            rotate_left
            ·simp only [Act.put, List.setIfInBounds_toArray, List.set_cons_zero, List.set_cons_succ, i64_w, i32_w]
             rfl
            refine pure_ (i := 5) (N := some 61) (v := ?_) (a' := ?_) #[true, true, true, true, true, true, false, false, false, false, false, false, false, false, false, false, false, false, false, false, false, false, false, false, false, false, false, false, false, false, false, false, false, false, false, false] rfl rfl (any_of HT_.out (by kernel_rfl)) (fun _ _ _ h => h) (Or.inl ⟨by rfl, ?_⟩) ?_ ?_
            rotate_left
            ·intro w'
             go_simp
             with_reducible rfl
            rotate_left
            ·simp only [Act.put, List.setIfInBounds_toArray, List.set_cons_zero, List.set_cons_succ, i64_w, i32_w]
             rfl
            refine pure_ (i := 6) (N := some 62) (v := ?_) (a' := ?_) #[true, true, true, true, true, true, true, false, false, false, false, false, false, false, false, false, false, false, false, false, false, false, false, false, false, false, false, false, false, false, false, false, false, false, false, false] rfl rfl (any_of HT_.out (by kernel_rfl)) (fun _ _ _ h => h) (Or.inl ⟨by rfl, ?_⟩) ?_ ?_
            rotate_left
            ·intro w'
             go_simp
             with_reducible rfl
            rotate_left
            ·simp only [Act.put, List.setIfInBounds_toArray, List.set_cons_zero, List.set_cons_succ, i64_w, i32_w]
             rfl
            refine pure_ (i := 7) (N := some 63) (v := ?_) (a' := ?_) #[true, true, true, true, true, true, true, true, false, false, false, false, false, false, false, false, false, false, false, false, false, false, false, false, false, false, false, false, false, false, false, false, false, false, false, false] rfl rfl (any_of HT_.out (by kernel_rfl)) (fun _ _ _ h => h) (Or.inl ⟨by rfl, ?_⟩) ?_ ?_
            rotate_left
            ·intro w'
             go_simp
             with_reducible rfl
            rotate_left
            ·simp only [Act.put, List.setIfInBounds_toArray, List.set_cons_zero, List.set_cons_succ, i64_w, i32_w]
             rfl
            refine pure_ (i := 8) (N := some 64) (v := ?_) (a' := ?_) #[true, true, true, true, true, true, true, true, true, false, false, false, false, false, false, false, false, false, false, false, false, false, false, false, false, false, false, false, false, false, false, false, false, false, false, false] rfl rfl (any_of HT_.out (by kernel_rfl)) (fun _ _ _ h => h) (Or.inl ⟨by rfl, ?_⟩) ?_ ?_
            rotate_left
            ·intro w'
             go_simp
             with_reducible rfl
            rotate_left
            ·simp only [Act.put, List.setIfInBounds_toArray, List.set_cons_zero, List.set_cons_succ, i64_w, i32_w]
             rfl
            refine pure_ (i := 9) (N := some 65) (v := ?_) (a' := ?_) #[true, true, true, true, true, true, true, true, true, true, false, false, false, false, false, false, false, false, false, false, false, false, false, false, false, false, false, false, false, false, false, false, false, false, false, false] rfl rfl (any_of HT_.out (by kernel_rfl)) (fun _ _ _ h => h) (Or.inl ⟨by rfl, ?_⟩) ?_ ?_
            rotate_left
            ·intro w'
             go_simp
             with_reducible rfl
            rotate_left
            ·simp only [Act.put, List.setIfInBounds_toArray, List.set_cons_zero, List.set_cons_succ, i64_w, i32_w]
             rfl
            refine take_ (i := 10) (N := some 66) (v := ?_) (a' := ?_) #[true, true, true, true, true, true, true, true, true, true, true, false, false, false, false, false, false, false, false, false, false, false, false, false, false, false, false, false, false, false, false, false, false, false, false, false] rfl rfl (take_ofW HT_.out HW_.out (by kernel_rfl)) (fun _ _ _ h => h) (Or.inl ⟨by rfl, ?_⟩) hHeld ?_ ?_
            rotate_left
            ·rintro w' ⟨s0, s1, s2, s3, s4, s5, s6, s7, s8⟩
             go_simp
             with_reducible rfl
            rotate_left
            ·simp only [Act.put, List.setIfInBounds_toArray, List.set_cons_zero, List.set_cons_succ, i64_w, i32_w]
             rfl
            refine take_ (i := 11) (N := some 67) (v := ?_) (a' := ?_) #[true, true, true, true, true, true, true, true, true, true, true, true, false, false, false, false, false, false, false, false, false, false, false, false, false, false, false, false, false, false, false, false, false, false, false, false] rfl rfl (take_ofW HT_.out HW_.out (by kernel_rfl)) (fun _ _ _ h => h) (Or.inl ⟨by rfl, ?_⟩) hHeld ?_ ?_
            rotate_left
            ·rintro w' ⟨s0, s1, s2, s3, s4, s5, s6, s7, s8⟩
             go_simp
             with_reducible rfl
            rotate_left
            ·simp only [Act.put, List.setIfInBounds_toArray, List.set_cons_zero, List.set_cons_succ, i64_w, i32_w]
             rfl
            refine one_ (i := 12) (N := some 68) #[true, true, true, true, true, true, true, true, true, true, true, true, true, false, false, false, false, false, false, false, false, false, false, false, false, false, false, false, false, false, false, false, false, false, false, false] rfl rfl (one_of HT_.out (by kernel_rfl)) (by decide) (fun K hK => ?_)
            refine goes_ Try.func18 (by kernel_rfl) rfl #[.agg #[.int .u64 a0_0, .int .u32 a0_1, .int .u32 a0_2], .int .u64 1] (by rfl) rfl rfl (by (try simp only [List.map_toArray, List.map_cons, List.map_nil]); first | done | rfl | (simp only [List.length_drop, List.length_take]; rfl)) ?_
            with_reducible refine (pos_Pos_Shift.calls a0_0 a0_1 a0_2 1 t273 t274 t275 _ A27.out).mono ?_
            rintro e w55 ⟨rfl, hb⟩
            refine ⟨_, rfl, ?_⟩
            have n0_ := Aside0.mk (Kd.R_below (by (with_reducible repeat (first | apply Kd.R_alloc | apply Kd.R_drewN | apply Kd.R_drew)); exact HO270.out) hb)
            have n1_ := Aside0.mk (blk_below (g := gb252) (o := .cells #[.int .u64 a0_0, .int .u32 a0_1, .int .u32 a0_2] 26 (0, 0)) (by (with_reducible repeat (first | refine blk_drewN ?_ _ | refine blk_drew ?_ | refine blk_alloc ?_ _)); exact BK252.out) hb)
            have n2_ := Aside0.mk (blk_below (g := gb262) (o := .cells #[.int .u64 t258, .int .u32 t259, .int .u32 t260] 26 (0, 0)) (by (with_reducible repeat (first | refine blk_drewN ?_ _ | refine blk_drew ?_ | refine blk_alloc ?_ _)); exact BK262.out) hb)
            have n3_ := Aside0.mk (blk_below (g := gb267) (o := .cells #[.int .u64 t263, .int .u32 t264, .int .u32 t265] 26 (0, 0)) (by (with_reducible repeat (first | refine blk_drewN ?_ _ | refine blk_drew ?_ | refine blk_alloc ?_ _)); exact BK267.out) hb)
            have n4_ := Aside0.mk (below_step (by repeat (first | (with_reducible first | exact HB.out | apply below_alloc | apply pw_below_drewN | apply below_drew1 | refine below_set ?_ GE252.out | refine below_set ?_ GE262.out | refine below_set ?_ GE267.out) | exact HB.out)) hb)
            clear HO270
            clear BK252
            clear BK262
            clear BK267
            clear HB
            have HO270 := n0_
            have BK252 := n1_
            have BK262 := n2_
            have BK267 := n3_
            have HB := n4_
            clear n0_ n1_ n2_ n3_ n4_
            (try clear hb)
            (try clear hb2)
            (try clear hk)
            (try clear hi)
            refine hK.out _ _ ⟨(blk_cell BK262.out 0).trans rfl, (blk_cell BK262.out 1).trans rfl, (blk_cell BK262.out 2).trans rfl, (blk_cell BK252.out 0).trans rfl, (blk_cell BK252.out 1).trans rfl, (blk_cell BK252.out 2).trans rfl, (blk_cell BK267.out 0).trans rfl, (blk_cell BK267.out 1).trans rfl, (blk_cell BK267.out 2).trans rfl⟩ (fun hHeld => ?_)
            clear hK K
            refine norm_ (a' := ?_) ?_ ?_
            rotate_left
            ·show Act.put _ (some 68) _ = _
             simp only [Act.put, List.setIfInBounds_toArray, List.set_cons_zero, List.set_cons_succ, i64_w, i32_w]
             rfl
            refine pure_ (i := 13) (N := some 69) (v := ?_) (a' := ?_) #[true, true, true, true, true, true, true, true, true, true, true, true, true, true, false, false, false, false, false, false, false, false, false, false, false, false, false, false, false, false, false, false, false, false, false, false] rfl rfl (any_of HT_.out (by kernel_rfl)) (fun _ _ _ h => h) (Or.inl ⟨by rfl, ?_⟩) ?_ ?_
            rotate_left
            ·intro w'
             go_simp
             with_reducible rfl
            rotate_left
            ·simp only [Act.put, List.setIfInBounds_toArray, List.set_cons_zero, List.set_cons_succ, i64_w, i32_w]
             rfl
            refine pure_ (i := 14) (N := some 70) (v := ?_) (a' := ?_) #[true, true, true, true, true, true, true, true, true, true, true, true, true, true, true, false, false, false, false, false, false, false, false, false, false, false, false, false, false, false, false, false, false, false, false, false] rfl rfl (any_of HT_.out (by kernel_rfl)) (fun _ _ _ h => h) (Or.inl ⟨by rfl, ?_⟩) ?_ ?_
            rotate_left
            ·intro w'
             go_simp
             with_reducible rfl
            rotate_left
            ·simp only [Act.put, List.setIfInBounds_toArray, List.set_cons_zero, List.set_cons_succ, i64_w, i32_w]
             rfl
            refine pure_ (i := 15) (N := some 71) (v := ?_) (a' := ?_) #[true, true, true, true, true, true, true, true, true, true, true, true, true, true, true, true, false, false, false, false, false, false, false, false, false, false, false, false, false, false, false, false, false, false, false, false] rfl rfl (any_of HT_.out (by kernel_rfl)) (fun _ _ _ h => h) (Or.inl ⟨by rfl, ?_⟩) ?_ ?_
            rotate_left
            ·intro w'
             go_simp
             with_reducible rfl
            rotate_left
            ·simp only [Act.put, List.setIfInBounds_toArray, List.set_cons_zero, List.set_cons_succ, i64_w, i32_w]
             rfl
            refine pure_ (i := 16) (N := some 72) (v := ?_) (a' := ?_) #[true, true, true, true, true, true, true, true, true, true, true, true, true, true, true, true, true, false, false, false, false, false, false, false, false, false, false, false, false, false, false, false, false, false, false, false] rfl rfl (any_of HT_.out (by kernel_rfl)) (fun _ _ _ h => h) (Or.inl ⟨by rfl, ?_⟩) ?_ ?_
            rotate_left
            ·intro w'
             go_simp
             with_reducible rfl
            rotate_left
            ·simp only [Act.put, List.setIfInBounds_toArray, List.set_cons_zero, List.set_cons_succ, i64_w, i32_w]
             rfl
            refine pure_ (i := 17) (N := some 73) (v := ?_) (a' := ?_) #[true, true, true, true, true, true, true, true, true, true, true, true, true, true, true, true, true, true, false, false, false, false, false, false, false, false, false, false, false, false, false, false, false, false, false, false] rfl rfl (any_of HT_.out (by kernel_rfl)) (fun _ _ _ h => h) (Or.inl ⟨by rfl, ?_⟩) ?_ ?_
            rotate_left
            ·intro w'
             go_simp
             with_reducible rfl
            rotate_left
            ·simp only [Act.put, List.setIfInBounds_toArray, List.set_cons_zero, List.set_cons_succ, i64_w, i32_w]
             rfl
            refine pure_ (i := 18) (N := some 74) (v := ?_) (a' := ?_) #[true, true, true, true, true, true, true, true, true, true, true, true, true, true, true, true, true, true, true, false, false, false, false, false, false, false, false, false, false, false, false, false, false, false, false, false] rfl rfl (any_of HT_.out (by kernel_rfl)) (fun _ _ _ h => h) (Or.inl ⟨by rfl, ?_⟩) ?_ ?_
            rotate_left
            ·intro w'
             go_simp
             with_reducible rfl
            rotate_left
            ·simp only [Act.put, List.setIfInBounds_toArray, List.set_cons_zero, List.set_cons_succ, i64_w, i32_w]
             rfl
            refine pure_ (i := 19) (N := some 75) (v := ?_) (a' := ?_) #[true, true, true, true, true, true, true, true, true, true, true, true, true, true, true, true, true, true, true, true, false, false, false, false, false, false, false, false, false, false, false, false, false, false, false, false] rfl rfl (any_of HT_.out (by kernel_rfl)) (fun _ _ _ h => h) (Or.inl ⟨by rfl, ?_⟩) ?_ ?_
            rotate_left
            ·intro w'
             go_simp
             with_reducible rfl
            rotate_left
            ·simp only [Act.put, List.setIfInBounds_toArray, List.set_cons_zero, List.set_cons_succ, i64_w, i32_w]
             rfl
            refine pure_ (i := 20) (N := some 76) (v := ?_) (a' := ?_) #[true, true, true, true, true, true, true, true, true, true, true, true, true, true, true, true, true, true, true, true, true, false, false, false, false, false, false, false, false, false, false, false, false, false, false, false] rfl rfl (any_of HT_.out (by kernel_rfl)) (fun _ _ _ h => h) (Or.inl ⟨by rfl, ?_⟩) ?_ ?_
            rotate_left
            ·intro w'
             go_simp
             with_reducible rfl
            rotate_left
            ·simp only [Act.put, List.setIfInBounds_toArray, List.set_cons_zero, List.set_cons_succ, i64_w, i32_w]
             rfl
            refine pure_ (i := 21) (N := some 77) (v := ?_) (a' := ?_) #[true, true, true, true, true, true, true, true, true, true, true, true, true, true, true, true, true, true, true, true, true, true, false, false, false, false, false, false, false, false, false, false, false, false, false, false] rfl rfl (any_of HT_.out (by kernel_rfl)) (fun _ _ _ h => h) (Or.inl ⟨by rfl, ?_⟩) ?_ ?_
            rotate_left
            ·intro w'
             go_simp
             with_reducible rfl
            rotate_left
            ·simp only [Act.put, List.setIfInBounds_toArray, List.set_cons_zero, List.set_cons_succ, i64_w, i32_w]
             rfl
            refine pure_ (i := 22) (N := some 78) (v := ?_) (a' := ?_) #[true, true, true, true, true, true, true, true, true, true, true, true, true, true, true, true, true, true, true, true, true, true, true, false, false, false, false, false, false, false, false, false, false, false, false, false] rfl rfl (any_of HT_.out (by kernel_rfl)) (fun _ _ _ h => h) (Or.inl ⟨by rfl, ?_⟩) ?_ ?_
            rotate_left
            ·intro w'
             go_simp
             with_reducible rfl
            rotate_left
            ·simp only [Act.put, List.setIfInBounds_toArray, List.set_cons_zero, List.set_cons_succ, i64_w, i32_w]
             rfl
            refine pure_ (i := 23) (N := some 79) (v := ?_) (a' := ?_) #[true, true, true, true, true, true, true, true, true, true, true, true, true, true, true, true, true, true, true, true, true, true, true, true, false, false, false, false, false, false, false, false, false, false, false, false] rfl rfl (any_of HT_.out (by kernel_rfl)) (fun _ _ _ h => h) (Or.inl ⟨by rfl, ?_⟩) ?_ ?_
            rotate_left
            ·intro w'
             go_simp
             with_reducible rfl
            rotate_left
            ·simp only [Act.put, List.setIfInBounds_toArray, List.set_cons_zero, List.set_cons_succ, i64_w, i32_w]
             rfl
            refine take_ (i := 24) (N := some 80) (v := ?_) (a' := ?_) #[true, true, true, true, true, true, true, true, true, true, true, true, true, true, true, true, true, true, true, true, true, true, true, true, true, false, false, false, false, false, false, false, false, false, false, false] rfl rfl (take_ofW HT_.out HW_.out (by kernel_rfl)) (fun _ _ _ h => h) (Or.inl ⟨by rfl, ?_⟩) hHeld ?_ ?_
            rotate_left
            ·rintro w' ⟨s0, s1, s2, s3, s4, s5, s6, s7, s8⟩
             go_simp
             with_reducible rfl
            rotate_left
            ·simp only [Act.put, List.setIfInBounds_toArray, List.set_cons_zero, List.set_cons_succ, i64_w, i32_w]
             rfl
            refine take_ (i := 25) (N := some 81) (v := ?_) (a' := ?_) #[true, true, true, true, true, true, true, true, true, true, true, true, true, true, true, true, true, true, true, true, true, true, true, true, true, true, false, false, false, false, false, false, false, false, false, false] rfl rfl (take_ofW HT_.out HW_.out (by kernel_rfl)) (fun _ _ _ h => h) (Or.inl ⟨by rfl, ?_⟩) hHeld ?_ ?_
            rotate_left
            ·rintro w' ⟨s0, s1, s2, s3, s4, s5, s6, s7, s8⟩
             go_simp
             with_reducible rfl
            rotate_left
            ·simp only [Act.put, List.setIfInBounds_toArray, List.set_cons_zero, List.set_cons_succ, i64_w, i32_w]
             rfl
            refine one_ (i := 26) (N := some 82) #[true, true, true, true, true, true, true, true, true, true, true, true, true, true, true, true, true, true, true, true, true, true, true, true, true, true, true, false, false, false, false, false, false, false, false, false] rfl rfl (one_of HT_.out (by kernel_rfl)) (by decide) (fun K hK => ?_)
            refine goes_ Try.func19 (by kernel_rfl) rfl #[.agg #[.int .u64 a0_0, .int .u32 a0_1, .int .u32 a0_2], .agg #[.int .u64 t263, .int .u32 t264, .int .u32 t265]] (by rfl) rfl rfl (by (try simp only [List.map_toArray, List.map_cons, List.map_nil]); first | done | rfl | (simp only [List.length_drop, List.length_take]; rfl)) ?_
            with_reducible refine (pos_Pos_Cmp.calls kj5 a0_0 a0_1 a0_2 t263 t264 t265 t276 _ A31.out).mono ?_
            rintro e w56 ⟨rfl, hb⟩
            refine ⟨_, rfl, ?_⟩
            have n0_ := Aside0.mk (Kd.R_below (by (with_reducible repeat (first | apply Kd.R_alloc | apply Kd.R_drewN | apply Kd.R_drew)); exact HO270.out) hb)
            have n1_ := Aside0.mk (blk_below (g := gb252) (o := .cells #[.int .u64 a0_0, .int .u32 a0_1, .int .u32 a0_2] 26 (0, 0)) (by (with_reducible repeat (first | refine blk_drewN ?_ _ | refine blk_drew ?_ | refine blk_alloc ?_ _)); exact BK252.out) hb)
            have n2_ := Aside0.mk (blk_below (g := gb262) (o := .cells #[.int .u64 t258, .int .u32 t259, .int .u32 t260] 26 (0, 0)) (by (with_reducible repeat (first | refine blk_drewN ?_ _ | refine blk_drew ?_ | refine blk_alloc ?_ _)); exact BK262.out) hb)
            have n3_ := Aside0.mk (blk_below (g := gb267) (o := .cells #[.int .u64 t263, .int .u32 t264, .int .u32 t265] 26 (0, 0)) (by (with_reducible repeat (first | refine blk_drewN ?_ _ | refine blk_drew ?_ | refine blk_alloc ?_ _)); exact BK267.out) hb)
            have n4_ := Aside0.mk (below_step (by repeat (first | (with_reducible first | exact HB.out | apply below_alloc | apply pw_below_drewN | apply below_drew1 | refine below_set ?_ GE252.out | refine below_set ?_ GE262.out | refine below_set ?_ GE267.out) | exact HB.out)) hb)
            clear HO270
            clear BK252
            clear BK262
            clear BK267
            clear HB
            have HO270 := n0_
            have BK252 := n1_
            have BK262 := n2_
            have BK267 := n3_
            have HB := n4_
            clear n0_ n1_ n2_ n3_ n4_
            (try clear hb)
            (try clear hb2)
            (try clear hk)
            (try clear hi)
            refine hK.out _ _ ⟨(blk_cell BK262.out 0).trans rfl, (blk_cell BK262.out 1).trans rfl, (blk_cell BK262.out 2).trans rfl, (blk_cell BK252.out 0).trans rfl, (blk_cell BK252.out 1).trans rfl, (blk_cell BK252.out 2).trans rfl, (blk_cell BK267.out 0).trans rfl, (blk_cell BK267.out 1).trans rfl, (blk_cell BK267.out 2).trans rfl⟩ (fun hHeld => ?_)
            clear hK K
            refine norm_ (a' := ?_) ?_ ?_
            rotate_left
            ·show Act.put _ (some 82) _ = _
             simp only [Act.put, List.setIfInBounds_toArray, List.set_cons_zero, List.set_cons_succ, i64_w, i32_w]
             rfl
            refine pure_ (i := 27) (N := some 83) (v := ?_) (a' := ?_) #[true, true, true, true, true, true, true, true, true, true, true, true, true, true, true, true, true, true, true, true, true, true, true, true, true, true, true, true, false, false, false, false, false, false, false, false] rfl rfl (any_of HT_.out (by kernel_rfl)) (fun _ _ _ h => h) (Or.inl ⟨by rfl, ?_⟩) ?_ ?_
            rotate_left
            ·intro w'
             go_simp
             with_reducible rfl
            rotate_left
            ·simp only [Act.put, List.setIfInBounds_toArray, List.set_cons_zero, List.set_cons_succ, i64_w, i32_w]
             rfl
            refine pure_ (i := 28) (N := some 84) (v := ?_) (a' := ?_) #[true, true, true, true, true, true, true, true, true, true, true, true, true, true, true, true, true, true, true, true, true, true, true, true, true, true, true, true, true, false, false, false, false, false, false, false] rfl rfl (any_of HT_.out (by kernel_rfl)) (fun _ _ _ h => h) (Or.inl ⟨by rfl, ?_⟩) ?_ ?_
            rotate_left
            ·intro w'
             go_simp
             with_reducible rfl
            rotate_left
            ·simp only [Act.put, List.setIfInBounds_toArray, List.set_cons_zero, List.set_cons_succ, i64_w, i32_w]
             rfl
            refine pure_ (i := 29) (N := some 85) (v := ?_) (a' := ?_) #[true, true, true, true, true, true, true, true, true, true, true, true, true, true, true, true, true, true, true, true, true, true, true, true, true, true, true, true, true, true, false, false, false, false, false, false] rfl rfl (any_of HT_.out (by kernel_rfl)) (fun _ _ _ h => h) (Or.inl ⟨by rfl, ?_⟩) ?_ ?_
            rotate_left
            ·intro w'
             go_simp
             with_reducible rfl
            rotate_left
            ·simp only [Act.put, List.setIfInBounds_toArray, List.set_cons_zero, List.set_cons_succ, i64_w, i32_w]
             rfl
            refine take_ (i := 30) (N := some 86) (v := ?_) (a' := ?_) #[true, true, true, true, true, true, true, true, true, true, true, true, true, true, true, true, true, true, true, true, true, true, true, true, true, true, true, true, true, true, true, false, false, false, false, false] rfl rfl (take_ofW HT_.out HW_.out (by kernel_rfl)) (fun _ _ _ h => h) (Or.inl ⟨by rfl, ?_⟩) hHeld ?_ ?_
            rotate_left
            ·rintro w' ⟨s0, s1, s2, s3, s4, s5, s6, s7, s8⟩
             go_simp
             with_reducible rfl
            rotate_left
            ·simp only [Act.put, List.setIfInBounds_toArray, List.set_cons_zero, List.set_cons_succ, i64_w, i32_w]
             rfl
            refine take_ (i := 31) (N := some 87) (v := ?_) (a' := ?_) #[true, true, true, true, true, true, true, true, true, true, true, true, true, true, true, true, true, true, true, true, true, true, true, true, true, true, true, true, true, true, true, true, false, false, false, false] rfl rfl (take_ofW HT_.out HW_.out (by kernel_rfl)) (fun _ _ _ h => h) (Or.inl ⟨by rfl, ?_⟩) hHeld ?_ ?_
            rotate_left
            ·rintro w' ⟨s0, s1, s2, s3, s4, s5, s6, s7, s8⟩
             go_simp
             with_reducible rfl
            rotate_left
            ·simp only [Act.put, List.setIfInBounds_toArray, List.set_cons_zero, List.set_cons_succ, i64_w, i32_w]
             rfl
            refine one_ (i := 32) (N := some 88) #[true, true, true, true, true, true, true, true, true, true, true, true, true, true, true, true, true, true, true, true, true, true, true, true, true, true, true, true, true, true, true, true, true, false, false, false] rfl rfl (one_of HT_.out (by kernel_rfl)) (by decide) (fun K hK => ?_)
            refine goes_ Try.func19 (by kernel_rfl) rfl #[.agg #[.int .u64 a0_0, .int .u32 a0_1, .int .u32 a0_2], .agg #[.int .u64 t258, .int .u32 t259, .int .u32 t260]] (by rfl) rfl rfl (by (try simp only [List.map_toArray, List.map_cons, List.map_nil]); first | done | rfl | (simp only [List.length_drop, List.length_take]; rfl)) ?_
            with_reducible refine (pos_Pos_Cmp.calls kj5 a0_0 a0_1 a0_2 t258 t259 t260 t277 _ A33.out).mono ?_
            rintro e w57 ⟨rfl, hb⟩
            refine ⟨_, rfl, ?_⟩
            have n0_ := Aside0.mk (Kd.R_below (by (with_reducible repeat (first | apply Kd.R_alloc | apply Kd.R_drewN | apply Kd.R_drew)); exact HO270.out) hb)
            have n1_ := Aside0.mk (blk_below (g := gb252) (o := .cells #[.int .u64 a0_0, .int .u32 a0_1, .int .u32 a0_2] 26 (0, 0)) (by (with_reducible repeat (first | refine blk_drewN ?_ _ | refine blk_drew ?_ | refine blk_alloc ?_ _)); exact BK252.out) hb)
            have n2_ := Aside0.mk (blk_below (g := gb262) (o := .cells #[.int .u64 t258, .int .u32 t259, .int .u32 t260] 26 (0, 0)) (by (with_reducible repeat (first | refine blk_drewN ?_ _ | refine blk_drew ?_ | refine blk_alloc ?_ _)); exact BK262.out) hb)
            have n3_ := Aside0.mk (blk_below (g := gb267) (o := .cells #[.int .u64 t263, .int .u32 t264, .int .u32 t265] 26 (0, 0)) (by (with_reducible repeat (first | refine blk_drewN ?_ _ | refine blk_drew ?_ | refine blk_alloc ?_ _)); exact BK267.out) hb)
            have n4_ := Aside0.mk (below_step (by repeat (first | (with_reducible first | exact HB.out | apply below_alloc | apply pw_below_drewN | apply below_drew1 | refine below_set ?_ GE252.out | refine below_set ?_ GE262.out | refine below_set ?_ GE267.out) | exact HB.out)) hb)
            clear HO270
            clear BK252
            clear BK262
            clear BK267
            clear HB
            have HO270 := n0_
            have BK252 := n1_
            have BK262 := n2_
            have BK267 := n3_
            have HB := n4_
            clear n0_ n1_ n2_ n3_ n4_
            (try clear hb)
            (try clear hb2)
            (try clear hk)
            (try clear hi)
            refine hK.out _ _ ⟨(blk_cell BK262.out 0).trans rfl, (blk_cell BK262.out 1).trans rfl, (blk_cell BK262.out 2).trans rfl, (blk_cell BK252.out 0).trans rfl, (blk_cell BK252.out 1).trans rfl, (blk_cell BK252.out 2).trans rfl, (blk_cell BK267.out 0).trans rfl, (blk_cell BK267.out 1).trans rfl, (blk_cell BK267.out 2).trans rfl⟩ (fun hHeld => ?_)
            clear hK K
            refine norm_ (a' := ?_) ?_ ?_
            rotate_left
            ·show Act.put _ (some 88) _ = _
             simp only [Act.put, List.setIfInBounds_toArray, List.set_cons_zero, List.set_cons_succ, i64_w, i32_w]
             rfl
            refine pure_ (i := 33) (N := some 89) (v := ?_) (a' := ?_) #[true, true, true, true, true, true, true, true, true, true, true, true, true, true, true, true, true, true, true, true, true, true, true, true, true, true, true, true, true, true, true, true, true, true, false, false] rfl rfl (any_of HT_.out (by kernel_rfl)) (fun _ _ _ h => h) (Or.inl ⟨by rfl, ?_⟩) ?_ ?_
            rotate_left
            ·intro w'
             go_simp
             with_reducible rfl
            rotate_left
            ·simp only [Act.put, List.setIfInBounds_toArray, List.set_cons_zero, List.set_cons_succ, i64_w, i32_w]
             rfl
            refine pure_ (i := 34) (N := some 90) (v := ?_) (a' := ?_) #[true, true, true, true, true, true, true, true, true, true, true, true, true, true, true, true, true, true, true, true, true, true, true, true, true, true, true, true, true, true, true, true, true, true, true, false] rfl rfl (any_of HT_.out (by kernel_rfl)) (fun _ _ _ h => h) (Or.inl ⟨by rfl, ?_⟩) ?_ ?_
            rotate_left
            ·intro w'
             go_simp
             with_reducible rfl
            rotate_left
            ·simp only [Act.put, List.setIfInBounds_toArray, List.set_cons_zero, List.set_cons_succ, i64_w, i32_w]
             rfl
            refine pure_ (i := 35) (N := some 4) (v := ?_) (a' := ?_) #[true, true, true, true, true, true, true, true, true, true, true, true, true, true, true, true, true, true, true, true, true, true, true, true, true, true, true, true, true, true, true, true, true, true, true, true] rfl rfl (any_of HT_.out (by kernel_rfl)) (fun _ _ _ h => h) (Or.inl ⟨by rfl, ?_⟩) ?_ ?_
            rotate_left
            ·intro w'
             go_simp
             with_reducible rfl
            rotate_left
            ·simp only [Act.put, List.setIfInBounds_toArray, List.set_cons_zero, List.set_cons_succ, i64_w, i32_w]
             rfl
            refine done_ (done_of HT_.out (by kernel_rfl)) ?_
            try go_wp2
            go_ret
            exact ⟨by first | rfl | (simp [errW_none, errW_some] <;> rfl) | (simp [*, errW_none, errW_some] <;> rfl), by repeat (first | (with_reducible first | exact HB.out | apply below_alloc | apply pw_below_drewN | apply below_drew1 | refine below_set ?_ GE252.out | refine below_set ?_ GE262.out | refine below_set ?_ GE267.out) | exact HB.out)⟩
           ·rw [if_neg c32] at H
            have c32b0 : (t276 == (-1)) = false := beq_eq_false_iff_ne.mpr c32
            have c32b1 : (t276 != (-1)) = true := bne_iff_ne.mpr c32
            exact absurd H (by simp)
          ·rw [if_neg c30] at H
           have c30b0 : (t272 == 1) = false := beq_eq_false_iff_ne.mpr c30
           have c30b1 : (t272 != 1) = true := bne_iff_ne.mpr c30
           exact absurd H (by simp)
         ·rw [if_neg c29] at H
          have c29b0 : (t271 == 0) = false := beq_eq_false_iff_ne.mpr c29
          have c29b1 : (t271 != 0) = true := bne_iff_ne.mpr c29
          exact absurd H (by simp)
        ·rw [if_neg c28] at H
         have c28b0 : (t263 == t273 && (t264 == t274 && (t265 == t275))) = false := by simpa using c28
         (try (have c28b1 : decide (t263 = t273 && (t264 == t274 && (t265 == t275))) = false := by simpa using c28))
         (try (have c28b2 : (t263 == t273 && (t264 == t274 && (t265 == t275))) = false := by simpa using c28))
         (try (have c28b3 : ¬ (t263 = t273 && (t264 == t274 && (t265 == t275))) := by simpa using c28))
         clear c28
         exact absurd H (by simp)
       ·replace c26 := Bool.eq_false_iff.mpr c26
        subst c26
        have H1 : (none) = some r := by rw [if_neg (show ¬ (false = true) by decide)] at H; exact H
        clear H
        have H := H1
        clear H1
        exact absurd H (by simp)
      ·rw [if_neg c25] at H
       have c25b0 : (t258 == a0_0 && (t259 == a0_1 && (t260 == a0_2))) = false := by simpa using c25
       (try (have c25b1 : decide (t258 = a0_0 && (t259 == a0_1 && (t260 == a0_2))) = false := by simpa using c25))
       (try (have c25b2 : (t258 == a0_0 && (t259 == a0_1 && (t260 == a0_2))) = false := by simpa using c25))
       (try (have c25b3 : ¬ (t258 = a0_0 && (t259 == a0_1 && (t260 == a0_2))) := by simpa using c25))
       clear c25
       exact absurd H (by simp)
     ·replace c24 := Bool.eq_false_iff.mpr c24
      subst c24
      have H1 : (none) = some r := by rw [if_neg (show ¬ (false = true) by decide)] at H; exact H
      clear H
      have H := H1
      clear H1
      exact absurd H (by simp)
 ·replace c4 := Bool.eq_false_iff.mpr c4
  subst c4
  have H1 : (none) = some r := by rw [if_neg (show ¬ (false = true) by decide)] at H; exact H
  clear H
  have H := H1
  clear H1
  exact absurd H (by simp)

/-- THE ONE PURE STATEMENT of turnstonelaw04_PosBack. -/
def turnstonelaw04_PosBack.Pure : Prop := ∀ (a0_0 : Int) (a0_1 : Int) (a0_2 : Int) (a1 : Int), (Lit.int .u64 a0_0).wf = true → (Lit.int .u32 a0_1).wf = true → (Lit.int .u32 a0_2).wf = true → (Lit.int .u64 a1).wf = true → ∃ k, turnstonelaw04_PosBack.f k a0_0 a0_1 a0_2 a1 = some true
theorem turnstonelaw04_PosBack.walk (P : turnstonelaw04_PosBack.Pure) (a0_0 : Int) (a0_1 : Int) (a0_2 : Int) (a1 : Int) (w : World) (w0_0 : (Lit.int .u64 a0_0).wf = true) (w0_1 : (Lit.int .u32 a0_1).wf = true) (w0_2 : (Lit.int .u32 a0_2).wf = true) (w1 : (Lit.int .u64 a1).wf = true) :
  Calls Try.prog 4 #[.agg #[.int .u64 a0_0, .int .u32 a0_1, .int .u32 a0_2], .int .u64 a1] w fun e w' => e = .returned (.bool true) ∧ Below w.heap.size w w' := by
 obtain ⟨k, h⟩ := P a0_0 a0_1 a0_2 a1 w0_0 w0_1 w0_2 w1
 refine (turnstonelaw04_PosBack.calls k a0_0 a0_1 a0_2 a1 true w h).mono ?_
 rintro e w' ⟨rfl, hd⟩
 exact ⟨rfl, hd⟩

end Go.Proofs.Ytfcfcahlflefbaa.Print
