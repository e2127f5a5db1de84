/- What each Go function that is named below answers, as a Lean function, and that its walk comes to just that: for whatever arguments that function gives an answer for. Written by a program of this session (wip/mkpr.py, pr.sh). -/
import Derived.Test.YtccokfebebmaeaaGreatDoorPrint0
import Derived.Test.YtccokfebebmaeaaGreatDoorPrint3
import Derived.Test.YtccokfebebmaeaaGreatDoorPrint4
import Derived.Test.YtccokfebebmaeaaGreatDoorPrint5
namespace Go.Proofs.YtccokfebebmaeaaGreatDoor.Print
open Go.RowKit Go.Proofs.YtccokfebebmaeaaGreatDoorW.PrintWords Go.Proofs.YtccokfebebmaeaaGreatDoorW.PrintLast Go.Proofs.YtccokfebebmaeaaGreatDoorW.PrintMore
attribute [local go_sem] max2_int min2_int max_two min_two max_three min_three max_four min_four   -- for this text's walks alone
open Go.Proofs.YtccokfebebmaeaaGreatDoor.Bits Go.Proofs.YtccokfebebmaeaaGreatDoor.Short
attribute [local go_sem] add64_run0 sub64_run0 add64_run sub64_run
set_option linter.unusedVariables false
set_option linter.unusedSimpArgs false

/-! ### mean_Mean_Add: function 42 -/
def mean_Mean_Add.j0 : Nat → Bool → Int → Int → Int → Int → Int → Int → Int → Int → Option (Int × Int × Int × Int × Int × Bool)
 | 0, _, _, _, _, _, _, _, _, _ => none
 | k + 1, x20, x150000, x150001, x150002, x150003, x150004, x151000, x151001, x151002 => if x20 = true then (some (0, 0, 0, 0, 0, false)) else ((pos_Pos_Distance.f k x151000 x151001 x151002 x150000).bind fun bt154 => ((wide_Int_Add.f x150001 x150002 bt154.1 bt154.2).bind fun bt156 => (if bt156.2.2 = true then (some (x150000, bt156.1, bt156.2.1, IntKind.u64.wrap (x150003 + (IntKind.u64.wrap (x151002))), wrap64 (x150004 + 1), true)) else (some (0, 0, 0, 0, 0, false)))))
def mean_Mean_Add.f (k : Nat) (a0_0 : Int) (a0_1 : Int) (a0_2 : Int) (a0_3 : Int) (a0_4 : Int) (a1_0 : Int) (a1_1 : Int) (a1_2 : Int) : Option (Int × Int × Int × Int × Int × Bool) := (mean_Mean_Right.f a0_0 a0_1 a0_2 a0_3 a0_4).bind fun t152 => (if t152 = true then ((pos_Pos_Right.f a1_0 a1_1 a1_2).bind fun t153 => (if t153 = true then (mean_Mean_Add.j0 k (a0_4 == 32) a0_0 a0_1 a0_2 a0_3 a0_4 a1_0 a1_1 a1_2) else (mean_Mean_Add.j0 k true a0_0 a0_1 a0_2 a0_3 a0_4 a1_0 a1_1 a1_2))) else (mean_Mean_Add.j0 k true a0_0 a0_1 a0_2 a0_3 a0_4 a1_0 a1_1 a1_2))
theorem mean_Mean_Add.mono_l : ∀ k, (∀ y0 y1 y2 y3 y4 y5 y6 y7 y8, LeO (mean_Mean_Add.j0 k y0 y1 y2 y3 y4 y5 y6 y7 y8) (mean_Mean_Add.j0 (k + 1) y0 y1 y2 y3 y4 y5 y6 y7 y8))
 | 0 => fun _ _ _ _ _ _ _ _ _ r h => by simp [mean_Mean_Add.j0] at h
 | k + 1 => by
  have ih0 := mean_Mean_Add.mono_l k
  ·intro y0 y1 y2 y3 y4 y5 y6 y7 y8
   unfold mean_Mean_Add.j0
   repeat' first
   | (with_reducible exact ih0 _ _ _ _ _ _ _ _ _)
   | (with_reducible exact pos_Pos_Distance.mono _ _ _ _ _)
   | (with_reducible exact LeO.refl _)
   | (with_reducible exact LeO.none _)
   | (with_reducible refine LeO.ite ?_ ?_)
   | (with_reducible refine LeO.bind ?_ (fun _ => ?_))
   | exact ih0 _ _ _ _ _ _ _ _ _
   | exact pos_Pos_Distance.mono _ _ _ _ _
   | exact LeO.none _
   | refine LeO.ite ?_ ?_
   | refine LeO.bind ?_ (fun _ => ?_)
theorem mean_Mean_Add.mono : ∀ a0 a1 a2 a3 a4 a5 a6 a7 k, LeO (mean_Mean_Add.f k a0 a1 a2 a3 a4 a5 a6 a7) (mean_Mean_Add.f (k + 1) a0 a1 a2 a3 a4 a5 a6 a7) := by
 intro a0 a1 a2 a3 a4 a5 a6 a7 k
 have ih0 := mean_Mean_Add.mono_l k
 unfold mean_Mean_Add.f
 repeat' first
   | (with_reducible exact ih0 _ _ _ _ _ _ _ _ _)
   | (with_reducible exact pos_Pos_Distance.mono _ _ _ _ _)
   | (with_reducible exact LeO.refl _)
   | (with_reducible exact LeO.none _)
   | (with_reducible refine LeO.ite ?_ ?_)
   | (with_reducible refine LeO.bind ?_ (fun _ => ?_))
   | exact ih0 _ _ _ _ _ _ _ _ _
   | exact pos_Pos_Distance.mono _ _ _ _ _
   | exact LeO.none _
   | refine LeO.ite ?_ ?_
   | refine LeO.bind ?_ (fun _ => ?_)
def mean_Mean_Add.T3 : Bool × List (List Nat × List Nat) := (true, [([], []), ([0], [0]), ([], []), ([], []), ([3], [3]), ([2, 4], [2, 4]), ([1, 5, 5], [1, 5]), ([6], [6]), ([7], [7]), ([7], [7]), ([], []), ([10, 8, 6, 0, 1, 2, 3, 4, 5, 6, 7, 8, 10], [8, 10]), ([9, 11, 0, 1, 2, 3, 4, 5, 6, 7, 8, 9, 10, 11], [9])])
def mean_Mean_Add.B3 : List Nat := [0, 1, 0, 0, 8, 28, 63, 127, 255, 255, 0, 1535, 4095]
theorem mean_Mean_Add.tab3 : rtab .any (opsOf Tryz.f42 3) = mean_Mean_Add.T3 := by kernel_rfl
theorem mean_Mean_Add.bits3 : waitsOk mean_Mean_Add.T3.2 mean_Mean_Add.B3 = true := by kernel_rfl
set_option maxHeartbeats 8000000 in
set_option maxRecDepth 100000 in
theorem mean_Mean_Add.calls (k : Nat) (a0_0 : Int) (a0_1 : Int) (a0_2 : Int) (a0_3 : Int) (a0_4 : Int) (a1_0 : Int) (a1_1 : Int) (a1_2 : Int) (r1 : Int) (r2 : Int) (r3 : Int) (r4 : Int) (r5 : Int) (r6 : Bool) (w : World) (h : mean_Mean_Add.f k a0_0 a0_1 a0_2 a0_3 a0_4 a1_0 a1_1 a1_2 = some (r1, r2, r3, r4, r5, r6)) :
  Calls Tryz.prog 42 #[.agg #[.int .u64 a0_0, .int .i64 a0_1, .int .u64 a0_2, .int .u64 a0_3, .int .i64 a0_4], .agg #[.int .u64 a1_0, .int .u32 a1_1, .int .u32 a1_2]] w fun e w' => e = .returned (.tuple #[.agg #[.int .u64 r1, .int .i64 r2, .int .u64 r3, .int .u64 r4, .int .i64 r5], .bool r6]) ∧ Below w.heap.size w w' := by
 have hu33 := Tryz.underlying33
 have hu28 := Tryz.underlying28
 have hu31 := Tryz.underlying31
 have HB := Aside0.mk (Below.refl w.heap.size w)
 have H : ((mean_Mean_Right.f a0_0 a0_1 a0_2 a0_3 a0_4).bind fun t152 => (if t152 = true then ((pos_Pos_Right.f a1_0 a1_1 a1_2).bind fun t153 => (if t153 = true then (mean_Mean_Add.j0 k (a0_4 == 32) a0_0 a0_1 a0_2 a0_3 a0_4 a1_0 a1_1 a1_2) else (mean_Mean_Add.j0 k true a0_0 a0_1 a0_2 a0_3 a0_4 a1_0 a1_1 a1_2))) else (mean_Mean_Add.j0 k true a0_0 a0_1 a0_2 a0_3 a0_4 a1_0 a1_1 a1_2))) = some (r1, r2, r3, r4, r5, r6) := h
 clear h
 have HC3 := Aside0.mk H
 clear H
 go_enter Tryz.func42, Tryz.ntmps42
 go_upto_region 1 with (first | ((with_reducible refine gate_dst (N := 2) rfl ?_); refine box_event ?hg (N := 2) ?hd (cs := #[.int .u64 a0_0, .int .i64 a0_1, .int .u64 a0_2, .int .u64 a0_3, .int .i64 a0_4]) (t := 33) ?hr ?_; (case hd => rfl); (case hg => rfl); (case hr => first | (go_simp; done) | (go_simp; rfl)); intro gb149 hg w4 hbox hb; have n0_ := belb HB hb; have n1_ := Aside0.mk (hbox); have n2_ := bels HB hg; have n3_ := bels HB hg; clear HB; have HB := n0_; have BK149 := n1_; have GW149 := n2_; have GE149 := n3_; clear n0_ n1_ n2_ n3_; clear hb hbox hg) | ((with_reducible refine gate_dst (N := 3) rfl ?_); refine box_event ?hg (N := 3) ?hd (cs := #[.int .u64 a1_0, .int .u32 a1_1, .int .u32 a1_2]) (t := 28) ?hr ?_; (case hd => rfl); (case hg => rfl); (case hr => first | (go_simp; done) | (go_simp; rfl)); intro gb150 hg w5 hbox hb; have n0_ := blkb BK149 hb; have n1_ := belb HB hb; have n2_ := Aside0.mk (hbox); have n3_ := bels HB hg; have n4_ := bels HB hg; have n5_ := blkl BK149 hg; have n6_ := blkg BK149 hg; clear BK149; clear HB; have BK149 := n0_; have HB := n1_; have BK150 := n2_; have GW150 := n3_; have GE150 := n4_; have NB149_150 := n5_; have NB150_149 := n6_; clear n0_ n1_ n2_ n3_ n4_ n5_ n6_; clear hb hbox hg) | ((with_reducible refine gate_dst (N := 4) rfl ?_); refine box_event ?hg (N := 4) ?hd (cs := #[.int .u64 0, .int .i64 0, .int .u64 0, .int .u64 0, .int .i64 0]) (t := 33) ?hr ?_; (case hd => rfl); (case hg => rfl); (case hr => first | (go_simp; done) | (go_simp; rfl)); intro gb151 hg w6 hbox hb; have n0_ := blkb BK149 hb; have n1_ := blkb BK150 hb; have n2_ := belb HB hb; have n3_ := Aside0.mk (hbox); have n4_ := bels HB hg; have n5_ := bels HB hg; have n6_ := blkl BK149 hg; have n7_ := blkg BK149 hg; have n8_ := blkl BK150 hg; have n9_ := blkg BK150 hg; clear BK149; clear BK150; clear HB; have BK149 := n0_; have BK150 := n1_; have HB := n2_; have BK151 := n3_; have GW151 := n4_; have GE151 := n5_; have NB149_151 := n6_; have NB151_149 := n7_; have NB150_151 := n8_; have NB151_150 := n9_; clear n0_ n1_ n2_ n3_ n4_ n5_ n6_ n7_ n8_ n9_; clear hb hbox hg))
 (try simp only [Act.put, List.setIfInBounds_toArray, List.set_cons_zero, List.set_cons_succ])
 go_cut [20] (fun v20 wc => ∃ (kq : Nat) (x20_2 : Bool), v20 = .bool x20_2 ∧ Aside0 (mean_Mean_Add.j0 kq x20_2 a0_0 a0_1 a0_2 a0_3 a0_4 a1_0 a1_1 a1_2 = some (r1, r2, r3, r4, r5, r6)) ∧ Aside0 (kq ≤ k) ∧ Aside0 (wc.heap[gb149]? = some (.cells #[.int .u64 a0_0, .int .i64 a0_1, .int .u64 a0_2, .int .u64 a0_3, .int .i64 a0_4] 33 (0, 0))) ∧ Aside0 (wc.heap[gb150]? = some (.cells #[.int .u64 a1_0, .int .u32 a1_1, .int .u32 a1_2] 28 (0, 0))) ∧ Aside0 (wc.heap[gb151]? = some (.cells #[.int .u64 0, .int .i64 0, .int .u64 0, .int .u64 0, .int .i64 0] 33 (0, 0))) ∧ Aside0 (Below w.heap.size w wc))
 case first =>
  have H := HC3.out
  clear HC3
  replace H := Option.bind_eq_some_iff.mp H
  obtain ⟨t152, A70, H⟩ := H
  replace H : (if t152 = true then ((pos_Pos_Right.f a1_0 a1_1 a1_2).bind fun t153 => (if t153 = true then (mean_Mean_Add.j0 k (a0_4 == 32) a0_0 a0_1 a0_2 a0_3 a0_4 a1_0 a1_1 a1_2) else (mean_Mean_Add.j0 k true a0_0 a0_1 a0_2 a0_3 a0_4 a1_0 a1_1 a1_2))) else (mean_Mean_Add.j0 k true a0_0 a0_1 a0_2 a0_3 a0_4 a1_0 a1_1 a1_2)) = some (r1, r2, r3, r4, r5, r6) := H
  have A7 := Aside0.mk A70
  clear A70
  by_cases c8 : t152 = true
  ·subst c8
   have H1 : ((pos_Pos_Right.f a1_0 a1_1 a1_2).bind fun t153 => (if t153 = true then (mean_Mean_Add.j0 k (a0_4 == 32) a0_0 a0_1 a0_2 a0_3 a0_4 a1_0 a1_1 a1_2) else (mean_Mean_Add.j0 k true a0_0 a0_1 a0_2 a0_3 a0_4 a1_0 a1_1 a1_2))) = some (r1, r2, r3, r4, r5, r6) := by rw [if_pos rfl] at H; exact H
   clear H
   have H := H1
   clear H1
   replace H := Option.bind_eq_some_iff.mp H
   obtain ⟨t153, A90, H⟩ := H
   replace H : (if t153 = true then (mean_Mean_Add.j0 k (a0_4 == 32) a0_0 a0_1 a0_2 a0_3 a0_4 a1_0 a1_1 a1_2) else (mean_Mean_Add.j0 k true a0_0 a0_1 a0_2 a0_3 a0_4 a1_0 a1_1 a1_2)) = some (r1, r2, r3, r4, r5, r6) := H
   have A9 := Aside0.mk A90
   clear A90
   by_cases c10 : t153 = true
   ·subst c10
    have H1 : (mean_Mean_Add.j0 k (a0_4 == 32) a0_0 a0_1 a0_2 a0_3 a0_4 a1_0 a1_1 a1_2) = some (r1, r2, r3, r4, r5, r6) := by rw [if_pos rfl] at H; exact H
    clear H
    have H := H1
    clear H1
    have H' := Aside0.mk H
    clear H
    have hnb11 := NB149_150.out
    have hnc11 := NB150_149.out
    have hnb12 := NB149_151.out
    have hnc12 := NB151_149.out
    have hcz13_0 : w6.cell? ⟨gb149, 0, none⟩ = some (.int .u64 a0_0) := (blk_cell BK149.out 0).trans rfl
    have hcz13_1 : w6.cell? ⟨gb149, 1, none⟩ = some (.int .i64 a0_1) := (blk_cell BK149.out 1).trans rfl
    have hcz13_2 : w6.cell? ⟨gb149, 2, none⟩ = some (.int .u64 a0_2) := (blk_cell BK149.out 2).trans rfl
    have hcz13_3 : w6.cell? ⟨gb149, 3, none⟩ = some (.int .u64 a0_3) := (blk_cell BK149.out 3).trans rfl
    have hcz13_4 : w6.cell? ⟨gb149, 4, none⟩ = some (.int .i64 a0_4) := (blk_cell BK149.out 4).trans rfl
    have hfz13_0 := blk_frozen BK149.out 0
    have hfz13_1 := blk_frozen BK149.out 1
    have hfz13_2 := blk_frozen BK149.out 2
    have hfz13_3 := blk_frozen BK149.out 3
    have hfz13_4 := blk_frozen BK149.out 4
    go_wp2_with (first | ((with_reducible refine gate_callee (f := 43) rfl ?_); refine goesL_ (some 9) rfl rfl Tryz.func43 (by kernel_rfl) rfl #[.agg #[.int .u64 a0_0, .int .i64 a0_1, .int .u64 a0_2, .int .u64 a0_3, .int .i64 a0_4]] rfl argt ?_; (with_reducible refine (mean_Mean_Right.calls a0_0 a0_1 a0_2 a0_3 a0_4 true _ A7.out).mono ?_); rintro e w14 ⟨rfl, hb⟩; refine ⟨_, rfl, ?_⟩; have n0_ := blkb BK149 hb; have n1_ := blkb BK150 hb; have n2_ := blkb BK151 hb; have n3_ := belb HB hb; clear BK149; clear BK150; clear BK151; clear HB; have BK149 := n0_; have BK150 := n1_; have BK151 := n2_; have HB := n3_; clear n0_ n1_ n2_ n3_; (try clear hb); (try clear hb2); (try clear hk); (try clear hi); have hnb15 := NB150_151.out; have hnc15 := NB151_150.out; have hcz16_0 : w14.cell? ⟨gb150, 0, none⟩ = some (.int .u64 a1_0) := (blk_cell BK150.out 0).trans rfl; have hcz16_1 : w14.cell? ⟨gb150, 1, none⟩ = some (.int .u32 a1_1) := (blk_cell BK150.out 1).trans rfl; have hcz16_2 : w14.cell? ⟨gb150, 2, none⟩ = some (.int .u32 a1_2) := (blk_cell BK150.out 2).trans rfl; have hfz16_0 := blk_frozen BK150.out 0; have hfz16_1 := blk_frozen BK150.out 1; have hfz16_2 := blk_frozen BK150.out 2) | (go_at_call 14; (with_reducible refine (pos_Pos_Right.calls a1_0 a1_1 a1_2 true _ A9.out).mono ?_); rintro e w17 ⟨rfl, hb⟩; have n0_ := blkb BK149 hb; have n1_ := blkb BK150 hb; have n2_ := blkb BK151 hb; have n3_ := belb HB hb; clear BK149; clear BK150; clear BK151; clear HB; have BK149 := n0_; have BK150 := n1_; have BK151 := n2_; have HB := n3_; clear n0_ n1_ n2_ n3_; (try clear hb); (try clear hb2); (try clear hk); (try clear hi); have hcz18_0 : w17.cell? ⟨gb149, 0, none⟩ = some (.int .u64 a0_0) := (blk_cell BK149.out 0).trans rfl; have hcz18_1 : w17.cell? ⟨gb149, 1, none⟩ = some (.int .i64 a0_1) := (blk_cell BK149.out 1).trans rfl; have hcz18_2 : w17.cell? ⟨gb149, 2, none⟩ = some (.int .u64 a0_2) := (blk_cell BK149.out 2).trans rfl; have hcz18_3 : w17.cell? ⟨gb149, 3, none⟩ = some (.int .u64 a0_3) := (blk_cell BK149.out 3).trans rfl; have hcz18_4 : w17.cell? ⟨gb149, 4, none⟩ = some (.int .i64 a0_4) := (blk_cell BK149.out 4).trans rfl; have hfz18_0 := blk_frozen BK149.out 0; have hfz18_1 := blk_frozen BK149.out 1; have hfz18_2 := blk_frozen BK149.out 2; have hfz18_3 := blk_frozen BK149.out 3; have hfz18_4 := blk_frozen BK149.out 4))
    go_meet
    case rel => exact ⟨_, ((a0_4 == 32)), (by first | rfl | (simp; done) | (simp [*]; done)), H', ⟨by first | omega | exact Nat.le_refl _⟩, ⟨by (with_reducible repeat (first | refine blk_drewN ?_ _ | refine blk_drew ?_ | refine blk_alloc ?_ _)); exact BK149.out⟩, ⟨by (with_reducible repeat (first | refine blk_drewN ?_ _ | refine blk_drew ?_ | refine blk_alloc ?_ _)); exact BK150.out⟩, ⟨by (with_reducible repeat (first | refine blk_drewN ?_ _ | refine blk_drew ?_ | refine blk_alloc ?_ _)); exact BK151.out⟩, ⟨by repeat (first | (with_reducible first | exact HB.out | apply below_alloc | apply pw_below_drewN | apply below_drew1 | refine below_set ?_ GE149.out | refine below_set ?_ GE150.out | refine below_set ?_ GE151.out) | exact HB.out)⟩⟩
   ·replace c10 := Bool.eq_false_iff.mpr c10
    subst c10
    have H1 : (mean_Mean_Add.j0 k true a0_0 a0_1 a0_2 a0_3 a0_4 a1_0 a1_1 a1_2) = some (r1, r2, r3, r4, r5, r6) := by rw [if_neg (show ¬ (false = true) by decide)] at H; exact H
    clear H
    have H := H1
    clear H1
    have H' := Aside0.mk H
    clear H
    have hnb19 := NB149_150.out
    have hnc19 := NB150_149.out
    have hnb20 := NB149_151.out
    have hnc20 := NB151_149.out
    have hcz21_0 : w6.cell? ⟨gb149, 0, none⟩ = some (.int .u64 a0_0) := (blk_cell BK149.out 0).trans rfl
    have hcz21_1 : w6.cell? ⟨gb149, 1, none⟩ = some (.int .i64 a0_1) := (blk_cell BK149.out 1).trans rfl
    have hcz21_2 : w6.cell? ⟨gb149, 2, none⟩ = some (.int .u64 a0_2) := (blk_cell BK149.out 2).trans rfl
    have hcz21_3 : w6.cell? ⟨gb149, 3, none⟩ = some (.int .u64 a0_3) := (blk_cell BK149.out 3).trans rfl
    have hcz21_4 : w6.cell? ⟨gb149, 4, none⟩ = some (.int .i64 a0_4) := (blk_cell BK149.out 4).trans rfl
    have hfz21_0 := blk_frozen BK149.out 0
    have hfz21_1 := blk_frozen BK149.out 1
    have hfz21_2 := blk_frozen BK149.out 2
    have hfz21_3 := blk_frozen BK149.out 3
    have hfz21_4 := blk_frozen BK149.out 4
    go_wp2_with (first | ((with_reducible refine gate_callee (f := 43) rfl ?_); refine goesL_ (some 9) rfl rfl Tryz.func43 (by kernel_rfl) rfl #[.agg #[.int .u64 a0_0, .int .i64 a0_1, .int .u64 a0_2, .int .u64 a0_3, .int .i64 a0_4]] rfl argt ?_; (with_reducible refine (mean_Mean_Right.calls a0_0 a0_1 a0_2 a0_3 a0_4 true _ A7.out).mono ?_); rintro e w22 ⟨rfl, hb⟩; refine ⟨_, rfl, ?_⟩; have n0_ := blkb BK149 hb; have n1_ := blkb BK150 hb; have n2_ := blkb BK151 hb; have n3_ := belb HB hb; clear BK149; clear BK150; clear BK151; clear HB; have BK149 := n0_; have BK150 := n1_; have BK151 := n2_; have HB := n3_; clear n0_ n1_ n2_ n3_; (try clear hb); (try clear hb2); (try clear hk); (try clear hi); have hnb23 := NB150_151.out; have hnc23 := NB151_150.out; have hcz24_0 : w22.cell? ⟨gb150, 0, none⟩ = some (.int .u64 a1_0) := (blk_cell BK150.out 0).trans rfl; have hcz24_1 : w22.cell? ⟨gb150, 1, none⟩ = some (.int .u32 a1_1) := (blk_cell BK150.out 1).trans rfl; have hcz24_2 : w22.cell? ⟨gb150, 2, none⟩ = some (.int .u32 a1_2) := (blk_cell BK150.out 2).trans rfl; have hfz24_0 := blk_frozen BK150.out 0; have hfz24_1 := blk_frozen BK150.out 1; have hfz24_2 := blk_frozen BK150.out 2) | (go_at_call 14; (with_reducible refine (pos_Pos_Right.calls a1_0 a1_1 a1_2 false _ A9.out).mono ?_); rintro e w25 ⟨rfl, hb⟩; have n0_ := blkb BK149 hb; have n1_ := blkb BK150 hb; have n2_ := blkb BK151 hb; have n3_ := belb HB hb; clear BK149; clear BK150; clear BK151; clear HB; have BK149 := n0_; have BK150 := n1_; have BK151 := n2_; have HB := n3_; clear n0_ n1_ n2_ n3_; (try clear hb); (try clear hb2); (try clear hk); (try clear hi)))
    go_meet
    case rel => exact ⟨_, (true), (by first | rfl | (simp; done) | (simp [*]; done)), H', ⟨by first | omega | exact Nat.le_refl _⟩, ⟨by (with_reducible repeat (first | refine blk_drewN ?_ _ | refine blk_drew ?_ | refine blk_alloc ?_ _)); exact BK149.out⟩, ⟨by (with_reducible repeat (first | refine blk_drewN ?_ _ | refine blk_drew ?_ | refine blk_alloc ?_ _)); exact BK150.out⟩, ⟨by (with_reducible repeat (first | refine blk_drewN ?_ _ | refine blk_drew ?_ | refine blk_alloc ?_ _)); exact BK151.out⟩, ⟨by repeat (first | (with_reducible first | exact HB.out | apply below_alloc | apply pw_below_drewN | apply below_drew1 | refine below_set ?_ GE149.out | refine below_set ?_ GE150.out | refine below_set ?_ GE151.out) | exact HB.out)⟩⟩
  ·replace c8 := Bool.eq_false_iff.mpr c8
   subst c8
   have H1 : (mean_Mean_Add.j0 k true a0_0 a0_1 a0_2 a0_3 a0_4 a1_0 a1_1 a1_2) = some (r1, r2, r3, r4, r5, r6) := by rw [if_neg (show ¬ (false = true) by decide)] at H; exact H
   clear H
   have H := H1
   clear H1
   have H' := Aside0.mk H
   clear H
   have hnb26 := NB149_150.out
   have hnc26 := NB150_149.out
   have hnb27 := NB149_151.out
   have hnc27 := NB151_149.out
   have hcz28_0 : w6.cell? ⟨gb149, 0, none⟩ = some (.int .u64 a0_0) := (blk_cell BK149.out 0).trans rfl
   have hcz28_1 : w6.cell? ⟨gb149, 1, none⟩ = some (.int .i64 a0_1) := (blk_cell BK149.out 1).trans rfl
   have hcz28_2 : w6.cell? ⟨gb149, 2, none⟩ = some (.int .u64 a0_2) := (blk_cell BK149.out 2).trans rfl
   have hcz28_3 : w6.cell? ⟨gb149, 3, none⟩ = some (.int .u64 a0_3) := (blk_cell BK149.out 3).trans rfl
   have hcz28_4 : w6.cell? ⟨gb149, 4, none⟩ = some (.int .i64 a0_4) := (blk_cell BK149.out 4).trans rfl
   have hfz28_0 := blk_frozen BK149.out 0
   have hfz28_1 := blk_frozen BK149.out 1
   have hfz28_2 := blk_frozen BK149.out 2
   have hfz28_3 := blk_frozen BK149.out 3
   have hfz28_4 := blk_frozen BK149.out 4
   go_wp2_with (first | ((with_reducible refine gate_callee (f := 43) rfl ?_); refine goesL_ (some 9) rfl rfl Tryz.func43 (by kernel_rfl) rfl #[.agg #[.int .u64 a0_0, .int .i64 a0_1, .int .u64 a0_2, .int .u64 a0_3, .int .i64 a0_4]] rfl argt ?_; (with_reducible refine (mean_Mean_Right.calls a0_0 a0_1 a0_2 a0_3 a0_4 false _ A7.out).mono ?_); rintro e w29 ⟨rfl, hb⟩; refine ⟨_, rfl, ?_⟩; have n0_ := blkb BK149 hb; have n1_ := blkb BK150 hb; have n2_ := blkb BK151 hb; have n3_ := belb HB hb; clear BK149; clear BK150; clear BK151; clear HB; have BK149 := n0_; have BK150 := n1_; have BK151 := n2_; have HB := n3_; clear n0_ n1_ n2_ n3_; (try clear hb); (try clear hb2); (try clear hk); (try clear hi)))
   go_meet
   case rel => exact ⟨_, (true), (by first | rfl | (simp; done) | (simp [*]; done)), H', ⟨by first | omega | exact Nat.le_refl _⟩, ⟨by (with_reducible repeat (first | refine blk_drewN ?_ _ | refine blk_drew ?_ | refine blk_alloc ?_ _)); exact BK149.out⟩, ⟨by (with_reducible repeat (first | refine blk_drewN ?_ _ | refine blk_drew ?_ | refine blk_alloc ?_ _)); exact BK150.out⟩, ⟨by (with_reducible repeat (first | refine blk_drewN ?_ _ | refine blk_drew ?_ | refine blk_alloc ?_ _)); exact BK151.out⟩, ⟨by repeat (first | (with_reducible first | exact HB.out | apply below_alloc | apply pw_below_drewN | apply below_drew1 | refine below_set ?_ GE149.out | refine below_set ?_ GE150.out | refine below_set ?_ GE151.out) | exact HB.out)⟩⟩
 case rest =>
  clear HC3
  try clear c1
  try clear c2
  try clear p2
  try clear c4
  try clear c8
  try clear c10
  try clear c11
  try clear c12
  try clear c15
  try clear c19
  try clear c20
  try clear c23
  try clear c26
  try clear c27
  try clear hcz13_0
  try clear hcz13_1
  try clear hcz13_2
  try clear hcz13_3
  try clear hcz13_4
  try clear hcz16_0
  try clear hcz16_1
  try clear hcz16_2
  try clear hcz18_0
  try clear hcz18_1
  try clear hcz18_2
  try clear hcz18_3
  try clear hcz18_4
  try clear hcz21_0
  try clear hcz21_1
  try clear hcz21_2
  try clear hcz21_3
  try clear hcz21_4
  try clear hcz24_0
  try clear hcz24_1
  try clear hcz24_2
  try clear hcz28_0
  try clear hcz28_1
  try clear hcz28_2
  try clear hcz28_3
  try clear hcz28_4
  try clear hfz13_0
  try clear hfz13_1
  try clear hfz13_2
  try clear hfz13_3
  try clear hfz13_4
  try clear hfz16_0
  try clear hfz16_1
  try clear hfz16_2
  try clear hfz18_0
  try clear hfz18_1
  try clear hfz18_2
  try clear hfz18_3
  try clear hfz18_4
  try clear hfz21_0
  try clear hfz21_1
  try clear hfz21_2
  try clear hfz21_3
  try clear hfz21_4
  try clear hfz24_0
  try clear hfz24_1
  try clear hfz24_2
  try clear hfz28_0
  try clear hfz28_1
  try clear hfz28_2
  try clear hfz28_3
  try clear hfz28_4
  obtain ⟨kq, x20_2, rfl, HA, HJ2, BK149, BK150, BK151, HB⟩ := hcut
  cases kq with
  | zero => exact absurd HA.out (by simp [mean_Mean_Add.j0])
  | succ kj2 =>
   have H := HA.out
   clear HA
   simp only [mean_Mean_Add.j0] at H
   by_cases c30 : x20_2 = true
   ·subst c30
    have H1 : (some (0, 0, 0, 0, 0, false)) = some (r1, r2, r3, r4, r5, r6) := by rw [if_pos rfl] at H; exact H
    clear H
    have H := H1
    clear H1
    simp only [Option.some.injEq, Prod.mk.injEq] at H
    obtain ⟨rfl, rfl, rfl, rfl, rfl, rfl⟩ := H
    have hnb31 := NB151_149.out
    have hnc31 := NB149_151.out
    have hnb32 := NB151_150.out
    have hnc32 := NB150_151.out
    have hcz33_0 : wc.cell? ⟨gb151, 0, none⟩ = some (.int .u64 0) := (blk_cell BK151.out 0).trans rfl
    have hcz33_1 : wc.cell? ⟨gb151, 1, none⟩ = some (.int .i64 0) := (blk_cell BK151.out 1).trans rfl
    have hcz33_2 : wc.cell? ⟨gb151, 2, none⟩ = some (.int .u64 0) := (blk_cell BK151.out 2).trans rfl
    have hcz33_3 : wc.cell? ⟨gb151, 3, none⟩ = some (.int .u64 0) := (blk_cell BK151.out 3).trans rfl
    have hcz33_4 : wc.cell? ⟨gb151, 4, none⟩ = some (.int .i64 0) := (blk_cell BK151.out 4).trans rfl
    have hfz33_0 := blk_frozen BK151.out 0
    have hfz33_1 := blk_frozen BK151.out 1
    have hfz33_2 := blk_frozen BK151.out 2
    have hfz33_3 := blk_frozen BK151.out 3
    have hfz33_4 := blk_frozen BK151.out 4
    go_wp2
    refine bodyPost_ret (results_ct rfl _ _ gb151 33 #[.int .u64 0, .int .i64 0, .int .u64 0, .int .u64 0, .int .i64 0] (0, 0) _ rfl (by (with_reducible repeat (first | refine blk_drewN ?_ _ | refine blk_drew ?_ | refine blk_alloc ?_ _)); refine blk_put (cs := #[.int .u64 0, .int .i64 0, .int .u64 0, .int .u64 0, .int .i64 0]) ?_ 4 _ rfl; (with_reducible repeat (first | refine blk_drewN ?_ _ | refine blk_drew ?_ | refine blk_alloc ?_ _)); refine blk_put (cs := #[.int .u64 0, .int .i64 0, .int .u64 0, .int .u64 0, .int .i64 0]) ?_ 3 _ rfl; (with_reducible repeat (first | refine blk_drewN ?_ _ | refine blk_drew ?_ | refine blk_alloc ?_ _)); refine blk_put (cs := #[.int .u64 0, .int .i64 0, .int .u64 0, .int .u64 0, .int .i64 0]) ?_ 2 _ rfl; (with_reducible repeat (first | refine blk_drewN ?_ _ | refine blk_drew ?_ | refine blk_alloc ?_ _)); refine blk_put (cs := #[.int .u64 0, .int .i64 0, .int .u64 0, .int .u64 0, .int .i64 0]) ?_ 1 _ rfl; (with_reducible repeat (first | refine blk_drewN ?_ _ | refine blk_drew ?_ | refine blk_alloc ?_ _)); refine blk_put (cs := #[.int .u64 0, .int .i64 0, .int .u64 0, .int .u64 0, .int .i64 0]) ?_ 0 _ rfl; (with_reducible repeat (first | refine blk_drewN ?_ _ | refine blk_drew ?_ | refine blk_alloc ?_ _)); exact BK151.out) Tryz.underlying33 rfl (by kernel_rfl)) rfl ?_
    exact ⟨by first | rfl | (simp [errW_none, errW_some] <;> rfl) | (simp [*, errW_none, errW_some] <;> rfl), by repeat (first | (with_reducible first | exact HB.out | apply below_alloc | apply pw_below_drewN | apply below_drew1 | refine below_set ?_ GE149.out | refine below_set ?_ GE150.out | refine below_set ?_ GE151.out) | exact HB.out)⟩
   ·replace c30 := Bool.eq_false_iff.mpr c30
    subst c30
    have H1 : ((pos_Pos_Distance.f kj2 a1_0 a1_1 a1_2 a0_0).bind fun bt154 => ((wide_Int_Add.f a0_1 a0_2 bt154.1 bt154.2).bind fun bt156 => (if bt156.2.2 = true then (some (a0_0, bt156.1, bt156.2.1, IntKind.u64.wrap (a0_3 + (IntKind.u64.wrap (a1_2))), wrap64 (a0_4 + 1), true)) else (some (0, 0, 0, 0, 0, false))))) = some (r1, r2, r3, r4, r5, r6) := by rw [if_neg (show ¬ (false = true) by decide)] at H; exact H
    clear H
    have H := H1
    clear H1
    replace H := Option.bind_eq_some_iff.mp H
    obtain ⟨⟨t154, t155⟩, A340, H⟩ := H
    replace H : ((wide_Int_Add.f a0_1 a0_2 t154 t155).bind fun bt156 => (if bt156.2.2 = true then (some (a0_0, bt156.1, bt156.2.1, IntKind.u64.wrap (a0_3 + (IntKind.u64.wrap (a1_2))), wrap64 (a0_4 + 1), true)) else (some (0, 0, 0, 0, 0, false)))) = some (r1, r2, r3, r4, r5, r6) := H
    have A34 := Aside0.mk A340
    clear A340
    replace H := Option.bind_eq_some_iff.mp H
    obtain ⟨⟨t156, t157, t158⟩, A350, H⟩ := H
    replace H : (if t158 = true then (some (a0_0, t156, t157, IntKind.u64.wrap (a0_3 + (IntKind.u64.wrap (a1_2))), wrap64 (a0_4 + 1), true)) else (some (0, 0, 0, 0, 0, false))) = some (r1, r2, r3, r4, r5, r6) := H
    have A35 := Aside0.mk A350
    clear A350
    by_cases c36 : t158 = true
    ·subst c36
     have H1 : (some (a0_0, t156, t157, IntKind.u64.wrap (a0_3 + (IntKind.u64.wrap (a1_2))), wrap64 (a0_4 + 1), true)) = some (r1, r2, r3, r4, r5, r6) := by rw [if_pos rfl] at H; exact H
     clear H
     have H := H1
     clear H1
     simp only [Option.some.injEq, Prod.mk.injEq] at H
     obtain ⟨rfl, rfl, rfl, rfl, rfl, rfl⟩ := H
     try go_wp2
     have n0_ := Aside0.mk (blk_drew BK149.out)
     have n1_ := Aside0.mk (blk_drew BK150.out)
     have n2_ := Aside0.mk (blk_drew BK151.out)
     have n3_ := Aside0.mk (below_drew1 HB.out)
     clear BK149
     clear BK150
     clear BK151
     clear HB
     have BK149 := n0_
     have BK150 := n1_
     have BK151 := n2_
     have HB := n3_
     clear n0_ n1_ n2_ n3_
     refine start_ (n := 13) (S := fun w' => w'.cell? ⟨gb149, 0, none⟩ = some (.int .u64 a0_0) ∧ w'.cell? ⟨gb149, 1, none⟩ = some (.int .i64 a0_1) ∧ w'.cell? ⟨gb149, 2, none⟩ = some (.int .u64 a0_2) ∧ w'.cell? ⟨gb149, 3, none⟩ = some (.int .u64 a0_3) ∧ w'.cell? ⟨gb149, 4, none⟩ = some (.int .i64 a0_4) ∧ w'.cell? ⟨gb150, 0, none⟩ = some (.int .u64 a1_0) ∧ w'.cell? ⟨gb150, 1, none⟩ = some (.int .u32 a1_1) ∧ w'.cell? ⟨gb150, 2, none⟩ = some (.int .u32 a1_2)) (ds := []) #[false, false, false, false, false, false, false, false, false, false, false, false, false] (by kernel_rfl) rfl rfl ⟨(blk_cell BK149.out 0).trans rfl, (blk_cell BK149.out 1).trans rfl, (blk_cell BK149.out 2).trans rfl, (blk_cell BK149.out 3).trans rfl, (blk_cell BK149.out 4).trans rfl, (blk_cell BK150.out 0).trans rfl, (blk_cell BK150.out 1).trans rfl, (blk_cell BK150.out 2).trans rfl⟩ (fun hHeld => ?_); refine with_tabW mean_Mean_Add.tab3 mean_Mean_Add.bits3 (fun HT_ HW_ => ?_)
     generalize wc.drew = w37 at BK149 BK150 BK151 HB hHeld ⊢
     refine pure_ (i := 0) (N := some 23) (v := ?_) (a' := ?_) #[true, false, false, false, false, false, false, false, false, false, false, false, false] rfl rfl (any_of HT_.out (by kernel_rfl)) (fun _ _ _ h => h) (Or.inl ⟨by rfl, ?_⟩) ?_ ?_
     rotate_left
     ·intro w'
      go_simp
      with_reducible rfl
     rotate_left
     ·simp only [Act.put, List.setIfInBounds_toArray, List.set_cons_zero, List.set_cons_succ, i64_w, i32_w]
      rfl
     refine pure_ (i := 3) (N := some 26) (v := ?_) (a' := ?_) #[true, false, false, true, false, false, false, false, false, false, false, false, false] rfl rfl (any_of HT_.out (by kernel_rfl)) (fun _ _ _ h => h) (Or.inl ⟨by rfl, ?_⟩) ?_ ?_
     rotate_left
     ·intro w'
      go_simp
      with_reducible rfl
     rotate_left
     ·simp only [Act.put, List.setIfInBounds_toArray, List.set_cons_zero, List.set_cons_succ, i64_w, i32_w]
      rfl
     refine take_ (i := 1) (N := some 24) (v := ?_) (a' := ?_) #[true, true, false, true, false, false, false, false, false, false, false, false, false] rfl rfl (take_ofW HT_.out HW_.out (by kernel_rfl)) (fun _ _ _ h => h) (Or.inl ⟨by rfl, ?_⟩) hHeld ?_ ?_
     rotate_left
     ·rintro w' ⟨s0, s1, s2, s3, s4, s5, s6, s7⟩
      go_simp
      with_reducible rfl
     rotate_left
     ·simp only [Act.put, List.setIfInBounds_toArray, List.set_cons_zero, List.set_cons_succ, i64_w, i32_w]
      rfl
     refine take_ (i := 2) (N := some 25) (v := ?_) (a' := ?_) #[true, true, true, true, false, false, false, false, false, false, false, false, false] rfl rfl (take_ofW HT_.out HW_.out (by kernel_rfl)) (fun _ _ _ h => h) (Or.inl ⟨by rfl, ?_⟩) hHeld ?_ ?_
     rotate_left
     ·rintro w' ⟨s0, s1, s2, s3, s4, s5, s6, s7⟩
      go_simp
      with_reducible rfl
     rotate_left
     ·simp only [Act.put, List.setIfInBounds_toArray, List.set_cons_zero, List.set_cons_succ, i64_w, i32_w]
      rfl
     refine take_ (i := 4) (N := some 27) (v := ?_) (a' := ?_) #[true, true, true, true, true, false, false, false, false, false, false, false, false] rfl rfl (take_ofW HT_.out HW_.out (by kernel_rfl)) (fun _ _ _ h => h) (Or.inl ⟨by rfl, ?_⟩) hHeld ?_ ?_
     rotate_left
     ·rintro w' ⟨s0, s1, s2, s3, s4, s5, s6, s7⟩
      go_simp
      with_reducible rfl
     rotate_left
     ·simp only [Act.put, List.setIfInBounds_toArray, List.set_cons_zero, List.set_cons_succ, i64_w, i32_w]
      rfl
     refine join_ (σ := Nat) 2 #[true, true, true, true, true, true, true, true, true, true, true, false, false] (fun s_ => [(28, .agg #[.int .i64 t154, .int .u64 t155]), (29, .tuple #[.agg #[.int .i64 t156, .int .u64 t157], .bool true]), (6, .pointer (some ⟨s_, 0, none⟩)), (22, .tuple #[.agg #[.int .i64 t156, .int .u64 t157], .bool true]), (30, .agg #[.int .i64 t156, .int .u64 t157]), (31, .bool true)]) (fun s_ w' => (w'.cell? ⟨gb149, 0, none⟩ = some (.int .u64 a0_0) ∧ w'.cell? ⟨gb149, 1, none⟩ = some (.int .i64 a0_1) ∧ w'.cell? ⟨gb149, 2, none⟩ = some (.int .u64 a0_2) ∧ w'.cell? ⟨gb149, 3, none⟩ = some (.int .u64 a0_3) ∧ w'.cell? ⟨gb149, 4, none⟩ = some (.int .i64 a0_4) ∧ w'.cell? ⟨gb150, 0, none⟩ = some (.int .u64 a1_0) ∧ w'.cell? ⟨gb150, 1, none⟩ = some (.int .u32 a1_1) ∧ w'.cell? ⟨gb150, 2, none⟩ = some (.int .u32 a1_2)) ∧ (w'.heap[gb149]? = some (.cells #[.int .u64 a0_0, .int .i64 a0_1, .int .u64 a0_2, .int .u64 a0_3, .int .i64 a0_4] 33 (0, 0))) ∧ (w'.heap[gb150]? = some (.cells #[.int .u64 a1_0, .int .u32 a1_1, .int .u32 a1_2] 28 (0, 0))) ∧ (w'.heap[gb151]? = some (.cells #[.int .u64 0, .int .i64 0, .int .u64 0, .int .u64 0, .int .i64 0] 33 (0, 0))) ∧ (w'.heap[s_]? = some (.cells #[.int .i64 0, .int .u64 0] 31 (0, 0))) ∧ (w.heap.size ≤ s_) ∧ (w.heap.size ≤ s_) ∧ (gb149 ≠ s_) ∧ (s_ ≠ gb149) ∧ (gb150 ≠ s_) ∧ (s_ ≠ gb150) ∧ (gb151 ≠ s_) ∧ (s_ ≠ gb151) ∧ (Below w.heap.size w w')) ?_ ?_
     rotate_left
     ·intro hCont
      refine two_ (i := 5) (j := 10) (Ni := some 28) (Nj := some 6) #[true, true, true, true, true, true, false, false, false, false, false, false, false] #[true, true, true, true, true, false, false, false, false, false, true, false, false] rfl rfl rfl rfl (two_of HT_.out (by kernel_rfl)) (by decide) (by decide) (fun K hK => ?_) (fun K hK => ?_)
      ·skip
       refine goes_ Tryz.func54 (by kernel_rfl) rfl #[.agg #[.int .u64 a1_0, .int .u32 a1_1, .int .u32 a1_2], .int .u64 a0_0] (by rfl) rfl rfl argt ?_
       with_reducible refine (pos_Pos_Distance.calls kj2 a1_0 a1_1 a1_2 a0_0 t154 t155 _ A34.out).mono ?_
       rintro e w38 ⟨rfl, hb⟩
       refine ⟨_, rfl, ?_⟩
       have n0_ := blkb BK149 hb
       have n1_ := blkb BK150 hb
       have n2_ := blkb BK151 hb
       have n3_ := belb HB hb
       clear BK149
       clear BK150
       clear BK151
       clear HB
       have BK149 := n0_
       have BK150 := n1_
       have BK151 := n2_
       have HB := n3_
       clear n0_ n1_ n2_ n3_
       (try clear hb)
       (try clear hb2)
       (try clear hk)
       (try clear hi)
       refine hK.out _ _ ⟨(blk_cell BK149.out 0).trans rfl, (blk_cell BK149.out 1).trans rfl, (blk_cell BK149.out 2).trans rfl, (blk_cell BK149.out 3).trans rfl, (blk_cell BK149.out 4).trans rfl, (blk_cell BK150.out 0).trans rfl, (blk_cell BK150.out 1).trans rfl, (blk_cell BK150.out 2).trans rfl⟩ (fun hHeld => ?_)
       clear hK K
       refine norm_ (a' := ?_) ?_ ?_
       rotate_left
       ·show Act.put _ (some 28) _ = _
        simp only [Act.put, List.setIfInBounds_toArray, List.set_cons_zero, List.set_cons_succ, i64_w, i32_w]
        rfl
       refine two_ (i := 6) (j := 10) (Ni := some 29) (Nj := some 6) #[true, true, true, true, true, true, true, false, false, false, false, false, false] #[true, true, true, true, true, true, false, false, false, false, true, false, false] rfl rfl rfl rfl (two_of HT_.out (by kernel_rfl)) (by decide) (by decide) (fun K hK => ?_) (fun K hK => ?_)
       ·skip
        refine goes_ Tryz.func77 (by kernel_rfl) rfl #[.agg #[.int .i64 a0_1, .int .u64 a0_2], .agg #[.int .i64 t154, .int .u64 t155]] (by rfl) rfl rfl argt ?_
        with_reducible refine (wide_Int_Add.calls a0_1 a0_2 t154 t155 t156 t157 true _ A35.out).mono ?_
        rintro e w39 ⟨rfl, hb⟩
        refine ⟨_, rfl, ?_⟩
        have n0_ := blkb BK149 hb
        have n1_ := blkb BK150 hb
        have n2_ := blkb BK151 hb
        have n3_ := belb HB hb
        clear BK149
        clear BK150
        clear BK151
        clear HB
        have BK149 := n0_
        have BK150 := n1_
        have BK151 := n2_
        have HB := n3_
        clear n0_ n1_ n2_ n3_
        (try clear hb)
        (try clear hb2)
        (try clear hk)
        (try clear hi)
        refine hK.out _ _ ⟨(blk_cell BK149.out 0).trans rfl, (blk_cell BK149.out 1).trans rfl, (blk_cell BK149.out 2).trans rfl, (blk_cell BK149.out 3).trans rfl, (blk_cell BK149.out 4).trans rfl, (blk_cell BK150.out 0).trans rfl, (blk_cell BK150.out 1).trans rfl, (blk_cell BK150.out 2).trans rfl⟩ (fun hHeld => ?_)
        clear hK K
        refine norm_ (a' := ?_) ?_ ?_
        rotate_left
        ·show Act.put _ (some 29) _ = _
         simp only [Act.put, List.setIfInBounds_toArray, List.set_cons_zero, List.set_cons_succ, i64_w, i32_w]
         rfl
        refine pure_ (i := 7) (N := some 22) (v := ?_) (a' := ?_) #[true, true, true, true, true, true, true, true, false, false, false, false, false] rfl rfl (any_of HT_.out (by kernel_rfl)) (fun _ _ _ h => h) (Or.inl ⟨by rfl, ?_⟩) ?_ ?_
        rotate_left
        ·intro w'
         go_simp
         with_reducible rfl
        rotate_left
        ·simp only [Act.put, List.setIfInBounds_toArray, List.set_cons_zero, List.set_cons_succ, i64_w, i32_w]
         rfl
        refine pure_ (i := 8) (N := some 30) (v := ?_) (a' := ?_) #[true, true, true, true, true, true, true, true, true, false, false, false, false] rfl rfl (any_of HT_.out (by kernel_rfl)) (fun _ _ _ h => h) (Or.inl ⟨by rfl, ?_⟩) ?_ ?_
        rotate_left
        ·intro w'
         go_simp
         with_reducible rfl
        rotate_left
        ·simp only [Act.put, List.setIfInBounds_toArray, List.set_cons_zero, List.set_cons_succ, i64_w, i32_w]
         rfl
        refine pure_ (i := 9) (N := some 31) (v := ?_) (a' := ?_) #[true, true, true, true, true, true, true, true, true, true, false, false, false] rfl rfl (any_of HT_.out (by kernel_rfl)) (fun _ _ _ h => h) (Or.inl ⟨by rfl, ?_⟩) ?_ ?_
        rotate_left
        ·intro w'
         go_simp
         with_reducible rfl
        rotate_left
        ·simp only [Act.put, List.setIfInBounds_toArray, List.set_cons_zero, List.set_cons_succ, i64_w, i32_w]
         rfl
        refine one_ (i := 10) (N := some 6) #[true, true, true, true, true, true, true, true, true, true, true, false, false] rfl rfl (one_of HT_.out (by kernel_rfl)) (by decide) (fun K hK => ?_)
        refine box_step ?hg (N := 6) ?hd (cs := #[.int .i64 0, .int .u64 0]) (t := 31) ?hr ?_; (case hd => rfl); (case hg => rfl); (case hr => first | (go_simp; done) | (go_simp; rfl))
        intro gb159 hg w40 hbox hb
        have n0_ := blkb BK149 hb
        have n1_ := blkb BK150 hb
        have n2_ := blkb BK151 hb
        have n3_ := belb HB hb
        have n4_ := Aside0.mk (hbox)
        have n5_ := bels HB hg
        have n6_ := bels HB hg
        have n7_ := blkl BK149 hg
        have n8_ := blkg BK149 hg
        have n9_ := blkl BK150 hg
        have n10_ := blkg BK150 hg
        have n11_ := blkl BK151 hg
        have n12_ := blkg BK151 hg
        clear BK149
        clear BK150
        clear BK151
        clear HB
        have BK149 := n0_
        have BK150 := n1_
        have BK151 := n2_
        have HB := n3_
        have BK159 := n4_
        have GW159 := n5_
        have GE159 := n6_
        have NB149_159 := n7_
        have NB159_149 := n8_
        have NB150_159 := n9_
        have NB159_150 := n10_
        have NB151_159 := n11_
        have NB159_151 := n12_
        clear n0_ n1_ n2_ n3_ n4_ n5_ n6_ n7_ n8_ n9_ n10_ n11_ n12_
        clear hb hbox hg
        refine hK.out _ _ ⟨(blk_cell BK149.out 0).trans rfl, (blk_cell BK149.out 1).trans rfl, (blk_cell BK149.out 2).trans rfl, (blk_cell BK149.out 3).trans rfl, (blk_cell BK149.out 4).trans rfl, (blk_cell BK150.out 0).trans rfl, (blk_cell BK150.out 1).trans rfl, (blk_cell BK150.out 2).trans rfl⟩ (fun hHeld => ?_)
        clear hK K
        refine norm_ (a' := ?_) ?_ ?_
        rotate_left
        ·show Act.put _ (some 6) _ = _
         simp only [Act.put, List.setIfInBounds_toArray, List.set_cons_zero, List.set_cons_succ, i64_w, i32_w]
         rfl
        exact norm_ (by simp only [putAll, Act.put, List.setIfInBounds_toArray, List.set_cons_zero, List.set_cons_succ]) (hCont (gb159) _ ⟨hHeld, (blkt BK149), (blkt BK150), (blkt BK151), (blkt BK159), GW159.out, GE159.out, NB149_159.out, NB159_149.out, NB150_159.out, NB159_150.out, NB151_159.out, NB159_151.out, (belt HB)⟩)
       ·skip
        refine box_step ?hg (N := 6) ?hd (cs := #[.int .i64 0, .int .u64 0]) (t := 31) ?hr ?_; (case hd => rfl); (case hg => rfl); (case hr => first | (go_simp; done) | (go_simp; rfl))
        intro gb159 hg w39 hbox hb
        have n0_ := blkb BK149 hb
        have n1_ := blkb BK150 hb
        have n2_ := blkb BK151 hb
        have n3_ := belb HB hb
        have n4_ := Aside0.mk (hbox)
        have n5_ := bels HB hg
        have n6_ := bels HB hg
        have n7_ := blkl BK149 hg
        have n8_ := blkg BK149 hg
        have n9_ := blkl BK150 hg
        have n10_ := blkg BK150 hg
        have n11_ := blkl BK151 hg
        have n12_ := blkg BK151 hg
        clear BK149
        clear BK150
        clear BK151
        clear HB
        have BK149 := n0_
        have BK150 := n1_
        have BK151 := n2_
        have HB := n3_
        have BK159 := n4_
        have GW159 := n5_
        have GE159 := n6_
        have NB149_159 := n7_
        have NB159_149 := n8_
        have NB150_159 := n9_
        have NB159_150 := n10_
        have NB151_159 := n11_
        have NB159_151 := n12_
        clear n0_ n1_ n2_ n3_ n4_ n5_ n6_ n7_ n8_ n9_ n10_ n11_ n12_
        clear hb hbox hg
        refine hK.out _ _ ⟨(blk_cell BK149.out 0).trans rfl, (blk_cell BK149.out 1).trans rfl, (blk_cell BK149.out 2).trans rfl, (blk_cell BK149.out 3).trans rfl, (blk_cell BK149.out 4).trans rfl, (blk_cell BK150.out 0).trans rfl, (blk_cell BK150.out 1).trans rfl, (blk_cell BK150.out 2).trans rfl⟩ (fun hHeld => ?_)
        clear hK K
        refine norm_ (a' := ?_) ?_ ?_
        rotate_left
        ·show Act.put _ (some 6) _ = _
         simp only [Act.put, List.setIfInBounds_toArray, List.set_cons_zero, List.set_cons_succ, i64_w, i32_w]
         rfl
        refine one_ (i := 6) (N := some 29) #[true, true, true, true, true, true, true, false, false, false, true, false, false] rfl rfl (one_of HT_.out (by kernel_rfl)) (by decide) (fun K hK => ?_)
        refine goes_ Tryz.func77 (by kernel_rfl) rfl #[.agg #[.int .i64 a0_1, .int .u64 a0_2], .agg #[.int .i64 t154, .int .u64 t155]] (by rfl) rfl rfl argt ?_
        with_reducible refine (wide_Int_Add.calls a0_1 a0_2 t154 t155 t156 t157 true _ A35.out).mono ?_
        rintro e w40 ⟨rfl, hb⟩
        refine ⟨_, rfl, ?_⟩
        have n0_ := blkb BK149 hb
        have n1_ := blkb BK150 hb
        have n2_ := blkb BK151 hb
        have n3_ := blkb BK159 hb
        have n4_ := belb HB hb
        clear BK149
        clear BK150
        clear BK151
        clear BK159
        clear HB
        have BK149 := n0_
        have BK150 := n1_
        have BK151 := n2_
        have BK159 := n3_
        have HB := n4_
        clear n0_ n1_ n2_ n3_ n4_
        (try clear hb)
        (try clear hb2)
        (try clear hk)
        (try clear hi)
        refine hK.out _ _ ⟨(blk_cell BK149.out 0).trans rfl, (blk_cell BK149.out 1).trans rfl, (blk_cell BK149.out 2).trans rfl, (blk_cell BK149.out 3).trans rfl, (blk_cell BK149.out 4).trans rfl, (blk_cell BK150.out 0).trans rfl, (blk_cell BK150.out 1).trans rfl, (blk_cell BK150.out 2).trans rfl⟩ (fun hHeld => ?_)
        clear hK K
        refine norm_ (a' := ?_) ?_ ?_
        rotate_left
        ·show Act.put _ (some 29) _ = _
         simp only [Act.put, List.setIfInBounds_toArray, List.set_cons_zero, List.set_cons_succ, i64_w, i32_w]
         rfl
        refine pure_ (i := 7) (N := some 22) (v := ?_) (a' := ?_) #[true, true, true, true, true, true, true, true, false, false, true, false, false] rfl rfl (any_of HT_.out (by kernel_rfl)) (fun _ _ _ h => h) (Or.inl ⟨by rfl, ?_⟩) ?_ ?_
        rotate_left
        ·intro w'
         go_simp
         with_reducible rfl
        rotate_left
        ·simp only [Act.put, List.setIfInBounds_toArray, List.set_cons_zero, List.set_cons_succ, i64_w, i32_w]
         rfl
        refine pure_ (i := 8) (N := some 30) (v := ?_) (a' := ?_) #[true, true, true, true, true, true, true, true, true, false, true, false, false] rfl rfl (any_of HT_.out (by kernel_rfl)) (fun _ _ _ h => h) (Or.inl ⟨by rfl, ?_⟩) ?_ ?_
        rotate_left
        ·intro w'
         go_simp
         with_reducible rfl
        rotate_left
        ·simp only [Act.put, List.setIfInBounds_toArray, List.set_cons_zero, List.set_cons_succ, i64_w, i32_w]
         rfl
        refine pure_ (i := 9) (N := some 31) (v := ?_) (a' := ?_) #[true, true, true, true, true, true, true, true, true, true, true, false, false] rfl rfl (any_of HT_.out (by kernel_rfl)) (fun _ _ _ h => h) (Or.inl ⟨by rfl, ?_⟩) ?_ ?_
        rotate_left
        ·intro w'
         go_simp
         with_reducible rfl
        rotate_left
        ·simp only [Act.put, List.setIfInBounds_toArray, List.set_cons_zero, List.set_cons_succ, i64_w, i32_w]
         rfl
        exact norm_ (by simp only [putAll, Act.put, List.setIfInBounds_toArray, List.set_cons_zero, List.set_cons_succ]) (hCont (gb159) _ ⟨hHeld, (blkt BK149), (blkt BK150), (blkt BK151), (blkt BK159), GW159.out, GE159.out, NB149_159.out, NB159_149.out, NB150_159.out, NB159_150.out, NB151_159.out, NB159_151.out, (belt HB)⟩)
      ·skip
       refine box_step ?hg (N := 6) ?hd (cs := #[.int .i64 0, .int .u64 0]) (t := 31) ?hr ?_; (case hd => rfl); (case hg => rfl); (case hr => first | (go_simp; done) | (go_simp; rfl))
       intro gb159 hg w38 hbox hb
       have n0_ := blkb BK149 hb
       have n1_ := blkb BK150 hb
       have n2_ := blkb BK151 hb
       have n3_ := belb HB hb
       have n4_ := Aside0.mk (hbox)
       have n5_ := bels HB hg
       have n6_ := bels HB hg
       have n7_ := blkl BK149 hg
       have n8_ := blkg BK149 hg
       have n9_ := blkl BK150 hg
       have n10_ := blkg BK150 hg
       have n11_ := blkl BK151 hg
       have n12_ := blkg BK151 hg
       clear BK149
       clear BK150
       clear BK151
       clear HB
       have BK149 := n0_
       have BK150 := n1_
       have BK151 := n2_
       have HB := n3_
       have BK159 := n4_
       have GW159 := n5_
       have GE159 := n6_
       have NB149_159 := n7_
       have NB159_149 := n8_
       have NB150_159 := n9_
       have NB159_150 := n10_
       have NB151_159 := n11_
       have NB159_151 := n12_
       clear n0_ n1_ n2_ n3_ n4_ n5_ n6_ n7_ n8_ n9_ n10_ n11_ n12_
       clear hb hbox hg
       refine hK.out _ _ ⟨(blk_cell BK149.out 0).trans rfl, (blk_cell BK149.out 1).trans rfl, (blk_cell BK149.out 2).trans rfl, (blk_cell BK149.out 3).trans rfl, (blk_cell BK149.out 4).trans rfl, (blk_cell BK150.out 0).trans rfl, (blk_cell BK150.out 1).trans rfl, (blk_cell BK150.out 2).trans rfl⟩ (fun hHeld => ?_)
       clear hK K
       refine norm_ (a' := ?_) ?_ ?_
       rotate_left
       ·show Act.put _ (some 6) _ = _
        simp only [Act.put, List.setIfInBounds_toArray, List.set_cons_zero, List.set_cons_succ, i64_w, i32_w]
        rfl
       refine one_ (i := 5) (N := some 28) #[true, true, true, true, true, true, false, false, false, false, true, false, false] rfl rfl (one_of HT_.out (by kernel_rfl)) (by decide) (fun K hK => ?_)
       refine goes_ Tryz.func54 (by kernel_rfl) rfl #[.agg #[.int .u64 a1_0, .int .u32 a1_1, .int .u32 a1_2], .int .u64 a0_0] (by rfl) rfl rfl argt ?_
       with_reducible refine (pos_Pos_Distance.calls kj2 a1_0 a1_1 a1_2 a0_0 t154 t155 _ A34.out).mono ?_
       rintro e w39 ⟨rfl, hb⟩
       refine ⟨_, rfl, ?_⟩
       have n0_ := blkb BK149 hb
       have n1_ := blkb BK150 hb
       have n2_ := blkb BK151 hb
       have n3_ := blkb BK159 hb
       have n4_ := belb HB hb
       clear BK149
       clear BK150
       clear BK151
       clear BK159
       clear HB
       have BK149 := n0_
       have BK150 := n1_
       have BK151 := n2_
       have BK159 := n3_
       have HB := n4_
       clear n0_ n1_ n2_ n3_ n4_
       (try clear hb)
       (try clear hb2)
       (try clear hk)
       (try clear hi)
       refine hK.out _ _ ⟨(blk_cell BK149.out 0).trans rfl, (blk_cell BK149.out 1).trans rfl, (blk_cell BK149.out 2).trans rfl, (blk_cell BK149.out 3).trans rfl, (blk_cell BK149.out 4).trans rfl, (blk_cell BK150.out 0).trans rfl, (blk_cell BK150.out 1).trans rfl, (blk_cell BK150.out 2).trans rfl⟩ (fun hHeld => ?_)
       clear hK K
       refine norm_ (a' := ?_) ?_ ?_
       rotate_left
       ·show Act.put _ (some 28) _ = _
        simp only [Act.put, List.setIfInBounds_toArray, List.set_cons_zero, List.set_cons_succ, i64_w, i32_w]
        rfl
       refine one_ (i := 6) (N := some 29) #[true, true, true, true, true, true, true, false, false, false, true, false, false] rfl rfl (one_of HT_.out (by kernel_rfl)) (by decide) (fun K hK => ?_)
       refine goes_ Tryz.func77 (by kernel_rfl) rfl #[.agg #[.int .i64 a0_1, .int .u64 a0_2], .agg #[.int .i64 t154, .int .u64 t155]] (by rfl) rfl rfl argt ?_
       with_reducible refine (wide_Int_Add.calls a0_1 a0_2 t154 t155 t156 t157 true _ A35.out).mono ?_
       rintro e w40 ⟨rfl, hb⟩
       refine ⟨_, rfl, ?_⟩
       have n0_ := blkb BK149 hb
       have n1_ := blkb BK150 hb
       have n2_ := blkb BK151 hb
       have n3_ := blkb BK159 hb
       have n4_ := belb HB hb
       clear BK149
       clear BK150
       clear BK151
       clear BK159
       clear HB
       have BK149 := n0_
       have BK150 := n1_
       have BK151 := n2_
       have BK159 := n3_
       have HB := n4_
       clear n0_ n1_ n2_ n3_ n4_
       (try clear hb)
       (try clear hb2)
       (try clear hk)
       (try clear hi)
       refine hK.out _ _ ⟨(blk_cell BK149.out 0).trans rfl, (blk_cell BK149.out 1).trans rfl, (blk_cell BK149.out 2).trans rfl, (blk_cell BK149.out 3).trans rfl, (blk_cell BK149.out 4).trans rfl, (blk_cell BK150.out 0).trans rfl, (blk_cell BK150.out 1).trans rfl, (blk_cell BK150.out 2).trans rfl⟩ (fun hHeld => ?_)
       clear hK K
       refine norm_ (a' := ?_) ?_ ?_
       rotate_left
       ·show Act.put _ (some 29) _ = _
        simp only [Act.put, List.setIfInBounds_toArray, List.set_cons_zero, List.set_cons_succ, i64_w, i32_w]
        rfl
       refine pure_ (i := 7) (N := some 22) (v := ?_) (a' := ?_) #[true, true, true, true, true, true, true, true, false, false, true, false, false] rfl rfl (any_of HT_.out (by kernel_rfl)) (fun _ _ _ h => h) (Or.inl ⟨by rfl, ?_⟩) ?_ ?_
       rotate_left
       ·intro w'
        go_simp
        with_reducible rfl
       rotate_left
       ·simp only [Act.put, List.setIfInBounds_toArray, List.set_cons_zero, List.set_cons_succ, i64_w, i32_w]
        rfl
       refine pure_ (i := 8) (N := some 30) (v := ?_) (a' := ?_) #[true, true, true, true, true, true, true, true, true, false, true, false, false] rfl rfl (any_of HT_.out (by kernel_rfl)) (fun _ _ _ h => h) (Or.inl ⟨by rfl, ?_⟩) ?_ ?_
       rotate_left
       ·intro w'
        go_simp
        with_reducible rfl
       rotate_left
       ·simp only [Act.put, List.setIfInBounds_toArray, List.set_cons_zero, List.set_cons_succ, i64_w, i32_w]
        rfl
       refine pure_ (i := 9) (N := some 31) (v := ?_) (a' := ?_) #[true, true, true, true, true, true, true, true, true, true, true, false, false] rfl rfl (any_of HT_.out (by kernel_rfl)) (fun _ _ _ h => h) (Or.inl ⟨by rfl, ?_⟩) ?_ ?_
       rotate_left
       ·intro w'
        go_simp
        with_reducible rfl
       rotate_left
       ·simp only [Act.put, List.setIfInBounds_toArray, List.set_cons_zero, List.set_cons_succ, i64_w, i32_w]
        rfl
       exact norm_ (by simp only [putAll, Act.put, List.setIfInBounds_toArray, List.set_cons_zero, List.set_cons_succ]) (hCont (gb159) _ ⟨hHeld, (blkt BK149), (blkt BK150), (blkt BK151), (blkt BK159), GW159.out, GE159.out, NB149_159.out, NB159_149.out, NB150_159.out, NB159_150.out, NB151_159.out, NB159_151.out, (belt HB)⟩)
     rintro gb159 w41 ⟨hS_, h0_, h1_, h2_, h3_, h4_, h5_, h6_, h7_, h8_, h9_, h10_, h11_, h12_⟩
     have n0_ : Aside0 (w41.heap[gb149]? = some (.cells #[.int .u64 a0_0, .int .i64 a0_1, .int .u64 a0_2, .int .u64 a0_3, .int .i64 a0_4] 33 (0, 0))) := ⟨h0_⟩
     have n1_ : Aside0 (w41.heap[gb150]? = some (.cells #[.int .u64 a1_0, .int .u32 a1_1, .int .u32 a1_2] 28 (0, 0))) := ⟨h1_⟩
     have n2_ : Aside0 (w41.heap[gb151]? = some (.cells #[.int .u64 0, .int .i64 0, .int .u64 0, .int .u64 0, .int .i64 0] 33 (0, 0))) := ⟨h2_⟩
     have n3_ : Aside0 (w41.heap[gb159]? = some (.cells #[.int .i64 0, .int .u64 0] 31 (0, 0))) := ⟨h3_⟩
     have n4_ : Aside0 (w.heap.size ≤ gb159) := ⟨h4_⟩
     have n5_ : Aside0 (w.heap.size ≤ gb159) := ⟨h5_⟩
     have n6_ : Aside0 (gb149 ≠ gb159) := ⟨h6_⟩
     have n7_ : Aside0 (gb159 ≠ gb149) := ⟨h7_⟩
     have n8_ : Aside0 (gb150 ≠ gb159) := ⟨h8_⟩
     have n9_ : Aside0 (gb159 ≠ gb150) := ⟨h9_⟩
     have n10_ : Aside0 (gb151 ≠ gb159) := ⟨h10_⟩
     have n11_ : Aside0 (gb159 ≠ gb151) := ⟨h11_⟩
     have n12_ : Aside0 (Below w.heap.size w w41) := ⟨h12_⟩
     clear BK149
     clear BK150
     clear BK151
     clear HB
     clear h0_ h1_ h2_ h3_ h4_ h5_ h6_ h7_ h8_ h9_ h10_ h11_ h12_
     have BK149 := n0_
     have BK150 := n1_
     have BK151 := n2_
     have BK159 := n3_
     have GW159 := n4_
     have GE159 := n5_
     have NB149_159 := n6_
     have NB159_149 := n7_
     have NB150_159 := n8_
     have NB159_150 := n9_
     have NB151_159 := n10_
     have NB159_151 := n11_
     have HB := n12_
     clear n0_ n1_ n2_ n3_ n4_ n5_ n6_ n7_ n8_ n9_ n10_ n11_ n12_
     have hHeld : w41.cell? ⟨gb149, 0, none⟩ = some (.int .u64 a0_0) ∧ w41.cell? ⟨gb149, 1, none⟩ = some (.int .i64 a0_1) ∧ w41.cell? ⟨gb149, 2, none⟩ = some (.int .u64 a0_2) ∧ w41.cell? ⟨gb149, 3, none⟩ = some (.int .u64 a0_3) ∧ w41.cell? ⟨gb149, 4, none⟩ = some (.int .i64 a0_4) ∧ w41.cell? ⟨gb150, 0, none⟩ = some (.int .u64 a1_0) ∧ w41.cell? ⟨gb150, 1, none⟩ = some (.int .u32 a1_1) ∧ w41.cell? ⟨gb150, 2, none⟩ = some (.int .u32 a1_2) := hS_
     refine norm_ (a' := ?_) ?_ ?_
     rotate_left
     ·simp only [putAll, Act.put, List.setIfInBounds_toArray, List.set_cons_zero, List.set_cons_succ]
      rfl
     refine one_ (i := 11) (N := none) #[true, true, true, true, true, true, true, true, true, true, true, true, false] rfl rfl (one_of HT_.out (by kernel_rfl)) (by decide) (fun K hK => ?_)
     have hs42 : w41.cell? ⟨gb159, 0, none⟩ = some (.int .i64 0) := (blk_cell BK159.out 0).trans rfl
     have hfs42 := blk_frozen BK159.out 0
     have hns42_0 := NB149_159.out
     have hns42_1 := NB150_159.out
     have hns42_2 := NB151_159.out
     have hms42_0 := NB159_149.out
     have hms42_1 := NB159_150.out
     have hms42_2 := NB159_151.out
     have hs43 : w41.cell? ⟨gb159, 1, none⟩ = some (.int .u64 0) := (blk_cell BK159.out 1).trans rfl
     have hfs43 := blk_frozen BK159.out 1
     have hns43_0 := NB149_159.out
     have hns43_1 := NB150_159.out
     have hns43_2 := NB151_159.out
     have hms43_0 := NB159_149.out
     have hms43_1 := NB159_150.out
     have hms43_2 := NB159_151.out
     refine skip_ (w1 := ?_) (by rfl) rfl ?_ ?_
     rotate_left
     ·go_simp
      rfl
     refine hK.out _ _ ⟨((cell_far (p := ⟨gb159, _, none⟩) NB149_159.out _).trans (((cell_far (p := ⟨gb159, _, none⟩) NB149_159.out _).trans (hHeld.1)))), ((cell_far (p := ⟨gb159, _, none⟩) NB149_159.out _).trans (((cell_far (p := ⟨gb159, _, none⟩) NB149_159.out _).trans (hHeld.2.1)))), ((cell_far (p := ⟨gb159, _, none⟩) NB149_159.out _).trans (((cell_far (p := ⟨gb159, _, none⟩) NB149_159.out _).trans (hHeld.2.2.1)))), ((cell_far (p := ⟨gb159, _, none⟩) NB149_159.out _).trans (((cell_far (p := ⟨gb159, _, none⟩) NB149_159.out _).trans (hHeld.2.2.2.1)))), ((cell_far (p := ⟨gb159, _, none⟩) NB149_159.out _).trans (((cell_far (p := ⟨gb159, _, none⟩) NB149_159.out _).trans (hHeld.2.2.2.2.1)))), ((cell_far (p := ⟨gb159, _, none⟩) NB150_159.out _).trans (((cell_far (p := ⟨gb159, _, none⟩) NB150_159.out _).trans (hHeld.2.2.2.2.2.1)))), ((cell_far (p := ⟨gb159, _, none⟩) NB150_159.out _).trans (((cell_far (p := ⟨gb159, _, none⟩) NB150_159.out _).trans (hHeld.2.2.2.2.2.2.1)))), ((cell_far (p := ⟨gb159, _, none⟩) NB150_159.out _).trans (((cell_far (p := ⟨gb159, _, none⟩) NB150_159.out _).trans (hHeld.2.2.2.2.2.2.2))))⟩ (fun hHeld => ?_)
     clear hK K
     refine pure_ (i := 12) (N := some 7) (v := ?_) (a' := ?_) #[true, true, true, true, true, true, true, true, true, true, true, true, true] rfl rfl (any_of HT_.out (by kernel_rfl)) (fun _ _ _ h => h) (Or.inl ⟨by rfl, ?_⟩) ?_ ?_
     rotate_left
     ·intro w'
      go_simp
      with_reducible rfl
     rotate_left
     ·simp only [Act.put, List.setIfInBounds_toArray, List.set_cons_zero, List.set_cons_succ, i64_w, i32_w]
      rfl
     refine done_ (done_of HT_.out (by kernel_rfl)) ?_
     have hnb44 := NB149_150.out
     have hnc44 := NB150_149.out
     have hnb45 := NB149_151.out
     have hnc45 := NB151_149.out
     have hnb46 := NB149_159.out
     have hnc46 := NB159_149.out
     have hcz47_0 : w41.cell? ⟨gb149, 0, none⟩ = some (.int .u64 a0_0) := (blk_cell BK149.out 0).trans rfl
     have hcz47_1 : w41.cell? ⟨gb149, 1, none⟩ = some (.int .i64 a0_1) := (blk_cell BK149.out 1).trans rfl
     have hcz47_2 : w41.cell? ⟨gb149, 2, none⟩ = some (.int .u64 a0_2) := (blk_cell BK149.out 2).trans rfl
     have hcz47_3 : w41.cell? ⟨gb149, 3, none⟩ = some (.int .u64 a0_3) := (blk_cell BK149.out 3).trans rfl
     have hcz47_4 : w41.cell? ⟨gb149, 4, none⟩ = some (.int .i64 a0_4) := (blk_cell BK149.out 4).trans rfl
     have hfz47_0 := blk_frozen BK149.out 0
     have hfz47_1 := blk_frozen BK149.out 1
     have hfz47_2 := blk_frozen BK149.out 2
     have hfz47_3 := blk_frozen BK149.out 3
     have hfz47_4 := blk_frozen BK149.out 4
     have hnb48 := NB159_150.out
     have hnc48 := NB150_159.out
     have hnb49 := NB159_151.out
     have hnc49 := NB151_159.out
     have hcz50_0 : w41.cell? ⟨gb159, 0, none⟩ = some (.int .i64 0) := (blk_cell BK159.out 0).trans rfl
     have hcz50_1 : w41.cell? ⟨gb159, 1, none⟩ = some (.int .u64 0) := (blk_cell BK159.out 1).trans rfl
     have hfz50_0 := blk_frozen BK159.out 0
     have hfz50_1 := blk_frozen BK159.out 1
     have hnb51 := NB150_151.out
     have hnc51 := NB151_150.out
     have hcz52_0 : w41.cell? ⟨gb150, 0, none⟩ = some (.int .u64 a1_0) := (blk_cell BK150.out 0).trans rfl
     have hcz52_1 : w41.cell? ⟨gb150, 1, none⟩ = some (.int .u32 a1_1) := (blk_cell BK150.out 1).trans rfl
     have hcz52_2 : w41.cell? ⟨gb150, 2, none⟩ = some (.int .u32 a1_2) := (blk_cell BK150.out 2).trans rfl
     have hfz52_0 := blk_frozen BK150.out 0
     have hfz52_1 := blk_frozen BK150.out 1
     have hfz52_2 := blk_frozen BK150.out 2
     have hcz53_0 : w41.cell? ⟨gb151, 0, none⟩ = some (.int .u64 0) := (blk_cell BK151.out 0).trans rfl
     have hcz53_1 : w41.cell? ⟨gb151, 1, none⟩ = some (.int .i64 0) := (blk_cell BK151.out 1).trans rfl
     have hcz53_2 : w41.cell? ⟨gb151, 2, none⟩ = some (.int .u64 0) := (blk_cell BK151.out 2).trans rfl
     have hcz53_3 : w41.cell? ⟨gb151, 3, none⟩ = some (.int .u64 0) := (blk_cell BK151.out 3).trans rfl
     have hcz53_4 : w41.cell? ⟨gb151, 4, none⟩ = some (.int .i64 0) := (blk_cell BK151.out 4).trans rfl
     have hfz53_0 := blk_frozen BK151.out 0
     have hfz53_1 := blk_frozen BK151.out 1
     have hfz53_2 := blk_frozen BK151.out 2
     have hfz53_3 := blk_frozen BK151.out 3
     have hfz53_4 := blk_frozen BK151.out 4
     try go_wp2
     refine bodyPost_ret (results_ct rfl _ _ gb151 33 #[.int .u64 a0_0, .int .i64 t156, .int .u64 t157, .int .u64 (IntKind.u64.wrap (a0_3 + (IntKind.u64.wrap (a1_2)))), .int .i64 (wrap64 (a0_4 + 1))] (0, 0) _ rfl (by (with_reducible repeat (first | refine blk_drewN ?_ _ | refine blk_drew ?_ | refine blk_alloc ?_ _)); refine blk_put (cs := #[.int .u64 a0_0, .int .i64 t156, .int .u64 t157, .int .u64 (IntKind.u64.wrap (a0_3 + (IntKind.u64.wrap (a1_2)))), .int .i64 0]) ?_ 4 _ rfl; (with_reducible repeat (first | refine blk_drewN ?_ _ | refine blk_drew ?_ | refine blk_alloc ?_ _)); refine blk_put (cs := #[.int .u64 a0_0, .int .i64 t156, .int .u64 t157, .int .u64 0, .int .i64 0]) ?_ 3 _ rfl; (with_reducible repeat (first | refine blk_drewN ?_ _ | refine blk_drew ?_ | refine blk_alloc ?_ _)); refine blk_put (cs := #[.int .u64 a0_0, .int .i64 t156, .int .u64 0, .int .u64 0, .int .i64 0]) ?_ 2 _ rfl; (with_reducible repeat (first | refine blk_drewN ?_ _ | refine blk_drew ?_ | refine blk_alloc ?_ _)); refine blk_put (cs := #[.int .u64 a0_0, .int .i64 0, .int .u64 0, .int .u64 0, .int .i64 0]) ?_ 1 _ rfl; (with_reducible repeat (first | refine blk_drewN ?_ _ | refine blk_drew ?_ | refine blk_alloc ?_ _)); refine blk_put (cs := #[.int .u64 0, .int .i64 0, .int .u64 0, .int .u64 0, .int .i64 0]) ?_ 0 _ rfl; (with_reducible repeat (first | refine blk_drewN ?_ _ | refine blk_drew ?_ | refine blk_alloc ?_ _)); refine blk_far ?_ NB151_159.out _; (with_reducible repeat (first | refine blk_drewN ?_ _ | refine blk_drew ?_ | refine blk_alloc ?_ _)); refine blk_far ?_ NB151_159.out _; (with_reducible repeat (first | refine blk_drewN ?_ _ | refine blk_drew ?_ | refine blk_alloc ?_ _)); exact BK151.out) Tryz.underlying33 rfl (by kernel_rfl)) rfl ?_
     exact ⟨by first | rfl | (simp [errW_none, errW_some] <;> rfl) | (simp [*, errW_none, errW_some] <;> rfl), by repeat (first | (with_reducible first | exact HB.out | apply below_alloc | apply pw_below_drewN | apply below_drew1 | refine below_set ?_ GE149.out | refine below_set ?_ GE150.out | refine below_set ?_ GE151.out | refine below_set ?_ GE159.out) | exact HB.out)⟩
    ·replace c36 := Bool.eq_false_iff.mpr c36
     subst c36
     have H1 : (some (0, 0, 0, 0, 0, false)) = some (r1, r2, r3, r4, r5, r6) := by rw [if_neg (show ¬ (false = true) by decide)] at H; exact H
     clear H
     have H := H1
     clear H1
     simp only [Option.some.injEq, Prod.mk.injEq] at H
     obtain ⟨rfl, rfl, rfl, rfl, rfl, rfl⟩ := H
     try go_wp2
     have n0_ := Aside0.mk (blk_drew BK149.out)
     have n1_ := Aside0.mk (blk_drew BK150.out)
     have n2_ := Aside0.mk (blk_drew BK151.out)
     have n3_ := Aside0.mk (below_drew1 HB.out)
     clear BK149
     clear BK150
     clear BK151
     clear HB
     have BK149 := n0_
     have BK150 := n1_
     have BK151 := n2_
     have HB := n3_
     clear n0_ n1_ n2_ n3_
     refine start_ (n := 13) (S := fun w' => w'.cell? ⟨gb149, 0, none⟩ = some (.int .u64 a0_0) ∧ w'.cell? ⟨gb149, 1, none⟩ = some (.int .i64 a0_1) ∧ w'.cell? ⟨gb149, 2, none⟩ = some (.int .u64 a0_2) ∧ w'.cell? ⟨gb149, 3, none⟩ = some (.int .u64 a0_3) ∧ w'.cell? ⟨gb149, 4, none⟩ = some (.int .i64 a0_4) ∧ w'.cell? ⟨gb150, 0, none⟩ = some (.int .u64 a1_0) ∧ w'.cell? ⟨gb150, 1, none⟩ = some (.int .u32 a1_1) ∧ w'.cell? ⟨gb150, 2, none⟩ = some (.int .u32 a1_2)) (ds := []) #[false, false, false, false, false, false, false, false, false, false, false, false, false] (by kernel_rfl) rfl rfl ⟨(blk_cell BK149.out 0).trans rfl, (blk_cell BK149.out 1).trans rfl, (blk_cell BK149.out 2).trans rfl, (blk_cell BK149.out 3).trans rfl, (blk_cell BK149.out 4).trans rfl, (blk_cell BK150.out 0).trans rfl, (blk_cell BK150.out 1).trans rfl, (blk_cell BK150.out 2).trans rfl⟩ (fun hHeld => ?_); refine with_tabW mean_Mean_Add.tab3 mean_Mean_Add.bits3 (fun HT_ HW_ => ?_)
     generalize wc.drew = w54 at BK149 BK150 BK151 HB hHeld ⊢
     refine pure_ (i := 0) (N := some 23) (v := ?_) (a' := ?_) #[true, false, false, false, false, false, false, false, false, false, false, false, false] rfl rfl (any_of HT_.out (by kernel_rfl)) (fun _ _ _ h => h) (Or.inl ⟨by rfl, ?_⟩) ?_ ?_
     rotate_left
     ·intro w'
      go_simp
      with_reducible rfl
     rotate_left
     ·simp only [Act.put, List.setIfInBounds_toArray, List.set_cons_zero, List.set_cons_succ, i64_w, i32_w]
      rfl
     refine pure_ (i := 3) (N := some 26) (v := ?_) (a' := ?_) #[true, false, false, true, false, false, false, false, false, false, false, false, false] rfl rfl (any_of HT_.out (by kernel_rfl)) (fun _ _ _ h => h) (Or.inl ⟨by rfl, ?_⟩) ?_ ?_
     rotate_left
     ·intro w'
      go_simp
      with_reducible rfl
     rotate_left
     ·simp only [Act.put, List.setIfInBounds_toArray, List.set_cons_zero, List.set_cons_succ, i64_w, i32_w]
      rfl
     refine take_ (i := 1) (N := some 24) (v := ?_) (a' := ?_) #[true, true, false, true, false, false, false, false, false, false, false, false, false] rfl rfl (take_ofW HT_.out HW_.out (by kernel_rfl)) (fun _ _ _ h => h) (Or.inl ⟨by rfl, ?_⟩) hHeld ?_ ?_
     rotate_left
     ·rintro w' ⟨s0, s1, s2, s3, s4, s5, s6, s7⟩
      go_simp
      with_reducible rfl
     rotate_left
     ·simp only [Act.put, List.setIfInBounds_toArray, List.set_cons_zero, List.set_cons_succ, i64_w, i32_w]
      rfl
     refine take_ (i := 2) (N := some 25) (v := ?_) (a' := ?_) #[true, true, true, true, false, false, false, false, false, false, false, false, false] rfl rfl (take_ofW HT_.out HW_.out (by kernel_rfl)) (fun _ _ _ h => h) (Or.inl ⟨by rfl, ?_⟩) hHeld ?_ ?_
     rotate_left
     ·rintro w' ⟨s0, s1, s2, s3, s4, s5, s6, s7⟩
      go_simp
      with_reducible rfl
     rotate_left
     ·simp only [Act.put, List.setIfInBounds_toArray, List.set_cons_zero, List.set_cons_succ, i64_w, i32_w]
      rfl
     refine take_ (i := 4) (N := some 27) (v := ?_) (a' := ?_) #[true, true, true, true, true, false, false, false, false, false, false, false, false] rfl rfl (take_ofW HT_.out HW_.out (by kernel_rfl)) (fun _ _ _ h => h) (Or.inl ⟨by rfl, ?_⟩) hHeld ?_ ?_
     rotate_left
     ·rintro w' ⟨s0, s1, s2, s3, s4, s5, s6, s7⟩
      go_simp
      with_reducible rfl
     rotate_left
     ·simp only [Act.put, List.setIfInBounds_toArray, List.set_cons_zero, List.set_cons_succ, i64_w, i32_w]
      rfl
     refine join_ (σ := Nat) 2 #[true, true, true, true, true, true, true, true, true, true, true, false, false] (fun s_ => [(28, .agg #[.int .i64 t154, .int .u64 t155]), (29, .tuple #[.agg #[.int .i64 t156, .int .u64 t157], .bool false]), (6, .pointer (some ⟨s_, 0, none⟩)), (22, .tuple #[.agg #[.int .i64 t156, .int .u64 t157], .bool false]), (30, .agg #[.int .i64 t156, .int .u64 t157]), (31, .bool false)]) (fun s_ w' => (w'.cell? ⟨gb149, 0, none⟩ = some (.int .u64 a0_0) ∧ w'.cell? ⟨gb149, 1, none⟩ = some (.int .i64 a0_1) ∧ w'.cell? ⟨gb149, 2, none⟩ = some (.int .u64 a0_2) ∧ w'.cell? ⟨gb149, 3, none⟩ = some (.int .u64 a0_3) ∧ w'.cell? ⟨gb149, 4, none⟩ = some (.int .i64 a0_4) ∧ w'.cell? ⟨gb150, 0, none⟩ = some (.int .u64 a1_0) ∧ w'.cell? ⟨gb150, 1, none⟩ = some (.int .u32 a1_1) ∧ w'.cell? ⟨gb150, 2, none⟩ = some (.int .u32 a1_2)) ∧ (w'.heap[gb149]? = some (.cells #[.int .u64 a0_0, .int .i64 a0_1, .int .u64 a0_2, .int .u64 a0_3, .int .i64 a0_4] 33 (0, 0))) ∧ (w'.heap[gb150]? = some (.cells #[.int .u64 a1_0, .int .u32 a1_1, .int .u32 a1_2] 28 (0, 0))) ∧ (w'.heap[gb151]? = some (.cells #[.int .u64 0, .int .i64 0, .int .u64 0, .int .u64 0, .int .i64 0] 33 (0, 0))) ∧ (w'.heap[s_]? = some (.cells #[.int .i64 0, .int .u64 0] 31 (0, 0))) ∧ (w.heap.size ≤ s_) ∧ (w.heap.size ≤ s_) ∧ (gb149 ≠ s_) ∧ (s_ ≠ gb149) ∧ (gb150 ≠ s_) ∧ (s_ ≠ gb150) ∧ (gb151 ≠ s_) ∧ (s_ ≠ gb151) ∧ (Below w.heap.size w w')) ?_ ?_
     rotate_left
     ·intro hCont
      refine two_ (i := 5) (j := 10) (Ni := some 28) (Nj := some 6) #[true, true, true, true, true, true, false, false, false, false, false, false, false] #[true, true, true, true, true, false, false, false, false, false, true, false, false] rfl rfl rfl rfl (two_of HT_.out (by kernel_rfl)) (by decide) (by decide) (fun K hK => ?_) (fun K hK => ?_)
      ·skip
       refine goes_ Tryz.func54 (by kernel_rfl) rfl #[.agg #[.int .u64 a1_0, .int .u32 a1_1, .int .u32 a1_2], .int .u64 a0_0] (by rfl) rfl rfl argt ?_
       with_reducible refine (pos_Pos_Distance.calls kj2 a1_0 a1_1 a1_2 a0_0 t154 t155 _ A34.out).mono ?_
       rintro e w55 ⟨rfl, hb⟩
       refine ⟨_, rfl, ?_⟩
       have n0_ := blkb BK149 hb
       have n1_ := blkb BK150 hb
       have n2_ := blkb BK151 hb
       have n3_ := belb HB hb
       clear BK149
       clear BK150
       clear BK151
       clear HB
       have BK149 := n0_
       have BK150 := n1_
       have BK151 := n2_
       have HB := n3_
       clear n0_ n1_ n2_ n3_
       (try clear hb)
       (try clear hb2)
       (try clear hk)
       (try clear hi)
       refine hK.out _ _ ⟨(blk_cell BK149.out 0).trans rfl, (blk_cell BK149.out 1).trans rfl, (blk_cell BK149.out 2).trans rfl, (blk_cell BK149.out 3).trans rfl, (blk_cell BK149.out 4).trans rfl, (blk_cell BK150.out 0).trans rfl, (blk_cell BK150.out 1).trans rfl, (blk_cell BK150.out 2).trans rfl⟩ (fun hHeld => ?_)
       clear hK K
       refine norm_ (a' := ?_) ?_ ?_
       rotate_left
       ·show Act.put _ (some 28) _ = _
        simp only [Act.put, List.setIfInBounds_toArray, List.set_cons_zero, List.set_cons_succ, i64_w, i32_w]
        rfl
       refine two_ (i := 6) (j := 10) (Ni := some 29) (Nj := some 6) #[true, true, true, true, true, true, true, false, false, false, false, false, false] #[true, true, true, true, true, true, false, false, false, false, true, false, false] rfl rfl rfl rfl (two_of HT_.out (by kernel_rfl)) (by decide) (by decide) (fun K hK => ?_) (fun K hK => ?_)
       ·skip
        refine goes_ Tryz.func77 (by kernel_rfl) rfl #[.agg #[.int .i64 a0_1, .int .u64 a0_2], .agg #[.int .i64 t154, .int .u64 t155]] (by rfl) rfl rfl argt ?_
        with_reducible refine (wide_Int_Add.calls a0_1 a0_2 t154 t155 t156 t157 false _ A35.out).mono ?_
        rintro e w56 ⟨rfl, hb⟩
        refine ⟨_, rfl, ?_⟩
        have n0_ := blkb BK149 hb
        have n1_ := blkb BK150 hb
        have n2_ := blkb BK151 hb
        have n3_ := belb HB hb
        clear BK149
        clear BK150
        clear BK151
        clear HB
        have BK149 := n0_
        have BK150 := n1_
        have BK151 := n2_
        have HB := n3_
        clear n0_ n1_ n2_ n3_
        (try clear hb)
        (try clear hb2)
        (try clear hk)
        (try clear hi)
        refine hK.out _ _ ⟨(blk_cell BK149.out 0).trans rfl, (blk_cell BK149.out 1).trans rfl, (blk_cell BK149.out 2).trans rfl, (blk_cell BK149.out 3).trans rfl, (blk_cell BK149.out 4).trans rfl, (blk_cell BK150.out 0).trans rfl, (blk_cell BK150.out 1).trans rfl, (blk_cell BK150.out 2).trans rfl⟩ (fun hHeld => ?_)
        clear hK K
        refine norm_ (a' := ?_) ?_ ?_
        rotate_left
        ·show Act.put _ (some 29) _ = _
         simp only [Act.put, List.setIfInBounds_toArray, List.set_cons_zero, List.set_cons_succ, i64_w, i32_w]
         rfl
        refine pure_ (i := 7) (N := some 22) (v := ?_) (a' := ?_) #[true, true, true, true, true, true, true, true, false, false, false, false, false] rfl rfl (any_of HT_.out (by kernel_rfl)) (fun _ _ _ h => h) (Or.inl ⟨by rfl, ?_⟩) ?_ ?_
        rotate_left
        ·intro w'
         go_simp
         with_reducible rfl
        rotate_left
        ·simp only [Act.put, List.setIfInBounds_toArray, List.set_cons_zero, List.set_cons_succ, i64_w, i32_w]
         rfl
        refine pure_ (i := 8) (N := some 30) (v := ?_) (a' := ?_) #[true, true, true, true, true, true, true, true, true, false, false, false, false] rfl rfl (any_of HT_.out (by kernel_rfl)) (fun _ _ _ h => h) (Or.inl ⟨by rfl, ?_⟩) ?_ ?_
        rotate_left
        ·intro w'
         go_simp
         with_reducible rfl
        rotate_left
        ·simp only [Act.put, List.setIfInBounds_toArray, List.set_cons_zero, List.set_cons_succ, i64_w, i32_w]
         rfl
        refine pure_ (i := 9) (N := some 31) (v := ?_) (a' := ?_) #[true, true, true, true, true, true, true, true, true, true, false, false, false] rfl rfl (any_of HT_.out (by kernel_rfl)) (fun _ _ _ h => h) (Or.inl ⟨by rfl, ?_⟩) ?_ ?_
        rotate_left
        ·intro w'
         go_simp
         with_reducible rfl
        rotate_left
        ·simp only [Act.put, List.setIfInBounds_toArray, List.set_cons_zero, List.set_cons_succ, i64_w, i32_w]
         rfl
        refine one_ (i := 10) (N := some 6) #[true, true, true, true, true, true, true, true, true, true, true, false, false] rfl rfl (one_of HT_.out (by kernel_rfl)) (by decide) (fun K hK => ?_)
        refine box_step ?hg (N := 6) ?hd (cs := #[.int .i64 0, .int .u64 0]) (t := 31) ?hr ?_; (case hd => rfl); (case hg => rfl); (case hr => first | (go_simp; done) | (go_simp; rfl))
        intro gb159 hg w57 hbox hb
        have n0_ := blkb BK149 hb
        have n1_ := blkb BK150 hb
        have n2_ := blkb BK151 hb
        have n3_ := belb HB hb
        have n4_ := Aside0.mk (hbox)
        have n5_ := bels HB hg
        have n6_ := bels HB hg
        have n7_ := blkl BK149 hg
        have n8_ := blkg BK149 hg
        have n9_ := blkl BK150 hg
        have n10_ := blkg BK150 hg
        have n11_ := blkl BK151 hg
        have n12_ := blkg BK151 hg
        clear BK149
        clear BK150
        clear BK151
        clear HB
        have BK149 := n0_
        have BK150 := n1_
        have BK151 := n2_
        have HB := n3_
        have BK159 := n4_
        have GW159 := n5_
        have GE159 := n6_
        have NB149_159 := n7_
        have NB159_149 := n8_
        have NB150_159 := n9_
        have NB159_150 := n10_
        have NB151_159 := n11_
        have NB159_151 := n12_
        clear n0_ n1_ n2_ n3_ n4_ n5_ n6_ n7_ n8_ n9_ n10_ n11_ n12_
        clear hb hbox hg
        refine hK.out _ _ ⟨(blk_cell BK149.out 0).trans rfl, (blk_cell BK149.out 1).trans rfl, (blk_cell BK149.out 2).trans rfl, (blk_cell BK149.out 3).trans rfl, (blk_cell BK149.out 4).trans rfl, (blk_cell BK150.out 0).trans rfl, (blk_cell BK150.out 1).trans rfl, (blk_cell BK150.out 2).trans rfl⟩ (fun hHeld => ?_)
        clear hK K
        refine norm_ (a' := ?_) ?_ ?_
        rotate_left
        ·show Act.put _ (some 6) _ = _
         simp only [Act.put, List.setIfInBounds_toArray, List.set_cons_zero, List.set_cons_succ, i64_w, i32_w]
         rfl
        exact norm_ (by simp only [putAll, Act.put, List.setIfInBounds_toArray, List.set_cons_zero, List.set_cons_succ]) (hCont (gb159) _ ⟨hHeld, (blkt BK149), (blkt BK150), (blkt BK151), (blkt BK159), GW159.out, GE159.out, NB149_159.out, NB159_149.out, NB150_159.out, NB159_150.out, NB151_159.out, NB159_151.out, (belt HB)⟩)
       ·skip
        refine box_step ?hg (N := 6) ?hd (cs := #[.int .i64 0, .int .u64 0]) (t := 31) ?hr ?_; (case hd => rfl); (case hg => rfl); (case hr => first | (go_simp; done) | (go_simp; rfl))
        intro gb159 hg w56 hbox hb
        have n0_ := blkb BK149 hb
        have n1_ := blkb BK150 hb
        have n2_ := blkb BK151 hb
        have n3_ := belb HB hb
        have n4_ := Aside0.mk (hbox)
        have n5_ := bels HB hg
        have n6_ := bels HB hg
        have n7_ := blkl BK149 hg
        have n8_ := blkg BK149 hg
        have n9_ := blkl BK150 hg
        have n10_ := blkg BK150 hg
        have n11_ := blkl BK151 hg
        have n12_ := blkg BK151 hg
        clear BK149
        clear BK150
        clear BK151
        clear HB
        have BK149 := n0_
        have BK150 := n1_
        have BK151 := n2_
        have HB := n3_
        have BK159 := n4_
        have GW159 := n5_
        have GE159 := n6_
        have NB149_159 := n7_
        have NB159_149 := n8_
        have NB150_159 := n9_
        have NB159_150 := n10_
        have NB151_159 := n11_
        have NB159_151 := n12_
        clear n0_ n1_ n2_ n3_ n4_ n5_ n6_ n7_ n8_ n9_ n10_ n11_ n12_
        clear hb hbox hg
        refine hK.out _ _ ⟨(blk_cell BK149.out 0).trans rfl, (blk_cell BK149.out 1).trans rfl, (blk_cell BK149.out 2).trans rfl, (blk_cell BK149.out 3).trans rfl, (blk_cell BK149.out 4).trans rfl, (blk_cell BK150.out 0).trans rfl, (blk_cell BK150.out 1).trans rfl, (blk_cell BK150.out 2).trans rfl⟩ (fun hHeld => ?_)
        clear hK K
        refine norm_ (a' := ?_) ?_ ?_
        rotate_left
        ·show Act.put _ (some 6) _ = _
         simp only [Act.put, List.setIfInBounds_toArray, List.set_cons_zero, List.set_cons_succ, i64_w, i32_w]
         rfl
        refine one_ (i := 6) (N := some 29) #[true, true, true, true, true, true, true, false, false, false, true, false, false] rfl rfl (one_of HT_.out (by kernel_rfl)) (by decide) (fun K hK => ?_)
        refine goes_ Tryz.func77 (by kernel_rfl) rfl #[.agg #[.int .i64 a0_1, .int .u64 a0_2], .agg #[.int .i64 t154, .int .u64 t155]] (by rfl) rfl rfl argt ?_
        with_reducible refine (wide_Int_Add.calls a0_1 a0_2 t154 t155 t156 t157 false _ A35.out).mono ?_
        rintro e w57 ⟨rfl, hb⟩
        refine ⟨_, rfl, ?_⟩
        have n0_ := blkb BK149 hb
        have n1_ := blkb BK150 hb
        have n2_ := blkb BK151 hb
        have n3_ := blkb BK159 hb
        have n4_ := belb HB hb
        clear BK149
        clear BK150
        clear BK151
        clear BK159
        clear HB
        have BK149 := n0_
        have BK150 := n1_
        have BK151 := n2_
        have BK159 := n3_
        have HB := n4_
        clear n0_ n1_ n2_ n3_ n4_
        (try clear hb)
        (try clear hb2)
        (try clear hk)
        (try clear hi)
        refine hK.out _ _ ⟨(blk_cell BK149.out 0).trans rfl, (blk_cell BK149.out 1).trans rfl, (blk_cell BK149.out 2).trans rfl, (blk_cell BK149.out 3).trans rfl, (blk_cell BK149.out 4).trans rfl, (blk_cell BK150.out 0).trans rfl, (blk_cell BK150.out 1).trans rfl, (blk_cell BK150.out 2).trans rfl⟩ (fun hHeld => ?_)
        clear hK K
        refine norm_ (a' := ?_) ?_ ?_
        rotate_left
        ·show Act.put _ (some 29) _ = _
         simp only [Act.put, List.setIfInBounds_toArray, List.set_cons_zero, List.set_cons_succ, i64_w, i32_w]
         rfl
        refine pure_ (i := 7) (N := some 22) (v := ?_) (a' := ?_) #[true, true, true, true, true, true, true, true, false, false, true, false, false] rfl rfl (any_of HT_.out (by kernel_rfl)) (fun _ _ _ h => h) (Or.inl ⟨by rfl, ?_⟩) ?_ ?_
        rotate_left
        ·intro w'
         go_simp
         with_reducible rfl
        rotate_left
        ·simp only [Act.put, List.setIfInBounds_toArray, List.set_cons_zero, List.set_cons_succ, i64_w, i32_w]
         rfl
        refine pure_ (i := 8) (N := some 30) (v := ?_) (a' := ?_) #[true, true, true, true, true, true, true, true, true, false, true, false, false] rfl rfl (any_of HT_.out (by kernel_rfl)) (fun _ _ _ h => h) (Or.inl ⟨by rfl, ?_⟩) ?_ ?_
        rotate_left
        ·intro w'
         go_simp
         with_reducible rfl
        rotate_left
        ·simp only [Act.put, List.setIfInBounds_toArray, List.set_cons_zero, List.set_cons_succ, i64_w, i32_w]
         rfl
        refine pure_ (i := 9) (N := some 31) (v := ?_) (a' := ?_) #[true, true, true, true, true, true, true, true, true, true, true, false, false] rfl rfl (any_of HT_.out (by kernel_rfl)) (fun _ _ _ h => h) (Or.inl ⟨by rfl, ?_⟩) ?_ ?_
        rotate_left
        ·intro w'
         go_simp
         with_reducible rfl
        rotate_left
        ·simp only [Act.put, List.setIfInBounds_toArray, List.set_cons_zero, List.set_cons_succ, i64_w, i32_w]
         rfl
        exact norm_ (by simp only [putAll, Act.put, List.setIfInBounds_toArray, List.set_cons_zero, List.set_cons_succ]) (hCont (gb159) _ ⟨hHeld, (blkt BK149), (blkt BK150), (blkt BK151), (blkt BK159), GW159.out, GE159.out, NB149_159.out, NB159_149.out, NB150_159.out, NB159_150.out, NB151_159.out, NB159_151.out, (belt HB)⟩)
      ·skip
       refine box_step ?hg (N := 6) ?hd (cs := #[.int .i64 0, .int .u64 0]) (t := 31) ?hr ?_; (case hd => rfl); (case hg => rfl); (case hr => first | (go_simp; done) | (go_simp; rfl))
       intro gb159 hg w55 hbox hb
       have n0_ := blkb BK149 hb
       have n1_ := blkb BK150 hb
       have n2_ := blkb BK151 hb
       have n3_ := belb HB hb
       have n4_ := Aside0.mk (hbox)
       have n5_ := bels HB hg
       have n6_ := bels HB hg
       have n7_ := blkl BK149 hg
       have n8_ := blkg BK149 hg
       have n9_ := blkl BK150 hg
       have n10_ := blkg BK150 hg
       have n11_ := blkl BK151 hg
       have n12_ := blkg BK151 hg
       clear BK149
       clear BK150
       clear BK151
       clear HB
       have BK149 := n0_
       have BK150 := n1_
       have BK151 := n2_
       have HB := n3_
       have BK159 := n4_
       have GW159 := n5_
       have GE159 := n6_
       have NB149_159 := n7_
       have NB159_149 := n8_
       have NB150_159 := n9_
       have NB159_150 := n10_
       have NB151_159 := n11_
       have NB159_151 := n12_
       clear n0_ n1_ n2_ n3_ n4_ n5_ n6_ n7_ n8_ n9_ n10_ n11_ n12_
       clear hb hbox hg
       refine hK.out _ _ ⟨(blk_cell BK149.out 0).trans rfl, (blk_cell BK149.out 1).trans rfl, (blk_cell BK149.out 2).trans rfl, (blk_cell BK149.out 3).trans rfl, (blk_cell BK149.out 4).trans rfl, (blk_cell BK150.out 0).trans rfl, (blk_cell BK150.out 1).trans rfl, (blk_cell BK150.out 2).trans rfl⟩ (fun hHeld => ?_)
       clear hK K
       refine norm_ (a' := ?_) ?_ ?_
       rotate_left
       ·show Act.put _ (some 6) _ = _
        simp only [Act.put, List.setIfInBounds_toArray, List.set_cons_zero, List.set_cons_succ, i64_w, i32_w]
        rfl
       refine one_ (i := 5) (N := some 28) #[true, true, true, true, true, true, false, false, false, false, true, false, false] rfl rfl (one_of HT_.out (by kernel_rfl)) (by decide) (fun K hK => ?_)
       refine goes_ Tryz.func54 (by kernel_rfl) rfl #[.agg #[.int .u64 a1_0, .int .u32 a1_1, .int .u32 a1_2], .int .u64 a0_0] (by rfl) rfl rfl argt ?_
       with_reducible refine (pos_Pos_Distance.calls kj2 a1_0 a1_1 a1_2 a0_0 t154 t155 _ A34.out).mono ?_
       rintro e w56 ⟨rfl, hb⟩
       refine ⟨_, rfl, ?_⟩
       have n0_ := blkb BK149 hb
       have n1_ := blkb BK150 hb
       have n2_ := blkb BK151 hb
       have n3_ := blkb BK159 hb
       have n4_ := belb HB hb
       clear BK149
       clear BK150
       clear BK151
       clear BK159
       clear HB
       have BK149 := n0_
       have BK150 := n1_
       have BK151 := n2_
       have BK159 := n3_
       have HB := n4_
       clear n0_ n1_ n2_ n3_ n4_
       (try clear hb)
       (try clear hb2)
       (try clear hk)
       (try clear hi)
       refine hK.out _ _ ⟨(blk_cell BK149.out 0).trans rfl, (blk_cell BK149.out 1).trans rfl, (blk_cell BK149.out 2).trans rfl, (blk_cell BK149.out 3).trans rfl, (blk_cell BK149.out 4).trans rfl, (blk_cell BK150.out 0).trans rfl, (blk_cell BK150.out 1).trans rfl, (blk_cell BK150.out 2).trans rfl⟩ (fun hHeld => ?_)
       clear hK K
       refine norm_ (a' := ?_) ?_ ?_
       rotate_left
       ·show Act.put _ (some 28) _ = _
        simp only [Act.put, List.setIfInBounds_toArray, List.set_cons_zero, List.set_cons_succ, i64_w, i32_w]
        rfl
       refine one_ (i := 6) (N := some 29) #[true, true, true, true, true, true, true, false, false, false, true, false, false] rfl rfl (one_of HT_.out (by kernel_rfl)) (by decide) (fun K hK => ?_)
       refine goes_ Tryz.func77 (by kernel_rfl) rfl #[.agg #[.int .i64 a0_1, .int .u64 a0_2], .agg #[.int .i64 t154, .int .u64 t155]] (by rfl) rfl rfl argt ?_
       with_reducible refine (wide_Int_Add.calls a0_1 a0_2 t154 t155 t156 t157 false _ A35.out).mono ?_
       rintro e w57 ⟨rfl, hb⟩
       refine ⟨_, rfl, ?_⟩
       have n0_ := blkb BK149 hb
       have n1_ := blkb BK150 hb
       have n2_ := blkb BK151 hb
       have n3_ := blkb BK159 hb
       have n4_ := belb HB hb
       clear BK149
       clear BK150
       clear BK151
       clear BK159
       clear HB
       have BK149 := n0_
       have BK150 := n1_
       have BK151 := n2_
       have BK159 := n3_
       have HB := n4_
       clear n0_ n1_ n2_ n3_ n4_
       (try clear hb)
       (try clear hb2)
       (try clear hk)
       (try clear hi)
       refine hK.out _ _ ⟨(blk_cell BK149.out 0).trans rfl, (blk_cell BK149.out 1).trans rfl, (blk_cell BK149.out 2).trans rfl, (blk_cell BK149.out 3).trans rfl, (blk_cell BK149.out 4).trans rfl, (blk_cell BK150.out 0).trans rfl, (blk_cell BK150.out 1).trans rfl, (blk_cell BK150.out 2).trans rfl⟩ (fun hHeld => ?_)
       clear hK K
       refine norm_ (a' := ?_) ?_ ?_
       rotate_left
       ·show Act.put _ (some 29) _ = _
        simp only [Act.put, List.setIfInBounds_toArray, List.set_cons_zero, List.set_cons_succ, i64_w, i32_w]
        rfl
       refine pure_ (i := 7) (N := some 22) (v := ?_) (a' := ?_) #[true, true, true, true, true, true, true, true, false, false, true, false, false] rfl rfl (any_of HT_.out (by kernel_rfl)) (fun _ _ _ h => h) (Or.inl ⟨by rfl, ?_⟩) ?_ ?_
       rotate_left
       ·intro w'
        go_simp
        with_reducible rfl
       rotate_left
       ·simp only [Act.put, List.setIfInBounds_toArray, List.set_cons_zero, List.set_cons_succ, i64_w, i32_w]
        rfl
       refine pure_ (i := 8) (N := some 30) (v := ?_) (a' := ?_) #[true, true, true, true, true, true, true, true, true, false, true, false, false] rfl rfl (any_of HT_.out (by kernel_rfl)) (fun _ _ _ h => h) (Or.inl ⟨by rfl, ?_⟩) ?_ ?_
       rotate_left
       ·intro w'
        go_simp
        with_reducible rfl
       rotate_left
       ·simp only [Act.put, List.setIfInBounds_toArray, List.set_cons_zero, List.set_cons_succ, i64_w, i32_w]
        rfl
       refine pure_ (i := 9) (N := some 31) (v := ?_) (a' := ?_) #[true, true, true, true, true, true, true, true, true, true, true, false, false] rfl rfl (any_of HT_.out (by kernel_rfl)) (fun _ _ _ h => h) (Or.inl ⟨by rfl, ?_⟩) ?_ ?_
       rotate_left
       ·intro w'
        go_simp
        with_reducible rfl
       rotate_left
       ·simp only [Act.put, List.setIfInBounds_toArray, List.set_cons_zero, List.set_cons_succ, i64_w, i32_w]
        rfl
       exact norm_ (by simp only [putAll, Act.put, List.setIfInBounds_toArray, List.set_cons_zero, List.set_cons_succ]) (hCont (gb159) _ ⟨hHeld, (blkt BK149), (blkt BK150), (blkt BK151), (blkt BK159), GW159.out, GE159.out, NB149_159.out, NB159_149.out, NB150_159.out, NB159_150.out, NB151_159.out, NB159_151.out, (belt HB)⟩)
     rintro gb159 w58 ⟨hS_, h0_, h1_, h2_, h3_, h4_, h5_, h6_, h7_, h8_, h9_, h10_, h11_, h12_⟩
     have n0_ : Aside0 (w58.heap[gb149]? = some (.cells #[.int .u64 a0_0, .int .i64 a0_1, .int .u64 a0_2, .int .u64 a0_3, .int .i64 a0_4] 33 (0, 0))) := ⟨h0_⟩
     have n1_ : Aside0 (w58.heap[gb150]? = some (.cells #[.int .u64 a1_0, .int .u32 a1_1, .int .u32 a1_2] 28 (0, 0))) := ⟨h1_⟩
     have n2_ : Aside0 (w58.heap[gb151]? = some (.cells #[.int .u64 0, .int .i64 0, .int .u64 0, .int .u64 0, .int .i64 0] 33 (0, 0))) := ⟨h2_⟩
     have n3_ : Aside0 (w58.heap[gb159]? = some (.cells #[.int .i64 0, .int .u64 0] 31 (0, 0))) := ⟨h3_⟩
     have n4_ : Aside0 (w.heap.size ≤ gb159) := ⟨h4_⟩
     have n5_ : Aside0 (w.heap.size ≤ gb159) := ⟨h5_⟩
     have n6_ : Aside0 (gb149 ≠ gb159) := ⟨h6_⟩
     have n7_ : Aside0 (gb159 ≠ gb149) := ⟨h7_⟩
     have n8_ : Aside0 (gb150 ≠ gb159) := ⟨h8_⟩
     have n9_ : Aside0 (gb159 ≠ gb150) := ⟨h9_⟩
     have n10_ : Aside0 (gb151 ≠ gb159) := ⟨h10_⟩
     have n11_ : Aside0 (gb159 ≠ gb151) := ⟨h11_⟩
     have n12_ : Aside0 (Below w.heap.size w w58) := ⟨h12_⟩
     clear BK149
     clear BK150
     clear BK151
     clear HB
     clear h0_ h1_ h2_ h3_ h4_ h5_ h6_ h7_ h8_ h9_ h10_ h11_ h12_
     have BK149 := n0_
     have BK150 := n1_
     have BK151 := n2_
     have BK159 := n3_
     have GW159 := n4_
     have GE159 := n5_
     have NB149_159 := n6_
     have NB159_149 := n7_
     have NB150_159 := n8_
     have NB159_150 := n9_
     have NB151_159 := n10_
     have NB159_151 := n11_
     have HB := n12_
     clear n0_ n1_ n2_ n3_ n4_ n5_ n6_ n7_ n8_ n9_ n10_ n11_ n12_
     have hHeld : w58.cell? ⟨gb149, 0, none⟩ = some (.int .u64 a0_0) ∧ w58.cell? ⟨gb149, 1, none⟩ = some (.int .i64 a0_1) ∧ w58.cell? ⟨gb149, 2, none⟩ = some (.int .u64 a0_2) ∧ w58.cell? ⟨gb149, 3, none⟩ = some (.int .u64 a0_3) ∧ w58.cell? ⟨gb149, 4, none⟩ = some (.int .i64 a0_4) ∧ w58.cell? ⟨gb150, 0, none⟩ = some (.int .u64 a1_0) ∧ w58.cell? ⟨gb150, 1, none⟩ = some (.int .u32 a1_1) ∧ w58.cell? ⟨gb150, 2, none⟩ = some (.int .u32 a1_2) := hS_
     refine norm_ (a' := ?_) ?_ ?_
     rotate_left
     ·simp only [putAll, Act.put, List.setIfInBounds_toArray, List.set_cons_zero, List.set_cons_succ]
      rfl
     refine one_ (i := 11) (N := none) #[true, true, true, true, true, true, true, true, true, true, true, true, false] rfl rfl (one_of HT_.out (by kernel_rfl)) (by decide) (fun K hK => ?_)
     have hs59 : w58.cell? ⟨gb159, 0, none⟩ = some (.int .i64 0) := (blk_cell BK159.out 0).trans rfl
     have hfs59 := blk_frozen BK159.out 0
     have hns59_0 := NB149_159.out
     have hns59_1 := NB150_159.out
     have hns59_2 := NB151_159.out
     have hms59_0 := NB159_149.out
     have hms59_1 := NB159_150.out
     have hms59_2 := NB159_151.out
     have hs60 : w58.cell? ⟨gb159, 1, none⟩ = some (.int .u64 0) := (blk_cell BK159.out 1).trans rfl
     have hfs60 := blk_frozen BK159.out 1
     have hns60_0 := NB149_159.out
     have hns60_1 := NB150_159.out
     have hns60_2 := NB151_159.out
     have hms60_0 := NB159_149.out
     have hms60_1 := NB159_150.out
     have hms60_2 := NB159_151.out
     refine skip_ (w1 := ?_) (by rfl) rfl ?_ ?_
     rotate_left
     ·go_simp
      rfl
     refine hK.out _ _ ⟨((cell_far (p := ⟨gb159, _, none⟩) NB149_159.out _).trans (((cell_far (p := ⟨gb159, _, none⟩) NB149_159.out _).trans (hHeld.1)))), ((cell_far (p := ⟨gb159, _, none⟩) NB149_159.out _).trans (((cell_far (p := ⟨gb159, _, none⟩) NB149_159.out _).trans (hHeld.2.1)))), ((cell_far (p := ⟨gb159, _, none⟩) NB149_159.out _).trans (((cell_far (p := ⟨gb159, _, none⟩) NB149_159.out _).trans (hHeld.2.2.1)))), ((cell_far (p := ⟨gb159, _, none⟩) NB149_159.out _).trans (((cell_far (p := ⟨gb159, _, none⟩) NB149_159.out _).trans (hHeld.2.2.2.1)))), ((cell_far (p := ⟨gb159, _, none⟩) NB149_159.out _).trans (((cell_far (p := ⟨gb159, _, none⟩) NB149_159.out _).trans (hHeld.2.2.2.2.1)))), ((cell_far (p := ⟨gb159, _, none⟩) NB150_159.out _).trans (((cell_far (p := ⟨gb159, _, none⟩) NB150_159.out _).trans (hHeld.2.2.2.2.2.1)))), ((cell_far (p := ⟨gb159, _, none⟩) NB150_159.out _).trans (((cell_far (p := ⟨gb159, _, none⟩) NB150_159.out _).trans (hHeld.2.2.2.2.2.2.1)))), ((cell_far (p := ⟨gb159, _, none⟩) NB150_159.out _).trans (((cell_far (p := ⟨gb159, _, none⟩) NB150_159.out _).trans (hHeld.2.2.2.2.2.2.2))))⟩ (fun hHeld => ?_)
     clear hK K
     refine pure_ (i := 12) (N := some 7) (v := ?_) (a' := ?_) #[true, true, true, true, true, true, true, true, true, true, true, true, true] rfl rfl (any_of HT_.out (by kernel_rfl)) (fun _ _ _ h => h) (Or.inl ⟨by rfl, ?_⟩) ?_ ?_
     rotate_left
     ·intro w'
      go_simp
      with_reducible rfl
     rotate_left
     ·simp only [Act.put, List.setIfInBounds_toArray, List.set_cons_zero, List.set_cons_succ, i64_w, i32_w]
      rfl
     refine done_ (done_of HT_.out (by kernel_rfl)) ?_
     have hnb61 := NB151_149.out
     have hnc61 := NB149_151.out
     have hnb62 := NB151_150.out
     have hnc62 := NB150_151.out
     have hnb63 := NB151_159.out
     have hnc63 := NB159_151.out
     have hcz64_0 : w58.cell? ⟨gb151, 0, none⟩ = some (.int .u64 0) := (blk_cell BK151.out 0).trans rfl
     have hcz64_1 : w58.cell? ⟨gb151, 1, none⟩ = some (.int .i64 0) := (blk_cell BK151.out 1).trans rfl
     have hcz64_2 : w58.cell? ⟨gb151, 2, none⟩ = some (.int .u64 0) := (blk_cell BK151.out 2).trans rfl
     have hcz64_3 : w58.cell? ⟨gb151, 3, none⟩ = some (.int .u64 0) := (blk_cell BK151.out 3).trans rfl
     have hcz64_4 : w58.cell? ⟨gb151, 4, none⟩ = some (.int .i64 0) := (blk_cell BK151.out 4).trans rfl
     have hfz64_0 := blk_frozen BK151.out 0
     have hfz64_1 := blk_frozen BK151.out 1
     have hfz64_2 := blk_frozen BK151.out 2
     have hfz64_3 := blk_frozen BK151.out 3
     have hfz64_4 := blk_frozen BK151.out 4
     try go_wp2
     refine bodyPost_ret (results_ct rfl _ _ gb151 33 #[.int .u64 0, .int .i64 0, .int .u64 0, .int .u64 0, .int .i64 0] (0, 0) _ rfl (by (with_reducible repeat (first | refine blk_drewN ?_ _ | refine blk_drew ?_ | refine blk_alloc ?_ _)); refine blk_put (cs := #[.int .u64 0, .int .i64 0, .int .u64 0, .int .u64 0, .int .i64 0]) ?_ 4 _ rfl; (with_reducible repeat (first | refine blk_drewN ?_ _ | refine blk_drew ?_ | refine blk_alloc ?_ _)); refine blk_put (cs := #[.int .u64 0, .int .i64 0, .int .u64 0, .int .u64 0, .int .i64 0]) ?_ 3 _ rfl; (with_reducible repeat (first | refine blk_drewN ?_ _ | refine blk_drew ?_ | refine blk_alloc ?_ _)); refine blk_put (cs := #[.int .u64 0, .int .i64 0, .int .u64 0, .int .u64 0, .int .i64 0]) ?_ 2 _ rfl; (with_reducible repeat (first | refine blk_drewN ?_ _ | refine blk_drew ?_ | refine blk_alloc ?_ _)); refine blk_put (cs := #[.int .u64 0, .int .i64 0, .int .u64 0, .int .u64 0, .int .i64 0]) ?_ 1 _ rfl; (with_reducible repeat (first | refine blk_drewN ?_ _ | refine blk_drew ?_ | refine blk_alloc ?_ _)); refine blk_put (cs := #[.int .u64 0, .int .i64 0, .int .u64 0, .int .u64 0, .int .i64 0]) ?_ 0 _ rfl; (with_reducible repeat (first | refine blk_drewN ?_ _ | refine blk_drew ?_ | refine blk_alloc ?_ _)); refine blk_far ?_ NB151_159.out _; (with_reducible repeat (first | refine blk_drewN ?_ _ | refine blk_drew ?_ | refine blk_alloc ?_ _)); refine blk_far ?_ NB151_159.out _; (with_reducible repeat (first | refine blk_drewN ?_ _ | refine blk_drew ?_ | refine blk_alloc ?_ _)); exact BK151.out) Tryz.underlying33 rfl (by kernel_rfl)) rfl ?_
     exact ⟨by first | rfl | (simp [errW_none, errW_some] <;> rfl) | (simp [*, errW_none, errW_some] <;> rfl), by repeat (first | (with_reducible first | exact HB.out | apply below_alloc | apply pw_below_drewN | apply below_drew1 | refine below_set ?_ GE149.out | refine below_set ?_ GE150.out | refine below_set ?_ GE151.out | refine below_set ?_ GE159.out) | exact HB.out)⟩

end Go.Proofs.YtccokfebebmaeaaGreatDoor.Print
