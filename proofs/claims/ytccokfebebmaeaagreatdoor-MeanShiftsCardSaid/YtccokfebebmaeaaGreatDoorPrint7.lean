/- What each Go function that is named below answers, as a Lean function, and that its walk comes to just that: for whatever arguments that function gives an answer for. Written by a program of this session (wip/mkpr.py, pr.sh). -/
import Derived.Test.YtccokfebebmaeaaGreatDoorPrint0
import Derived.Test.YtccokfebebmaeaaGreatDoorPrint6
namespace Go.Proofs.YtccokfebebmaeaaGreatDoor.Print
open Go.RowKit Go.Proofs.YtccokfebebmaeaaGreatDoorW.PrintWords Go.Proofs.YtccokfebebmaeaaGreatDoorW.PrintLast Go.Proofs.YtccokfebebmaeaaGreatDoorW.PrintMore
attribute [local go_sem] max2_int min2_int max_two min_two max_three min_three max_four min_four   -- for this text's walks alone
open Go.Proofs.YtccokfebebmaeaaGreatDoor.Bits Go.Proofs.YtccokfebebmaeaaGreatDoor.Short
attribute [local go_sem] add64_run0 sub64_run0 add64_run sub64_run
set_option linter.unusedVariables false
set_option linter.unusedSimpArgs false

/-! ### mean_Of: function 11 -/
def mean_Of.l0 : Nat → List (S28) → Int → Int → Int → Int → Int → Int → Int → Option (Int × Int × Int × Int × Int × Bool)
 | 0, _, _, _, _, _, _, _, _ => none
 | k + 1, x13, x14, x15, x162000, x162001, x162002, x162003, x162004 => if x15 < x14 then (if 0 ≤ x15 then (if x15 < (x13.length : Int) then ((mean_Mean_Add.f k x162000 x162001 x162002 x162003 x162004 ((rd_T28 x13 x15).f0) ((rd_T28 x13 x15).f1) ((rd_T28 x13 x15).f2)).bind fun bt164 => (if bt164.2.2.2.2.2 = true then (mean_Of.l0 k x13 x14 (wrap64 (x15 + 1)) bt164.1 bt164.2.1 bt164.2.2.1 bt164.2.2.2.1 bt164.2.2.2.2.1) else (some (0, 0, 0, 0, 0, false)))) else (none)) else (none)) else (some (x162000, x162001, x162002, x162003, x162004, true))
def mean_Of.f (k : Nat) (a0 : Int) (l1 : List (S28)) : Option (Int × Int × Int × Int × Int × Bool) := mean_Of.l0 k l1 (l1.length : Int) 0 a0 0 0 0 0
theorem mean_Of.mono_l : ∀ k, (∀ y0 y1 y2 y3 y4 y5 y6 y7, LeO (mean_Of.l0 k y0 y1 y2 y3 y4 y5 y6 y7) (mean_Of.l0 (k + 1) y0 y1 y2 y3 y4 y5 y6 y7))
 | 0 => fun _ _ _ _ _ _ _ _ r h => by simp [mean_Of.l0] at h
 | k + 1 => by
  have ih0 := mean_Of.mono_l k
  ·intro y0 y1 y2 y3 y4 y5 y6 y7
   unfold mean_Of.l0
   repeat' first
   | (with_reducible exact ih0 _ _ _ _ _ _ _ _)
   | (with_reducible exact mean_Mean_Add.mono _ _ _ _ _ _ _ _ _)
   | (with_reducible exact LeO.refl _)
   | (with_reducible exact LeO.none _)
   | (with_reducible refine LeO.ite ?_ ?_)
   | (with_reducible refine LeO.bind ?_ (fun _ => ?_))
   | exact ih0 _ _ _ _ _ _ _ _
   | exact mean_Mean_Add.mono _ _ _ _ _ _ _ _ _
   | exact LeO.none _
   | refine LeO.ite ?_ ?_
   | refine LeO.bind ?_ (fun _ => ?_)
theorem mean_Of.mono : ∀ a0 a1 k, LeO (mean_Of.f k a0 a1) (mean_Of.f (k + 1) a0 a1) := by
 intro a0 a1 k
 have ih0 := mean_Of.mono_l k
 unfold mean_Of.f
 repeat' first
   | (with_reducible exact ih0 _ _ _ _ _ _ _ _)
   | (with_reducible exact mean_Mean_Add.mono _ _ _ _ _ _ _ _ _)
   | (with_reducible exact LeO.refl _)
   | (with_reducible exact LeO.none _)
   | (with_reducible refine LeO.ite ?_ ?_)
   | (with_reducible refine LeO.bind ?_ (fun _ => ?_))
   | exact ih0 _ _ _ _ _ _ _ _
   | exact mean_Mean_Add.mono _ _ _ _ _ _ _ _ _
   | exact LeO.none _
   | refine LeO.ite ?_ ?_
   | refine LeO.bind ?_ (fun _ => ?_)
set_option maxHeartbeats 8000000 in
set_option maxRecDepth 100000 in
theorem mean_Of.calls (k : Nat) (a0 : Int) (A1 : Option Addr) (c1 : Nat) (l1 : List (S28)) (r1 : Int) (r2 : Int) (r3 : Int) (r4 : Int) (r5 : Int) (r6 : Bool) (w : World) (hr1 : Kd.C k28 w A1 l1.length l1) (hc1 : l1.length ≤ c1) (h : mean_Of.f k a0 l1 = some (r1, r2, r3, r4, r5, r6)) :
  Calls Tryz.prog 11 #[.int .u64 a0, .slice A1 l1.length c1] w fun e w' => e = .returned (.tuple #[.agg #[.int .u64 r1, .int .i64 r2, .int .u64 r3, .int .u64 r4, .int .i64 r5], .bool r6]) ∧ Below w.heap.size w w' := by
 have hu33 := Tryz.underlying33
 have hu28 := Tryz.underlying28
 have HR1 := Aside0.mk hr1
 have HC1 := Aside0.mk hc1
 clear hr1 hc1
 have HB := Aside0.mk (Below.refl w.heap.size w)
 have H : (mean_Of.l0 k l1 (l1.length : Int) 0 a0 0 0 0 0) = some (r1, r2, r3, r4, r5, r6) := h
 clear h
 have H' := Aside0.mk H
 clear H
 go_enter Tryz.func11, Tryz.ntmps11
 go_wp2_with (first | ((with_reducible refine gate_dst (N := 4) rfl ?_); refine box_event ?hg (N := 4) ?hd (cs := #[.int .u64 0, .int .i64 0, .int .u64 0, .int .u64 0, .int .i64 0]) (t := 33) ?hr ?_; (case hd => rfl); (case hg => rfl); (case hr => first | (go_simp; done) | (go_simp; rfl)); intro gb160 hg w3 hbox hb; have n0_ := belb HB hb; have n1_ := Aside0.mk (hbox); have n2_ := bels HB hg; have n3_ := bels HB hg; clear HB; have HB := n0_; have BK160 := n1_; have GW160 := n2_; have GE160 := n3_; clear n0_ n1_ n2_ n3_; clear hb hbox hg) | ((with_reducible refine gate_dst (N := 6) rfl ?_); refine box_event ?hg (N := 6) ?hd (cs := #[.int .u64 0, .int .i64 0, .int .u64 0, .int .u64 0, .int .i64 0]) (t := 33) ?hr ?_; (case hd => rfl); (case hg => rfl); (case hr => first | (go_simp; done) | (go_simp; rfl)); intro gb161 hg w4 hbox hb; have n0_ := blkb BK160 hb; have n1_ := belb HB hb; have n2_ := Aside0.mk (hbox); have n3_ := bels HB hg; have n4_ := bels HB hg; have n5_ := blkl BK160 hg; have n6_ := blkg BK160 hg; clear BK160; clear HB; have BK160 := n0_; have HB := n1_; have BK161 := n2_; have GW161 := n3_; have GE161 := n4_; have NB160_161 := n5_; have NB161_160 := n6_; clear n0_ n1_ n2_ n3_ n4_ n5_ n6_; clear hb hbox hg; have hnb5 := NB161_160.out; have hnc5 := NB160_161.out; have hcz6_0 : w4.cell? ⟨gb161, 0, none⟩ = some (.int .u64 0) := (blk_cell BK161.out 0).trans rfl; have hcz6_1 : w4.cell? ⟨gb161, 1, none⟩ = some (.int .i64 0) := (blk_cell BK161.out 1).trans rfl; have hcz6_2 : w4.cell? ⟨gb161, 2, none⟩ = some (.int .u64 0) := (blk_cell BK161.out 2).trans rfl; have hcz6_3 : w4.cell? ⟨gb161, 3, none⟩ = some (.int .u64 0) := (blk_cell BK161.out 3).trans rfl; have hcz6_4 : w4.cell? ⟨gb161, 4, none⟩ = some (.int .i64 0) := (blk_cell BK161.out 4).trans rfl; have hfz6_0 := blk_frozen BK161.out 0; have hfz6_1 := blk_frozen BK161.out 1; have hfz6_2 := blk_frozen BK161.out 2; have hfz6_3 := blk_frozen BK161.out 3; have hfz6_4 := blk_frozen BK161.out 4))
 (try simp only [Act.put, List.setIfInBounds_toArray, List.set_cons_zero, List.set_cons_succ])
 go_loopg [15] k (fun kq v15 w' => ∃ (x15_1 : Int) (x161000_1 : Int) (x161001_1 : Int) (x161002_1 : Int) (x161003_1 : Int) (x161004_1 : Int) (x162000_1 : Int) (x162001_1 : Int) (x162002_1 : Int) (x162003_1 : Int) (x162004_1 : Int), v15 = .int .i64 x15_1 ∧ Aside0 (mean_Of.l0 kq l1 (l1.length : Int) x15_1 x162000_1 x162001_1 x162002_1 x162003_1 x162004_1 = some (r1, r2, r3, r4, r5, r6)) ∧ Aside0 (kq ≤ k) ∧ Aside0 (w'.heap[gb160]? = some (.cells #[.int .u64 x161000_1, .int .i64 x161001_1, .int .u64 x161002_1, .int .u64 x161003_1, .int .i64 x161004_1] 33 (0, 0))) ∧ Aside0 (w'.heap[gb161]? = some (.cells #[.int .u64 x162000_1, .int .i64 x162001_1, .int .u64 x162002_1, .int .u64 x162003_1, .int .i64 x162004_1] 33 (0, 0))) ∧ Aside0 (Below w.heap.size w w'))
 case atStart => exact ⟨(0), (0), (0), (0), (0), (0), (a0), (0), (0), (0), (0), (by first | rfl | (simp; done) | (simp [*]; done)), H', ⟨Nat.le_refl _⟩, ⟨by (with_reducible repeat (first | refine blk_drewN ?_ _ | refine blk_drew ?_ | refine blk_alloc ?_ _)); refine blk_far ?_ NB160_161.out _; (with_reducible repeat (first | refine blk_drewN ?_ _ | refine blk_drew ?_ | refine blk_alloc ?_ _)); refine blk_far ?_ NB160_161.out _; (with_reducible repeat (first | refine blk_drewN ?_ _ | refine blk_drew ?_ | refine blk_alloc ?_ _)); refine blk_far ?_ NB160_161.out _; (with_reducible repeat (first | refine blk_drewN ?_ _ | refine blk_drew ?_ | refine blk_alloc ?_ _)); refine blk_far ?_ NB160_161.out _; (with_reducible repeat (first | refine blk_drewN ?_ _ | refine blk_drew ?_ | refine blk_alloc ?_ _)); refine blk_far ?_ NB160_161.out _; (with_reducible repeat (first | refine blk_drewN ?_ _ | refine blk_drew ?_ | refine blk_alloc ?_ _)); exact BK160.out⟩, ⟨by (with_reducible repeat (first | refine blk_drewN ?_ _ | refine blk_drew ?_ | refine blk_alloc ?_ _)); refine blk_put (cs := #[.int .u64 a0, .int .i64 0, .int .u64 0, .int .u64 0, .int .i64 0]) ?_ 4 _ rfl; (with_reducible repeat (first | refine blk_drewN ?_ _ | refine blk_drew ?_ | refine blk_alloc ?_ _)); refine blk_put (cs := #[.int .u64 a0, .int .i64 0, .int .u64 0, .int .u64 0, .int .i64 0]) ?_ 3 _ rfl; (with_reducible repeat (first | refine blk_drewN ?_ _ | refine blk_drew ?_ | refine blk_alloc ?_ _)); refine blk_put (cs := #[.int .u64 a0, .int .i64 0, .int .u64 0, .int .u64 0, .int .i64 0]) ?_ 2 _ rfl; (with_reducible repeat (first | refine blk_drewN ?_ _ | refine blk_drew ?_ | refine blk_alloc ?_ _)); refine blk_put (cs := #[.int .u64 a0, .int .i64 0, .int .u64 0, .int .u64 0, .int .i64 0]) ?_ 1 _ rfl; (with_reducible repeat (first | refine blk_drewN ?_ _ | refine blk_drew ?_ | refine blk_alloc ?_ _)); refine blk_put (cs := #[.int .u64 0, .int .i64 0, .int .u64 0, .int .u64 0, .int .i64 0]) ?_ 0 _ rfl; (with_reducible repeat (first | refine blk_drewN ?_ _ | refine blk_drew ?_ | refine blk_alloc ?_ _)); exact BK161.out⟩, ⟨by repeat (first | (with_reducible first | exact HB.out | apply below_alloc | apply pw_below_drewN | apply below_drew1 | refine below_set ?_ GE160.out | refine below_set ?_ GE161.out) | exact HB.out)⟩⟩
 case round =>
  clear H'
  try clear c1
  try clear p2
  try clear c5
  try clear hcz6_0
  try clear hcz6_1
  try clear hcz6_2
  try clear hcz6_3
  try clear hcz6_4
  try clear hfz6_0
  try clear hfz6_1
  try clear hfz6_2
  try clear hfz6_3
  try clear hfz6_4
  obtain ⟨x15_1, x161000_1, x161001_1, x161002_1, x161003_1, x161004_1, x162000_1, x162001_1, x162002_1, x162003_1, x162004_1, rfl, HA, HK1, BK160, BK161, HB⟩ := hrel
  cases gk with
  | zero => exact absurd HA.out (by simp [mean_Of.l0])
  | succ k1 =>
   have H := HA.out
   clear HA
   simp only [mean_Of.l0] at H
   by_cases c7 : x15_1 < (l1.length : Int)
   ·rw [if_pos c7] at H
    have c7b0 : decide (x15_1 < (l1.length : Int)) = true := decide_eq_true c7
    clear c7
    by_cases c8 : 0 ≤ x15_1
    ·rw [if_pos c8] at H
     have c8b0 : decide (0 ≤ x15_1) = true := decide_eq_true c8
     clear c8
     by_cases c9 : x15_1 < (l1.length : Int)
     ·rw [if_pos c9] at H
      have c9b0 : decide (x15_1 < (l1.length : Int)) = true := decide_eq_true c9
      clear c9
      replace H := Option.bind_eq_some_iff.mp H
      obtain ⟨⟨t164, t165, t166, t167, t168, t169⟩, A100, H⟩ := H
      replace H : (if t169 = true then (mean_Of.l0 k1 l1 (l1.length : Int) (wrap64 (x15_1 + 1)) t164 t165 t166 t167 t168) else (some (0, 0, 0, 0, 0, false))) = some (r1, r2, r3, r4, r5, r6) := H
      have A10 := Aside0.mk A100
      clear A100
      by_cases c11 : t169 = true
      ·subst c11
       have H1 : (mean_Of.l0 k1 l1 (l1.length : Int) (wrap64 (x15_1 + 1)) t164 t165 t166 t167 t168) = some (r1, r2, r3, r4, r5, r6) := by rw [if_pos rfl] at H; exact H
       clear H
       have H := H1
       clear H1
       have H' := Aside0.mk H
       clear H
       have p162 : 0 ≤ (x15_1 : Int) := of_decide_eq_true (by first | (with_reducible assumption) | assumption)
       have q162 : x15_1 < (l1.length : Int) := of_decide_eq_true (by first | (with_reducible assumption) | assumption)
       obtain ⟨ad162, e162, hx162_0, hx162_1, hx162_2⟩ := at_T28 HR1.out x15_1 p162 q162
       cases e162
       replace hx162_0 := (HB.out.cell (World.block_lt_of_cell? w _ hx162_0)).trans hx162_0
       replace hx162_1 := (HB.out.cell (World.block_lt_of_cell? w _ hx162_1)).trans hx162_1
       replace hx162_2 := (HB.out.cell (World.block_lt_of_cell? w _ hx162_2)).trans hx162_2
       replace p162 := eq_true p162
       replace q162 := eq_true q162
       go_wp2_with (first | ((with_reducible refine gate_dst (N := 8) rfl ?_); refine box_event ?hg (N := 8) ?hd (cs := #[.int .u64 0, .int .u32 0, .int .u32 0]) (t := 28) ?hr ?_; (case hd => rfl); (case hg => rfl); (case hr => first | (go_simp; done) | (go_simp; rfl)); intro gb163 hg w12 hbox hb; have n0_ := blkb BK160 hb; have n1_ := blkb BK161 hb; have n2_ := belb HB hb; have n3_ := Aside0.mk (hbox); have n4_ := bels HB hg; have n5_ := bels HB hg; have n6_ := blkl BK160 hg; have n7_ := blkg BK160 hg; have n8_ := blkl BK161 hg; have n9_ := blkg BK161 hg; clear BK160; clear BK161; clear HB; have BK160 := n0_; have BK161 := n1_; have HB := n2_; have BK163 := n3_; have GW163 := n4_; have GE163 := n5_; have NB160_163 := n6_; have NB163_160 := n7_; have NB161_163 := n8_; have NB163_161 := n9_; clear n0_ n1_ n2_ n3_ n4_ n5_ n6_ n7_ n8_ n9_; clear hb hbox hg; have hnb13 := NB163_160.out; have hnc13 := NB160_163.out; have hnb14 := NB163_161.out; have hnc14 := NB161_163.out; have hcz15_0 : w12.cell? ⟨gb163, 0, none⟩ = some (.int .u64 0) := (blk_cell BK163.out 0).trans rfl; have hcz15_1 : w12.cell? ⟨gb163, 1, none⟩ = some (.int .u32 0) := (blk_cell BK163.out 1).trans rfl; have hcz15_2 : w12.cell? ⟨gb163, 2, none⟩ = some (.int .u32 0) := (blk_cell BK163.out 2).trans rfl; have hfz15_0 := blk_frozen BK163.out 0; have hfz15_1 := blk_frozen BK163.out 1; have hfz15_2 := blk_frozen BK163.out 2; have hnb16 := NB161_160.out; have hnc16 := NB160_161.out; have hcz17_0 : w12.cell? ⟨gb161, 0, none⟩ = some (.int .u64 x162000_1) := (blk_cell BK161.out 0).trans rfl; have hcz17_1 : w12.cell? ⟨gb161, 1, none⟩ = some (.int .i64 x162001_1) := (blk_cell BK161.out 1).trans rfl; have hcz17_2 : w12.cell? ⟨gb161, 2, none⟩ = some (.int .u64 x162002_1) := (blk_cell BK161.out 2).trans rfl; have hcz17_3 : w12.cell? ⟨gb161, 3, none⟩ = some (.int .u64 x162003_1) := (blk_cell BK161.out 3).trans rfl; have hcz17_4 : w12.cell? ⟨gb161, 4, none⟩ = some (.int .i64 x162004_1) := (blk_cell BK161.out 4).trans rfl; have hfz17_0 := blk_frozen BK161.out 0; have hfz17_1 := blk_frozen BK161.out 1; have hfz17_2 := blk_frozen BK161.out 2; have hfz17_3 := blk_frozen BK161.out 3; have hfz17_4 := blk_frozen BK161.out 4) | ((with_reducible refine gate_callee (f := 42) rfl ?_); refine goesL_ (some 22) rfl rfl Tryz.func42 (by kernel_rfl) rfl #[.agg #[.int .u64 x162000_1, .int .i64 x162001_1, .int .u64 x162002_1, .int .u64 x162003_1, .int .i64 x162004_1], .agg #[.int .u64 ((rd_T28 l1 x15_1).f0), .int .u32 ((rd_T28 l1 x15_1).f1), .int .u32 ((rd_T28 l1 x15_1).f2)]] rfl argt ?_; (with_reducible refine (mean_Mean_Add.calls k1 x162000_1 x162001_1 x162002_1 x162003_1 x162004_1 ((rd_T28 l1 x15_1).f0) ((rd_T28 l1 x15_1).f1) ((rd_T28 l1 x15_1).f2) t164 t165 t166 t167 t168 true _ A10.out).mono ?_); rintro e w18 ⟨rfl, hb⟩; refine ⟨_, rfl, ?_⟩; have n0_ := Aside0.mk (blk_below (g := gb160) (o := .cells #[.int .u64 x161000_1, .int .i64 x161001_1, .int .u64 x161002_1, .int .u64 x161003_1, .int .i64 x161004_1] 33 (0, 0)) (by (with_reducible repeat (first | refine blk_drewN ?_ _ | refine blk_drew ?_ | refine blk_alloc ?_ _)); refine blk_far ?_ NB160_163.out _; (with_reducible repeat (first | refine blk_drewN ?_ _ | refine blk_drew ?_ | refine blk_alloc ?_ _)); refine blk_far ?_ NB160_163.out _; (with_reducible repeat (first | refine blk_drewN ?_ _ | refine blk_drew ?_ | refine blk_alloc ?_ _)); refine blk_far ?_ NB160_163.out _; (with_reducible repeat (first | refine blk_drewN ?_ _ | refine blk_drew ?_ | refine blk_alloc ?_ _)); exact BK160.out) hb); have n1_ := Aside0.mk (blk_below (g := gb161) (o := .cells #[.int .u64 x162000_1, .int .i64 x162001_1, .int .u64 x162002_1, .int .u64 x162003_1, .int .i64 x162004_1] 33 (0, 0)) (by (with_reducible repeat (first | refine blk_drewN ?_ _ | refine blk_drew ?_ | refine blk_alloc ?_ _)); refine blk_far ?_ NB161_163.out _; (with_reducible repeat (first | refine blk_drewN ?_ _ | refine blk_drew ?_ | refine blk_alloc ?_ _)); refine blk_far ?_ NB161_163.out _; (with_reducible repeat (first | refine blk_drewN ?_ _ | refine blk_drew ?_ | refine blk_alloc ?_ _)); refine blk_far ?_ NB161_163.out _; (with_reducible repeat (first | refine blk_drewN ?_ _ | refine blk_drew ?_ | refine blk_alloc ?_ _)); exact BK161.out) hb); have n2_ := Aside0.mk (blk_below (g := gb163) (o := .cells #[.int .u64 ((rd_T28 l1 x15_1).f0), .int .u32 ((rd_T28 l1 x15_1).f1), .int .u32 ((rd_T28 l1 x15_1).f2)] 28 (0, 0)) (by (with_reducible repeat (first | refine blk_drewN ?_ _ | refine blk_drew ?_ | refine blk_alloc ?_ _)); refine blk_put (cs := #[.int .u64 ((rd_T28 l1 x15_1).f0), .int .u32 ((rd_T28 l1 x15_1).f1), .int .u32 0]) ?_ 2 _ rfl; (with_reducible repeat (first | refine blk_drewN ?_ _ | refine blk_drew ?_ | refine blk_alloc ?_ _)); refine blk_put (cs := #[.int .u64 ((rd_T28 l1 x15_1).f0), .int .u32 0, .int .u32 0]) ?_ 1 _ rfl; (with_reducible repeat (first | refine blk_drewN ?_ _ | refine blk_drew ?_ | refine blk_alloc ?_ _)); refine blk_put (cs := #[.int .u64 0, .int .u32 0, .int .u32 0]) ?_ 0 _ rfl; (with_reducible repeat (first | refine blk_drewN ?_ _ | refine blk_drew ?_ | refine blk_alloc ?_ _)); exact BK163.out) hb); have n3_ := belb HB hb; clear BK160; clear BK161; clear BK163; clear HB; have BK160 := n0_; have BK161 := n1_; have BK163 := n2_; have HB := n3_; clear n0_ n1_ n2_ n3_; (try clear hb); (try clear hb2); (try clear hk); (try clear hi)) | ((with_reducible refine gate_dst (N := 9) rfl ?_); refine box_event ?hg (N := 9) ?hd (cs := #[.int .u64 0, .int .i64 0, .int .u64 0, .int .u64 0, .int .i64 0]) (t := 33) ?hr ?_; (case hd => rfl); (case hg => rfl); (case hr => first | (go_simp; done) | (go_simp; rfl)); intro gb170 hg w19 hbox hb; have n0_ := blkb BK160 hb; have n1_ := blkb BK161 hb; have n2_ := blkb BK163 hb; have n3_ := belb HB hb; have n4_ := Aside0.mk (hbox); have n5_ := bels HB hg; have n6_ := bels HB hg; have n7_ := blkl BK160 hg; have n8_ := blkg BK160 hg; have n9_ := blkl BK161 hg; have n10_ := blkg BK161 hg; have n11_ := blkl BK163 hg; have n12_ := blkg BK163 hg; clear BK160; clear BK161; clear BK163; clear HB; have BK160 := n0_; have BK161 := n1_; have BK163 := n2_; have HB := n3_; have BK170 := n4_; have GW170 := n5_; have GE170 := n6_; have NB160_170 := n7_; have NB170_160 := n8_; have NB161_170 := n9_; have NB170_161 := n10_; have NB163_170 := n11_; have NB170_163 := n12_; clear n0_ n1_ n2_ n3_ n4_ n5_ n6_ n7_ n8_ n9_ n10_ n11_ n12_; clear hb hbox hg; have hnb20 := NB170_160.out; have hnc20 := NB160_170.out; have hnb21 := NB170_161.out; have hnc21 := NB161_170.out; have hnb22 := NB170_163.out; have hnc22 := NB163_170.out; have hcz23_0 : w19.cell? ⟨gb170, 0, none⟩ = some (.int .u64 0) := (blk_cell BK170.out 0).trans rfl; have hcz23_1 : w19.cell? ⟨gb170, 1, none⟩ = some (.int .i64 0) := (blk_cell BK170.out 1).trans rfl; have hcz23_2 : w19.cell? ⟨gb170, 2, none⟩ = some (.int .u64 0) := (blk_cell BK170.out 2).trans rfl; have hcz23_3 : w19.cell? ⟨gb170, 3, none⟩ = some (.int .u64 0) := (blk_cell BK170.out 3).trans rfl; have hcz23_4 : w19.cell? ⟨gb170, 4, none⟩ = some (.int .i64 0) := (blk_cell BK170.out 4).trans rfl; have hfz23_0 := blk_frozen BK170.out 0; have hfz23_1 := blk_frozen BK170.out 1; have hfz23_2 := blk_frozen BK170.out 2; have hfz23_3 := blk_frozen BK170.out 3; have hfz23_4 := blk_frozen BK170.out 4; have hcz24_0 : w19.cell? ⟨gb161, 0, none⟩ = some (.int .u64 x162000_1) := (blk_cell BK161.out 0).trans rfl; have hcz24_1 : w19.cell? ⟨gb161, 1, none⟩ = some (.int .i64 x162001_1) := (blk_cell BK161.out 1).trans rfl; have hcz24_2 : w19.cell? ⟨gb161, 2, none⟩ = some (.int .u64 x162002_1) := (blk_cell BK161.out 2).trans rfl; have hcz24_3 : w19.cell? ⟨gb161, 3, none⟩ = some (.int .u64 x162003_1) := (blk_cell BK161.out 3).trans rfl; have hcz24_4 : w19.cell? ⟨gb161, 4, none⟩ = some (.int .i64 x162004_1) := (blk_cell BK161.out 4).trans rfl; have hfz24_0 := blk_frozen BK161.out 0; have hfz24_1 := blk_frozen BK161.out 1; have hfz24_2 := blk_frozen BK161.out 2; have hfz24_3 := blk_frozen BK161.out 3; have hfz24_4 := blk_frozen BK161.out 4))
       go_roundg k1
       case measure => have := HK1.out; omega
       case rel => exact ⟨(wrap64 (x15_1 + 1)), (x161000_1), (x161001_1), (x161002_1), (x161003_1), (x161004_1), (t164), (t165), (t166), (t167), (t168), (by first | rfl | (simp; done) | (simp [*]; done)), H', ⟨by have := HK1.out; omega⟩, ⟨by (with_reducible repeat (first | refine blk_drewN ?_ _ | refine blk_drew ?_ | refine blk_alloc ?_ _)); refine blk_far ?_ NB160_161.out _; (with_reducible repeat (first | refine blk_drewN ?_ _ | refine blk_drew ?_ | refine blk_alloc ?_ _)); refine blk_far ?_ NB160_161.out _; (with_reducible repeat (first | refine blk_drewN ?_ _ | refine blk_drew ?_ | refine blk_alloc ?_ _)); refine blk_far ?_ NB160_161.out _; (with_reducible repeat (first | refine blk_drewN ?_ _ | refine blk_drew ?_ | refine blk_alloc ?_ _)); refine blk_far ?_ NB160_161.out _; (with_reducible repeat (first | refine blk_drewN ?_ _ | refine blk_drew ?_ | refine blk_alloc ?_ _)); refine blk_far ?_ NB160_161.out _; (with_reducible repeat (first | refine blk_drewN ?_ _ | refine blk_drew ?_ | refine blk_alloc ?_ _)); refine blk_far ?_ NB160_170.out _; (with_reducible repeat (first | refine blk_drewN ?_ _ | refine blk_drew ?_ | refine blk_alloc ?_ _)); refine blk_far ?_ NB160_170.out _; (with_reducible repeat (first | refine blk_drewN ?_ _ | refine blk_drew ?_ | refine blk_alloc ?_ _)); refine blk_far ?_ NB160_170.out _; (with_reducible repeat (first | refine blk_drewN ?_ _ | refine blk_drew ?_ | refine blk_alloc ?_ _)); refine blk_far ?_ NB160_170.out _; (with_reducible repeat (first | refine blk_drewN ?_ _ | refine blk_drew ?_ | refine blk_alloc ?_ _)); refine blk_far ?_ NB160_170.out _; (with_reducible repeat (first | refine blk_drewN ?_ _ | refine blk_drew ?_ | refine blk_alloc ?_ _)); exact BK160.out⟩, ⟨by (with_reducible repeat (first | refine blk_drewN ?_ _ | refine blk_drew ?_ | refine blk_alloc ?_ _)); refine blk_put (cs := #[.int .u64 t164, .int .i64 t165, .int .u64 t166, .int .u64 t167, .int .i64 x162004_1]) ?_ 4 _ rfl; (with_reducible repeat (first | refine blk_drewN ?_ _ | refine blk_drew ?_ | refine blk_alloc ?_ _)); refine blk_put (cs := #[.int .u64 t164, .int .i64 t165, .int .u64 t166, .int .u64 x162003_1, .int .i64 x162004_1]) ?_ 3 _ rfl; (with_reducible repeat (first | refine blk_drewN ?_ _ | refine blk_drew ?_ | refine blk_alloc ?_ _)); refine blk_put (cs := #[.int .u64 t164, .int .i64 t165, .int .u64 x162002_1, .int .u64 x162003_1, .int .i64 x162004_1]) ?_ 2 _ rfl; (with_reducible repeat (first | refine blk_drewN ?_ _ | refine blk_drew ?_ | refine blk_alloc ?_ _)); refine blk_put (cs := #[.int .u64 t164, .int .i64 x162001_1, .int .u64 x162002_1, .int .u64 x162003_1, .int .i64 x162004_1]) ?_ 1 _ rfl; (with_reducible repeat (first | refine blk_drewN ?_ _ | refine blk_drew ?_ | refine blk_alloc ?_ _)); refine blk_put (cs := #[.int .u64 x162000_1, .int .i64 x162001_1, .int .u64 x162002_1, .int .u64 x162003_1, .int .i64 x162004_1]) ?_ 0 _ rfl; (with_reducible repeat (first | refine blk_drewN ?_ _ | refine blk_drew ?_ | refine blk_alloc ?_ _)); refine blk_far ?_ NB161_170.out _; (with_reducible repeat (first | refine blk_drewN ?_ _ | refine blk_drew ?_ | refine blk_alloc ?_ _)); refine blk_far ?_ NB161_170.out _; (with_reducible repeat (first | refine blk_drewN ?_ _ | refine blk_drew ?_ | refine blk_alloc ?_ _)); refine blk_far ?_ NB161_170.out _; (with_reducible repeat (first | refine blk_drewN ?_ _ | refine blk_drew ?_ | refine blk_alloc ?_ _)); refine blk_far ?_ NB161_170.out _; (with_reducible repeat (first | refine blk_drewN ?_ _ | refine blk_drew ?_ | refine blk_alloc ?_ _)); refine blk_far ?_ NB161_170.out _; (with_reducible repeat (first | refine blk_drewN ?_ _ | refine blk_drew ?_ | refine blk_alloc ?_ _)); exact BK161.out⟩, ⟨by repeat (first | (with_reducible first | exact HB.out | apply below_alloc | apply pw_below_drewN | apply below_drew1 | refine below_set ?_ GE160.out | refine below_set ?_ GE161.out | refine below_set ?_ GE163.out | refine below_set ?_ GE170.out) | exact HB.out)⟩⟩
      ·replace c11 := Bool.eq_false_iff.mpr c11
       subst c11
       have H1 : (some (0, 0, 0, 0, 0, false)) = some (r1, r2, r3, r4, r5, r6) := by rw [if_neg (show ¬ (false = true) by decide)] at H; exact H
       clear H
       have H := H1
       clear H1
       simp only [Option.some.injEq, Prod.mk.injEq] at H
       obtain ⟨rfl, rfl, rfl, rfl, rfl, rfl⟩ := H
       have p162 : 0 ≤ (x15_1 : Int) := of_decide_eq_true (by first | (with_reducible assumption) | assumption)
       have q162 : x15_1 < (l1.length : Int) := of_decide_eq_true (by first | (with_reducible assumption) | assumption)
       obtain ⟨ad162, e162, hx162_0, hx162_1, hx162_2⟩ := at_T28 HR1.out x15_1 p162 q162
       cases e162
       replace hx162_0 := (HB.out.cell (World.block_lt_of_cell? w _ hx162_0)).trans hx162_0
       replace hx162_1 := (HB.out.cell (World.block_lt_of_cell? w _ hx162_1)).trans hx162_1
       replace hx162_2 := (HB.out.cell (World.block_lt_of_cell? w _ hx162_2)).trans hx162_2
       replace p162 := eq_true p162
       replace q162 := eq_true q162
       go_wp2_with (first | ((with_reducible refine gate_dst (N := 8) rfl ?_); refine box_event ?hg (N := 8) ?hd (cs := #[.int .u64 0, .int .u32 0, .int .u32 0]) (t := 28) ?hr ?_; (case hd => rfl); (case hg => rfl); (case hr => first | (go_simp; done) | (go_simp; rfl)); intro gb163 hg w25 hbox hb; have n0_ := blkb BK160 hb; have n1_ := blkb BK161 hb; have n2_ := belb HB hb; have n3_ := Aside0.mk (hbox); have n4_ := bels HB hg; have n5_ := bels HB hg; have n6_ := blkl BK160 hg; have n7_ := blkg BK160 hg; have n8_ := blkl BK161 hg; have n9_ := blkg BK161 hg; clear BK160; clear BK161; clear HB; have BK160 := n0_; have BK161 := n1_; have HB := n2_; have BK163 := n3_; have GW163 := n4_; have GE163 := n5_; have NB160_163 := n6_; have NB163_160 := n7_; have NB161_163 := n8_; have NB163_161 := n9_; clear n0_ n1_ n2_ n3_ n4_ n5_ n6_ n7_ n8_ n9_; clear hb hbox hg; have hnb26 := NB163_160.out; have hnc26 := NB160_163.out; have hnb27 := NB163_161.out; have hnc27 := NB161_163.out; have hcz28_0 : w25.cell? ⟨gb163, 0, none⟩ = some (.int .u64 0) := (blk_cell BK163.out 0).trans rfl; have hcz28_1 : w25.cell? ⟨gb163, 1, none⟩ = some (.int .u32 0) := (blk_cell BK163.out 1).trans rfl; have hcz28_2 : w25.cell? ⟨gb163, 2, none⟩ = some (.int .u32 0) := (blk_cell BK163.out 2).trans rfl; have hfz28_0 := blk_frozen BK163.out 0; have hfz28_1 := blk_frozen BK163.out 1; have hfz28_2 := blk_frozen BK163.out 2; have hnb29 := NB161_160.out; have hnc29 := NB160_161.out; have hcz30_0 : w25.cell? ⟨gb161, 0, none⟩ = some (.int .u64 x162000_1) := (blk_cell BK161.out 0).trans rfl; have hcz30_1 : w25.cell? ⟨gb161, 1, none⟩ = some (.int .i64 x162001_1) := (blk_cell BK161.out 1).trans rfl; have hcz30_2 : w25.cell? ⟨gb161, 2, none⟩ = some (.int .u64 x162002_1) := (blk_cell BK161.out 2).trans rfl; have hcz30_3 : w25.cell? ⟨gb161, 3, none⟩ = some (.int .u64 x162003_1) := (blk_cell BK161.out 3).trans rfl; have hcz30_4 : w25.cell? ⟨gb161, 4, none⟩ = some (.int .i64 x162004_1) := (blk_cell BK161.out 4).trans rfl; have hfz30_0 := blk_frozen BK161.out 0; have hfz30_1 := blk_frozen BK161.out 1; have hfz30_2 := blk_frozen BK161.out 2; have hfz30_3 := blk_frozen BK161.out 3; have hfz30_4 := blk_frozen BK161.out 4) | ((with_reducible refine gate_callee (f := 42) rfl ?_); refine goesL_ (some 22) rfl rfl Tryz.func42 (by kernel_rfl) rfl #[.agg #[.int .u64 x162000_1, .int .i64 x162001_1, .int .u64 x162002_1, .int .u64 x162003_1, .int .i64 x162004_1], .agg #[.int .u64 ((rd_T28 l1 x15_1).f0), .int .u32 ((rd_T28 l1 x15_1).f1), .int .u32 ((rd_T28 l1 x15_1).f2)]] rfl argt ?_; (with_reducible refine (mean_Mean_Add.calls k1 x162000_1 x162001_1 x162002_1 x162003_1 x162004_1 ((rd_T28 l1 x15_1).f0) ((rd_T28 l1 x15_1).f1) ((rd_T28 l1 x15_1).f2) t164 t165 t166 t167 t168 false _ A10.out).mono ?_); rintro e w31 ⟨rfl, hb⟩; refine ⟨_, rfl, ?_⟩; have n0_ := Aside0.mk (blk_below (g := gb160) (o := .cells #[.int .u64 x161000_1, .int .i64 x161001_1, .int .u64 x161002_1, .int .u64 x161003_1, .int .i64 x161004_1] 33 (0, 0)) (by (with_reducible repeat (first | refine blk_drewN ?_ _ | refine blk_drew ?_ | refine blk_alloc ?_ _)); refine blk_far ?_ NB160_163.out _; (with_reducible repeat (first | refine blk_drewN ?_ _ | refine blk_drew ?_ | refine blk_alloc ?_ _)); refine blk_far ?_ NB160_163.out _; (with_reducible repeat (first | refine blk_drewN ?_ _ | refine blk_drew ?_ | refine blk_alloc ?_ _)); refine blk_far ?_ NB160_163.out _; (with_reducible repeat (first | refine blk_drewN ?_ _ | refine blk_drew ?_ | refine blk_alloc ?_ _)); exact BK160.out) hb); have n1_ := Aside0.mk (blk_below (g := gb161) (o := .cells #[.int .u64 x162000_1, .int .i64 x162001_1, .int .u64 x162002_1, .int .u64 x162003_1, .int .i64 x162004_1] 33 (0, 0)) (by (with_reducible repeat (first | refine blk_drewN ?_ _ | refine blk_drew ?_ | refine blk_alloc ?_ _)); refine blk_far ?_ NB161_163.out _; (with_reducible repeat (first | refine blk_drewN ?_ _ | refine blk_drew ?_ | refine blk_alloc ?_ _)); refine blk_far ?_ NB161_163.out _; (with_reducible repeat (first | refine blk_drewN ?_ _ | refine blk_drew ?_ | refine blk_alloc ?_ _)); refine blk_far ?_ NB161_163.out _; (with_reducible repeat (first | refine blk_drewN ?_ _ | refine blk_drew ?_ | refine blk_alloc ?_ _)); exact BK161.out) hb); have n2_ := Aside0.mk (blk_below (g := gb163) (o := .cells #[.int .u64 ((rd_T28 l1 x15_1).f0), .int .u32 ((rd_T28 l1 x15_1).f1), .int .u32 ((rd_T28 l1 x15_1).f2)] 28 (0, 0)) (by (with_reducible repeat (first | refine blk_drewN ?_ _ | refine blk_drew ?_ | refine blk_alloc ?_ _)); refine blk_put (cs := #[.int .u64 ((rd_T28 l1 x15_1).f0), .int .u32 ((rd_T28 l1 x15_1).f1), .int .u32 0]) ?_ 2 _ rfl; (with_reducible repeat (first | refine blk_drewN ?_ _ | refine blk_drew ?_ | refine blk_alloc ?_ _)); refine blk_put (cs := #[.int .u64 ((rd_T28 l1 x15_1).f0), .int .u32 0, .int .u32 0]) ?_ 1 _ rfl; (with_reducible repeat (first | refine blk_drewN ?_ _ | refine blk_drew ?_ | refine blk_alloc ?_ _)); refine blk_put (cs := #[.int .u64 0, .int .u32 0, .int .u32 0]) ?_ 0 _ rfl; (with_reducible repeat (first | refine blk_drewN ?_ _ | refine blk_drew ?_ | refine blk_alloc ?_ _)); exact BK163.out) hb); have n3_ := belb HB hb; clear BK160; clear BK161; clear BK163; clear HB; have BK160 := n0_; have BK161 := n1_; have BK163 := n2_; have HB := n3_; clear n0_ n1_ n2_ n3_; (try clear hb); (try clear hb2); (try clear hk); (try clear hi)) | ((with_reducible refine gate_dst (N := 9) rfl ?_); refine box_event ?hg (N := 9) ?hd (cs := #[.int .u64 0, .int .i64 0, .int .u64 0, .int .u64 0, .int .i64 0]) (t := 33) ?hr ?_; (case hd => rfl); (case hg => rfl); (case hr => first | (go_simp; done) | (go_simp; rfl)); intro gb170 hg w32 hbox hb; have n0_ := blkb BK160 hb; have n1_ := blkb BK161 hb; have n2_ := blkb BK163 hb; have n3_ := belb HB hb; have n4_ := Aside0.mk (hbox); have n5_ := bels HB hg; have n6_ := bels HB hg; have n7_ := blkl BK160 hg; have n8_ := blkg BK160 hg; have n9_ := blkl BK161 hg; have n10_ := blkg BK161 hg; have n11_ := blkl BK163 hg; have n12_ := blkg BK163 hg; clear BK160; clear BK161; clear BK163; clear HB; have BK160 := n0_; have BK161 := n1_; have BK163 := n2_; have HB := n3_; have BK170 := n4_; have GW170 := n5_; have GE170 := n6_; have NB160_170 := n7_; have NB170_160 := n8_; have NB161_170 := n9_; have NB170_161 := n10_; have NB163_170 := n11_; have NB170_163 := n12_; clear n0_ n1_ n2_ n3_ n4_ n5_ n6_ n7_ n8_ n9_ n10_ n11_ n12_; clear hb hbox hg; have hnb33 := NB170_160.out; have hnc33 := NB160_170.out; have hnb34 := NB170_161.out; have hnc34 := NB161_170.out; have hnb35 := NB170_163.out; have hnc35 := NB163_170.out; have hcz36_0 : w32.cell? ⟨gb170, 0, none⟩ = some (.int .u64 0) := (blk_cell BK170.out 0).trans rfl; have hcz36_1 : w32.cell? ⟨gb170, 1, none⟩ = some (.int .i64 0) := (blk_cell BK170.out 1).trans rfl; have hcz36_2 : w32.cell? ⟨gb170, 2, none⟩ = some (.int .u64 0) := (blk_cell BK170.out 2).trans rfl; have hcz36_3 : w32.cell? ⟨gb170, 3, none⟩ = some (.int .u64 0) := (blk_cell BK170.out 3).trans rfl; have hcz36_4 : w32.cell? ⟨gb170, 4, none⟩ = some (.int .i64 0) := (blk_cell BK170.out 4).trans rfl; have hfz36_0 := blk_frozen BK170.out 0; have hfz36_1 := blk_frozen BK170.out 1; have hfz36_2 := blk_frozen BK170.out 2; have hfz36_3 := blk_frozen BK170.out 3; have hfz36_4 := blk_frozen BK170.out 4; have hcz37_0 : w32.cell? ⟨gb160, 0, none⟩ = some (.int .u64 x161000_1) := (blk_cell BK160.out 0).trans rfl; have hcz37_1 : w32.cell? ⟨gb160, 1, none⟩ = some (.int .i64 x161001_1) := (blk_cell BK160.out 1).trans rfl; have hcz37_2 : w32.cell? ⟨gb160, 2, none⟩ = some (.int .u64 x161002_1) := (blk_cell BK160.out 2).trans rfl; have hcz37_3 : w32.cell? ⟨gb160, 3, none⟩ = some (.int .u64 x161003_1) := (blk_cell BK160.out 3).trans rfl; have hcz37_4 : w32.cell? ⟨gb160, 4, none⟩ = some (.int .i64 x161004_1) := (blk_cell BK160.out 4).trans rfl; have hfz37_0 := blk_frozen BK160.out 0; have hfz37_1 := blk_frozen BK160.out 1; have hfz37_2 := blk_frozen BK160.out 2; have hfz37_3 := blk_frozen BK160.out 3; have hfz37_4 := blk_frozen BK160.out 4))
       refine bodyPost_ret (results_ct rfl _ _ gb160 33 #[.int .u64 0, .int .i64 0, .int .u64 0, .int .u64 0, .int .i64 0] (0, 0) _ rfl (by (with_reducible repeat (first | refine blk_drewN ?_ _ | refine blk_drew ?_ | refine blk_alloc ?_ _)); refine blk_put (cs := #[.int .u64 0, .int .i64 0, .int .u64 0, .int .u64 0, .int .i64 x161004_1]) ?_ 4 _ rfl; (with_reducible repeat (first | refine blk_drewN ?_ _ | refine blk_drew ?_ | refine blk_alloc ?_ _)); refine blk_put (cs := #[.int .u64 0, .int .i64 0, .int .u64 0, .int .u64 x161003_1, .int .i64 x161004_1]) ?_ 3 _ rfl; (with_reducible repeat (first | refine blk_drewN ?_ _ | refine blk_drew ?_ | refine blk_alloc ?_ _)); refine blk_put (cs := #[.int .u64 0, .int .i64 0, .int .u64 x161002_1, .int .u64 x161003_1, .int .i64 x161004_1]) ?_ 2 _ rfl; (with_reducible repeat (first | refine blk_drewN ?_ _ | refine blk_drew ?_ | refine blk_alloc ?_ _)); refine blk_put (cs := #[.int .u64 0, .int .i64 x161001_1, .int .u64 x161002_1, .int .u64 x161003_1, .int .i64 x161004_1]) ?_ 1 _ rfl; (with_reducible repeat (first | refine blk_drewN ?_ _ | refine blk_drew ?_ | refine blk_alloc ?_ _)); refine blk_put (cs := #[.int .u64 x161000_1, .int .i64 x161001_1, .int .u64 x161002_1, .int .u64 x161003_1, .int .i64 x161004_1]) ?_ 0 _ rfl; (with_reducible repeat (first | refine blk_drewN ?_ _ | refine blk_drew ?_ | refine blk_alloc ?_ _)); refine blk_far ?_ NB160_170.out _; (with_reducible repeat (first | refine blk_drewN ?_ _ | refine blk_drew ?_ | refine blk_alloc ?_ _)); refine blk_far ?_ NB160_170.out _; (with_reducible repeat (first | refine blk_drewN ?_ _ | refine blk_drew ?_ | refine blk_alloc ?_ _)); refine blk_far ?_ NB160_170.out _; (with_reducible repeat (first | refine blk_drewN ?_ _ | refine blk_drew ?_ | refine blk_alloc ?_ _)); refine blk_far ?_ NB160_170.out _; (with_reducible repeat (first | refine blk_drewN ?_ _ | refine blk_drew ?_ | refine blk_alloc ?_ _)); refine blk_far ?_ NB160_170.out _; (with_reducible repeat (first | refine blk_drewN ?_ _ | refine blk_drew ?_ | refine blk_alloc ?_ _)); exact BK160.out) Tryz.underlying33 rfl (by kernel_rfl)) rfl ?_
       exact ⟨by first | rfl | (simp [errW_none, errW_some] <;> rfl) | (simp [*, errW_none, errW_some] <;> rfl), by repeat (first | (with_reducible first | exact HB.out | apply below_alloc | apply pw_below_drewN | apply below_drew1 | refine below_set ?_ GE160.out | refine below_set ?_ GE161.out | refine below_set ?_ GE163.out | refine below_set ?_ GE170.out) | exact HB.out)⟩
     ·rw [if_neg c9] at H
      exact absurd H (by simp)
    ·rw [if_neg c8] at H
     exact absurd H (by simp)
   ·rw [if_neg c7] at H
    have c7b0 : decide (x15_1 < (l1.length : Int)) = false := decide_eq_false c7
    clear c7
    simp only [Option.some.injEq, Prod.mk.injEq] at H
    obtain ⟨rfl, rfl, rfl, rfl, rfl, rfl⟩ := H
    have hnb38 := NB161_160.out
    have hnc38 := NB160_161.out
    have hcz39_0 : wr.cell? ⟨gb161, 0, none⟩ = some (.int .u64 x162000_1) := (blk_cell BK161.out 0).trans rfl
    have hcz39_1 : wr.cell? ⟨gb161, 1, none⟩ = some (.int .i64 x162001_1) := (blk_cell BK161.out 1).trans rfl
    have hcz39_2 : wr.cell? ⟨gb161, 2, none⟩ = some (.int .u64 x162002_1) := (blk_cell BK161.out 2).trans rfl
    have hcz39_3 : wr.cell? ⟨gb161, 3, none⟩ = some (.int .u64 x162003_1) := (blk_cell BK161.out 3).trans rfl
    have hcz39_4 : wr.cell? ⟨gb161, 4, none⟩ = some (.int .i64 x162004_1) := (blk_cell BK161.out 4).trans rfl
    have hfz39_0 := blk_frozen BK161.out 0
    have hfz39_1 := blk_frozen BK161.out 1
    have hfz39_2 := blk_frozen BK161.out 2
    have hfz39_3 := blk_frozen BK161.out 3
    have hfz39_4 := blk_frozen BK161.out 4
    have hcz40_0 : wr.cell? ⟨gb160, 0, none⟩ = some (.int .u64 x161000_1) := (blk_cell BK160.out 0).trans rfl
    have hcz40_1 : wr.cell? ⟨gb160, 1, none⟩ = some (.int .i64 x161001_1) := (blk_cell BK160.out 1).trans rfl
    have hcz40_2 : wr.cell? ⟨gb160, 2, none⟩ = some (.int .u64 x161002_1) := (blk_cell BK160.out 2).trans rfl
    have hcz40_3 : wr.cell? ⟨gb160, 3, none⟩ = some (.int .u64 x161003_1) := (blk_cell BK160.out 3).trans rfl
    have hcz40_4 : wr.cell? ⟨gb160, 4, none⟩ = some (.int .i64 x161004_1) := (blk_cell BK160.out 4).trans rfl
    have hfz40_0 := blk_frozen BK160.out 0
    have hfz40_1 := blk_frozen BK160.out 1
    have hfz40_2 := blk_frozen BK160.out 2
    have hfz40_3 := blk_frozen BK160.out 3
    have hfz40_4 := blk_frozen BK160.out 4
    go_wp2
    refine bodyPost_ret (results_ct rfl _ _ gb160 33 #[.int .u64 x162000_1, .int .i64 x162001_1, .int .u64 x162002_1, .int .u64 x162003_1, .int .i64 x162004_1] (0, 0) _ rfl (by (with_reducible repeat (first | refine blk_drewN ?_ _ | refine blk_drew ?_ | refine blk_alloc ?_ _)); refine blk_put (cs := #[.int .u64 x162000_1, .int .i64 x162001_1, .int .u64 x162002_1, .int .u64 x162003_1, .int .i64 x161004_1]) ?_ 4 _ rfl; (with_reducible repeat (first | refine blk_drewN ?_ _ | refine blk_drew ?_ | refine blk_alloc ?_ _)); refine blk_put (cs := #[.int .u64 x162000_1, .int .i64 x162001_1, .int .u64 x162002_1, .int .u64 x161003_1, .int .i64 x161004_1]) ?_ 3 _ rfl; (with_reducible repeat (first | refine blk_drewN ?_ _ | refine blk_drew ?_ | refine blk_alloc ?_ _)); refine blk_put (cs := #[.int .u64 x162000_1, .int .i64 x162001_1, .int .u64 x161002_1, .int .u64 x161003_1, .int .i64 x161004_1]) ?_ 2 _ rfl; (with_reducible repeat (first | refine blk_drewN ?_ _ | refine blk_drew ?_ | refine blk_alloc ?_ _)); refine blk_put (cs := #[.int .u64 x162000_1, .int .i64 x161001_1, .int .u64 x161002_1, .int .u64 x161003_1, .int .i64 x161004_1]) ?_ 1 _ rfl; (with_reducible repeat (first | refine blk_drewN ?_ _ | refine blk_drew ?_ | refine blk_alloc ?_ _)); refine blk_put (cs := #[.int .u64 x161000_1, .int .i64 x161001_1, .int .u64 x161002_1, .int .u64 x161003_1, .int .i64 x161004_1]) ?_ 0 _ rfl; (with_reducible repeat (first | refine blk_drewN ?_ _ | refine blk_drew ?_ | refine blk_alloc ?_ _)); exact BK160.out) Tryz.underlying33 rfl (by kernel_rfl)) rfl ?_
    exact ⟨by first | rfl | (simp [errW_none, errW_some] <;> rfl) | (simp [*, errW_none, errW_some] <;> rfl), by repeat (first | (with_reducible first | exact HB.out | apply below_alloc | apply pw_below_drewN | apply below_drew1 | refine below_set ?_ GE160.out | refine below_set ?_ GE161.out) | exact HB.out)⟩

/-! ### vtime_Time_Add: function 16 -/
def vtime_Time_Add.f (a0 : Int) (a1 : Int) : Option (Int) := some (IntKind.u64.wrap (a0 + (IntKind.u64.wrap (a1))))
set_option maxHeartbeats 8000000 in
set_option maxRecDepth 100000 in
theorem vtime_Time_Add.calls (a0 : Int) (a1 : Int) (r : Int) (w : World) (h : vtime_Time_Add.f a0 a1 = some r) :
  Calls Tryz.prog 16 #[.int .u64 a0, .int .i64 a1] w fun e w' => e = .returned (.int .u64 r) ∧ Drawn0 w w' := by
 have H : (some (IntKind.u64.wrap (a0 + (IntKind.u64.wrap (a1))))) = some r := h
 clear h
 obtain rfl := Option.some.inj H
 go_enter Tryz.func16, Tryz.ntmps16
 go_wp2
 go_ret
 exact ⟨by first | rfl | (simp; done) | (simp [*]; done), by repeat (first | exact Drawn0.refl _ | apply Drawn0.step)⟩

/-! ### bits_Len64: function 106 -/
def bits_Len64.f (a0 : Int) : Option Int := if 0 ≤ a0 ∧ a0 ≤ 18446744073709551615 then some (Lib.bitLen a0.toNat : Int) else none
theorem bits_Len64.calls (x : Int) (r : Int) (w : World) (h : bits_Len64.f x = some r) :
  Calls Tryz.prog 106 #[.int .u64 x] w fun e w' => e = .returned (.int .i64 r) ∧ Drawn0 w w' := by
 unfold bits_Len64.f at h
 split at h
 ·rename_i hx
  obtain rfl := Option.some.inj h
  refine (len64_calls x w hx.1 hx.2).mono ?_
  rintro e w' ⟨rfl, rfl⟩
  exact ⟨rfl, Drawn0.refl _⟩
 ·cases h

/-! ### bits_LeadingZeros64: function 96 -/
def bits_LeadingZeros64.f (a0 : Int) : Option (Int) := (bits_Len64.f a0).bind fun t171 => (some (wrap64 (64 - t171)))
set_option maxHeartbeats 8000000 in
set_option maxRecDepth 100000 in
theorem bits_LeadingZeros64.calls (a0 : Int) (r : Int) (w : World) (h : bits_LeadingZeros64.f a0 = some r) :
  Calls Tryz.prog 96 #[.int .u64 a0] w fun e w' => e = .returned (.int .i64 r) ∧ Drawn0 w w' := by
 have H : ((bits_Len64.f a0).bind fun t171 => (some (wrap64 (64 - t171)))) = some r := h
 clear h
 replace H := Option.bind_eq_some_iff.mp H
 obtain ⟨t171, A20, H⟩ := H
 replace H : (some (wrap64 (64 - t171))) = some r := H
 have A2 := Aside0.mk A20
 clear A20
 obtain rfl := Option.some.inj H
 go_enter Tryz.func96, Tryz.ntmps96
 go_wp2_with (first | ((with_reducible refine gate_callee (f := 106) rfl ?_); refine goesL_ (some 4) rfl rfl Tryz.func106 (by kernel_rfl) rfl #[.int .u64 a0] rfl argt ?_; (with_reducible refine (bits_Len64.calls a0 t171 _ A2.out).mono ?_); rintro e w' ⟨rfl, ⟨nd, rfl⟩⟩; refine ⟨_, rfl, ?_⟩))
 go_ret
 exact ⟨by first | rfl | (simp; done) | (simp [*]; done), by repeat (first | exact Drawn0.refl _ | apply Drawn0.step)⟩

end Go.Proofs.YtccokfebebmaeaaGreatDoor.Print
