/- What each Go function that is named below answers, as a Lean function, and that its walk comes to just that: for whatever arguments that function gives an answer for. Written by a program of this session (wip/mkpr.py, pr.sh). -/
import Derived.Test.YtfbkamgdkdnpoaaGreatDoorPrint1000
import Derived.Test.YtfbkamgdkdnpoaaGreatDoorPrint1003
import Derived.Test.YtfbkamgdkdnpoaaGreatDoorPrint1006
import Derived.Test.YtfbkamgdkdnpoaaGreatDoorPrint1004
import Derived.Test.YtfbkamgdkdnpoaaGreatDoorPrint1016
import Derived.Test.YtfbkamgdkdnpoaaGreatDoorPrint1019
namespace Go.Proofs.YtfbkamgdkdnpoaaGreatDoor.Print
open Go.RowKit Go.Proofs.YtfbkamgdkdnpoaaGreatDoorW.PrintWords Go.Proofs.YtfbkamgdkdnpoaaGreatDoorW.PrintLast Go.Proofs.YtfbkamgdkdnpoaaGreatDoorW.PrintMore
attribute [local go_sem] max2_int min2_int max_two min_two max_three min_three max_four min_four   -- for this text's walks alone
open Go.Proofs.YtfbkamgdkdnpoaaGreatDoor.Bits Go.Proofs.YtfbkamgdkdnpoaaGreatDoor.Short
attribute [local go_sem] add64_run0 sub64_run0 add64_run sub64_run
set_option linter.unusedVariables false
set_option linter.unusedSimpArgs false

/-! ### weigh_Weigh: function 35 -/
def weigh_Weigh.j0 : Nat → Int → Bool → Int → Int → Int → Int → Int → Int → Int → Int → Option (Int × Int × Int × Bool)
 | 0, _, _, _, _, _, _, _, _, _, _ => none
 | k + 1, x2, x32, x550000, x550001, x550002, x550003, x550004, x551000, x551001, x551002 => if x32 = true then (some (0, 0, 0, false)) else ((wide_Int_Mul.f k x550001 x550002 (wrap64 ((wrap64 (x2)) - (wrap64 (x551002))))).bind fun bt555 => (if bt555.2.2 = true then ((wide_Int_Div.f k bt555.1 bt555.2.1 x550003).bind fun bt559 => ((pos_Pos_Distance.f k x551000 x551001 x551002 x550000).bind fun bt564 => ((wide_Int_Add.f bt564.1 bt564.2 bt559.1 bt559.2.1).bind fun bt566 => (if bt566.2.2 = true then ((pos_At.f k x550000 bt566.1 bt566.2.1 x2).bind fun bt570 => (some (bt570.1, bt570.2.1, bt570.2.2.1, bt570.2.2.2))) else (some (0, 0, 0, false)))))) else (some (0, 0, 0, false))))
def weigh_Weigh.f (k : Nat) (a0_0 : Int) (a0_1 : Int) (a0_2 : Int) (a0_3 : Int) (a0_4 : Int) (a1_0 : Int) (a1_1 : Int) (a1_2 : Int) (a2 : Int) : Option (Int × Int × Int × Bool) := (mean_Mean_Right.f a0_0 a0_1 a0_2 a0_3 a0_4).bind fun t552 => (if t552 = true then (if a0_4 = 0 then (weigh_Weigh.j0 k a2 true a0_0 a0_1 a0_2 a0_3 a0_4 a1_0 a1_1 a1_2) else ((pos_Pos_Right.f a1_0 a1_1 a1_2).bind fun t553 => (if t553 = true then ((pos_Pos_Right.f 0 0 a2).bind fun t554 => (weigh_Weigh.j0 k a2 (!t554) a0_0 a0_1 a0_2 a0_3 a0_4 a1_0 a1_1 a1_2)) else (weigh_Weigh.j0 k a2 true a0_0 a0_1 a0_2 a0_3 a0_4 a1_0 a1_1 a1_2)))) else (weigh_Weigh.j0 k a2 true a0_0 a0_1 a0_2 a0_3 a0_4 a1_0 a1_1 a1_2))
theorem weigh_Weigh.mono_l : ∀ k, (∀ y0 y1 y2 y3 y4 y5 y6 y7 y8 y9, LeO (weigh_Weigh.j0 k y0 y1 y2 y3 y4 y5 y6 y7 y8 y9) (weigh_Weigh.j0 (k + 1) y0 y1 y2 y3 y4 y5 y6 y7 y8 y9))
 | 0 => fun _ _ _ _ _ _ _ _ _ _ r h => by simp [weigh_Weigh.j0] at h
 | k + 1 => by
  have ih0 := weigh_Weigh.mono_l k
  ·intro y0 y1 y2 y3 y4 y5 y6 y7 y8 y9
   unfold weigh_Weigh.j0
   repeat' first
   | (with_reducible exact ih0 _ _ _ _ _ _ _ _ _ _)
   | (with_reducible exact pos_At.mono _ _ _ _ _)
   | (with_reducible exact pos_Pos_Distance.mono _ _ _ _ _)
   | (with_reducible exact wide_Int_Div.mono _ _ _ _)
   | (with_reducible exact wide_Int_Mul.mono _ _ _ _)
   | (with_reducible exact LeO.refl _)
   | (with_reducible exact LeO.none _)
   | (with_reducible refine LeO.ite ?_ ?_)
   | (with_reducible refine LeO.bind ?_ (fun _ => ?_))
   | exact ih0 _ _ _ _ _ _ _ _ _ _
   | exact pos_At.mono _ _ _ _ _
   | exact pos_Pos_Distance.mono _ _ _ _ _
   | exact wide_Int_Div.mono _ _ _ _
   | exact wide_Int_Mul.mono _ _ _ _
   | exact LeO.none _
   | refine LeO.ite ?_ ?_
   | refine LeO.bind ?_ (fun _ => ?_)
theorem weigh_Weigh.mono : ∀ a0 a1 a2 a3 a4 a5 a6 a7 a8 k, LeO (weigh_Weigh.f k a0 a1 a2 a3 a4 a5 a6 a7 a8) (weigh_Weigh.f (k + 1) a0 a1 a2 a3 a4 a5 a6 a7 a8) := by
 intro a0 a1 a2 a3 a4 a5 a6 a7 a8 k
 have ih0 := weigh_Weigh.mono_l k
 unfold weigh_Weigh.f
 repeat' first
   | (with_reducible exact ih0 _ _ _ _ _ _ _ _ _ _)
   | (with_reducible exact pos_At.mono _ _ _ _ _)
   | (with_reducible exact pos_Pos_Distance.mono _ _ _ _ _)
   | (with_reducible exact wide_Int_Div.mono _ _ _ _)
   | (with_reducible exact wide_Int_Mul.mono _ _ _ _)
   | (with_reducible exact LeO.refl _)
   | (with_reducible exact LeO.none _)
   | (with_reducible refine LeO.ite ?_ ?_)
   | (with_reducible refine LeO.bind ?_ (fun _ => ?_))
   | exact ih0 _ _ _ _ _ _ _ _ _ _
   | exact pos_At.mono _ _ _ _ _
   | exact pos_Pos_Distance.mono _ _ _ _ _
   | exact wide_Int_Div.mono _ _ _ _
   | exact wide_Int_Mul.mono _ _ _ _
   | exact LeO.none _
   | refine LeO.ite ?_ ?_
   | refine LeO.bind ?_ (fun _ => ?_)
def weigh_Weigh.T7 : Bool × List (List Nat × List Nat) := (true, [([], []), ([], []), ([1], [1]), ([0, 2], [0, 2]), ([], []), ([3, 4, 3], [3, 4]), ([5], [5]), ([6], [6]), ([6], [6]), ([], []), ([9, 7, 5, 0, 1, 2, 3, 4, 5, 6, 7, 9], [7, 9]), ([8, 10, 0, 1, 2, 3, 4, 5, 6, 7, 8, 9, 10], [8])])
def weigh_Weigh.B7 : List Nat := [0, 0, 2, 7, 0, 31, 63, 127, 127, 0, 767, 2047]
theorem weigh_Weigh.tab7 : rtab .any (opsOf Tryz.f35 7) = weigh_Weigh.T7 := by kernel_rfl
theorem weigh_Weigh.bits7 : waitsOk weigh_Weigh.T7.2 weigh_Weigh.B7 = true := by kernel_rfl
set_option maxHeartbeats 8000000 in
set_option maxRecDepth 100000 in
theorem weigh_Weigh.calls (k : Nat) (a0_0 : Int) (a0_1 : Int) (a0_2 : Int) (a0_3 : Int) (a0_4 : Int) (a1_0 : Int) (a1_1 : Int) (a1_2 : Int) (a2 : Int) (r1 : Int) (r2 : Int) (r3 : Int) (r4 : Bool) (w : World) (h : weigh_Weigh.f k a0_0 a0_1 a0_2 a0_3 a0_4 a1_0 a1_1 a1_2 a2 = some (r1, r2, r3, r4)) :
  Calls Tryz.prog 35 #[.agg #[.int .u64 a0_0, .int .i64 a0_1, .int .u64 a0_2, .int .u64 a0_3, .int .i64 a0_4], .agg #[.int .u64 a1_0, .int .u32 a1_1, .int .u32 a1_2], .int .u32 a2] w fun e w' => e = .returned (.tuple #[.agg #[.int .u64 r1, .int .u32 r2, .int .u32 r3], .bool r4]) ∧ Below w.heap.size w w' := by
 have hu33 := Tryz.underlying33
 have hu28 := Tryz.underlying28
 have hu31 := Tryz.underlying31
 have HB := Aside0.mk (Below.refl w.heap.size w)
 have H : ((mean_Mean_Right.f a0_0 a0_1 a0_2 a0_3 a0_4).bind fun t552 => (if t552 = true then (if a0_4 = 0 then (weigh_Weigh.j0 k a2 true a0_0 a0_1 a0_2 a0_3 a0_4 a1_0 a1_1 a1_2) else ((pos_Pos_Right.f a1_0 a1_1 a1_2).bind fun t553 => (if t553 = true then ((pos_Pos_Right.f 0 0 a2).bind fun t554 => (weigh_Weigh.j0 k a2 (!t554) a0_0 a0_1 a0_2 a0_3 a0_4 a1_0 a1_1 a1_2)) else (weigh_Weigh.j0 k a2 true a0_0 a0_1 a0_2 a0_3 a0_4 a1_0 a1_1 a1_2)))) else (weigh_Weigh.j0 k a2 true a0_0 a0_1 a0_2 a0_3 a0_4 a1_0 a1_1 a1_2))) = some (r1, r2, r3, r4) := h
 clear h
 have HC4 := Aside0.mk H
 clear H
 go_enter Tryz.func35, Tryz.ntmps35
 go_upto_region 1 with (first | ((with_reducible refine gate_dst (N := 3) rfl ?_); refine box_event ?hg (N := 3) ?hd (cs := #[.int .u64 a0_0, .int .i64 a0_1, .int .u64 a0_2, .int .u64 a0_3, .int .i64 a0_4]) (t := 33) ?hr ?_; (case hd => rfl); (case hg => rfl); (case hr => first | (go_simp; done) | (go_simp; rfl)); intro gb549 hg w5 hbox hb; have BK549 := Aside0.mk (hbox); have GW549 := bels HB hg; have GE549 := bels HB hg; replace HB := belb HB hb; clear hb hbox hg) | ((with_reducible refine gate_dst (N := 4) rfl ?_); refine box_event ?hg (N := 4) ?hd (cs := #[.int .u64 a1_0, .int .u32 a1_1, .int .u32 a1_2]) (t := 28) ?hr ?_; (case hd => rfl); (case hg => rfl); (case hr => first | (go_simp; done) | (go_simp; rfl)); intro gb550 hg w6 hbox hb; have BK550 := Aside0.mk (hbox); have GW550 := bels HB hg; have GE550 := bels HB hg; have NB549_550 := blkl BK549 hg; have NB550_549 := blkg BK549 hg; replace BK549 := blkb BK549 hb; replace HB := belb HB hb; clear hb hbox hg) | ((with_reducible refine gate_dst (N := 6) rfl ?_); refine box_event ?hg (N := 6) ?hd (cs := #[.int .u64 0, .int .u32 0, .int .u32 0]) (t := 28) ?hr ?_; (case hd => rfl); (case hg => rfl); (case hr => first | (go_simp; done) | (go_simp; rfl)); intro gb551 hg w7 hbox hb; have BK551 := Aside0.mk (hbox); have GW551 := bels HB hg; have GE551 := bels HB hg; have NB549_551 := blkl BK549 hg; have NB551_549 := blkg BK549 hg; have NB550_551 := blkl BK550 hg; have NB551_550 := blkg BK550 hg; replace BK549 := blkb BK549 hb; replace BK550 := blkb BK550 hb; replace HB := belb HB hb; clear hb hbox hg))
 (try simp only [Act.put, List.setIfInBounds_toArray, List.set_cons_zero, List.set_cons_succ])
 go_cut [32] (fun v32 wc => ∃ (kq : Nat) (x32_3 : Bool), v32 = .bool x32_3 ∧ Aside0 (weigh_Weigh.j0 kq a2 x32_3 a0_0 a0_1 a0_2 a0_3 a0_4 a1_0 a1_1 a1_2 = some (r1, r2, r3, r4)) ∧ Aside0 (kq ≤ k) ∧ Aside0 (wc.heap[gb549]? = some (.cells #[.int .u64 a0_0, .int .i64 a0_1, .int .u64 a0_2, .int .u64 a0_3, .int .i64 a0_4] 33 (0, 0))) ∧ Aside0 (wc.heap[gb550]? = some (.cells #[.int .u64 a1_0, .int .u32 a1_1, .int .u32 a1_2] 28 (0, 0))) ∧ Aside0 (wc.heap[gb551]? = some (.cells #[.int .u64 0, .int .u32 0, .int .u32 0] 28 (0, 0))) ∧ Aside0 (Below w.heap.size w wc))
 case first =>
  have H := HC4.out
  clear HC4
  replace H := Option.bind_eq_some_iff.mp H
  obtain ⟨t552, A80, H⟩ := H
  replace H : (if t552 = true then (if a0_4 = 0 then (weigh_Weigh.j0 k a2 true a0_0 a0_1 a0_2 a0_3 a0_4 a1_0 a1_1 a1_2) else ((pos_Pos_Right.f a1_0 a1_1 a1_2).bind fun t553 => (if t553 = true then ((pos_Pos_Right.f 0 0 a2).bind fun t554 => (weigh_Weigh.j0 k a2 (!t554) a0_0 a0_1 a0_2 a0_3 a0_4 a1_0 a1_1 a1_2)) else (weigh_Weigh.j0 k a2 true a0_0 a0_1 a0_2 a0_3 a0_4 a1_0 a1_1 a1_2)))) else (weigh_Weigh.j0 k a2 true a0_0 a0_1 a0_2 a0_3 a0_4 a1_0 a1_1 a1_2)) = some (r1, r2, r3, r4) := H
  have A8 := Aside0.mk A80
  clear A80
  by_cases c9 : t552 = true
  ·subst c9
   have H1 : (if a0_4 = 0 then (weigh_Weigh.j0 k a2 true a0_0 a0_1 a0_2 a0_3 a0_4 a1_0 a1_1 a1_2) else ((pos_Pos_Right.f a1_0 a1_1 a1_2).bind fun t553 => (if t553 = true then ((pos_Pos_Right.f 0 0 a2).bind fun t554 => (weigh_Weigh.j0 k a2 (!t554) a0_0 a0_1 a0_2 a0_3 a0_4 a1_0 a1_1 a1_2)) else (weigh_Weigh.j0 k a2 true a0_0 a0_1 a0_2 a0_3 a0_4 a1_0 a1_1 a1_2)))) = some (r1, r2, r3, r4) := by rw [if_pos rfl] at H; exact H
   clear H
   have H := H1
   clear H1
   by_cases c10 : a0_4 = 0
   ·rw [if_pos c10] at H
    have c10b0 : (a0_4 == 0) = true := beq_iff_eq.mpr c10
    have c10b1 : (a0_4 != 0) = false := bne_eq_false_iff_eq.mpr c10
    clear c10
    (first | rw [c10b0] | (simp only [i64_w, i32_w]; rw [c10b0]) | skip)
    have H' := Aside0.mk H
    clear H
    have hnb11 := NB549_550.out
    have hnc11 := NB550_549.out
    have hnb12 := NB549_551.out
    have hnc12 := NB551_549.out
    have hcz13_0 : w7.cell? ⟨gb549, 0, none⟩ = some (.int .u64 a0_0) := (blk_cell BK549.out 0).trans rfl
    have hcz13_1 : w7.cell? ⟨gb549, 1, none⟩ = some (.int .i64 a0_1) := (blk_cell BK549.out 1).trans rfl
    have hcz13_2 : w7.cell? ⟨gb549, 2, none⟩ = some (.int .u64 a0_2) := (blk_cell BK549.out 2).trans rfl
    have hcz13_3 : w7.cell? ⟨gb549, 3, none⟩ = some (.int .u64 a0_3) := (blk_cell BK549.out 3).trans rfl
    have hcz13_4 : w7.cell? ⟨gb549, 4, none⟩ = some (.int .i64 a0_4) := (blk_cell BK549.out 4).trans rfl
    have hfz13_0 := blk_frozen BK549.out 0
    have hfz13_1 := blk_frozen BK549.out 1
    have hfz13_2 := blk_frozen BK549.out 2
    have hfz13_3 := blk_frozen BK549.out 3
    have hfz13_4 := blk_frozen BK549.out 4
    go_wp2_with (first | ((with_reducible refine gate_callee (f := 52) rfl ?_); refine goesL_ (some 15) rfl rfl Tryz.func52 (by kernel_rfl) rfl #[.agg #[.int .u64 a0_0, .int .i64 a0_1, .int .u64 a0_2, .int .u64 a0_3, .int .i64 a0_4]] rfl argt ?_; (with_reducible refine (mean_Mean_Right.calls a0_0 a0_1 a0_2 a0_3 a0_4 true _ A8.out).mono ?_); rintro e w14 ⟨rfl, hb⟩; refine ⟨_, rfl, ?_⟩; replace BK549 := blkb BK549 hb; replace BK550 := blkb BK550 hb; replace BK551 := blkb BK551 hb; replace HB := belb HB hb; (try clear hb); (try clear hb2); (try clear hk); (try clear hi); have hcz15_0 : w14.cell? ⟨gb549, 0, none⟩ = some (.int .u64 a0_0) := (blk_cell BK549.out 0).trans rfl; have hcz15_1 : w14.cell? ⟨gb549, 1, none⟩ = some (.int .i64 a0_1) := (blk_cell BK549.out 1).trans rfl; have hcz15_2 : w14.cell? ⟨gb549, 2, none⟩ = some (.int .u64 a0_2) := (blk_cell BK549.out 2).trans rfl; have hcz15_3 : w14.cell? ⟨gb549, 3, none⟩ = some (.int .u64 a0_3) := (blk_cell BK549.out 3).trans rfl; have hcz15_4 : w14.cell? ⟨gb549, 4, none⟩ = some (.int .i64 a0_4) := (blk_cell BK549.out 4).trans rfl; have hfz15_0 := blk_frozen BK549.out 0; have hfz15_1 := blk_frozen BK549.out 1; have hfz15_2 := blk_frozen BK549.out 2; have hfz15_3 := blk_frozen BK549.out 3; have hfz15_4 := blk_frozen BK549.out 4))
    go_meet
    case rel => exact ⟨_, (true), (by first | rfl | (simp; done) | (simp [*]; done)), H', ⟨by first | omega | exact Nat.le_refl _⟩, ⟨blkt BK549⟩, ⟨blkt BK550⟩, ⟨blkt BK551⟩, ⟨belt HB⟩⟩
   ·rw [if_neg c10] at H
    have c10b0 : (a0_4 == 0) = false := beq_eq_false_iff_ne.mpr c10
    have c10b1 : (a0_4 != 0) = true := bne_iff_ne.mpr c10
    (first | rw [c10b0] | (simp only [i64_w, i32_w]; rw [c10b0]) | skip)
    replace H := Option.bind_eq_some_iff.mp H
    obtain ⟨t553, A160, H⟩ := H
    replace H : (if t553 = true then ((pos_Pos_Right.f 0 0 a2).bind fun t554 => (weigh_Weigh.j0 k a2 (!t554) a0_0 a0_1 a0_2 a0_3 a0_4 a1_0 a1_1 a1_2)) else (weigh_Weigh.j0 k a2 true a0_0 a0_1 a0_2 a0_3 a0_4 a1_0 a1_1 a1_2)) = some (r1, r2, r3, r4) := H
    have A16 := Aside0.mk A160
    clear A160
    by_cases c17 : t553 = true
    ·subst c17
     have H1 : ((pos_Pos_Right.f 0 0 a2).bind fun t554 => (weigh_Weigh.j0 k a2 (!t554) a0_0 a0_1 a0_2 a0_3 a0_4 a1_0 a1_1 a1_2)) = some (r1, r2, r3, r4) := by rw [if_pos rfl] at H; exact H
     clear H
     have H := H1
     clear H1
     replace H := Option.bind_eq_some_iff.mp H
     obtain ⟨t554, A180, H⟩ := H
     replace H : (weigh_Weigh.j0 k a2 (!t554) a0_0 a0_1 a0_2 a0_3 a0_4 a1_0 a1_1 a1_2) = some (r1, r2, r3, r4) := H
     have A18 := Aside0.mk A180
     clear A180
     have H' := Aside0.mk H
     clear H
     have hnb19 := NB549_550.out
     have hnc19 := NB550_549.out
     have hnb20 := NB549_551.out
     have hnc20 := NB551_549.out
     have hcz21_0 : w7.cell? ⟨gb549, 0, none⟩ = some (.int .u64 a0_0) := (blk_cell BK549.out 0).trans rfl
     have hcz21_1 : w7.cell? ⟨gb549, 1, none⟩ = some (.int .i64 a0_1) := (blk_cell BK549.out 1).trans rfl
     have hcz21_2 : w7.cell? ⟨gb549, 2, none⟩ = some (.int .u64 a0_2) := (blk_cell BK549.out 2).trans rfl
     have hcz21_3 : w7.cell? ⟨gb549, 3, none⟩ = some (.int .u64 a0_3) := (blk_cell BK549.out 3).trans rfl
     have hcz21_4 : w7.cell? ⟨gb549, 4, none⟩ = some (.int .i64 a0_4) := (blk_cell BK549.out 4).trans rfl
     have hfz21_0 := blk_frozen BK549.out 0
     have hfz21_1 := blk_frozen BK549.out 1
     have hfz21_2 := blk_frozen BK549.out 2
     have hfz21_3 := blk_frozen BK549.out 3
     have hfz21_4 := blk_frozen BK549.out 4
     go_wp2_with (first | ((with_reducible refine gate_callee (f := 52) rfl ?_); refine goesL_ (some 15) rfl rfl Tryz.func52 (by kernel_rfl) rfl #[.agg #[.int .u64 a0_0, .int .i64 a0_1, .int .u64 a0_2, .int .u64 a0_3, .int .i64 a0_4]] rfl argt ?_; (with_reducible refine (mean_Mean_Right.calls a0_0 a0_1 a0_2 a0_3 a0_4 true _ A8.out).mono ?_); rintro e w22 ⟨rfl, hb⟩; refine ⟨_, rfl, ?_⟩; replace BK549 := blkb BK549 hb; replace BK550 := blkb BK550 hb; replace BK551 := blkb BK551 hb; replace HB := belb HB hb; (try clear hb); (try clear hb2); (try clear hk); (try clear hi); have hcz23_0 : w22.cell? ⟨gb549, 0, none⟩ = some (.int .u64 a0_0) := (blk_cell BK549.out 0).trans rfl; have hcz23_1 : w22.cell? ⟨gb549, 1, none⟩ = some (.int .i64 a0_1) := (blk_cell BK549.out 1).trans rfl; have hcz23_2 : w22.cell? ⟨gb549, 2, none⟩ = some (.int .u64 a0_2) := (blk_cell BK549.out 2).trans rfl; have hcz23_3 : w22.cell? ⟨gb549, 3, none⟩ = some (.int .u64 a0_3) := (blk_cell BK549.out 3).trans rfl; have hcz23_4 : w22.cell? ⟨gb549, 4, none⟩ = some (.int .i64 a0_4) := (blk_cell BK549.out 4).trans rfl; have hfz23_0 := blk_frozen BK549.out 0; have hfz23_1 := blk_frozen BK549.out 1; have hfz23_2 := blk_frozen BK549.out 2; have hfz23_3 := blk_frozen BK549.out 3; have hfz23_4 := blk_frozen BK549.out 4; have hnb24 := NB550_551.out; have hnc24 := NB551_550.out; have hcz25_0 : w22.cell? ⟨gb550, 0, none⟩ = some (.int .u64 a1_0) := (blk_cell BK550.out 0).trans rfl; have hcz25_1 : w22.cell? ⟨gb550, 1, none⟩ = some (.int .u32 a1_1) := (blk_cell BK550.out 1).trans rfl; have hcz25_2 : w22.cell? ⟨gb550, 2, none⟩ = some (.int .u32 a1_2) := (blk_cell BK550.out 2).trans rfl; have hfz25_0 := blk_frozen BK550.out 0; have hfz25_1 := blk_frozen BK550.out 1; have hfz25_2 := blk_frozen BK550.out 2) | (go_at_call 17; (with_reducible refine (pos_Pos_Right.calls a1_0 a1_1 a1_2 true _ A16.out).mono ?_); rintro e w26 ⟨rfl, hb⟩; replace BK549 := blkb BK549 hb; replace BK550 := blkb BK550 hb; replace BK551 := blkb BK551 hb; replace HB := belb HB hb; (try clear hb); (try clear hb2); (try clear hk); (try clear hi)) | (go_at_call 17; (with_reducible refine (pos_Pos_Right.calls 0 0 a2 t554 _ A18.out).mono ?_); rintro e w27 ⟨rfl, hb⟩; replace BK549 := blkb BK549 hb; replace BK550 := blkb BK550 hb; replace BK551 := blkb BK551 hb; replace HB := belb HB hb; (try clear hb); (try clear hb2); (try clear hk); (try clear hi)))
     go_meet
     case rel => exact ⟨_, (!t554), (by first | rfl | (simp; done) | (simp [*]; done)), H', ⟨by first | omega | exact Nat.le_refl _⟩, ⟨blkt BK549⟩, ⟨blkt BK550⟩, ⟨blkt BK551⟩, ⟨belt HB⟩⟩
    ·replace c17 := Bool.eq_false_iff.mpr c17
     subst c17
     have H1 : (weigh_Weigh.j0 k a2 true a0_0 a0_1 a0_2 a0_3 a0_4 a1_0 a1_1 a1_2) = some (r1, r2, r3, r4) := by rw [if_neg (show ¬ (false = true) by decide)] at H; exact H
     clear H
     have H := H1
     clear H1
     have H' := Aside0.mk H
     clear H
     have hnb28 := NB549_550.out
     have hnc28 := NB550_549.out
     have hnb29 := NB549_551.out
     have hnc29 := NB551_549.out
     have hcz30_0 : w7.cell? ⟨gb549, 0, none⟩ = some (.int .u64 a0_0) := (blk_cell BK549.out 0).trans rfl
     have hcz30_1 : w7.cell? ⟨gb549, 1, none⟩ = some (.int .i64 a0_1) := (blk_cell BK549.out 1).trans rfl
     have hcz30_2 : w7.cell? ⟨gb549, 2, none⟩ = some (.int .u64 a0_2) := (blk_cell BK549.out 2).trans rfl
     have hcz30_3 : w7.cell? ⟨gb549, 3, none⟩ = some (.int .u64 a0_3) := (blk_cell BK549.out 3).trans rfl
     have hcz30_4 : w7.cell? ⟨gb549, 4, none⟩ = some (.int .i64 a0_4) := (blk_cell BK549.out 4).trans rfl
     have hfz30_0 := blk_frozen BK549.out 0
     have hfz30_1 := blk_frozen BK549.out 1
     have hfz30_2 := blk_frozen BK549.out 2
     have hfz30_3 := blk_frozen BK549.out 3
     have hfz30_4 := blk_frozen BK549.out 4
     go_wp2_with (first | ((with_reducible refine gate_callee (f := 52) rfl ?_); refine goesL_ (some 15) rfl rfl Tryz.func52 (by kernel_rfl) rfl #[.agg #[.int .u64 a0_0, .int .i64 a0_1, .int .u64 a0_2, .int .u64 a0_3, .int .i64 a0_4]] rfl argt ?_; (with_reducible refine (mean_Mean_Right.calls a0_0 a0_1 a0_2 a0_3 a0_4 true _ A8.out).mono ?_); rintro e w31 ⟨rfl, hb⟩; refine ⟨_, rfl, ?_⟩; replace BK549 := blkb BK549 hb; replace BK550 := blkb BK550 hb; replace BK551 := blkb BK551 hb; replace HB := belb HB hb; (try clear hb); (try clear hb2); (try clear hk); (try clear hi); have hcz32_0 : w31.cell? ⟨gb549, 0, none⟩ = some (.int .u64 a0_0) := (blk_cell BK549.out 0).trans rfl; have hcz32_1 : w31.cell? ⟨gb549, 1, none⟩ = some (.int .i64 a0_1) := (blk_cell BK549.out 1).trans rfl; have hcz32_2 : w31.cell? ⟨gb549, 2, none⟩ = some (.int .u64 a0_2) := (blk_cell BK549.out 2).trans rfl; have hcz32_3 : w31.cell? ⟨gb549, 3, none⟩ = some (.int .u64 a0_3) := (blk_cell BK549.out 3).trans rfl; have hcz32_4 : w31.cell? ⟨gb549, 4, none⟩ = some (.int .i64 a0_4) := (blk_cell BK549.out 4).trans rfl; have hfz32_0 := blk_frozen BK549.out 0; have hfz32_1 := blk_frozen BK549.out 1; have hfz32_2 := blk_frozen BK549.out 2; have hfz32_3 := blk_frozen BK549.out 3; have hfz32_4 := blk_frozen BK549.out 4; have hnb33 := NB550_551.out; have hnc33 := NB551_550.out; have hcz34_0 : w31.cell? ⟨gb550, 0, none⟩ = some (.int .u64 a1_0) := (blk_cell BK550.out 0).trans rfl; have hcz34_1 : w31.cell? ⟨gb550, 1, none⟩ = some (.int .u32 a1_1) := (blk_cell BK550.out 1).trans rfl; have hcz34_2 : w31.cell? ⟨gb550, 2, none⟩ = some (.int .u32 a1_2) := (blk_cell BK550.out 2).trans rfl; have hfz34_0 := blk_frozen BK550.out 0; have hfz34_1 := blk_frozen BK550.out 1; have hfz34_2 := blk_frozen BK550.out 2) | (go_at_call 17; (with_reducible refine (pos_Pos_Right.calls a1_0 a1_1 a1_2 false _ A16.out).mono ?_); rintro e w35 ⟨rfl, hb⟩; replace BK549 := blkb BK549 hb; replace BK550 := blkb BK550 hb; replace BK551 := blkb BK551 hb; replace HB := belb HB hb; (try clear hb); (try clear hb2); (try clear hk); (try clear hi)))
     go_meet
     case rel => exact ⟨_, (true), (by first | rfl | (simp; done) | (simp [*]; done)), H', ⟨by first | omega | exact Nat.le_refl _⟩, ⟨blkt BK549⟩, ⟨blkt BK550⟩, ⟨blkt BK551⟩, ⟨belt HB⟩⟩
  ·replace c9 := Bool.eq_false_iff.mpr c9
   subst c9
   have H1 : (weigh_Weigh.j0 k a2 true a0_0 a0_1 a0_2 a0_3 a0_4 a1_0 a1_1 a1_2) = some (r1, r2, r3, r4) := by rw [if_neg (show ¬ (false = true) by decide)] at H; exact H
   clear H
   have H := H1
   clear H1
   have H' := Aside0.mk H
   clear H
   have hnb36 := NB549_550.out
   have hnc36 := NB550_549.out
   have hnb37 := NB549_551.out
   have hnc37 := NB551_549.out
   have hcz38_0 : w7.cell? ⟨gb549, 0, none⟩ = some (.int .u64 a0_0) := (blk_cell BK549.out 0).trans rfl
   have hcz38_1 : w7.cell? ⟨gb549, 1, none⟩ = some (.int .i64 a0_1) := (blk_cell BK549.out 1).trans rfl
   have hcz38_2 : w7.cell? ⟨gb549, 2, none⟩ = some (.int .u64 a0_2) := (blk_cell BK549.out 2).trans rfl
   have hcz38_3 : w7.cell? ⟨gb549, 3, none⟩ = some (.int .u64 a0_3) := (blk_cell BK549.out 3).trans rfl
   have hcz38_4 : w7.cell? ⟨gb549, 4, none⟩ = some (.int .i64 a0_4) := (blk_cell BK549.out 4).trans rfl
   have hfz38_0 := blk_frozen BK549.out 0
   have hfz38_1 := blk_frozen BK549.out 1
   have hfz38_2 := blk_frozen BK549.out 2
   have hfz38_3 := blk_frozen BK549.out 3
   have hfz38_4 := blk_frozen BK549.out 4
   go_wp2_with (first | ((with_reducible refine gate_callee (f := 52) rfl ?_); refine goesL_ (some 15) rfl rfl Tryz.func52 (by kernel_rfl) rfl #[.agg #[.int .u64 a0_0, .int .i64 a0_1, .int .u64 a0_2, .int .u64 a0_3, .int .i64 a0_4]] rfl argt ?_; (with_reducible refine (mean_Mean_Right.calls a0_0 a0_1 a0_2 a0_3 a0_4 false _ A8.out).mono ?_); rintro e w39 ⟨rfl, hb⟩; refine ⟨_, rfl, ?_⟩; replace BK549 := blkb BK549 hb; replace BK550 := blkb BK550 hb; replace BK551 := blkb BK551 hb; replace HB := belb HB hb; (try clear hb); (try clear hb2); (try clear hk); (try clear hi)))
   go_meet
   case rel => exact ⟨_, (true), (by first | rfl | (simp; done) | (simp [*]; done)), H', ⟨by first | omega | exact Nat.le_refl _⟩, ⟨blkt BK549⟩, ⟨blkt BK550⟩, ⟨blkt BK551⟩, ⟨belt HB⟩⟩
 case rest =>
  clear HC4
  try clear c1
  try clear c2
  try clear p2
  try clear c3
  try clear c5
  try clear c9
  try clear c10
  try clear c10b0
  try clear c10b1
  try clear c11
  try clear c12
  try clear c17
  try clear c19
  try clear c20
  try clear c24
  try clear c28
  try clear c29
  try clear c33
  try clear c35
  try clear c36
  try clear c37
  try clear hcz13_0
  try clear hcz13_1
  try clear hcz13_2
  try clear hcz13_3
  try clear hcz13_4
  try clear hcz15_0
  try clear hcz15_1
  try clear hcz15_2
  try clear hcz15_3
  try clear hcz15_4
  try clear hcz21_0
  try clear hcz21_1
  try clear hcz21_2
  try clear hcz21_3
  try clear hcz21_4
  try clear hcz23_0
  try clear hcz23_1
  try clear hcz23_2
  try clear hcz23_3
  try clear hcz23_4
  try clear hcz25_0
  try clear hcz25_1
  try clear hcz25_2
  try clear hcz30_0
  try clear hcz30_1
  try clear hcz30_2
  try clear hcz30_3
  try clear hcz30_4
  try clear hcz32_0
  try clear hcz32_1
  try clear hcz32_2
  try clear hcz32_3
  try clear hcz32_4
  try clear hcz34_0
  try clear hcz34_1
  try clear hcz34_2
  try clear hcz38_0
  try clear hcz38_1
  try clear hcz38_2
  try clear hcz38_3
  try clear hcz38_4
  try clear hfz13_0
  try clear hfz13_1
  try clear hfz13_2
  try clear hfz13_3
  try clear hfz13_4
  try clear hfz15_0
  try clear hfz15_1
  try clear hfz15_2
  try clear hfz15_3
  try clear hfz15_4
  try clear hfz21_0
  try clear hfz21_1
  try clear hfz21_2
  try clear hfz21_3
  try clear hfz21_4
  try clear hfz23_0
  try clear hfz23_1
  try clear hfz23_2
  try clear hfz23_3
  try clear hfz23_4
  try clear hfz25_0
  try clear hfz25_1
  try clear hfz25_2
  try clear hfz30_0
  try clear hfz30_1
  try clear hfz30_2
  try clear hfz30_3
  try clear hfz30_4
  try clear hfz32_0
  try clear hfz32_1
  try clear hfz32_2
  try clear hfz32_3
  try clear hfz32_4
  try clear hfz34_0
  try clear hfz34_1
  try clear hfz34_2
  try clear hfz38_0
  try clear hfz38_1
  try clear hfz38_2
  try clear hfz38_3
  try clear hfz38_4
  obtain ⟨kq, x32_3, rfl, HA, HJ3, BK549, BK550, BK551, HB⟩ := hcut
  cases kq with
  | zero => exact absurd HA.out (by simp [weigh_Weigh.j0])
  | succ kj3 =>
   have H := HA.out
   clear HA
   simp only [weigh_Weigh.j0] at H
   by_cases c40 : x32_3 = true
   ·subst c40
    have H1 : (some (0, 0, 0, false)) = some (r1, r2, r3, r4) := by rw [if_pos rfl] at H; exact H
    clear H
    have H := H1
    clear H1
    simp only [Option.some.injEq, Prod.mk.injEq] at H
    obtain ⟨rfl, rfl, rfl, rfl⟩ := H
    have hnb41 := NB551_549.out
    have hnc41 := NB549_551.out
    have hnb42 := NB551_550.out
    have hnc42 := NB550_551.out
    have hcz43_0 : wc.cell? ⟨gb551, 0, none⟩ = some (.int .u64 0) := (blk_cell BK551.out 0).trans rfl
    have hcz43_1 : wc.cell? ⟨gb551, 1, none⟩ = some (.int .u32 0) := (blk_cell BK551.out 1).trans rfl
    have hcz43_2 : wc.cell? ⟨gb551, 2, none⟩ = some (.int .u32 0) := (blk_cell BK551.out 2).trans rfl
    have hfz43_0 := blk_frozen BK551.out 0
    have hfz43_1 := blk_frozen BK551.out 1
    have hfz43_2 := blk_frozen BK551.out 2
    go_wp2
    refine bodyPost_ret (results_ct rfl _ _ gb551 28 #[.int .u64 0, .int .u32 0, .int .u32 0] (0, 0) _ rfl (by (with_reducible repeat (first | refine blk_drewN ?_ _ | refine blk_drew ?_ | refine blk_alloc ?_ _)); refine blk_put (cs := #[.int .u64 0, .int .u32 0, .int .u32 0]) ?_ 2 _ rfl; (with_reducible repeat (first | refine blk_drewN ?_ _ | refine blk_drew ?_ | refine blk_alloc ?_ _)); refine blk_put (cs := #[.int .u64 0, .int .u32 0, .int .u32 0]) ?_ 1 _ rfl; (with_reducible repeat (first | refine blk_drewN ?_ _ | refine blk_drew ?_ | refine blk_alloc ?_ _)); refine blk_put (cs := #[.int .u64 0, .int .u32 0, .int .u32 0]) ?_ 0 _ rfl; exact blkt BK551) Tryz.underlying28 rfl (by kernel_rfl)) rfl ?_
    exact ⟨by first | rfl | (simp [errW_none, errW_some] <;> rfl) | (simp [*, errW_none, errW_some] <;> rfl), belt HB⟩
   ·replace c40 := Bool.eq_false_iff.mpr c40
    subst c40
    have H1 : ((wide_Int_Mul.f kj3 a0_1 a0_2 (wrap64 ((wrap64 (a2)) - (wrap64 (a1_2))))).bind fun bt555 => (if bt555.2.2 = true then ((wide_Int_Div.f kj3 bt555.1 bt555.2.1 a0_3).bind fun bt559 => ((pos_Pos_Distance.f kj3 a1_0 a1_1 a1_2 a0_0).bind fun bt564 => ((wide_Int_Add.f bt564.1 bt564.2 bt559.1 bt559.2.1).bind fun bt566 => (if bt566.2.2 = true then ((pos_At.f kj3 a0_0 bt566.1 bt566.2.1 a2).bind fun bt570 => (some (bt570.1, bt570.2.1, bt570.2.2.1, bt570.2.2.2))) else (some (0, 0, 0, false)))))) else (some (0, 0, 0, false)))) = some (r1, r2, r3, r4) := by rw [if_neg (show ¬ (false = true) by decide)] at H; exact H
    clear H
    have H := H1
    clear H1
    replace H := Option.bind_eq_some_iff.mp H
    obtain ⟨⟨t555, t556, t557⟩, A440, H⟩ := H
    replace H : (if t557 = true then ((wide_Int_Div.f kj3 t555 t556 a0_3).bind fun bt559 => ((pos_Pos_Distance.f kj3 a1_0 a1_1 a1_2 a0_0).bind fun bt564 => ((wide_Int_Add.f bt564.1 bt564.2 bt559.1 bt559.2.1).bind fun bt566 => (if bt566.2.2 = true then ((pos_At.f kj3 a0_0 bt566.1 bt566.2.1 a2).bind fun bt570 => (some (bt570.1, bt570.2.1, bt570.2.2.1, bt570.2.2.2))) else (some (0, 0, 0, false)))))) else (some (0, 0, 0, false))) = some (r1, r2, r3, r4) := H
    have A44 := Aside0.mk A440
    clear A440
    by_cases c45 : t557 = true
    ·subst c45
     have H1 : ((wide_Int_Div.f kj3 t555 t556 a0_3).bind fun bt559 => ((pos_Pos_Distance.f kj3 a1_0 a1_1 a1_2 a0_0).bind fun bt564 => ((wide_Int_Add.f bt564.1 bt564.2 bt559.1 bt559.2.1).bind fun bt566 => (if bt566.2.2 = true then ((pos_At.f kj3 a0_0 bt566.1 bt566.2.1 a2).bind fun bt570 => (some (bt570.1, bt570.2.1, bt570.2.2.1, bt570.2.2.2))) else (some (0, 0, 0, false)))))) = some (r1, r2, r3, r4) := by rw [if_pos rfl] at H; exact H
     clear H
     have H := H1
     clear H1
     replace H := Option.bind_eq_some_iff.mp H
     obtain ⟨⟨t559, t560, t561, t562⟩, A460, H⟩ := H
     replace H : ((pos_Pos_Distance.f kj3 a1_0 a1_1 a1_2 a0_0).bind fun bt564 => ((wide_Int_Add.f bt564.1 bt564.2 t559 t560).bind fun bt566 => (if bt566.2.2 = true then ((pos_At.f kj3 a0_0 bt566.1 bt566.2.1 a2).bind fun bt570 => (some (bt570.1, bt570.2.1, bt570.2.2.1, bt570.2.2.2))) else (some (0, 0, 0, false))))) = some (r1, r2, r3, r4) := H
     have A46 := Aside0.mk A460
     clear A460
     replace H := Option.bind_eq_some_iff.mp H
     obtain ⟨⟨t564, t565⟩, A470, H⟩ := H
     replace H : ((wide_Int_Add.f t564 t565 t559 t560).bind fun bt566 => (if bt566.2.2 = true then ((pos_At.f kj3 a0_0 bt566.1 bt566.2.1 a2).bind fun bt570 => (some (bt570.1, bt570.2.1, bt570.2.2.1, bt570.2.2.2))) else (some (0, 0, 0, false)))) = some (r1, r2, r3, r4) := H
     have A47 := Aside0.mk A470
     clear A470
     replace H := Option.bind_eq_some_iff.mp H
     obtain ⟨⟨t566, t567, t568⟩, A480, H⟩ := H
     replace H : (if t568 = true then ((pos_At.f kj3 a0_0 t566 t567 a2).bind fun bt570 => (some (bt570.1, bt570.2.1, bt570.2.2.1, bt570.2.2.2))) else (some (0, 0, 0, false))) = some (r1, r2, r3, r4) := H
     have A48 := Aside0.mk A480
     clear A480
     by_cases c49 : t568 = true
     ·subst c49
      have H1 : ((pos_At.f kj3 a0_0 t566 t567 a2).bind fun bt570 => (some (bt570.1, bt570.2.1, bt570.2.2.1, bt570.2.2.2))) = some (r1, r2, r3, r4) := by rw [if_pos rfl] at H; exact H
      clear H
      have H := H1
      clear H1
      replace H := Option.bind_eq_some_iff.mp H
      obtain ⟨⟨t570, t571, t572, t573⟩, A500, H⟩ := H
      replace H : (some (t570, t571, t572, t573)) = some (r1, r2, r3, r4) := H
      have A50 := Aside0.mk A500
      clear A500
      simp only [Option.some.injEq, Prod.mk.injEq] at H
      obtain ⟨rfl, rfl, rfl, rfl⟩ := H
      have hnb51 := NB549_550.out
      have hnc51 := NB550_549.out
      have hnb52 := NB549_551.out
      have hnc52 := NB551_549.out
      have hcz53_0 : wc.cell? ⟨gb549, 0, none⟩ = some (.int .u64 a0_0) := (blk_cell BK549.out 0).trans rfl
      have hcz53_1 : wc.cell? ⟨gb549, 1, none⟩ = some (.int .i64 a0_1) := (blk_cell BK549.out 1).trans rfl
      have hcz53_2 : wc.cell? ⟨gb549, 2, none⟩ = some (.int .u64 a0_2) := (blk_cell BK549.out 2).trans rfl
      have hcz53_3 : wc.cell? ⟨gb549, 3, none⟩ = some (.int .u64 a0_3) := (blk_cell BK549.out 3).trans rfl
      have hcz53_4 : wc.cell? ⟨gb549, 4, none⟩ = some (.int .i64 a0_4) := (blk_cell BK549.out 4).trans rfl
      have hfz53_0 := blk_frozen BK549.out 0
      have hfz53_1 := blk_frozen BK549.out 1
      have hfz53_2 := blk_frozen BK549.out 2
      have hfz53_3 := blk_frozen BK549.out 3
      have hfz53_4 := blk_frozen BK549.out 4
      have hnb54 := NB550_551.out
      have hnc54 := NB551_550.out
      have hcz55_0 : wc.cell? ⟨gb550, 0, none⟩ = some (.int .u64 a1_0) := (blk_cell BK550.out 0).trans rfl
      have hcz55_1 : wc.cell? ⟨gb550, 1, none⟩ = some (.int .u32 a1_1) := (blk_cell BK550.out 1).trans rfl
      have hcz55_2 : wc.cell? ⟨gb550, 2, none⟩ = some (.int .u32 a1_2) := (blk_cell BK550.out 2).trans rfl
      have hfz55_0 := blk_frozen BK550.out 0
      have hfz55_1 := blk_frozen BK550.out 1
      have hfz55_2 := blk_frozen BK550.out 2
      try go_wp2_with (first | ((with_reducible refine gate_callee (f := 54) rfl ?_); refine goesL_ (some 43) rfl rfl Tryz.func54 (by kernel_rfl) rfl #[.agg #[.int .i64 a0_1, .int .u64 a0_2], .int .i64 (wrap64 ((wrap64 (a2)) - (wrap64 (a1_2))))] rfl argt ?_; (with_reducible refine (wide_Int_Mul.calls kj3 a0_1 a0_2 (wrap64 ((wrap64 (a2)) - (wrap64 (a1_2)))) t555 t556 true _ A44.out).mono ?_); rintro e w56 ⟨rfl, hb⟩; refine ⟨_, rfl, ?_⟩; replace BK549 := blkb BK549 hb; replace BK550 := blkb BK550 hb; replace BK551 := blkb BK551 hb; replace HB := belb HB hb; (try clear hb); (try clear hb2); (try clear hk); (try clear hi)) | ((with_reducible refine gate_dst (N := 8) rfl ?_); refine box_event ?hg (N := 8) ?hd (cs := #[.int .i64 0, .int .u64 0]) (t := 31) ?hr ?_; (case hd => rfl); (case hg => rfl); (case hr => first | (go_simp; done) | (go_simp; rfl)); intro gb558 hg w57 hbox hb; have BK558 := Aside0.mk (hbox); have GW558 := bels HB hg; have GE558 := bels HB hg; have NB549_558 := blkl BK549 hg; have NB558_549 := blkg BK549 hg; have NB550_558 := blkl BK550 hg; have NB558_550 := blkg BK550 hg; have NB551_558 := blkl BK551 hg; have NB558_551 := blkg BK551 hg; replace BK549 := blkb BK549 hb; replace BK550 := blkb BK550 hb; replace BK551 := blkb BK551 hb; replace HB := belb HB hb; clear hb hbox hg; have hnb58 := NB558_549.out; have hnc58 := NB549_558.out; have hnb59 := NB558_550.out; have hnc59 := NB550_558.out; have hnb60 := NB558_551.out; have hnc60 := NB551_558.out; have hcz61_0 : w57.cell? ⟨gb558, 0, none⟩ = some (.int .i64 0) := (blk_cell BK558.out 0).trans rfl; have hcz61_1 : w57.cell? ⟨gb558, 1, none⟩ = some (.int .u64 0) := (blk_cell BK558.out 1).trans rfl; have hfz61_0 := blk_frozen BK558.out 0; have hfz61_1 := blk_frozen BK558.out 1; have hcz62_0 : w57.cell? ⟨gb549, 0, none⟩ = some (.int .u64 a0_0) := (blk_cell BK549.out 0).trans rfl; have hcz62_1 : w57.cell? ⟨gb549, 1, none⟩ = some (.int .i64 a0_1) := (blk_cell BK549.out 1).trans rfl; have hcz62_2 : w57.cell? ⟨gb549, 2, none⟩ = some (.int .u64 a0_2) := (blk_cell BK549.out 2).trans rfl; have hcz62_3 : w57.cell? ⟨gb549, 3, none⟩ = some (.int .u64 a0_3) := (blk_cell BK549.out 3).trans rfl; have hcz62_4 : w57.cell? ⟨gb549, 4, none⟩ = some (.int .i64 a0_4) := (blk_cell BK549.out 4).trans rfl; have hfz62_0 := blk_frozen BK549.out 0; have hfz62_1 := blk_frozen BK549.out 1; have hfz62_2 := blk_frozen BK549.out 2; have hfz62_3 := blk_frozen BK549.out 3; have hfz62_4 := blk_frozen BK549.out 4) | ((with_reducible refine gate_callee (f := 56) rfl ?_); refine goesL_ (some 53) rfl rfl Tryz.func56 (by kernel_rfl) rfl #[.agg #[.int .i64 t555, .int .u64 t556], .int .u64 a0_3] rfl argt ?_; (with_reducible refine (wide_Int_Div.calls kj3 t555 t556 a0_3 t559 t560 t561 t562 _ A46.out).mono ?_); rintro e w63 ⟨rfl, hb⟩; refine ⟨_, rfl, ?_⟩; replace BK549 := Aside0.mk (blk_below (g := gb549) (o := .cells #[.int .u64 a0_0, .int .i64 a0_1, .int .u64 a0_2, .int .u64 a0_3, .int .i64 a0_4] 33 (0, 0)) (by (with_reducible repeat (first | refine blk_drewN ?_ _ | refine blk_drew ?_ | refine blk_alloc ?_ _)); refine blk_far ?_ NB549_558.out _; (with_reducible repeat (first | refine blk_drewN ?_ _ | refine blk_drew ?_ | refine blk_alloc ?_ _)); refine blk_far ?_ NB549_558.out _; exact blkt BK549) hb); replace BK550 := Aside0.mk (blk_below (g := gb550) (o := .cells #[.int .u64 a1_0, .int .u32 a1_1, .int .u32 a1_2] 28 (0, 0)) (by (with_reducible repeat (first | refine blk_drewN ?_ _ | refine blk_drew ?_ | refine blk_alloc ?_ _)); refine blk_far ?_ NB550_558.out _; (with_reducible repeat (first | refine blk_drewN ?_ _ | refine blk_drew ?_ | refine blk_alloc ?_ _)); refine blk_far ?_ NB550_558.out _; exact blkt BK550) hb); replace BK551 := Aside0.mk (blk_below (g := gb551) (o := .cells #[.int .u64 0, .int .u32 0, .int .u32 0] 28 (0, 0)) (by (with_reducible repeat (first | refine blk_drewN ?_ _ | refine blk_drew ?_ | refine blk_alloc ?_ _)); refine blk_far ?_ NB551_558.out _; (with_reducible repeat (first | refine blk_drewN ?_ _ | refine blk_drew ?_ | refine blk_alloc ?_ _)); refine blk_far ?_ NB551_558.out _; exact blkt BK551) hb); replace BK558 := Aside0.mk (blk_below (g := gb558) (o := .cells #[.int .i64 t555, .int .u64 t556] 31 (0, 0)) (by (with_reducible repeat (first | refine blk_drewN ?_ _ | refine blk_drew ?_ | refine blk_alloc ?_ _)); refine blk_put (cs := #[.int .i64 t555, .int .u64 0]) ?_ 1 _ rfl; (with_reducible repeat (first | refine blk_drewN ?_ _ | refine blk_drew ?_ | refine blk_alloc ?_ _)); refine blk_put (cs := #[.int .i64 0, .int .u64 0]) ?_ 0 _ rfl; exact blkt BK558) hb); replace HB := belb HB hb; (try clear hb); (try clear hb2); (try clear hk); (try clear hi)) | ((with_reducible refine gate_dst (N := 10) rfl ?_); refine box_event ?hg (N := 10) ?hd (cs := #[.int .i64 0, .int .u64 0]) (t := 31) ?hr ?_; (case hd => rfl); (case hg => rfl); (case hr => first | (go_simp; done) | (go_simp; rfl)); intro gb563 hg w64 hbox hb; have BK563 := Aside0.mk (hbox); have GW563 := bels HB hg; have GE563 := bels HB hg; have NB549_563 := blkl BK549 hg; have NB563_549 := blkg BK549 hg; have NB550_563 := blkl BK550 hg; have NB563_550 := blkg BK550 hg; have NB551_563 := blkl BK551 hg; have NB563_551 := blkg BK551 hg; have NB558_563 := blkl BK558 hg; have NB563_558 := blkg BK558 hg; replace BK549 := blkb BK549 hb; replace BK550 := blkb BK550 hb; replace BK551 := blkb BK551 hb; replace BK558 := blkb BK558 hb; replace HB := belb HB hb; clear hb hbox hg; have hnb65 := NB563_549.out; have hnc65 := NB549_563.out; have hnb66 := NB563_550.out; have hnc66 := NB550_563.out; have hnb67 := NB563_551.out; have hnc67 := NB551_563.out; have hnb68 := NB563_558.out; have hnc68 := NB558_563.out; have hcz69_0 : w64.cell? ⟨gb563, 0, none⟩ = some (.int .i64 0) := (blk_cell BK563.out 0).trans rfl; have hcz69_1 : w64.cell? ⟨gb563, 1, none⟩ = some (.int .u64 0) := (blk_cell BK563.out 1).trans rfl; have hfz69_0 := blk_frozen BK563.out 0; have hfz69_1 := blk_frozen BK563.out 1))
      have n0_ : Aside0 (((w64.setCell ⟨gb563, 0, none⟩ (.int .i64 t559)).setCell ⟨gb563, 1, none⟩ (.int .u64 t560)).heap[gb549]? = some (.cells #[.int .u64 a0_0, .int .i64 a0_1, .int .u64 a0_2, .int .u64 a0_3, .int .i64 a0_4] 33 (0, 0))) := ⟨by (with_reducible repeat (first | refine blk_drewN ?_ _ | refine blk_drew ?_ | refine blk_alloc ?_ _)); refine blk_far ?_ NB549_563.out _; (with_reducible repeat (first | refine blk_drewN ?_ _ | refine blk_drew ?_ | refine blk_alloc ?_ _)); refine blk_far ?_ NB549_563.out _; exact blkt BK549⟩
      have n1_ : Aside0 (((w64.setCell ⟨gb563, 0, none⟩ (.int .i64 t559)).setCell ⟨gb563, 1, none⟩ (.int .u64 t560)).heap[gb550]? = some (.cells #[.int .u64 a1_0, .int .u32 a1_1, .int .u32 a1_2] 28 (0, 0))) := ⟨by (with_reducible repeat (first | refine blk_drewN ?_ _ | refine blk_drew ?_ | refine blk_alloc ?_ _)); refine blk_far ?_ NB550_563.out _; (with_reducible repeat (first | refine blk_drewN ?_ _ | refine blk_drew ?_ | refine blk_alloc ?_ _)); refine blk_far ?_ NB550_563.out _; exact blkt BK550⟩
      have n2_ : Aside0 (((w64.setCell ⟨gb563, 0, none⟩ (.int .i64 t559)).setCell ⟨gb563, 1, none⟩ (.int .u64 t560)).heap[gb551]? = some (.cells #[.int .u64 0, .int .u32 0, .int .u32 0] 28 (0, 0))) := ⟨by (with_reducible repeat (first | refine blk_drewN ?_ _ | refine blk_drew ?_ | refine blk_alloc ?_ _)); refine blk_far ?_ NB551_563.out _; (with_reducible repeat (first | refine blk_drewN ?_ _ | refine blk_drew ?_ | refine blk_alloc ?_ _)); refine blk_far ?_ NB551_563.out _; exact blkt BK551⟩
      have n3_ : Aside0 (((w64.setCell ⟨gb563, 0, none⟩ (.int .i64 t559)).setCell ⟨gb563, 1, none⟩ (.int .u64 t560)).heap[gb558]? = some (.cells #[.int .i64 t555, .int .u64 t556] 31 (0, 0))) := ⟨by (with_reducible repeat (first | refine blk_drewN ?_ _ | refine blk_drew ?_ | refine blk_alloc ?_ _)); refine blk_far ?_ NB558_563.out _; (with_reducible repeat (first | refine blk_drewN ?_ _ | refine blk_drew ?_ | refine blk_alloc ?_ _)); refine blk_far ?_ NB558_563.out _; exact blkt BK558⟩
      have n4_ : Aside0 (((w64.setCell ⟨gb563, 0, none⟩ (.int .i64 t559)).setCell ⟨gb563, 1, none⟩ (.int .u64 t560)).heap[gb563]? = some (.cells #[.int .i64 t559, .int .u64 t560] 31 (0, 0))) := ⟨by (with_reducible repeat (first | refine blk_drewN ?_ _ | refine blk_drew ?_ | refine blk_alloc ?_ _)); refine blk_put (cs := #[.int .i64 t559, .int .u64 0]) ?_ 1 _ rfl; (with_reducible repeat (first | refine blk_drewN ?_ _ | refine blk_drew ?_ | refine blk_alloc ?_ _)); refine blk_put (cs := #[.int .i64 0, .int .u64 0]) ?_ 0 _ rfl; exact blkt BK563⟩
      have n5_ : Aside0 (Below w.heap.size w ((w64.setCell ⟨gb563, 0, none⟩ (.int .i64 t559)).setCell ⟨gb563, 1, none⟩ (.int .u64 t560))) := ⟨belt HB⟩
      (try clear BK549)
      (try clear BK550)
      (try clear BK551)
      (try clear BK558)
      (try clear BK563)
      (try clear HB)
      generalize ((w64.setCell ⟨gb563, 0, none⟩ (.int .i64 t559)).setCell ⟨gb563, 1, none⟩ (.int .u64 t560)) = w70 at n0_ n1_ n2_ n3_ n4_ n5_ ⊢
      have BK549 := n0_
      have BK550 := n1_
      have BK551 := n2_
      have BK558 := n3_
      have BK563 := n4_
      have HB := n5_
      clear n0_ n1_ n2_ n3_ n4_ n5_
      replace BK549 := Aside0.mk (blk_drew BK549.out)
      replace BK550 := Aside0.mk (blk_drew BK550.out)
      replace BK551 := Aside0.mk (blk_drew BK551.out)
      replace BK558 := Aside0.mk (blk_drew BK558.out)
      replace BK563 := Aside0.mk (blk_drew BK563.out)
      replace HB := Aside0.mk (below_drew1 HB.out)
      refine start_ (n := 12) (S := fun w' => w'.cell? ⟨gb550, 0, none⟩ = some (.int .u64 a1_0) ∧ w'.cell? ⟨gb550, 1, none⟩ = some (.int .u32 a1_1) ∧ w'.cell? ⟨gb550, 2, none⟩ = some (.int .u32 a1_2) ∧ w'.cell? ⟨gb549, 0, none⟩ = some (.int .u64 a0_0) ∧ w'.cell? ⟨gb549, 1, none⟩ = some (.int .i64 a0_1) ∧ w'.cell? ⟨gb549, 2, none⟩ = some (.int .u64 a0_2) ∧ w'.cell? ⟨gb549, 3, none⟩ = some (.int .u64 a0_3) ∧ w'.cell? ⟨gb549, 4, none⟩ = some (.int .i64 a0_4) ∧ w'.cell? ⟨gb563, 0, none⟩ = some (.int .i64 t559) ∧ w'.cell? ⟨gb563, 1, none⟩ = some (.int .u64 t560)) (ds := []) #[false, false, false, false, false, false, false, false, false, false, false, false] (by kernel_rfl) rfl rfl ⟨(blk_cell BK550.out 0).trans rfl, (blk_cell BK550.out 1).trans rfl, (blk_cell BK550.out 2).trans rfl, (blk_cell BK549.out 0).trans rfl, (blk_cell BK549.out 1).trans rfl, (blk_cell BK549.out 2).trans rfl, (blk_cell BK549.out 3).trans rfl, (blk_cell BK549.out 4).trans rfl, (blk_cell BK563.out 0).trans rfl, (blk_cell BK563.out 1).trans rfl⟩ (fun hHeld => ?_); refine with_tabW weigh_Weigh.tab7 weigh_Weigh.bits7 (fun HT_ HW_ => ?_)
      generalize w70.drew = w71 at BK549 BK550 BK551 BK558 BK563 HB hHeld ⊢
      refine pure_ (i := 1) (N := some 59) (v := ?_) (a' := ?_) #[false, true, false, false, false, false, false, false, false, false, false, false] rfl rfl (any_of HT_.out (by kernel_rfl)) (fun _ _ _ h => h) (Or.inl ⟨by rfl, ?_⟩) ?_ ?_
      rotate_left
      ·intro w'
       go_simp
       with_reducible rfl
      rotate_left
      ·simp only [Act.put, List.setIfInBounds_toArray, List.set_cons_zero, List.set_cons_succ, i64_w, i32_w]
       rfl
      refine take_ (i := 0) (N := some 58) (v := ?_) (a' := ?_) #[true, true, false, false, false, false, false, false, false, false, false, false] rfl rfl (take_ofW HT_.out HW_.out (by kernel_rfl)) (fun _ _ _ h => h) (Or.inl ⟨by rfl, ?_⟩) hHeld ?_ ?_
      rotate_left
      ·rintro w' ⟨s0, s1, s2, s3, s4, s5, s6, s7, s8, s9⟩
       go_simp
       with_reducible rfl
      rotate_left
      ·simp only [Act.put, List.setIfInBounds_toArray, List.set_cons_zero, List.set_cons_succ, i64_w, i32_w]
       rfl
      refine take_ (i := 2) (N := some 60) (v := ?_) (a' := ?_) #[true, true, true, false, false, false, false, false, false, false, false, false] rfl rfl (take_ofW HT_.out HW_.out (by kernel_rfl)) (fun _ _ _ h => h) (Or.inl ⟨by rfl, ?_⟩) hHeld ?_ ?_
      rotate_left
      ·rintro w' ⟨s0, s1, s2, s3, s4, s5, s6, s7, s8, s9⟩
       go_simp
       with_reducible rfl
      rotate_left
      ·simp only [Act.put, List.setIfInBounds_toArray, List.set_cons_zero, List.set_cons_succ, i64_w, i32_w]
       rfl
      refine take_ (i := 4) (N := some 62) (v := ?_) (a' := ?_) #[true, true, true, false, true, false, false, false, false, false, false, false] rfl rfl (take_ofW HT_.out HW_.out (by kernel_rfl)) (fun _ _ _ h => h) (Or.inl ⟨by rfl, ?_⟩) hHeld ?_ ?_
      rotate_left
      ·rintro w' ⟨s0, s1, s2, s3, s4, s5, s6, s7, s8, s9⟩
       go_simp
       with_reducible rfl
      rotate_left
      ·simp only [Act.put, List.setIfInBounds_toArray, List.set_cons_zero, List.set_cons_succ, i64_w, i32_w]
       rfl
      refine join_ (σ := Nat) 2 #[true, true, true, true, true, true, true, true, true, true, false, false] (fun s_ => [(61, .agg #[.int .i64 t564, .int .u64 t565]), (63, .tuple #[.agg #[.int .i64 t566, .int .u64 t567], .bool true]), (13, .pointer (some ⟨s_, 0, none⟩)), (57, .tuple #[.agg #[.int .i64 t566, .int .u64 t567], .bool true]), (64, .agg #[.int .i64 t566, .int .u64 t567]), (65, .bool true)]) (fun s_ w' => (w'.cell? ⟨gb550, 0, none⟩ = some (.int .u64 a1_0) ∧ w'.cell? ⟨gb550, 1, none⟩ = some (.int .u32 a1_1) ∧ w'.cell? ⟨gb550, 2, none⟩ = some (.int .u32 a1_2) ∧ w'.cell? ⟨gb549, 0, none⟩ = some (.int .u64 a0_0) ∧ w'.cell? ⟨gb549, 1, none⟩ = some (.int .i64 a0_1) ∧ w'.cell? ⟨gb549, 2, none⟩ = some (.int .u64 a0_2) ∧ w'.cell? ⟨gb549, 3, none⟩ = some (.int .u64 a0_3) ∧ w'.cell? ⟨gb549, 4, none⟩ = some (.int .i64 a0_4) ∧ w'.cell? ⟨gb563, 0, none⟩ = some (.int .i64 t559) ∧ w'.cell? ⟨gb563, 1, none⟩ = some (.int .u64 t560)) ∧ (w'.heap[gb549]? = some (.cells #[.int .u64 a0_0, .int .i64 a0_1, .int .u64 a0_2, .int .u64 a0_3, .int .i64 a0_4] 33 (0, 0))) ∧ (w'.heap[gb550]? = some (.cells #[.int .u64 a1_0, .int .u32 a1_1, .int .u32 a1_2] 28 (0, 0))) ∧ (w'.heap[gb551]? = some (.cells #[.int .u64 0, .int .u32 0, .int .u32 0] 28 (0, 0))) ∧ (w'.heap[gb558]? = some (.cells #[.int .i64 t555, .int .u64 t556] 31 (0, 0))) ∧ (w'.heap[gb563]? = some (.cells #[.int .i64 t559, .int .u64 t560] 31 (0, 0))) ∧ (w'.heap[s_]? = some (.cells #[.int .i64 0, .int .u64 0] 31 (0, 0))) ∧ (w.heap.size ≤ s_) ∧ (w.heap.size ≤ s_) ∧ (gb549 ≠ s_) ∧ (s_ ≠ gb549) ∧ (gb550 ≠ s_) ∧ (s_ ≠ gb550) ∧ (gb551 ≠ s_) ∧ (s_ ≠ gb551) ∧ (gb558 ≠ s_) ∧ (s_ ≠ gb558) ∧ (gb563 ≠ s_) ∧ (s_ ≠ gb563) ∧ (Below w.heap.size w w')) ?_ ?_
      rotate_left
      ·intro hCont
       refine two_ (i := 3) (j := 9) (Ni := some 61) (Nj := some 13) #[true, true, true, true, true, false, false, false, false, false, false, false] #[true, true, true, false, true, false, false, false, false, true, false, false] rfl rfl rfl rfl (two_of HT_.out (by kernel_rfl)) (by decide) (by decide) (fun K hK => ?_) (fun K hK => ?_)
       ·skip
        refine goes_ Tryz.func59 (by kernel_rfl) rfl #[.agg #[.int .u64 a1_0, .int .u32 a1_1, .int .u32 a1_2], .int .u64 a0_0] (by rfl) rfl rfl argt ?_
        with_reducible refine (pos_Pos_Distance.calls kj3 a1_0 a1_1 a1_2 a0_0 t564 t565 _ A47.out).mono ?_
        rintro e w72 ⟨rfl, hb⟩
        refine ⟨_, rfl, ?_⟩
        replace BK549 := blkb BK549 hb
        replace BK550 := blkb BK550 hb
        replace BK551 := blkb BK551 hb
        replace BK558 := blkb BK558 hb
        replace BK563 := blkb BK563 hb
        replace HB := belb HB hb
        (try clear hb)
        (try clear hb2)
        (try clear hk)
        (try clear hi)
        refine hK.out _ _ ⟨(blk_cell BK550.out 0).trans rfl, (blk_cell BK550.out 1).trans rfl, (blk_cell BK550.out 2).trans rfl, (blk_cell BK549.out 0).trans rfl, (blk_cell BK549.out 1).trans rfl, (blk_cell BK549.out 2).trans rfl, (blk_cell BK549.out 3).trans rfl, (blk_cell BK549.out 4).trans rfl, (blk_cell BK563.out 0).trans rfl, (blk_cell BK563.out 1).trans rfl⟩ (fun hHeld => ?_)
        clear hK K
        refine norm_ (a' := ?_) ?_ ?_
        rotate_left
        ·show Act.put _ (some 61) _ = _
         simp only [Act.put, List.setIfInBounds_toArray, List.set_cons_zero, List.set_cons_succ, i64_w, i32_w]
         rfl
        refine two_ (i := 5) (j := 9) (Ni := some 63) (Nj := some 13) #[true, true, true, true, true, true, false, false, false, false, false, false] #[true, true, true, true, true, false, false, false, false, true, false, false] rfl rfl rfl rfl (two_of HT_.out (by kernel_rfl)) (by decide) (by decide) (fun K hK => ?_) (fun K hK => ?_)
        ·skip
         refine goes_ Tryz.func57 (by kernel_rfl) rfl #[.agg #[.int .i64 t564, .int .u64 t565], .agg #[.int .i64 t559, .int .u64 t560]] (by rfl) rfl rfl argt ?_
         with_reducible refine (wide_Int_Add.calls t564 t565 t559 t560 t566 t567 true _ A48.out).mono ?_
         rintro e w73 ⟨rfl, hb⟩
         refine ⟨_, rfl, ?_⟩
         replace BK549 := blkb BK549 hb
         replace BK550 := blkb BK550 hb
         replace BK551 := blkb BK551 hb
         replace BK558 := blkb BK558 hb
         replace BK563 := blkb BK563 hb
         replace HB := belb HB hb
         (try clear hb)
         (try clear hb2)
         (try clear hk)
         (try clear hi)
         refine hK.out _ _ ⟨(blk_cell BK550.out 0).trans rfl, (blk_cell BK550.out 1).trans rfl, (blk_cell BK550.out 2).trans rfl, (blk_cell BK549.out 0).trans rfl, (blk_cell BK549.out 1).trans rfl, (blk_cell BK549.out 2).trans rfl, (blk_cell BK549.out 3).trans rfl, (blk_cell BK549.out 4).trans rfl, (blk_cell BK563.out 0).trans rfl, (blk_cell BK563.out 1).trans rfl⟩ (fun hHeld => ?_)
         clear hK K
         refine norm_ (a' := ?_) ?_ ?_
         rotate_left
         ·show Act.put _ (some 63) _ = _
          simp only [Act.put, List.setIfInBounds_toArray, List.set_cons_zero, List.set_cons_succ, i64_w, i32_w]
          rfl
         refine pure_ (i := 6) (N := some 57) (v := ?_) (a' := ?_) #[true, true, true, true, true, true, true, false, false, false, false, false] rfl rfl (any_of HT_.out (by kernel_rfl)) (fun _ _ _ h => h) (Or.inl ⟨by rfl, ?_⟩) ?_ ?_
         rotate_left
         ·intro w'
          go_simp
          with_reducible rfl
         rotate_left
         ·simp only [Act.put, List.setIfInBounds_toArray, List.set_cons_zero, List.set_cons_succ, i64_w, i32_w]
          rfl
         refine pure_ (i := 7) (N := some 64) (v := ?_) (a' := ?_) #[true, true, true, true, true, true, true, true, false, false, false, false] rfl rfl (any_of HT_.out (by kernel_rfl)) (fun _ _ _ h => h) (Or.inl ⟨by rfl, ?_⟩) ?_ ?_
         rotate_left
         ·intro w'
          go_simp
          with_reducible rfl
         rotate_left
         ·simp only [Act.put, List.setIfInBounds_toArray, List.set_cons_zero, List.set_cons_succ, i64_w, i32_w]
          rfl
         refine pure_ (i := 8) (N := some 65) (v := ?_) (a' := ?_) #[true, true, true, true, true, true, true, true, true, false, false, false] rfl rfl (any_of HT_.out (by kernel_rfl)) (fun _ _ _ h => h) (Or.inl ⟨by rfl, ?_⟩) ?_ ?_
         rotate_left
         ·intro w'
          go_simp
          with_reducible rfl
         rotate_left
         ·simp only [Act.put, List.setIfInBounds_toArray, List.set_cons_zero, List.set_cons_succ, i64_w, i32_w]
          rfl
         refine one_ (i := 9) (N := some 13) #[true, true, true, true, true, true, true, true, true, true, false, false] rfl rfl (one_of HT_.out (by kernel_rfl)) (by decide) (fun K hK => ?_)
         refine box_step ?hg (N := 13) ?hd (cs := #[.int .i64 0, .int .u64 0]) (t := 31) ?hr ?_; (case hd => rfl); (case hg => rfl); (case hr => first | (go_simp; done) | (go_simp; rfl))
         intro gb569 hg w74 hbox hb
         have BK569 := Aside0.mk (hbox)
         have GW569 := bels HB hg
         have GE569 := bels HB hg
         have NB549_569 := blkl BK549 hg
         have NB569_549 := blkg BK549 hg
         have NB550_569 := blkl BK550 hg
         have NB569_550 := blkg BK550 hg
         have NB551_569 := blkl BK551 hg
         have NB569_551 := blkg BK551 hg
         have NB558_569 := blkl BK558 hg
         have NB569_558 := blkg BK558 hg
         have NB563_569 := blkl BK563 hg
         have NB569_563 := blkg BK563 hg
         replace BK549 := blkb BK549 hb
         replace BK550 := blkb BK550 hb
         replace BK551 := blkb BK551 hb
         replace BK558 := blkb BK558 hb
         replace BK563 := blkb BK563 hb
         replace HB := belb HB hb
         clear hb hbox hg
         refine hK.out _ _ ⟨(blk_cell BK550.out 0).trans rfl, (blk_cell BK550.out 1).trans rfl, (blk_cell BK550.out 2).trans rfl, (blk_cell BK549.out 0).trans rfl, (blk_cell BK549.out 1).trans rfl, (blk_cell BK549.out 2).trans rfl, (blk_cell BK549.out 3).trans rfl, (blk_cell BK549.out 4).trans rfl, (blk_cell BK563.out 0).trans rfl, (blk_cell BK563.out 1).trans rfl⟩ (fun hHeld => ?_)
         clear hK K
         refine norm_ (a' := ?_) ?_ ?_
         rotate_left
         ·show Act.put _ (some 13) _ = _
          simp only [Act.put, List.setIfInBounds_toArray, List.set_cons_zero, List.set_cons_succ, i64_w, i32_w]
          rfl
         exact norm_ (by simp only [putAll, Act.put, List.setIfInBounds_toArray, List.set_cons_zero, List.set_cons_succ]) (hCont (gb569) _ ⟨hHeld, (blkt BK549), (blkt BK550), (blkt BK551), (blkt BK558), (blkt BK563), (blkt BK569), GW569.out, GE569.out, NB549_569.out, NB569_549.out, NB550_569.out, NB569_550.out, NB551_569.out, NB569_551.out, NB558_569.out, NB569_558.out, NB563_569.out, NB569_563.out, (belt HB)⟩)
        ·skip
         refine box_step ?hg (N := 13) ?hd (cs := #[.int .i64 0, .int .u64 0]) (t := 31) ?hr ?_; (case hd => rfl); (case hg => rfl); (case hr => first | (go_simp; done) | (go_simp; rfl))
         intro gb569 hg w73 hbox hb
         have BK569 := Aside0.mk (hbox)
         have GW569 := bels HB hg
         have GE569 := bels HB hg
         have NB549_569 := blkl BK549 hg
         have NB569_549 := blkg BK549 hg
         have NB550_569 := blkl BK550 hg
         have NB569_550 := blkg BK550 hg
         have NB551_569 := blkl BK551 hg
         have NB569_551 := blkg BK551 hg
         have NB558_569 := blkl BK558 hg
         have NB569_558 := blkg BK558 hg
         have NB563_569 := blkl BK563 hg
         have NB569_563 := blkg BK563 hg
         replace BK549 := blkb BK549 hb
         replace BK550 := blkb BK550 hb
         replace BK551 := blkb BK551 hb
         replace BK558 := blkb BK558 hb
         replace BK563 := blkb BK563 hb
         replace HB := belb HB hb
         clear hb hbox hg
         refine hK.out _ _ ⟨(blk_cell BK550.out 0).trans rfl, (blk_cell BK550.out 1).trans rfl, (blk_cell BK550.out 2).trans rfl, (blk_cell BK549.out 0).trans rfl, (blk_cell BK549.out 1).trans rfl, (blk_cell BK549.out 2).trans rfl, (blk_cell BK549.out 3).trans rfl, (blk_cell BK549.out 4).trans rfl, (blk_cell BK563.out 0).trans rfl, (blk_cell BK563.out 1).trans rfl⟩ (fun hHeld => ?_)
         clear hK K
         refine norm_ (a' := ?_) ?_ ?_
         rotate_left
         ·show Act.put _ (some 13) _ = _
          simp only [Act.put, List.setIfInBounds_toArray, List.set_cons_zero, List.set_cons_succ, i64_w, i32_w]
          rfl
         refine one_ (i := 5) (N := some 63) #[true, true, true, true, true, true, false, false, false, true, false, false] rfl rfl (one_of HT_.out (by kernel_rfl)) (by decide) (fun K hK => ?_)
         refine goes_ Tryz.func57 (by kernel_rfl) rfl #[.agg #[.int .i64 t564, .int .u64 t565], .agg #[.int .i64 t559, .int .u64 t560]] (by rfl) rfl rfl argt ?_
         with_reducible refine (wide_Int_Add.calls t564 t565 t559 t560 t566 t567 true _ A48.out).mono ?_
         rintro e w74 ⟨rfl, hb⟩
         refine ⟨_, rfl, ?_⟩
         replace BK549 := blkb BK549 hb
         replace BK550 := blkb BK550 hb
         replace BK551 := blkb BK551 hb
         replace BK558 := blkb BK558 hb
         replace BK563 := blkb BK563 hb
         replace BK569 := blkb BK569 hb
         replace HB := belb HB hb
         (try clear hb)
         (try clear hb2)
         (try clear hk)
         (try clear hi)
         refine hK.out _ _ ⟨(blk_cell BK550.out 0).trans rfl, (blk_cell BK550.out 1).trans rfl, (blk_cell BK550.out 2).trans rfl, (blk_cell BK549.out 0).trans rfl, (blk_cell BK549.out 1).trans rfl, (blk_cell BK549.out 2).trans rfl, (blk_cell BK549.out 3).trans rfl, (blk_cell BK549.out 4).trans rfl, (blk_cell BK563.out 0).trans rfl, (blk_cell BK563.out 1).trans rfl⟩ (fun hHeld => ?_)
         clear hK K
         refine norm_ (a' := ?_) ?_ ?_
         rotate_left
         ·show Act.put _ (some 63) _ = _
          simp only [Act.put, List.setIfInBounds_toArray, List.set_cons_zero, List.set_cons_succ, i64_w, i32_w]
          rfl
         refine pure_ (i := 6) (N := some 57) (v := ?_) (a' := ?_) #[true, true, true, true, true, true, true, false, false, true, false, false] rfl rfl (any_of HT_.out (by kernel_rfl)) (fun _ _ _ h => h) (Or.inl ⟨by rfl, ?_⟩) ?_ ?_
         rotate_left
         ·intro w'
          go_simp
          with_reducible rfl
         rotate_left
         ·simp only [Act.put, List.setIfInBounds_toArray, List.set_cons_zero, List.set_cons_succ, i64_w, i32_w]
          rfl
         refine pure_ (i := 7) (N := some 64) (v := ?_) (a' := ?_) #[true, true, true, true, true, true, true, true, false, true, false, false] rfl rfl (any_of HT_.out (by kernel_rfl)) (fun _ _ _ h => h) (Or.inl ⟨by rfl, ?_⟩) ?_ ?_
         rotate_left
         ·intro w'
          go_simp
          with_reducible rfl
         rotate_left
         ·simp only [Act.put, List.setIfInBounds_toArray, List.set_cons_zero, List.set_cons_succ, i64_w, i32_w]
          rfl
         refine pure_ (i := 8) (N := some 65) (v := ?_) (a' := ?_) #[true, true, true, true, true, true, true, true, true, true, false, false] rfl rfl (any_of HT_.out (by kernel_rfl)) (fun _ _ _ h => h) (Or.inl ⟨by rfl, ?_⟩) ?_ ?_
         rotate_left
         ·intro w'
          go_simp
          with_reducible rfl
         rotate_left
         ·simp only [Act.put, List.setIfInBounds_toArray, List.set_cons_zero, List.set_cons_succ, i64_w, i32_w]
          rfl
         exact norm_ (by simp only [putAll, Act.put, List.setIfInBounds_toArray, List.set_cons_zero, List.set_cons_succ]) (hCont (gb569) _ ⟨hHeld, (blkt BK549), (blkt BK550), (blkt BK551), (blkt BK558), (blkt BK563), (blkt BK569), GW569.out, GE569.out, NB549_569.out, NB569_549.out, NB550_569.out, NB569_550.out, NB551_569.out, NB569_551.out, NB558_569.out, NB569_558.out, NB563_569.out, NB569_563.out, (belt HB)⟩)
       ·skip
        refine box_step ?hg (N := 13) ?hd (cs := #[.int .i64 0, .int .u64 0]) (t := 31) ?hr ?_; (case hd => rfl); (case hg => rfl); (case hr => first | (go_simp; done) | (go_simp; rfl))
        intro gb569 hg w72 hbox hb
        have BK569 := Aside0.mk (hbox)
        have GW569 := bels HB hg
        have GE569 := bels HB hg
        have NB549_569 := blkl BK549 hg
        have NB569_549 := blkg BK549 hg
        have NB550_569 := blkl BK550 hg
        have NB569_550 := blkg BK550 hg
        have NB551_569 := blkl BK551 hg
        have NB569_551 := blkg BK551 hg
        have NB558_569 := blkl BK558 hg
        have NB569_558 := blkg BK558 hg
        have NB563_569 := blkl BK563 hg
        have NB569_563 := blkg BK563 hg
        replace BK549 := blkb BK549 hb
        replace BK550 := blkb BK550 hb
        replace BK551 := blkb BK551 hb
        replace BK558 := blkb BK558 hb
        replace BK563 := blkb BK563 hb
        replace HB := belb HB hb
        clear hb hbox hg
        refine hK.out _ _ ⟨(blk_cell BK550.out 0).trans rfl, (blk_cell BK550.out 1).trans rfl, (blk_cell BK550.out 2).trans rfl, (blk_cell BK549.out 0).trans rfl, (blk_cell BK549.out 1).trans rfl, (blk_cell BK549.out 2).trans rfl, (blk_cell BK549.out 3).trans rfl, (blk_cell BK549.out 4).trans rfl, (blk_cell BK563.out 0).trans rfl, (blk_cell BK563.out 1).trans rfl⟩ (fun hHeld => ?_)
        clear hK K
        refine norm_ (a' := ?_) ?_ ?_
        rotate_left
        ·show Act.put _ (some 13) _ = _
         simp only [Act.put, List.setIfInBounds_toArray, List.set_cons_zero, List.set_cons_succ, i64_w, i32_w]
         rfl
        refine one_ (i := 3) (N := some 61) #[true, true, true, true, true, false, false, false, false, true, false, false] rfl rfl (one_of HT_.out (by kernel_rfl)) (by decide) (fun K hK => ?_)
        refine goes_ Tryz.func59 (by kernel_rfl) rfl #[.agg #[.int .u64 a1_0, .int .u32 a1_1, .int .u32 a1_2], .int .u64 a0_0] (by rfl) rfl rfl argt ?_
        with_reducible refine (pos_Pos_Distance.calls kj3 a1_0 a1_1 a1_2 a0_0 t564 t565 _ A47.out).mono ?_
        rintro e w73 ⟨rfl, hb⟩
        refine ⟨_, rfl, ?_⟩
        replace BK549 := blkb BK549 hb
        replace BK550 := blkb BK550 hb
        replace BK551 := blkb BK551 hb
        replace BK558 := blkb BK558 hb
        replace BK563 := blkb BK563 hb
        replace BK569 := blkb BK569 hb
        replace HB := belb HB hb
        (try clear hb)
        (try clear hb2)
        (try clear hk)
        (try clear hi)
        refine hK.out _ _ ⟨(blk_cell BK550.out 0).trans rfl, (blk_cell BK550.out 1).trans rfl, (blk_cell BK550.out 2).trans rfl, (blk_cell BK549.out 0).trans rfl, (blk_cell BK549.out 1).trans rfl, (blk_cell BK549.out 2).trans rfl, (blk_cell BK549.out 3).trans rfl, (blk_cell BK549.out 4).trans rfl, (blk_cell BK563.out 0).trans rfl, (blk_cell BK563.out 1).trans rfl⟩ (fun hHeld => ?_)
        clear hK K
        refine norm_ (a' := ?_) ?_ ?_
        rotate_left
        ·show Act.put _ (some 61) _ = _
         simp only [Act.put, List.setIfInBounds_toArray, List.set_cons_zero, List.set_cons_succ, i64_w, i32_w]
         rfl
        refine one_ (i := 5) (N := some 63) #[true, true, true, true, true, true, false, false, false, true, false, false] rfl rfl (one_of HT_.out (by kernel_rfl)) (by decide) (fun K hK => ?_)
        refine goes_ Tryz.func57 (by kernel_rfl) rfl #[.agg #[.int .i64 t564, .int .u64 t565], .agg #[.int .i64 t559, .int .u64 t560]] (by rfl) rfl rfl argt ?_
        with_reducible refine (wide_Int_Add.calls t564 t565 t559 t560 t566 t567 true _ A48.out).mono ?_
        rintro e w74 ⟨rfl, hb⟩
        refine ⟨_, rfl, ?_⟩
        replace BK549 := blkb BK549 hb
        replace BK550 := blkb BK550 hb
        replace BK551 := blkb BK551 hb
        replace BK558 := blkb BK558 hb
        replace BK563 := blkb BK563 hb
        replace BK569 := blkb BK569 hb
        replace HB := belb HB hb
        (try clear hb)
        (try clear hb2)
        (try clear hk)
        (try clear hi)
        refine hK.out _ _ ⟨(blk_cell BK550.out 0).trans rfl, (blk_cell BK550.out 1).trans rfl, (blk_cell BK550.out 2).trans rfl, (blk_cell BK549.out 0).trans rfl, (blk_cell BK549.out 1).trans rfl, (blk_cell BK549.out 2).trans rfl, (blk_cell BK549.out 3).trans rfl, (blk_cell BK549.out 4).trans rfl, (blk_cell BK563.out 0).trans rfl, (blk_cell BK563.out 1).trans rfl⟩ (fun hHeld => ?_)
        clear hK K
        refine norm_ (a' := ?_) ?_ ?_
        rotate_left
        ·show Act.put _ (some 63) _ = _
         simp only [Act.put, List.setIfInBounds_toArray, List.set_cons_zero, List.set_cons_succ, i64_w, i32_w]
         rfl
        refine pure_ (i := 6) (N := some 57) (v := ?_) (a' := ?_) #[true, true, true, true, true, true, true, false, false, true, false, false] rfl rfl (any_of HT_.out (by kernel_rfl)) (fun _ _ _ h => h) (Or.inl ⟨by rfl, ?_⟩) ?_ ?_
        rotate_left
        ·intro w'
         go_simp
         with_reducible rfl
        rotate_left
        ·simp only [Act.put, List.setIfInBounds_toArray, List.set_cons_zero, List.set_cons_succ, i64_w, i32_w]
         rfl
        refine pure_ (i := 7) (N := some 64) (v := ?_) (a' := ?_) #[true, true, true, true, true, true, true, true, false, true, false, false] rfl rfl (any_of HT_.out (by kernel_rfl)) (fun _ _ _ h => h) (Or.inl ⟨by rfl, ?_⟩) ?_ ?_
        rotate_left
        ·intro w'
         go_simp
         with_reducible rfl
        rotate_left
        ·simp only [Act.put, List.setIfInBounds_toArray, List.set_cons_zero, List.set_cons_succ, i64_w, i32_w]
         rfl
        refine pure_ (i := 8) (N := some 65) (v := ?_) (a' := ?_) #[true, true, true, true, true, true, true, true, true, true, false, false] rfl rfl (any_of HT_.out (by kernel_rfl)) (fun _ _ _ h => h) (Or.inl ⟨by rfl, ?_⟩) ?_ ?_
        rotate_left
        ·intro w'
         go_simp
         with_reducible rfl
        rotate_left
        ·simp only [Act.put, List.setIfInBounds_toArray, List.set_cons_zero, List.set_cons_succ, i64_w, i32_w]
         rfl
        exact norm_ (by simp only [putAll, Act.put, List.setIfInBounds_toArray, List.set_cons_zero, List.set_cons_succ]) (hCont (gb569) _ ⟨hHeld, (blkt BK549), (blkt BK550), (blkt BK551), (blkt BK558), (blkt BK563), (blkt BK569), GW569.out, GE569.out, NB549_569.out, NB569_549.out, NB550_569.out, NB569_550.out, NB551_569.out, NB569_551.out, NB558_569.out, NB569_558.out, NB563_569.out, NB569_563.out, (belt HB)⟩)
      rintro gb569 w75 ⟨hS_, h0_, h1_, h2_, h3_, h4_, h5_, h6_, h7_, h8_, h9_, h10_, h11_, h12_, h13_, h14_, h15_, h16_, h17_, h18_⟩
      replace BK549 : Aside0 (w75.heap[gb549]? = some (.cells #[.int .u64 a0_0, .int .i64 a0_1, .int .u64 a0_2, .int .u64 a0_3, .int .i64 a0_4] 33 (0, 0))) := ⟨h0_⟩
      replace BK550 : Aside0 (w75.heap[gb550]? = some (.cells #[.int .u64 a1_0, .int .u32 a1_1, .int .u32 a1_2] 28 (0, 0))) := ⟨h1_⟩
      replace BK551 : Aside0 (w75.heap[gb551]? = some (.cells #[.int .u64 0, .int .u32 0, .int .u32 0] 28 (0, 0))) := ⟨h2_⟩
      replace BK558 : Aside0 (w75.heap[gb558]? = some (.cells #[.int .i64 t555, .int .u64 t556] 31 (0, 0))) := ⟨h3_⟩
      replace BK563 : Aside0 (w75.heap[gb563]? = some (.cells #[.int .i64 t559, .int .u64 t560] 31 (0, 0))) := ⟨h4_⟩
      have BK569 : Aside0 (w75.heap[gb569]? = some (.cells #[.int .i64 0, .int .u64 0] 31 (0, 0))) := ⟨h5_⟩
      have GW569 : Aside0 (w.heap.size ≤ gb569) := ⟨h6_⟩
      have GE569 : Aside0 (w.heap.size ≤ gb569) := ⟨h7_⟩
      have NB549_569 : Aside0 (gb549 ≠ gb569) := ⟨h8_⟩
      have NB569_549 : Aside0 (gb569 ≠ gb549) := ⟨h9_⟩
      have NB550_569 : Aside0 (gb550 ≠ gb569) := ⟨h10_⟩
      have NB569_550 : Aside0 (gb569 ≠ gb550) := ⟨h11_⟩
      have NB551_569 : Aside0 (gb551 ≠ gb569) := ⟨h12_⟩
      have NB569_551 : Aside0 (gb569 ≠ gb551) := ⟨h13_⟩
      have NB558_569 : Aside0 (gb558 ≠ gb569) := ⟨h14_⟩
      have NB569_558 : Aside0 (gb569 ≠ gb558) := ⟨h15_⟩
      have NB563_569 : Aside0 (gb563 ≠ gb569) := ⟨h16_⟩
      have NB569_563 : Aside0 (gb569 ≠ gb563) := ⟨h17_⟩
      replace HB : Aside0 (Below w.heap.size w w75) := ⟨h18_⟩
      clear h0_ h1_ h2_ h3_ h4_ h5_ h6_ h7_ h8_ h9_ h10_ h11_ h12_ h13_ h14_ h15_ h16_ h17_ h18_
      have hHeld : w75.cell? ⟨gb550, 0, none⟩ = some (.int .u64 a1_0) ∧ w75.cell? ⟨gb550, 1, none⟩ = some (.int .u32 a1_1) ∧ w75.cell? ⟨gb550, 2, none⟩ = some (.int .u32 a1_2) ∧ w75.cell? ⟨gb549, 0, none⟩ = some (.int .u64 a0_0) ∧ w75.cell? ⟨gb549, 1, none⟩ = some (.int .i64 a0_1) ∧ w75.cell? ⟨gb549, 2, none⟩ = some (.int .u64 a0_2) ∧ w75.cell? ⟨gb549, 3, none⟩ = some (.int .u64 a0_3) ∧ w75.cell? ⟨gb549, 4, none⟩ = some (.int .i64 a0_4) ∧ w75.cell? ⟨gb563, 0, none⟩ = some (.int .i64 t559) ∧ w75.cell? ⟨gb563, 1, none⟩ = some (.int .u64 t560) := hS_
      refine norm_ (a' := ?_) ?_ ?_
      rotate_left
      ·simp only [putAll, Act.put, List.setIfInBounds_toArray, List.set_cons_zero, List.set_cons_succ]
       rfl
      refine one_ (i := 10) (N := none) #[true, true, true, true, true, true, true, true, true, true, true, false] rfl rfl (one_of HT_.out (by kernel_rfl)) (by decide) (fun K hK => ?_)
      have hs76 : w75.cell? ⟨gb569, 0, none⟩ = some (.int .i64 0) := (blk_cell BK569.out 0).trans rfl
      have hfs76 := blk_frozen BK569.out 0
      have hns76_0 := NB549_569.out
      have hns76_1 := NB550_569.out
      have hns76_2 := NB551_569.out
      have hns76_3 := NB558_569.out
      have hns76_4 := NB563_569.out
      have hms76_0 := NB569_549.out
      have hms76_1 := NB569_550.out
      have hms76_2 := NB569_551.out
      have hms76_3 := NB569_558.out
      have hms76_4 := NB569_563.out
      have hs77 : w75.cell? ⟨gb569, 1, none⟩ = some (.int .u64 0) := (blk_cell BK569.out 1).trans rfl
      have hfs77 := blk_frozen BK569.out 1
      have hns77_0 := NB549_569.out
      have hns77_1 := NB550_569.out
      have hns77_2 := NB551_569.out
      have hns77_3 := NB558_569.out
      have hns77_4 := NB563_569.out
      have hms77_0 := NB569_549.out
      have hms77_1 := NB569_550.out
      have hms77_2 := NB569_551.out
      have hms77_3 := NB569_558.out
      have hms77_4 := NB569_563.out
      refine skip_ (w1 := ?_) (by rfl) rfl ?_ ?_
      rotate_left
      ·go_simp
       rfl
      refine hK.out _ _ ⟨((cell_far (p := ⟨gb569, _, none⟩) NB550_569.out _).trans (((cell_far (p := ⟨gb569, _, none⟩) NB550_569.out _).trans (hHeld.1)))), ((cell_far (p := ⟨gb569, _, none⟩) NB550_569.out _).trans (((cell_far (p := ⟨gb569, _, none⟩) NB550_569.out _).trans (hHeld.2.1)))), ((cell_far (p := ⟨gb569, _, none⟩) NB550_569.out _).trans (((cell_far (p := ⟨gb569, _, none⟩) NB550_569.out _).trans (hHeld.2.2.1)))), ((cell_far (p := ⟨gb569, _, none⟩) NB549_569.out _).trans (((cell_far (p := ⟨gb569, _, none⟩) NB549_569.out _).trans (hHeld.2.2.2.1)))), ((cell_far (p := ⟨gb569, _, none⟩) NB549_569.out _).trans (((cell_far (p := ⟨gb569, _, none⟩) NB549_569.out _).trans (hHeld.2.2.2.2.1)))), ((cell_far (p := ⟨gb569, _, none⟩) NB549_569.out _).trans (((cell_far (p := ⟨gb569, _, none⟩) NB549_569.out _).trans (hHeld.2.2.2.2.2.1)))), ((cell_far (p := ⟨gb569, _, none⟩) NB549_569.out _).trans (((cell_far (p := ⟨gb569, _, none⟩) NB549_569.out _).trans (hHeld.2.2.2.2.2.2.1)))), ((cell_far (p := ⟨gb569, _, none⟩) NB549_569.out _).trans (((cell_far (p := ⟨gb569, _, none⟩) NB549_569.out _).trans (hHeld.2.2.2.2.2.2.2.1)))), ((cell_far (p := ⟨gb569, _, none⟩) NB563_569.out _).trans (((cell_far (p := ⟨gb569, _, none⟩) NB563_569.out _).trans (hHeld.2.2.2.2.2.2.2.2.1)))), ((cell_far (p := ⟨gb569, _, none⟩) NB563_569.out _).trans (((cell_far (p := ⟨gb569, _, none⟩) NB563_569.out _).trans (hHeld.2.2.2.2.2.2.2.2.2))))⟩ (fun hHeld => ?_)
      clear hK K
      refine pure_ (i := 11) (N := some 9) (v := ?_) (a' := ?_) #[true, true, true, true, true, true, true, true, true, true, true, true] rfl rfl (any_of HT_.out (by kernel_rfl)) (fun _ _ _ h => h) (Or.inl ⟨by rfl, ?_⟩) ?_ ?_
      rotate_left
      ·intro w'
       go_simp
       with_reducible rfl
      rotate_left
      ·simp only [Act.put, List.setIfInBounds_toArray, List.set_cons_zero, List.set_cons_succ, i64_w, i32_w]
       rfl
      refine done_ (done_of HT_.out (by kernel_rfl)) ?_
      have hnb78 := NB549_569.out
      have hnc78 := NB569_549.out
      have hcz79_0 : w75.cell? ⟨gb549, 0, none⟩ = some (.int .u64 a0_0) := (blk_cell BK549.out 0).trans rfl
      have hcz79_1 : w75.cell? ⟨gb549, 1, none⟩ = some (.int .i64 a0_1) := (blk_cell BK549.out 1).trans rfl
      have hcz79_2 : w75.cell? ⟨gb549, 2, none⟩ = some (.int .u64 a0_2) := (blk_cell BK549.out 2).trans rfl
      have hcz79_3 : w75.cell? ⟨gb549, 3, none⟩ = some (.int .u64 a0_3) := (blk_cell BK549.out 3).trans rfl
      have hcz79_4 : w75.cell? ⟨gb549, 4, none⟩ = some (.int .i64 a0_4) := (blk_cell BK549.out 4).trans rfl
      have hfz79_0 := blk_frozen BK549.out 0
      have hfz79_1 := blk_frozen BK549.out 1
      have hfz79_2 := blk_frozen BK549.out 2
      have hfz79_3 := blk_frozen BK549.out 3
      have hfz79_4 := blk_frozen BK549.out 4
      have hnb80 := NB569_550.out
      have hnc80 := NB550_569.out
      have hnb81 := NB569_551.out
      have hnc81 := NB551_569.out
      have hnb82 := NB569_558.out
      have hnc82 := NB558_569.out
      have hnb83 := NB569_563.out
      have hnc83 := NB563_569.out
      have hcz84_0 : w75.cell? ⟨gb569, 0, none⟩ = some (.int .i64 0) := (blk_cell BK569.out 0).trans rfl
      have hcz84_1 : w75.cell? ⟨gb569, 1, none⟩ = some (.int .u64 0) := (blk_cell BK569.out 1).trans rfl
      have hfz84_0 := blk_frozen BK569.out 0
      have hfz84_1 := blk_frozen BK569.out 1
      try go_wp2_with (first | ((with_reducible refine gate_callee (f := 58) rfl ?_); refine goesL_ (some 73) rfl rfl Tryz.func58 (by kernel_rfl) rfl #[.int .u64 a0_0, .agg #[.int .i64 t566, .int .u64 t567], .int .u32 a2] rfl argt ?_; (with_reducible refine (pos_At.calls kj3 a0_0 t566 t567 a2 t570 t571 t572 t573 _ A50.out).mono ?_); rintro e w85 ⟨rfl, hb⟩; refine ⟨_, rfl, ?_⟩; replace BK549 := Aside0.mk (blk_below (g := gb549) (o := .cells #[.int .u64 a0_0, .int .i64 a0_1, .int .u64 a0_2, .int .u64 a0_3, .int .i64 a0_4] 33 (0, 0)) (by (with_reducible repeat (first | refine blk_drewN ?_ _ | refine blk_drew ?_ | refine blk_alloc ?_ _)); refine blk_far ?_ NB549_569.out _; (with_reducible repeat (first | refine blk_drewN ?_ _ | refine blk_drew ?_ | refine blk_alloc ?_ _)); refine blk_far ?_ NB549_569.out _; exact blkt BK549) hb); replace BK550 := Aside0.mk (blk_below (g := gb550) (o := .cells #[.int .u64 a1_0, .int .u32 a1_1, .int .u32 a1_2] 28 (0, 0)) (by (with_reducible repeat (first | refine blk_drewN ?_ _ | refine blk_drew ?_ | refine blk_alloc ?_ _)); refine blk_far ?_ NB550_569.out _; (with_reducible repeat (first | refine blk_drewN ?_ _ | refine blk_drew ?_ | refine blk_alloc ?_ _)); refine blk_far ?_ NB550_569.out _; exact blkt BK550) hb); replace BK551 := Aside0.mk (blk_below (g := gb551) (o := .cells #[.int .u64 0, .int .u32 0, .int .u32 0] 28 (0, 0)) (by (with_reducible repeat (first | refine blk_drewN ?_ _ | refine blk_drew ?_ | refine blk_alloc ?_ _)); refine blk_far ?_ NB551_569.out _; (with_reducible repeat (first | refine blk_drewN ?_ _ | refine blk_drew ?_ | refine blk_alloc ?_ _)); refine blk_far ?_ NB551_569.out _; exact blkt BK551) hb); replace BK558 := Aside0.mk (blk_below (g := gb558) (o := .cells #[.int .i64 t555, .int .u64 t556] 31 (0, 0)) (by (with_reducible repeat (first | refine blk_drewN ?_ _ | refine blk_drew ?_ | refine blk_alloc ?_ _)); refine blk_far ?_ NB558_569.out _; (with_reducible repeat (first | refine blk_drewN ?_ _ | refine blk_drew ?_ | refine blk_alloc ?_ _)); refine blk_far ?_ NB558_569.out _; exact blkt BK558) hb); replace BK563 := Aside0.mk (blk_below (g := gb563) (o := .cells #[.int .i64 t559, .int .u64 t560] 31 (0, 0)) (by (with_reducible repeat (first | refine blk_drewN ?_ _ | refine blk_drew ?_ | refine blk_alloc ?_ _)); refine blk_far ?_ NB563_569.out _; (with_reducible repeat (first | refine blk_drewN ?_ _ | refine blk_drew ?_ | refine blk_alloc ?_ _)); refine blk_far ?_ NB563_569.out _; exact blkt BK563) hb); replace BK569 := Aside0.mk (blk_below (g := gb569) (o := .cells #[.int .i64 t566, .int .u64 t567] 31 (0, 0)) (by (with_reducible repeat (first | refine blk_drewN ?_ _ | refine blk_drew ?_ | refine blk_alloc ?_ _)); refine blk_put (cs := #[.int .i64 t566, .int .u64 0]) ?_ 1 _ rfl; (with_reducible repeat (first | refine blk_drewN ?_ _ | refine blk_drew ?_ | refine blk_alloc ?_ _)); refine blk_put (cs := #[.int .i64 0, .int .u64 0]) ?_ 0 _ rfl; exact blkt BK569) hb); replace HB := belb HB hb; (try clear hb); (try clear hb2); (try clear hk); (try clear hi); have hcz86_0 : w85.cell? ⟨gb551, 0, none⟩ = some (.int .u64 0) := (blk_cell BK551.out 0).trans rfl; have hcz86_1 : w85.cell? ⟨gb551, 1, none⟩ = some (.int .u32 0) := (blk_cell BK551.out 1).trans rfl; have hcz86_2 : w85.cell? ⟨gb551, 2, none⟩ = some (.int .u32 0) := (blk_cell BK551.out 2).trans rfl; have hfz86_0 := blk_frozen BK551.out 0; have hfz86_1 := blk_frozen BK551.out 1; have hfz86_2 := blk_frozen BK551.out 2))
      refine bodyPost_ret (results_ct rfl _ _ gb551 28 #[.int .u64 t570, .int .u32 t571, .int .u32 t572] (0, 0) _ rfl (by (with_reducible repeat (first | refine blk_drewN ?_ _ | refine blk_drew ?_ | refine blk_alloc ?_ _)); refine blk_put (cs := #[.int .u64 t570, .int .u32 t571, .int .u32 0]) ?_ 2 _ rfl; (with_reducible repeat (first | refine blk_drewN ?_ _ | refine blk_drew ?_ | refine blk_alloc ?_ _)); refine blk_put (cs := #[.int .u64 t570, .int .u32 0, .int .u32 0]) ?_ 1 _ rfl; (with_reducible repeat (first | refine blk_drewN ?_ _ | refine blk_drew ?_ | refine blk_alloc ?_ _)); refine blk_put (cs := #[.int .u64 0, .int .u32 0, .int .u32 0]) ?_ 0 _ rfl; exact blkt BK551) Tryz.underlying28 rfl (by kernel_rfl)) rfl ?_
      exact ⟨by first | rfl | (simp [errW_none, errW_some] <;> rfl) | (simp [*, errW_none, errW_some] <;> rfl), belt HB⟩
     ·replace c49 := Bool.eq_false_iff.mpr c49
      subst c49
      have H1 : (some (0, 0, 0, false)) = some (r1, r2, r3, r4) := by rw [if_neg (show ¬ (false = true) by decide)] at H; exact H
      clear H
      have H := H1
      clear H1
      simp only [Option.some.injEq, Prod.mk.injEq] at H
      obtain ⟨rfl, rfl, rfl, rfl⟩ := H
      have hnb87 := NB549_550.out
      have hnc87 := NB550_549.out
      have hnb88 := NB549_551.out
      have hnc88 := NB551_549.out
      have hcz89_0 : wc.cell? ⟨gb549, 0, none⟩ = some (.int .u64 a0_0) := (blk_cell BK549.out 0).trans rfl
      have hcz89_1 : wc.cell? ⟨gb549, 1, none⟩ = some (.int .i64 a0_1) := (blk_cell BK549.out 1).trans rfl
      have hcz89_2 : wc.cell? ⟨gb549, 2, none⟩ = some (.int .u64 a0_2) := (blk_cell BK549.out 2).trans rfl
      have hcz89_3 : wc.cell? ⟨gb549, 3, none⟩ = some (.int .u64 a0_3) := (blk_cell BK549.out 3).trans rfl
      have hcz89_4 : wc.cell? ⟨gb549, 4, none⟩ = some (.int .i64 a0_4) := (blk_cell BK549.out 4).trans rfl
      have hfz89_0 := blk_frozen BK549.out 0
      have hfz89_1 := blk_frozen BK549.out 1
      have hfz89_2 := blk_frozen BK549.out 2
      have hfz89_3 := blk_frozen BK549.out 3
      have hfz89_4 := blk_frozen BK549.out 4
      have hnb90 := NB550_551.out
      have hnc90 := NB551_550.out
      have hcz91_0 : wc.cell? ⟨gb550, 0, none⟩ = some (.int .u64 a1_0) := (blk_cell BK550.out 0).trans rfl
      have hcz91_1 : wc.cell? ⟨gb550, 1, none⟩ = some (.int .u32 a1_1) := (blk_cell BK550.out 1).trans rfl
      have hcz91_2 : wc.cell? ⟨gb550, 2, none⟩ = some (.int .u32 a1_2) := (blk_cell BK550.out 2).trans rfl
      have hfz91_0 := blk_frozen BK550.out 0
      have hfz91_1 := blk_frozen BK550.out 1
      have hfz91_2 := blk_frozen BK550.out 2
      try go_wp2_with (first | ((with_reducible refine gate_callee (f := 54) rfl ?_); refine goesL_ (some 43) rfl rfl Tryz.func54 (by kernel_rfl) rfl #[.agg #[.int .i64 a0_1, .int .u64 a0_2], .int .i64 (wrap64 ((wrap64 (a2)) - (wrap64 (a1_2))))] rfl argt ?_; (with_reducible refine (wide_Int_Mul.calls kj3 a0_1 a0_2 (wrap64 ((wrap64 (a2)) - (wrap64 (a1_2)))) t555 t556 true _ A44.out).mono ?_); rintro e w92 ⟨rfl, hb⟩; refine ⟨_, rfl, ?_⟩; replace BK549 := blkb BK549 hb; replace BK550 := blkb BK550 hb; replace BK551 := blkb BK551 hb; replace HB := belb HB hb; (try clear hb); (try clear hb2); (try clear hk); (try clear hi)) | ((with_reducible refine gate_dst (N := 8) rfl ?_); refine box_event ?hg (N := 8) ?hd (cs := #[.int .i64 0, .int .u64 0]) (t := 31) ?hr ?_; (case hd => rfl); (case hg => rfl); (case hr => first | (go_simp; done) | (go_simp; rfl)); intro gb558 hg w93 hbox hb; have BK558 := Aside0.mk (hbox); have GW558 := bels HB hg; have GE558 := bels HB hg; have NB549_558 := blkl BK549 hg; have NB558_549 := blkg BK549 hg; have NB550_558 := blkl BK550 hg; have NB558_550 := blkg BK550 hg; have NB551_558 := blkl BK551 hg; have NB558_551 := blkg BK551 hg; replace BK549 := blkb BK549 hb; replace BK550 := blkb BK550 hb; replace BK551 := blkb BK551 hb; replace HB := belb HB hb; clear hb hbox hg; have hnb94 := NB558_549.out; have hnc94 := NB549_558.out; have hnb95 := NB558_550.out; have hnc95 := NB550_558.out; have hnb96 := NB558_551.out; have hnc96 := NB551_558.out; have hcz97_0 : w93.cell? ⟨gb558, 0, none⟩ = some (.int .i64 0) := (blk_cell BK558.out 0).trans rfl; have hcz97_1 : w93.cell? ⟨gb558, 1, none⟩ = some (.int .u64 0) := (blk_cell BK558.out 1).trans rfl; have hfz97_0 := blk_frozen BK558.out 0; have hfz97_1 := blk_frozen BK558.out 1; have hcz98_0 : w93.cell? ⟨gb549, 0, none⟩ = some (.int .u64 a0_0) := (blk_cell BK549.out 0).trans rfl; have hcz98_1 : w93.cell? ⟨gb549, 1, none⟩ = some (.int .i64 a0_1) := (blk_cell BK549.out 1).trans rfl; have hcz98_2 : w93.cell? ⟨gb549, 2, none⟩ = some (.int .u64 a0_2) := (blk_cell BK549.out 2).trans rfl; have hcz98_3 : w93.cell? ⟨gb549, 3, none⟩ = some (.int .u64 a0_3) := (blk_cell BK549.out 3).trans rfl; have hcz98_4 : w93.cell? ⟨gb549, 4, none⟩ = some (.int .i64 a0_4) := (blk_cell BK549.out 4).trans rfl; have hfz98_0 := blk_frozen BK549.out 0; have hfz98_1 := blk_frozen BK549.out 1; have hfz98_2 := blk_frozen BK549.out 2; have hfz98_3 := blk_frozen BK549.out 3; have hfz98_4 := blk_frozen BK549.out 4) | ((with_reducible refine gate_callee (f := 56) rfl ?_); refine goesL_ (some 53) rfl rfl Tryz.func56 (by kernel_rfl) rfl #[.agg #[.int .i64 t555, .int .u64 t556], .int .u64 a0_3] rfl argt ?_; (with_reducible refine (wide_Int_Div.calls kj3 t555 t556 a0_3 t559 t560 t561 t562 _ A46.out).mono ?_); rintro e w99 ⟨rfl, hb⟩; refine ⟨_, rfl, ?_⟩; replace BK549 := Aside0.mk (blk_below (g := gb549) (o := .cells #[.int .u64 a0_0, .int .i64 a0_1, .int .u64 a0_2, .int .u64 a0_3, .int .i64 a0_4] 33 (0, 0)) (by (with_reducible repeat (first | refine blk_drewN ?_ _ | refine blk_drew ?_ | refine blk_alloc ?_ _)); refine blk_far ?_ NB549_558.out _; (with_reducible repeat (first | refine blk_drewN ?_ _ | refine blk_drew ?_ | refine blk_alloc ?_ _)); refine blk_far ?_ NB549_558.out _; exact blkt BK549) hb); replace BK550 := Aside0.mk (blk_below (g := gb550) (o := .cells #[.int .u64 a1_0, .int .u32 a1_1, .int .u32 a1_2] 28 (0, 0)) (by (with_reducible repeat (first | refine blk_drewN ?_ _ | refine blk_drew ?_ | refine blk_alloc ?_ _)); refine blk_far ?_ NB550_558.out _; (with_reducible repeat (first | refine blk_drewN ?_ _ | refine blk_drew ?_ | refine blk_alloc ?_ _)); refine blk_far ?_ NB550_558.out _; exact blkt BK550) hb); replace BK551 := Aside0.mk (blk_below (g := gb551) (o := .cells #[.int .u64 0, .int .u32 0, .int .u32 0] 28 (0, 0)) (by (with_reducible repeat (first | refine blk_drewN ?_ _ | refine blk_drew ?_ | refine blk_alloc ?_ _)); refine blk_far ?_ NB551_558.out _; (with_reducible repeat (first | refine blk_drewN ?_ _ | refine blk_drew ?_ | refine blk_alloc ?_ _)); refine blk_far ?_ NB551_558.out _; exact blkt BK551) hb); replace BK558 := Aside0.mk (blk_below (g := gb558) (o := .cells #[.int .i64 t555, .int .u64 t556] 31 (0, 0)) (by (with_reducible repeat (first | refine blk_drewN ?_ _ | refine blk_drew ?_ | refine blk_alloc ?_ _)); refine blk_put (cs := #[.int .i64 t555, .int .u64 0]) ?_ 1 _ rfl; (with_reducible repeat (first | refine blk_drewN ?_ _ | refine blk_drew ?_ | refine blk_alloc ?_ _)); refine blk_put (cs := #[.int .i64 0, .int .u64 0]) ?_ 0 _ rfl; exact blkt BK558) hb); replace HB := belb HB hb; (try clear hb); (try clear hb2); (try clear hk); (try clear hi)) | ((with_reducible refine gate_dst (N := 10) rfl ?_); refine box_event ?hg (N := 10) ?hd (cs := #[.int .i64 0, .int .u64 0]) (t := 31) ?hr ?_; (case hd => rfl); (case hg => rfl); (case hr => first | (go_simp; done) | (go_simp; rfl)); intro gb563 hg w100 hbox hb; have BK563 := Aside0.mk (hbox); have GW563 := bels HB hg; have GE563 := bels HB hg; have NB549_563 := blkl BK549 hg; have NB563_549 := blkg BK549 hg; have NB550_563 := blkl BK550 hg; have NB563_550 := blkg BK550 hg; have NB551_563 := blkl BK551 hg; have NB563_551 := blkg BK551 hg; have NB558_563 := blkl BK558 hg; have NB563_558 := blkg BK558 hg; replace BK549 := blkb BK549 hb; replace BK550 := blkb BK550 hb; replace BK551 := blkb BK551 hb; replace BK558 := blkb BK558 hb; replace HB := belb HB hb; clear hb hbox hg; have hnb101 := NB563_549.out; have hnc101 := NB549_563.out; have hnb102 := NB563_550.out; have hnc102 := NB550_563.out; have hnb103 := NB563_551.out; have hnc103 := NB551_563.out; have hnb104 := NB563_558.out; have hnc104 := NB558_563.out; have hcz105_0 : w100.cell? ⟨gb563, 0, none⟩ = some (.int .i64 0) := (blk_cell BK563.out 0).trans rfl; have hcz105_1 : w100.cell? ⟨gb563, 1, none⟩ = some (.int .u64 0) := (blk_cell BK563.out 1).trans rfl; have hfz105_0 := blk_frozen BK563.out 0; have hfz105_1 := blk_frozen BK563.out 1))
      have n0_ : Aside0 (((w100.setCell ⟨gb563, 0, none⟩ (.int .i64 t559)).setCell ⟨gb563, 1, none⟩ (.int .u64 t560)).heap[gb549]? = some (.cells #[.int .u64 a0_0, .int .i64 a0_1, .int .u64 a0_2, .int .u64 a0_3, .int .i64 a0_4] 33 (0, 0))) := ⟨by (with_reducible repeat (first | refine blk_drewN ?_ _ | refine blk_drew ?_ | refine blk_alloc ?_ _)); refine blk_far ?_ NB549_563.out _; (with_reducible repeat (first | refine blk_drewN ?_ _ | refine blk_drew ?_ | refine blk_alloc ?_ _)); refine blk_far ?_ NB549_563.out _; exact blkt BK549⟩
      have n1_ : Aside0 (((w100.setCell ⟨gb563, 0, none⟩ (.int .i64 t559)).setCell ⟨gb563, 1, none⟩ (.int .u64 t560)).heap[gb550]? = some (.cells #[.int .u64 a1_0, .int .u32 a1_1, .int .u32 a1_2] 28 (0, 0))) := ⟨by (with_reducible repeat (first | refine blk_drewN ?_ _ | refine blk_drew ?_ | refine blk_alloc ?_ _)); refine blk_far ?_ NB550_563.out _; (with_reducible repeat (first | refine blk_drewN ?_ _ | refine blk_drew ?_ | refine blk_alloc ?_ _)); refine blk_far ?_ NB550_563.out _; exact blkt BK550⟩
      have n2_ : Aside0 (((w100.setCell ⟨gb563, 0, none⟩ (.int .i64 t559)).setCell ⟨gb563, 1, none⟩ (.int .u64 t560)).heap[gb551]? = some (.cells #[.int .u64 0, .int .u32 0, .int .u32 0] 28 (0, 0))) := ⟨by (with_reducible repeat (first | refine blk_drewN ?_ _ | refine blk_drew ?_ | refine blk_alloc ?_ _)); refine blk_far ?_ NB551_563.out _; (with_reducible repeat (first | refine blk_drewN ?_ _ | refine blk_drew ?_ | refine blk_alloc ?_ _)); refine blk_far ?_ NB551_563.out _; exact blkt BK551⟩
      have n3_ : Aside0 (((w100.setCell ⟨gb563, 0, none⟩ (.int .i64 t559)).setCell ⟨gb563, 1, none⟩ (.int .u64 t560)).heap[gb558]? = some (.cells #[.int .i64 t555, .int .u64 t556] 31 (0, 0))) := ⟨by (with_reducible repeat (first | refine blk_drewN ?_ _ | refine blk_drew ?_ | refine blk_alloc ?_ _)); refine blk_far ?_ NB558_563.out _; (with_reducible repeat (first | refine blk_drewN ?_ _ | refine blk_drew ?_ | refine blk_alloc ?_ _)); refine blk_far ?_ NB558_563.out _; exact blkt BK558⟩
      have n4_ : Aside0 (((w100.setCell ⟨gb563, 0, none⟩ (.int .i64 t559)).setCell ⟨gb563, 1, none⟩ (.int .u64 t560)).heap[gb563]? = some (.cells #[.int .i64 t559, .int .u64 t560] 31 (0, 0))) := ⟨by (with_reducible repeat (first | refine blk_drewN ?_ _ | refine blk_drew ?_ | refine blk_alloc ?_ _)); refine blk_put (cs := #[.int .i64 t559, .int .u64 0]) ?_ 1 _ rfl; (with_reducible repeat (first | refine blk_drewN ?_ _ | refine blk_drew ?_ | refine blk_alloc ?_ _)); refine blk_put (cs := #[.int .i64 0, .int .u64 0]) ?_ 0 _ rfl; exact blkt BK563⟩
      have n5_ : Aside0 (Below w.heap.size w ((w100.setCell ⟨gb563, 0, none⟩ (.int .i64 t559)).setCell ⟨gb563, 1, none⟩ (.int .u64 t560))) := ⟨belt HB⟩
      (try clear BK549)
      (try clear BK550)
      (try clear BK551)
      (try clear BK558)
      (try clear BK563)
      (try clear HB)
      generalize ((w100.setCell ⟨gb563, 0, none⟩ (.int .i64 t559)).setCell ⟨gb563, 1, none⟩ (.int .u64 t560)) = w106 at n0_ n1_ n2_ n3_ n4_ n5_ ⊢
      have BK549 := n0_
      have BK550 := n1_
      have BK551 := n2_
      have BK558 := n3_
      have BK563 := n4_
      have HB := n5_
      clear n0_ n1_ n2_ n3_ n4_ n5_
      replace BK549 := Aside0.mk (blk_drew BK549.out)
      replace BK550 := Aside0.mk (blk_drew BK550.out)
      replace BK551 := Aside0.mk (blk_drew BK551.out)
      replace BK558 := Aside0.mk (blk_drew BK558.out)
      replace BK563 := Aside0.mk (blk_drew BK563.out)
      replace HB := Aside0.mk (below_drew1 HB.out)
      refine start_ (n := 12) (S := fun w' => w'.cell? ⟨gb550, 0, none⟩ = some (.int .u64 a1_0) ∧ w'.cell? ⟨gb550, 1, none⟩ = some (.int .u32 a1_1) ∧ w'.cell? ⟨gb550, 2, none⟩ = some (.int .u32 a1_2) ∧ w'.cell? ⟨gb549, 0, none⟩ = some (.int .u64 a0_0) ∧ w'.cell? ⟨gb549, 1, none⟩ = some (.int .i64 a0_1) ∧ w'.cell? ⟨gb549, 2, none⟩ = some (.int .u64 a0_2) ∧ w'.cell? ⟨gb549, 3, none⟩ = some (.int .u64 a0_3) ∧ w'.cell? ⟨gb549, 4, none⟩ = some (.int .i64 a0_4) ∧ w'.cell? ⟨gb563, 0, none⟩ = some (.int .i64 t559) ∧ w'.cell? ⟨gb563, 1, none⟩ = some (.int .u64 t560)) (ds := []) #[false, false, false, false, false, false, false, false, false, false, false, false] (by kernel_rfl) rfl rfl ⟨(blk_cell BK550.out 0).trans rfl, (blk_cell BK550.out 1).trans rfl, (blk_cell BK550.out 2).trans rfl, (blk_cell BK549.out 0).trans rfl, (blk_cell BK549.out 1).trans rfl, (blk_cell BK549.out 2).trans rfl, (blk_cell BK549.out 3).trans rfl, (blk_cell BK549.out 4).trans rfl, (blk_cell BK563.out 0).trans rfl, (blk_cell BK563.out 1).trans rfl⟩ (fun hHeld => ?_); refine with_tabW weigh_Weigh.tab7 weigh_Weigh.bits7 (fun HT_ HW_ => ?_)
      generalize w106.drew = w107 at BK549 BK550 BK551 BK558 BK563 HB hHeld ⊢
      refine pure_ (i := 1) (N := some 59) (v := ?_) (a' := ?_) #[false, true, false, false, false, false, false, false, false, false, false, false] rfl rfl (any_of HT_.out (by kernel_rfl)) (fun _ _ _ h => h) (Or.inl ⟨by rfl, ?_⟩) ?_ ?_
      rotate_left
      ·intro w'
       go_simp
       with_reducible rfl
      rotate_left
      ·simp only [Act.put, List.setIfInBounds_toArray, List.set_cons_zero, List.set_cons_succ, i64_w, i32_w]
       rfl
      refine take_ (i := 0) (N := some 58) (v := ?_) (a' := ?_) #[true, true, false, false, false, false, false, false, false, false, false, false] rfl rfl (take_ofW HT_.out HW_.out (by kernel_rfl)) (fun _ _ _ h => h) (Or.inl ⟨by rfl, ?_⟩) hHeld ?_ ?_
      rotate_left
      ·rintro w' ⟨s0, s1, s2, s3, s4, s5, s6, s7, s8, s9⟩
       go_simp
       with_reducible rfl
      rotate_left
      ·simp only [Act.put, List.setIfInBounds_toArray, List.set_cons_zero, List.set_cons_succ, i64_w, i32_w]
       rfl
      refine take_ (i := 2) (N := some 60) (v := ?_) (a' := ?_) #[true, true, true, false, false, false, false, false, false, false, false, false] rfl rfl (take_ofW HT_.out HW_.out (by kernel_rfl)) (fun _ _ _ h => h) (Or.inl ⟨by rfl, ?_⟩) hHeld ?_ ?_
      rotate_left
      ·rintro w' ⟨s0, s1, s2, s3, s4, s5, s6, s7, s8, s9⟩
       go_simp
       with_reducible rfl
      rotate_left
      ·simp only [Act.put, List.setIfInBounds_toArray, List.set_cons_zero, List.set_cons_succ, i64_w, i32_w]
       rfl
      refine take_ (i := 4) (N := some 62) (v := ?_) (a' := ?_) #[true, true, true, false, true, false, false, false, false, false, false, false] rfl rfl (take_ofW HT_.out HW_.out (by kernel_rfl)) (fun _ _ _ h => h) (Or.inl ⟨by rfl, ?_⟩) hHeld ?_ ?_
      rotate_left
      ·rintro w' ⟨s0, s1, s2, s3, s4, s5, s6, s7, s8, s9⟩
       go_simp
       with_reducible rfl
      rotate_left
      ·simp only [Act.put, List.setIfInBounds_toArray, List.set_cons_zero, List.set_cons_succ, i64_w, i32_w]
       rfl
      refine join_ (σ := Nat) 2 #[true, true, true, true, true, true, true, true, true, true, false, false] (fun s_ => [(61, .agg #[.int .i64 t564, .int .u64 t565]), (63, .tuple #[.agg #[.int .i64 t566, .int .u64 t567], .bool false]), (13, .pointer (some ⟨s_, 0, none⟩)), (57, .tuple #[.agg #[.int .i64 t566, .int .u64 t567], .bool false]), (64, .agg #[.int .i64 t566, .int .u64 t567]), (65, .bool false)]) (fun s_ w' => (w'.cell? ⟨gb550, 0, none⟩ = some (.int .u64 a1_0) ∧ w'.cell? ⟨gb550, 1, none⟩ = some (.int .u32 a1_1) ∧ w'.cell? ⟨gb550, 2, none⟩ = some (.int .u32 a1_2) ∧ w'.cell? ⟨gb549, 0, none⟩ = some (.int .u64 a0_0) ∧ w'.cell? ⟨gb549, 1, none⟩ = some (.int .i64 a0_1) ∧ w'.cell? ⟨gb549, 2, none⟩ = some (.int .u64 a0_2) ∧ w'.cell? ⟨gb549, 3, none⟩ = some (.int .u64 a0_3) ∧ w'.cell? ⟨gb549, 4, none⟩ = some (.int .i64 a0_4) ∧ w'.cell? ⟨gb563, 0, none⟩ = some (.int .i64 t559) ∧ w'.cell? ⟨gb563, 1, none⟩ = some (.int .u64 t560)) ∧ (w'.heap[gb549]? = some (.cells #[.int .u64 a0_0, .int .i64 a0_1, .int .u64 a0_2, .int .u64 a0_3, .int .i64 a0_4] 33 (0, 0))) ∧ (w'.heap[gb550]? = some (.cells #[.int .u64 a1_0, .int .u32 a1_1, .int .u32 a1_2] 28 (0, 0))) ∧ (w'.heap[gb551]? = some (.cells #[.int .u64 0, .int .u32 0, .int .u32 0] 28 (0, 0))) ∧ (w'.heap[gb558]? = some (.cells #[.int .i64 t555, .int .u64 t556] 31 (0, 0))) ∧ (w'.heap[gb563]? = some (.cells #[.int .i64 t559, .int .u64 t560] 31 (0, 0))) ∧ (w'.heap[s_]? = some (.cells #[.int .i64 0, .int .u64 0] 31 (0, 0))) ∧ (w.heap.size ≤ s_) ∧ (w.heap.size ≤ s_) ∧ (gb549 ≠ s_) ∧ (s_ ≠ gb549) ∧ (gb550 ≠ s_) ∧ (s_ ≠ gb550) ∧ (gb551 ≠ s_) ∧ (s_ ≠ gb551) ∧ (gb558 ≠ s_) ∧ (s_ ≠ gb558) ∧ (gb563 ≠ s_) ∧ (s_ ≠ gb563) ∧ (Below w.heap.size w w')) ?_ ?_
      rotate_left
      ·intro hCont
       refine two_ (i := 3) (j := 9) (Ni := some 61) (Nj := some 13) #[true, true, true, true, true, false, false, false, false, false, false, false] #[true, true, true, false, true, false, false, false, false, true, false, false] rfl rfl rfl rfl (two_of HT_.out (by kernel_rfl)) (by decide) (by decide) (fun K hK => ?_) (fun K hK => ?_)
       ·skip
        refine goes_ Tryz.func59 (by kernel_rfl) rfl #[.agg #[.int .u64 a1_0, .int .u32 a1_1, .int .u32 a1_2], .int .u64 a0_0] (by rfl) rfl rfl argt ?_
        with_reducible refine (pos_Pos_Distance.calls kj3 a1_0 a1_1 a1_2 a0_0 t564 t565 _ A47.out).mono ?_
        rintro e w108 ⟨rfl, hb⟩
        refine ⟨_, rfl, ?_⟩
        replace BK549 := blkb BK549 hb
        replace BK550 := blkb BK550 hb
        replace BK551 := blkb BK551 hb
        replace BK558 := blkb BK558 hb
        replace BK563 := blkb BK563 hb
        replace HB := belb HB hb
        (try clear hb)
        (try clear hb2)
        (try clear hk)
        (try clear hi)
        refine hK.out _ _ ⟨(blk_cell BK550.out 0).trans rfl, (blk_cell BK550.out 1).trans rfl, (blk_cell BK550.out 2).trans rfl, (blk_cell BK549.out 0).trans rfl, (blk_cell BK549.out 1).trans rfl, (blk_cell BK549.out 2).trans rfl, (blk_cell BK549.out 3).trans rfl, (blk_cell BK549.out 4).trans rfl, (blk_cell BK563.out 0).trans rfl, (blk_cell BK563.out 1).trans rfl⟩ (fun hHeld => ?_)
        clear hK K
        refine norm_ (a' := ?_) ?_ ?_
        rotate_left
        ·show Act.put _ (some 61) _ = _
         simp only [Act.put, List.setIfInBounds_toArray, List.set_cons_zero, List.set_cons_succ, i64_w, i32_w]
         rfl
        refine two_ (i := 5) (j := 9) (Ni := some 63) (Nj := some 13) #[true, true, true, true, true, true, false, false, false, false, false, false] #[true, true, true, true, true, false, false, false, false, true, false, false] rfl rfl rfl rfl (two_of HT_.out (by kernel_rfl)) (by decide) (by decide) (fun K hK => ?_) (fun K hK => ?_)
        ·skip
         refine goes_ Tryz.func57 (by kernel_rfl) rfl #[.agg #[.int .i64 t564, .int .u64 t565], .agg #[.int .i64 t559, .int .u64 t560]] (by rfl) rfl rfl argt ?_
         with_reducible refine (wide_Int_Add.calls t564 t565 t559 t560 t566 t567 false _ A48.out).mono ?_
         rintro e w109 ⟨rfl, hb⟩
         refine ⟨_, rfl, ?_⟩
         replace BK549 := blkb BK549 hb
         replace BK550 := blkb BK550 hb
         replace BK551 := blkb BK551 hb
         replace BK558 := blkb BK558 hb
         replace BK563 := blkb BK563 hb
         replace HB := belb HB hb
         (try clear hb)
         (try clear hb2)
         (try clear hk)
         (try clear hi)
         refine hK.out _ _ ⟨(blk_cell BK550.out 0).trans rfl, (blk_cell BK550.out 1).trans rfl, (blk_cell BK550.out 2).trans rfl, (blk_cell BK549.out 0).trans rfl, (blk_cell BK549.out 1).trans rfl, (blk_cell BK549.out 2).trans rfl, (blk_cell BK549.out 3).trans rfl, (blk_cell BK549.out 4).trans rfl, (blk_cell BK563.out 0).trans rfl, (blk_cell BK563.out 1).trans rfl⟩ (fun hHeld => ?_)
         clear hK K
         refine norm_ (a' := ?_) ?_ ?_
         rotate_left
         ·show Act.put _ (some 63) _ = _
          simp only [Act.put, List.setIfInBounds_toArray, List.set_cons_zero, List.set_cons_succ, i64_w, i32_w]
          rfl
         refine pure_ (i := 6) (N := some 57) (v := ?_) (a' := ?_) #[true, true, true, true, true, true, true, false, false, false, false, false] rfl rfl (any_of HT_.out (by kernel_rfl)) (fun _ _ _ h => h) (Or.inl ⟨by rfl, ?_⟩) ?_ ?_
         rotate_left
         ·intro w'
          go_simp
          with_reducible rfl
         rotate_left
         ·simp only [Act.put, List.setIfInBounds_toArray, List.set_cons_zero, List.set_cons_succ, i64_w, i32_w]
          rfl
         refine pure_ (i := 7) (N := some 64) (v := ?_) (a' := ?_) #[true, true, true, true, true, true, true, true, false, false, false, false] rfl rfl (any_of HT_.out (by kernel_rfl)) (fun _ _ _ h => h) (Or.inl ⟨by rfl, ?_⟩) ?_ ?_
         rotate_left
         ·intro w'
          go_simp
          with_reducible rfl
         rotate_left
         ·simp only [Act.put, List.setIfInBounds_toArray, List.set_cons_zero, List.set_cons_succ, i64_w, i32_w]
          rfl
         refine pure_ (i := 8) (N := some 65) (v := ?_) (a' := ?_) #[true, true, true, true, true, true, true, true, true, false, false, false] rfl rfl (any_of HT_.out (by kernel_rfl)) (fun _ _ _ h => h) (Or.inl ⟨by rfl, ?_⟩) ?_ ?_
         rotate_left
         ·intro w'
          go_simp
          with_reducible rfl
         rotate_left
         ·simp only [Act.put, List.setIfInBounds_toArray, List.set_cons_zero, List.set_cons_succ, i64_w, i32_w]
          rfl
         refine one_ (i := 9) (N := some 13) #[true, true, true, true, true, true, true, true, true, true, false, false] rfl rfl (one_of HT_.out (by kernel_rfl)) (by decide) (fun K hK => ?_)
         refine box_step ?hg (N := 13) ?hd (cs := #[.int .i64 0, .int .u64 0]) (t := 31) ?hr ?_; (case hd => rfl); (case hg => rfl); (case hr => first | (go_simp; done) | (go_simp; rfl))
         intro gb569 hg w110 hbox hb
         have BK569 := Aside0.mk (hbox)
         have GW569 := bels HB hg
         have GE569 := bels HB hg
         have NB549_569 := blkl BK549 hg
         have NB569_549 := blkg BK549 hg
         have NB550_569 := blkl BK550 hg
         have NB569_550 := blkg BK550 hg
         have NB551_569 := blkl BK551 hg
         have NB569_551 := blkg BK551 hg
         have NB558_569 := blkl BK558 hg
         have NB569_558 := blkg BK558 hg
         have NB563_569 := blkl BK563 hg
         have NB569_563 := blkg BK563 hg
         replace BK549 := blkb BK549 hb
         replace BK550 := blkb BK550 hb
         replace BK551 := blkb BK551 hb
         replace BK558 := blkb BK558 hb
         replace BK563 := blkb BK563 hb
         replace HB := belb HB hb
         clear hb hbox hg
         refine hK.out _ _ ⟨(blk_cell BK550.out 0).trans rfl, (blk_cell BK550.out 1).trans rfl, (blk_cell BK550.out 2).trans rfl, (blk_cell BK549.out 0).trans rfl, (blk_cell BK549.out 1).trans rfl, (blk_cell BK549.out 2).trans rfl, (blk_cell BK549.out 3).trans rfl, (blk_cell BK549.out 4).trans rfl, (blk_cell BK563.out 0).trans rfl, (blk_cell BK563.out 1).trans rfl⟩ (fun hHeld => ?_)
         clear hK K
         refine norm_ (a' := ?_) ?_ ?_
         rotate_left
         ·show Act.put _ (some 13) _ = _
          simp only [Act.put, List.setIfInBounds_toArray, List.set_cons_zero, List.set_cons_succ, i64_w, i32_w]
          rfl
         exact norm_ (by simp only [putAll, Act.put, List.setIfInBounds_toArray, List.set_cons_zero, List.set_cons_succ]) (hCont (gb569) _ ⟨hHeld, (blkt BK549), (blkt BK550), (blkt BK551), (blkt BK558), (blkt BK563), (blkt BK569), GW569.out, GE569.out, NB549_569.out, NB569_549.out, NB550_569.out, NB569_550.out, NB551_569.out, NB569_551.out, NB558_569.out, NB569_558.out, NB563_569.out, NB569_563.out, (belt HB)⟩)
        ·skip
         refine box_step ?hg (N := 13) ?hd (cs := #[.int .i64 0, .int .u64 0]) (t := 31) ?hr ?_; (case hd => rfl); (case hg => rfl); (case hr => first | (go_simp; done) | (go_simp; rfl))
         intro gb569 hg w109 hbox hb
         have BK569 := Aside0.mk (hbox)
         have GW569 := bels HB hg
         have GE569 := bels HB hg
         have NB549_569 := blkl BK549 hg
         have NB569_549 := blkg BK549 hg
         have NB550_569 := blkl BK550 hg
         have NB569_550 := blkg BK550 hg
         have NB551_569 := blkl BK551 hg
         have NB569_551 := blkg BK551 hg
         have NB558_569 := blkl BK558 hg
         have NB569_558 := blkg BK558 hg
         have NB563_569 := blkl BK563 hg
         have NB569_563 := blkg BK563 hg
         replace BK549 := blkb BK549 hb
         replace BK550 := blkb BK550 hb
         replace BK551 := blkb BK551 hb
         replace BK558 := blkb BK558 hb
         replace BK563 := blkb BK563 hb
         replace HB := belb HB hb
         clear hb hbox hg
         refine hK.out _ _ ⟨(blk_cell BK550.out 0).trans rfl, (blk_cell BK550.out 1).trans rfl, (blk_cell BK550.out 2).trans rfl, (blk_cell BK549.out 0).trans rfl, (blk_cell BK549.out 1).trans rfl, (blk_cell BK549.out 2).trans rfl, (blk_cell BK549.out 3).trans rfl, (blk_cell BK549.out 4).trans rfl, (blk_cell BK563.out 0).trans rfl, (blk_cell BK563.out 1).trans rfl⟩ (fun hHeld => ?_)
         clear hK K
         refine norm_ (a' := ?_) ?_ ?_
         rotate_left
         ·show Act.put _ (some 13) _ = _
          simp only [Act.put, List.setIfInBounds_toArray, List.set_cons_zero, List.set_cons_succ, i64_w, i32_w]
          rfl
         refine one_ (i := 5) (N := some 63) #[true, true, true, true, true, true, false, false, false, true, false, false] rfl rfl (one_of HT_.out (by kernel_rfl)) (by decide) (fun K hK => ?_)
         refine goes_ Tryz.func57 (by kernel_rfl) rfl #[.agg #[.int .i64 t564, .int .u64 t565], .agg #[.int .i64 t559, .int .u64 t560]] (by rfl) rfl rfl argt ?_
         with_reducible refine (wide_Int_Add.calls t564 t565 t559 t560 t566 t567 false _ A48.out).mono ?_
         rintro e w110 ⟨rfl, hb⟩
         refine ⟨_, rfl, ?_⟩
         replace BK549 := blkb BK549 hb
         replace BK550 := blkb BK550 hb
         replace BK551 := blkb BK551 hb
         replace BK558 := blkb BK558 hb
         replace BK563 := blkb BK563 hb
         replace BK569 := blkb BK569 hb
         replace HB := belb HB hb
         (try clear hb)
         (try clear hb2)
         (try clear hk)
         (try clear hi)
         refine hK.out _ _ ⟨(blk_cell BK550.out 0).trans rfl, (blk_cell BK550.out 1).trans rfl, (blk_cell BK550.out 2).trans rfl, (blk_cell BK549.out 0).trans rfl, (blk_cell BK549.out 1).trans rfl, (blk_cell BK549.out 2).trans rfl, (blk_cell BK549.out 3).trans rfl, (blk_cell BK549.out 4).trans rfl, (blk_cell BK563.out 0).trans rfl, (blk_cell BK563.out 1).trans rfl⟩ (fun hHeld => ?_)
         clear hK K
         refine norm_ (a' := ?_) ?_ ?_
         rotate_left
         ·show Act.put _ (some 63) _ = _
          simp only [Act.put, List.setIfInBounds_toArray, List.set_cons_zero, List.set_cons_succ, i64_w, i32_w]
          rfl
         refine pure_ (i := 6) (N := some 57) (v := ?_) (a' := ?_) #[true, true, true, true, true, true, true, false, false, true, false, false] rfl rfl (any_of HT_.out (by kernel_rfl)) (fun _ _ _ h => h) (Or.inl ⟨by rfl, ?_⟩) ?_ ?_
         rotate_left
         ·intro w'
          go_simp
          with_reducible rfl
         rotate_left
         ·simp only [Act.put, List.setIfInBounds_toArray, List.set_cons_zero, List.set_cons_succ, i64_w, i32_w]
          rfl
         refine pure_ (i := 7) (N := some 64) (v := ?_) (a' := ?_) #[true, true, true, true, true, true, true, true, false, true, false, false] rfl rfl (any_of HT_.out (by kernel_rfl)) (fun _ _ _ h => h) (Or.inl ⟨by rfl, ?_⟩) ?_ ?_
         rotate_left
         ·intro w'
          go_simp
          with_reducible rfl
         rotate_left
         ·simp only [Act.put, List.setIfInBounds_toArray, List.set_cons_zero, List.set_cons_succ, i64_w, i32_w]
          rfl
         refine pure_ (i := 8) (N := some 65) (v := ?_) (a' := ?_) #[true, true, true, true, true, true, true, true, true, true, false, false] rfl rfl (any_of HT_.out (by kernel_rfl)) (fun _ _ _ h => h) (Or.inl ⟨by rfl, ?_⟩) ?_ ?_
         rotate_left
         ·intro w'
          go_simp
          with_reducible rfl
         rotate_left
         ·simp only [Act.put, List.setIfInBounds_toArray, List.set_cons_zero, List.set_cons_succ, i64_w, i32_w]
          rfl
         exact norm_ (by simp only [putAll, Act.put, List.setIfInBounds_toArray, List.set_cons_zero, List.set_cons_succ]) (hCont (gb569) _ ⟨hHeld, (blkt BK549), (blkt BK550), (blkt BK551), (blkt BK558), (blkt BK563), (blkt BK569), GW569.out, GE569.out, NB549_569.out, NB569_549.out, NB550_569.out, NB569_550.out, NB551_569.out, NB569_551.out, NB558_569.out, NB569_558.out, NB563_569.out, NB569_563.out, (belt HB)⟩)
       ·skip
        refine box_step ?hg (N := 13) ?hd (cs := #[.int .i64 0, .int .u64 0]) (t := 31) ?hr ?_; (case hd => rfl); (case hg => rfl); (case hr => first | (go_simp; done) | (go_simp; rfl))
        intro gb569 hg w108 hbox hb
        have BK569 := Aside0.mk (hbox)
        have GW569 := bels HB hg
        have GE569 := bels HB hg
        have NB549_569 := blkl BK549 hg
        have NB569_549 := blkg BK549 hg
        have NB550_569 := blkl BK550 hg
        have NB569_550 := blkg BK550 hg
        have NB551_569 := blkl BK551 hg
        have NB569_551 := blkg BK551 hg
        have NB558_569 := blkl BK558 hg
        have NB569_558 := blkg BK558 hg
        have NB563_569 := blkl BK563 hg
        have NB569_563 := blkg BK563 hg
        replace BK549 := blkb BK549 hb
        replace BK550 := blkb BK550 hb
        replace BK551 := blkb BK551 hb
        replace BK558 := blkb BK558 hb
        replace BK563 := blkb BK563 hb
        replace HB := belb HB hb
        clear hb hbox hg
        refine hK.out _ _ ⟨(blk_cell BK550.out 0).trans rfl, (blk_cell BK550.out 1).trans rfl, (blk_cell BK550.out 2).trans rfl, (blk_cell BK549.out 0).trans rfl, (blk_cell BK549.out 1).trans rfl, (blk_cell BK549.out 2).trans rfl, (blk_cell BK549.out 3).trans rfl, (blk_cell BK549.out 4).trans rfl, (blk_cell BK563.out 0).trans rfl, (blk_cell BK563.out 1).trans rfl⟩ (fun hHeld => ?_)
        clear hK K
        refine norm_ (a' := ?_) ?_ ?_
        rotate_left
        ·show Act.put _ (some 13) _ = _
         simp only [Act.put, List.setIfInBounds_toArray, List.set_cons_zero, List.set_cons_succ, i64_w, i32_w]
         rfl
        refine one_ (i := 3) (N := some 61) #[true, true, true, true, true, false, false, false, false, true, false, false] rfl rfl (one_of HT_.out (by kernel_rfl)) (by decide) (fun K hK => ?_)
        refine goes_ Tryz.func59 (by kernel_rfl) rfl #[.agg #[.int .u64 a1_0, .int .u32 a1_1, .int .u32 a1_2], .int .u64 a0_0] (by rfl) rfl rfl argt ?_
        with_reducible refine (pos_Pos_Distance.calls kj3 a1_0 a1_1 a1_2 a0_0 t564 t565 _ A47.out).mono ?_
        rintro e w109 ⟨rfl, hb⟩
        refine ⟨_, rfl, ?_⟩
        replace BK549 := blkb BK549 hb
        replace BK550 := blkb BK550 hb
        replace BK551 := blkb BK551 hb
        replace BK558 := blkb BK558 hb
        replace BK563 := blkb BK563 hb
        replace BK569 := blkb BK569 hb
        replace HB := belb HB hb
        (try clear hb)
        (try clear hb2)
        (try clear hk)
        (try clear hi)
        refine hK.out _ _ ⟨(blk_cell BK550.out 0).trans rfl, (blk_cell BK550.out 1).trans rfl, (blk_cell BK550.out 2).trans rfl, (blk_cell BK549.out 0).trans rfl, (blk_cell BK549.out 1).trans rfl, (blk_cell BK549.out 2).trans rfl, (blk_cell BK549.out 3).trans rfl, (blk_cell BK549.out 4).trans rfl, (blk_cell BK563.out 0).trans rfl, (blk_cell BK563.out 1).trans rfl⟩ (fun hHeld => ?_)
        clear hK K
        refine norm_ (a' := ?_) ?_ ?_
        rotate_left
        ·show Act.put _ (some 61) _ = _
         simp only [Act.put, List.setIfInBounds_toArray, List.set_cons_zero, List.set_cons_succ, i64_w, i32_w]
         rfl
        refine one_ (i := 5) (N := some 63) #[true, true, true, true, true, true, false, false, false, true, false, false] rfl rfl (one_of HT_.out (by kernel_rfl)) (by decide) (fun K hK => ?_)
        refine goes_ Tryz.func57 (by kernel_rfl) rfl #[.agg #[.int .i64 t564, .int .u64 t565], .agg #[.int .i64 t559, .int .u64 t560]] (by rfl) rfl rfl argt ?_
        with_reducible refine (wide_Int_Add.calls t564 t565 t559 t560 t566 t567 false _ A48.out).mono ?_
        rintro e w110 ⟨rfl, hb⟩
        refine ⟨_, rfl, ?_⟩
        replace BK549 := blkb BK549 hb
        replace BK550 := blkb BK550 hb
        replace BK551 := blkb BK551 hb
        replace BK558 := blkb BK558 hb
        replace BK563 := blkb BK563 hb
        replace BK569 := blkb BK569 hb
        replace HB := belb HB hb
        (try clear hb)
        (try clear hb2)
        (try clear hk)
        (try clear hi)
        refine hK.out _ _ ⟨(blk_cell BK550.out 0).trans rfl, (blk_cell BK550.out 1).trans rfl, (blk_cell BK550.out 2).trans rfl, (blk_cell BK549.out 0).trans rfl, (blk_cell BK549.out 1).trans rfl, (blk_cell BK549.out 2).trans rfl, (blk_cell BK549.out 3).trans rfl, (blk_cell BK549.out 4).trans rfl, (blk_cell BK563.out 0).trans rfl, (blk_cell BK563.out 1).trans rfl⟩ (fun hHeld => ?_)
        clear hK K
        refine norm_ (a' := ?_) ?_ ?_
        rotate_left
        ·show Act.put _ (some 63) _ = _
         simp only [Act.put, List.setIfInBounds_toArray, List.set_cons_zero, List.set_cons_succ, i64_w, i32_w]
         rfl
        refine pure_ (i := 6) (N := some 57) (v := ?_) (a' := ?_) #[true, true, true, true, true, true, true, false, false, true, false, false] rfl rfl (any_of HT_.out (by kernel_rfl)) (fun _ _ _ h => h) (Or.inl ⟨by rfl, ?_⟩) ?_ ?_
        rotate_left
        ·intro w'
         go_simp
         with_reducible rfl
        rotate_left
        ·simp only [Act.put, List.setIfInBounds_toArray, List.set_cons_zero, List.set_cons_succ, i64_w, i32_w]
         rfl
        refine pure_ (i := 7) (N := some 64) (v := ?_) (a' := ?_) #[true, true, true, true, true, true, true, true, false, true, false, false] rfl rfl (any_of HT_.out (by kernel_rfl)) (fun _ _ _ h => h) (Or.inl ⟨by rfl, ?_⟩) ?_ ?_
        rotate_left
        ·intro w'
         go_simp
         with_reducible rfl
        rotate_left
        ·simp only [Act.put, List.setIfInBounds_toArray, List.set_cons_zero, List.set_cons_succ, i64_w, i32_w]
         rfl
        refine pure_ (i := 8) (N := some 65) (v := ?_) (a' := ?_) #[true, true, true, true, true, true, true, true, true, true, false, false] rfl rfl (any_of HT_.out (by kernel_rfl)) (fun _ _ _ h => h) (Or.inl ⟨by rfl, ?_⟩) ?_ ?_
        rotate_left
        ·intro w'
         go_simp
         with_reducible rfl
        rotate_left
        ·simp only [Act.put, List.setIfInBounds_toArray, List.set_cons_zero, List.set_cons_succ, i64_w, i32_w]
         rfl
        exact norm_ (by simp only [putAll, Act.put, List.setIfInBounds_toArray, List.set_cons_zero, List.set_cons_succ]) (hCont (gb569) _ ⟨hHeld, (blkt BK549), (blkt BK550), (blkt BK551), (blkt BK558), (blkt BK563), (blkt BK569), GW569.out, GE569.out, NB549_569.out, NB569_549.out, NB550_569.out, NB569_550.out, NB551_569.out, NB569_551.out, NB558_569.out, NB569_558.out, NB563_569.out, NB569_563.out, (belt HB)⟩)
      rintro gb569 w111 ⟨hS_, h0_, h1_, h2_, h3_, h4_, h5_, h6_, h7_, h8_, h9_, h10_, h11_, h12_, h13_, h14_, h15_, h16_, h17_, h18_⟩
      replace BK549 : Aside0 (w111.heap[gb549]? = some (.cells #[.int .u64 a0_0, .int .i64 a0_1, .int .u64 a0_2, .int .u64 a0_3, .int .i64 a0_4] 33 (0, 0))) := ⟨h0_⟩
      replace BK550 : Aside0 (w111.heap[gb550]? = some (.cells #[.int .u64 a1_0, .int .u32 a1_1, .int .u32 a1_2] 28 (0, 0))) := ⟨h1_⟩
      replace BK551 : Aside0 (w111.heap[gb551]? = some (.cells #[.int .u64 0, .int .u32 0, .int .u32 0] 28 (0, 0))) := ⟨h2_⟩
      replace BK558 : Aside0 (w111.heap[gb558]? = some (.cells #[.int .i64 t555, .int .u64 t556] 31 (0, 0))) := ⟨h3_⟩
      replace BK563 : Aside0 (w111.heap[gb563]? = some (.cells #[.int .i64 t559, .int .u64 t560] 31 (0, 0))) := ⟨h4_⟩
      have BK569 : Aside0 (w111.heap[gb569]? = some (.cells #[.int .i64 0, .int .u64 0] 31 (0, 0))) := ⟨h5_⟩
      have GW569 : Aside0 (w.heap.size ≤ gb569) := ⟨h6_⟩
      have GE569 : Aside0 (w.heap.size ≤ gb569) := ⟨h7_⟩
      have NB549_569 : Aside0 (gb549 ≠ gb569) := ⟨h8_⟩
      have NB569_549 : Aside0 (gb569 ≠ gb549) := ⟨h9_⟩
      have NB550_569 : Aside0 (gb550 ≠ gb569) := ⟨h10_⟩
      have NB569_550 : Aside0 (gb569 ≠ gb550) := ⟨h11_⟩
      have NB551_569 : Aside0 (gb551 ≠ gb569) := ⟨h12_⟩
      have NB569_551 : Aside0 (gb569 ≠ gb551) := ⟨h13_⟩
      have NB558_569 : Aside0 (gb558 ≠ gb569) := ⟨h14_⟩
      have NB569_558 : Aside0 (gb569 ≠ gb558) := ⟨h15_⟩
      have NB563_569 : Aside0 (gb563 ≠ gb569) := ⟨h16_⟩
      have NB569_563 : Aside0 (gb569 ≠ gb563) := ⟨h17_⟩
      replace HB : Aside0 (Below w.heap.size w w111) := ⟨h18_⟩
      clear h0_ h1_ h2_ h3_ h4_ h5_ h6_ h7_ h8_ h9_ h10_ h11_ h12_ h13_ h14_ h15_ h16_ h17_ h18_
      have hHeld : w111.cell? ⟨gb550, 0, none⟩ = some (.int .u64 a1_0) ∧ w111.cell? ⟨gb550, 1, none⟩ = some (.int .u32 a1_1) ∧ w111.cell? ⟨gb550, 2, none⟩ = some (.int .u32 a1_2) ∧ w111.cell? ⟨gb549, 0, none⟩ = some (.int .u64 a0_0) ∧ w111.cell? ⟨gb549, 1, none⟩ = some (.int .i64 a0_1) ∧ w111.cell? ⟨gb549, 2, none⟩ = some (.int .u64 a0_2) ∧ w111.cell? ⟨gb549, 3, none⟩ = some (.int .u64 a0_3) ∧ w111.cell? ⟨gb549, 4, none⟩ = some (.int .i64 a0_4) ∧ w111.cell? ⟨gb563, 0, none⟩ = some (.int .i64 t559) ∧ w111.cell? ⟨gb563, 1, none⟩ = some (.int .u64 t560) := hS_
      refine norm_ (a' := ?_) ?_ ?_
      rotate_left
      ·simp only [putAll, Act.put, List.setIfInBounds_toArray, List.set_cons_zero, List.set_cons_succ]
       rfl
      refine one_ (i := 10) (N := none) #[true, true, true, true, true, true, true, true, true, true, true, false] rfl rfl (one_of HT_.out (by kernel_rfl)) (by decide) (fun K hK => ?_)
      have hs112 : w111.cell? ⟨gb569, 0, none⟩ = some (.int .i64 0) := (blk_cell BK569.out 0).trans rfl
      have hfs112 := blk_frozen BK569.out 0
      have hns112_0 := NB549_569.out
      have hns112_1 := NB550_569.out
      have hns112_2 := NB551_569.out
      have hns112_3 := NB558_569.out
      have hns112_4 := NB563_569.out
      have hms112_0 := NB569_549.out
      have hms112_1 := NB569_550.out
      have hms112_2 := NB569_551.out
      have hms112_3 := NB569_558.out
      have hms112_4 := NB569_563.out
      have hs113 : w111.cell? ⟨gb569, 1, none⟩ = some (.int .u64 0) := (blk_cell BK569.out 1).trans rfl
      have hfs113 := blk_frozen BK569.out 1
      have hns113_0 := NB549_569.out
      have hns113_1 := NB550_569.out
      have hns113_2 := NB551_569.out
      have hns113_3 := NB558_569.out
      have hns113_4 := NB563_569.out
      have hms113_0 := NB569_549.out
      have hms113_1 := NB569_550.out
      have hms113_2 := NB569_551.out
      have hms113_3 := NB569_558.out
      have hms113_4 := NB569_563.out
      refine skip_ (w1 := ?_) (by rfl) rfl ?_ ?_
      rotate_left
      ·go_simp
       rfl
      refine hK.out _ _ ⟨((cell_far (p := ⟨gb569, _, none⟩) NB550_569.out _).trans (((cell_far (p := ⟨gb569, _, none⟩) NB550_569.out _).trans (hHeld.1)))), ((cell_far (p := ⟨gb569, _, none⟩) NB550_569.out _).trans (((cell_far (p := ⟨gb569, _, none⟩) NB550_569.out _).trans (hHeld.2.1)))), ((cell_far (p := ⟨gb569, _, none⟩) NB550_569.out _).trans (((cell_far (p := ⟨gb569, _, none⟩) NB550_569.out _).trans (hHeld.2.2.1)))), ((cell_far (p := ⟨gb569, _, none⟩) NB549_569.out _).trans (((cell_far (p := ⟨gb569, _, none⟩) NB549_569.out _).trans (hHeld.2.2.2.1)))), ((cell_far (p := ⟨gb569, _, none⟩) NB549_569.out _).trans (((cell_far (p := ⟨gb569, _, none⟩) NB549_569.out _).trans (hHeld.2.2.2.2.1)))), ((cell_far (p := ⟨gb569, _, none⟩) NB549_569.out _).trans (((cell_far (p := ⟨gb569, _, none⟩) NB549_569.out _).trans (hHeld.2.2.2.2.2.1)))), ((cell_far (p := ⟨gb569, _, none⟩) NB549_569.out _).trans (((cell_far (p := ⟨gb569, _, none⟩) NB549_569.out _).trans (hHeld.2.2.2.2.2.2.1)))), ((cell_far (p := ⟨gb569, _, none⟩) NB549_569.out _).trans (((cell_far (p := ⟨gb569, _, none⟩) NB549_569.out _).trans (hHeld.2.2.2.2.2.2.2.1)))), ((cell_far (p := ⟨gb569, _, none⟩) NB563_569.out _).trans (((cell_far (p := ⟨gb569, _, none⟩) NB563_569.out _).trans (hHeld.2.2.2.2.2.2.2.2.1)))), ((cell_far (p := ⟨gb569, _, none⟩) NB563_569.out _).trans (((cell_far (p := ⟨gb569, _, none⟩) NB563_569.out _).trans (hHeld.2.2.2.2.2.2.2.2.2))))⟩ (fun hHeld => ?_)
      clear hK K
      refine pure_ (i := 11) (N := some 9) (v := ?_) (a' := ?_) #[true, true, true, true, true, true, true, true, true, true, true, true] rfl rfl (any_of HT_.out (by kernel_rfl)) (fun _ _ _ h => h) (Or.inl ⟨by rfl, ?_⟩) ?_ ?_
      rotate_left
      ·intro w'
       go_simp
       with_reducible rfl
      rotate_left
      ·simp only [Act.put, List.setIfInBounds_toArray, List.set_cons_zero, List.set_cons_succ, i64_w, i32_w]
       rfl
      refine done_ (done_of HT_.out (by kernel_rfl)) ?_
      have hnb114 := NB551_569.out
      have hnc114 := NB569_551.out
      have hcz115_0 : w111.cell? ⟨gb551, 0, none⟩ = some (.int .u64 0) := (blk_cell BK551.out 0).trans rfl
      have hcz115_1 : w111.cell? ⟨gb551, 1, none⟩ = some (.int .u32 0) := (blk_cell BK551.out 1).trans rfl
      have hcz115_2 : w111.cell? ⟨gb551, 2, none⟩ = some (.int .u32 0) := (blk_cell BK551.out 2).trans rfl
      have hfz115_0 := blk_frozen BK551.out 0
      have hfz115_1 := blk_frozen BK551.out 1
      have hfz115_2 := blk_frozen BK551.out 2
      try go_wp2
      refine bodyPost_ret (results_ct rfl _ _ gb551 28 #[.int .u64 0, .int .u32 0, .int .u32 0] (0, 0) _ rfl (by (with_reducible repeat (first | refine blk_drewN ?_ _ | refine blk_drew ?_ | refine blk_alloc ?_ _)); refine blk_put (cs := #[.int .u64 0, .int .u32 0, .int .u32 0]) ?_ 2 _ rfl; (with_reducible repeat (first | refine blk_drewN ?_ _ | refine blk_drew ?_ | refine blk_alloc ?_ _)); refine blk_put (cs := #[.int .u64 0, .int .u32 0, .int .u32 0]) ?_ 1 _ rfl; (with_reducible repeat (first | refine blk_drewN ?_ _ | refine blk_drew ?_ | refine blk_alloc ?_ _)); refine blk_put (cs := #[.int .u64 0, .int .u32 0, .int .u32 0]) ?_ 0 _ rfl; (with_reducible repeat (first | refine blk_drewN ?_ _ | refine blk_drew ?_ | refine blk_alloc ?_ _)); refine blk_far ?_ NB551_569.out _; (with_reducible repeat (first | refine blk_drewN ?_ _ | refine blk_drew ?_ | refine blk_alloc ?_ _)); refine blk_far ?_ NB551_569.out _; exact blkt BK551) Tryz.underlying28 rfl (by kernel_rfl)) rfl ?_
      exact ⟨by first | rfl | (simp [errW_none, errW_some] <;> rfl) | (simp [*, errW_none, errW_some] <;> rfl), belt HB⟩
    ·replace c45 := Bool.eq_false_iff.mpr c45
     subst c45
     have H1 : (some (0, 0, 0, false)) = some (r1, r2, r3, r4) := by rw [if_neg (show ¬ (false = true) by decide)] at H; exact H
     clear H
     have H := H1
     clear H1
     simp only [Option.some.injEq, Prod.mk.injEq] at H
     obtain ⟨rfl, rfl, rfl, rfl⟩ := H
     have hnb116 := NB549_550.out
     have hnc116 := NB550_549.out
     have hnb117 := NB549_551.out
     have hnc117 := NB551_549.out
     have hcz118_0 : wc.cell? ⟨gb549, 0, none⟩ = some (.int .u64 a0_0) := (blk_cell BK549.out 0).trans rfl
     have hcz118_1 : wc.cell? ⟨gb549, 1, none⟩ = some (.int .i64 a0_1) := (blk_cell BK549.out 1).trans rfl
     have hcz118_2 : wc.cell? ⟨gb549, 2, none⟩ = some (.int .u64 a0_2) := (blk_cell BK549.out 2).trans rfl
     have hcz118_3 : wc.cell? ⟨gb549, 3, none⟩ = some (.int .u64 a0_3) := (blk_cell BK549.out 3).trans rfl
     have hcz118_4 : wc.cell? ⟨gb549, 4, none⟩ = some (.int .i64 a0_4) := (blk_cell BK549.out 4).trans rfl
     have hfz118_0 := blk_frozen BK549.out 0
     have hfz118_1 := blk_frozen BK549.out 1
     have hfz118_2 := blk_frozen BK549.out 2
     have hfz118_3 := blk_frozen BK549.out 3
     have hfz118_4 := blk_frozen BK549.out 4
     have hnb119 := NB550_551.out
     have hnc119 := NB551_550.out
     have hcz120_0 : wc.cell? ⟨gb550, 0, none⟩ = some (.int .u64 a1_0) := (blk_cell BK550.out 0).trans rfl
     have hcz120_1 : wc.cell? ⟨gb550, 1, none⟩ = some (.int .u32 a1_1) := (blk_cell BK550.out 1).trans rfl
     have hcz120_2 : wc.cell? ⟨gb550, 2, none⟩ = some (.int .u32 a1_2) := (blk_cell BK550.out 2).trans rfl
     have hfz120_0 := blk_frozen BK550.out 0
     have hfz120_1 := blk_frozen BK550.out 1
     have hfz120_2 := blk_frozen BK550.out 2
     go_wp2_with (first | ((with_reducible refine gate_callee (f := 54) rfl ?_); refine goesL_ (some 43) rfl rfl Tryz.func54 (by kernel_rfl) rfl #[.agg #[.int .i64 a0_1, .int .u64 a0_2], .int .i64 (wrap64 ((wrap64 (a2)) - (wrap64 (a1_2))))] rfl argt ?_; (with_reducible refine (wide_Int_Mul.calls kj3 a0_1 a0_2 (wrap64 ((wrap64 (a2)) - (wrap64 (a1_2)))) t555 t556 false _ A44.out).mono ?_); rintro e w121 ⟨rfl, hb⟩; refine ⟨_, rfl, ?_⟩; replace BK549 := blkb BK549 hb; replace BK550 := blkb BK550 hb; replace BK551 := blkb BK551 hb; replace HB := belb HB hb; (try clear hb); (try clear hb2); (try clear hk); (try clear hi)) | ((with_reducible refine gate_dst (N := 8) rfl ?_); refine box_event ?hg (N := 8) ?hd (cs := #[.int .i64 0, .int .u64 0]) (t := 31) ?hr ?_; (case hd => rfl); (case hg => rfl); (case hr => first | (go_simp; done) | (go_simp; rfl)); intro gb558 hg w122 hbox hb; have BK558 := Aside0.mk (hbox); have GW558 := bels HB hg; have GE558 := bels HB hg; have NB549_558 := blkl BK549 hg; have NB558_549 := blkg BK549 hg; have NB550_558 := blkl BK550 hg; have NB558_550 := blkg BK550 hg; have NB551_558 := blkl BK551 hg; have NB558_551 := blkg BK551 hg; replace BK549 := blkb BK549 hb; replace BK550 := blkb BK550 hb; replace BK551 := blkb BK551 hb; replace HB := belb HB hb; clear hb hbox hg; have hnb123 := NB558_549.out; have hnc123 := NB549_558.out; have hnb124 := NB558_550.out; have hnc124 := NB550_558.out; have hnb125 := NB558_551.out; have hnc125 := NB551_558.out; have hcz126_0 : w122.cell? ⟨gb558, 0, none⟩ = some (.int .i64 0) := (blk_cell BK558.out 0).trans rfl; have hcz126_1 : w122.cell? ⟨gb558, 1, none⟩ = some (.int .u64 0) := (blk_cell BK558.out 1).trans rfl; have hfz126_0 := blk_frozen BK558.out 0; have hfz126_1 := blk_frozen BK558.out 1; have hcz127_0 : w122.cell? ⟨gb551, 0, none⟩ = some (.int .u64 0) := (blk_cell BK551.out 0).trans rfl; have hcz127_1 : w122.cell? ⟨gb551, 1, none⟩ = some (.int .u32 0) := (blk_cell BK551.out 1).trans rfl; have hcz127_2 : w122.cell? ⟨gb551, 2, none⟩ = some (.int .u32 0) := (blk_cell BK551.out 2).trans rfl; have hfz127_0 := blk_frozen BK551.out 0; have hfz127_1 := blk_frozen BK551.out 1; have hfz127_2 := blk_frozen BK551.out 2))
     refine bodyPost_ret (results_ct rfl _ _ gb551 28 #[.int .u64 0, .int .u32 0, .int .u32 0] (0, 0) _ rfl (by (with_reducible repeat (first | refine blk_drewN ?_ _ | refine blk_drew ?_ | refine blk_alloc ?_ _)); refine blk_put (cs := #[.int .u64 0, .int .u32 0, .int .u32 0]) ?_ 2 _ rfl; (with_reducible repeat (first | refine blk_drewN ?_ _ | refine blk_drew ?_ | refine blk_alloc ?_ _)); refine blk_put (cs := #[.int .u64 0, .int .u32 0, .int .u32 0]) ?_ 1 _ rfl; (with_reducible repeat (first | refine blk_drewN ?_ _ | refine blk_drew ?_ | refine blk_alloc ?_ _)); refine blk_put (cs := #[.int .u64 0, .int .u32 0, .int .u32 0]) ?_ 0 _ rfl; (with_reducible repeat (first | refine blk_drewN ?_ _ | refine blk_drew ?_ | refine blk_alloc ?_ _)); refine blk_far ?_ NB551_558.out _; (with_reducible repeat (first | refine blk_drewN ?_ _ | refine blk_drew ?_ | refine blk_alloc ?_ _)); refine blk_far ?_ NB551_558.out _; exact blkt BK551) Tryz.underlying28 rfl (by kernel_rfl)) rfl ?_
     exact ⟨by first | rfl | (simp [errW_none, errW_some] <;> rfl) | (simp [*, errW_none, errW_some] <;> rfl), belt HB⟩


/-! ### turnstonelaw11_awake: function 34 -/
def turnstonelaw11_awake.f : Option Bool := some true
theorem turnstonelaw11_awake.calls (r : Bool) (w : World) (h : turnstonelaw11_awake.f = some r) : Calls Tryz.prog 34 #[] w fun e w' => e = .returned (.bool r) ∧ Below w.heap.size w w' := by
 obtain rfl := Option.some.inj h
 exact Go.Proofs.YtfbkamgdkdnpoaaGreatDoor.Awake.at34 w


/-! ### weigh_Shifted: function 36 -/
def weigh_Shifted.f (k : Nat) (a0_0 : Int) (a0_1 : Int) (a0_2 : Int) (a0_3 : Int) (a0_4 : Int) (a1_0 : Int) (a1_1 : Int) (a1_2 : Int) (a2_0 : Int) (a2_1 : Int) (a2_2 : Int) : Option (Int × Int × Int × Int × Int × Bool) := (mean_Mean_Take.f k a0_0 a0_1 a0_2 a0_3 a0_4 a1_0 a1_1 a1_2).bind fun bt578 => (if bt578.2.2.2.2.2 = true then ((mean_Mean_Add.f k bt578.1 bt578.2.1 bt578.2.2.1 bt578.2.2.2.1 bt578.2.2.2.2.1 a2_0 a2_1 a2_2).bind fun bt585 => (some (bt585.1, bt585.2.1, bt585.2.2.1, bt585.2.2.2.1, bt585.2.2.2.2.1, bt585.2.2.2.2.2))) else (some (0, 0, 0, 0, 0, false)))
theorem weigh_Shifted.mono : ∀ a0 a1 a2 a3 a4 a5 a6 a7 a8 a9 a10 k, LeO (weigh_Shifted.f k a0 a1 a2 a3 a4 a5 a6 a7 a8 a9 a10) (weigh_Shifted.f (k + 1) a0 a1 a2 a3 a4 a5 a6 a7 a8 a9 a10) := by
 intro a0 a1 a2 a3 a4 a5 a6 a7 a8 a9 a10 k
 unfold weigh_Shifted.f
 repeat' first
   | (with_reducible exact mean_Mean_Add.mono _ _ _ _ _ _ _ _ _)
   | (with_reducible exact mean_Mean_Take.mono _ _ _ _ _ _ _ _ _)
   | (with_reducible exact LeO.refl _)
   | (with_reducible exact LeO.none _)
   | (with_reducible refine LeO.ite ?_ ?_)
   | (with_reducible refine LeO.bind ?_ (fun _ => ?_))
   | exact mean_Mean_Add.mono _ _ _ _ _ _ _ _ _
   | exact mean_Mean_Take.mono _ _ _ _ _ _ _ _ _
   | exact LeO.none _
   | refine LeO.ite ?_ ?_
   | refine LeO.bind ?_ (fun _ => ?_)
set_option maxHeartbeats 8000000 in
set_option maxRecDepth 100000 in
theorem weigh_Shifted.calls (k : Nat) (a0_0 : Int) (a0_1 : Int) (a0_2 : Int) (a0_3 : Int) (a0_4 : Int) (a1_0 : Int) (a1_1 : Int) (a1_2 : Int) (a2_0 : Int) (a2_1 : Int) (a2_2 : Int) (r1 : Int) (r2 : Int) (r3 : Int) (r4 : Int) (r5 : Int) (r6 : Bool) (w : World) (h : weigh_Shifted.f k a0_0 a0_1 a0_2 a0_3 a0_4 a1_0 a1_1 a1_2 a2_0 a2_1 a2_2 = some (r1, r2, r3, r4, r5, r6)) :
  Calls Tryz.prog 36 #[.agg #[.int .u64 a0_0, .int .i64 a0_1, .int .u64 a0_2, .int .u64 a0_3, .int .i64 a0_4], .agg #[.int .u64 a1_0, .int .u32 a1_1, .int .u32 a1_2], .agg #[.int .u64 a2_0, .int .u32 a2_1, .int .u32 a2_2]] w fun e w' => e = .returned (.tuple #[.agg #[.int .u64 r1, .int .i64 r2, .int .u64 r3, .int .u64 r4, .int .i64 r5], .bool r6]) ∧ Below w.heap.size w w' := by
 have hu33 := Tryz.underlying33
 have hu28 := Tryz.underlying28
 have HB := Aside0.mk (Below.refl w.heap.size w)
 have H : ((mean_Mean_Take.f k a0_0 a0_1 a0_2 a0_3 a0_4 a1_0 a1_1 a1_2).bind fun bt578 => (if bt578.2.2.2.2.2 = true then ((mean_Mean_Add.f k bt578.1 bt578.2.1 bt578.2.2.1 bt578.2.2.2.1 bt578.2.2.2.2.1 a2_0 a2_1 a2_2).bind fun bt585 => (some (bt585.1, bt585.2.1, bt585.2.2.1, bt585.2.2.2.1, bt585.2.2.2.2.1, bt585.2.2.2.2.2))) else (some (0, 0, 0, 0, 0, false)))) = some (r1, r2, r3, r4, r5, r6) := h
 clear h
 replace H := Option.bind_eq_some_iff.mp H
 obtain ⟨⟨t578, t579, t580, t581, t582, t583⟩, A40, H⟩ := H
 replace H : (if t583 = true then ((mean_Mean_Add.f k t578 t579 t580 t581 t582 a2_0 a2_1 a2_2).bind fun bt585 => (some (bt585.1, bt585.2.1, bt585.2.2.1, bt585.2.2.2.1, bt585.2.2.2.2.1, bt585.2.2.2.2.2))) else (some (0, 0, 0, 0, 0, false))) = some (r1, r2, r3, r4, r5, r6) := H
 have A4 := Aside0.mk A40
 clear A40
 by_cases c5 : t583 = true
 ·subst c5
  have H1 : ((mean_Mean_Add.f k t578 t579 t580 t581 t582 a2_0 a2_1 a2_2).bind fun bt585 => (some (bt585.1, bt585.2.1, bt585.2.2.1, bt585.2.2.2.1, bt585.2.2.2.2.1, bt585.2.2.2.2.2))) = some (r1, r2, r3, r4, r5, r6) := by rw [if_pos rfl] at H; exact H
  clear H
  have H := H1
  clear H1
  replace H := Option.bind_eq_some_iff.mp H
  obtain ⟨⟨t585, t586, t587, t588, t589, t590⟩, A60, H⟩ := H
  replace H : (some (t585, t586, t587, t588, t589, t590)) = some (r1, r2, r3, r4, r5, r6) := H
  have A6 := Aside0.mk A60
  clear A60
  simp only [Option.some.injEq, Prod.mk.injEq] at H
  obtain ⟨rfl, rfl, rfl, rfl, rfl, rfl⟩ := H
  go_enter Tryz.func36, Tryz.ntmps36
  go_wp2_with (first | ((with_reducible refine gate_dst (N := 3) rfl ?_); refine box_event ?hg (N := 3) ?hd (cs := #[.int .u64 a0_0, .int .i64 a0_1, .int .u64 a0_2, .int .u64 a0_3, .int .i64 a0_4]) (t := 33) ?hr ?_; (case hd => rfl); (case hg => rfl); (case hr => first | (go_simp; done) | (go_simp; rfl)); intro gb574 hg w7 hbox hb; have BK574 := Aside0.mk (hbox); have GW574 := bels HB hg; have GE574 := bels HB hg; replace HB := belb HB hb; clear hb hbox hg) | ((with_reducible refine gate_dst (N := 4) rfl ?_); refine box_event ?hg (N := 4) ?hd (cs := #[.int .u64 a1_0, .int .u32 a1_1, .int .u32 a1_2]) (t := 28) ?hr ?_; (case hd => rfl); (case hg => rfl); (case hr => first | (go_simp; done) | (go_simp; rfl)); intro gb575 hg w8 hbox hb; have BK575 := Aside0.mk (hbox); have GW575 := bels HB hg; have GE575 := bels HB hg; have NB574_575 := blkl BK574 hg; have NB575_574 := blkg BK574 hg; replace BK574 := blkb BK574 hb; replace HB := belb HB hb; clear hb hbox hg) | ((with_reducible refine gate_dst (N := 5) rfl ?_); refine box_event ?hg (N := 5) ?hd (cs := #[.int .u64 a2_0, .int .u32 a2_1, .int .u32 a2_2]) (t := 28) ?hr ?_; (case hd => rfl); (case hg => rfl); (case hr => first | (go_simp; done) | (go_simp; rfl)); intro gb576 hg w9 hbox hb; have BK576 := Aside0.mk (hbox); have GW576 := bels HB hg; have GE576 := bels HB hg; have NB574_576 := blkl BK574 hg; have NB576_574 := blkg BK574 hg; have NB575_576 := blkl BK575 hg; have NB576_575 := blkg BK575 hg; replace BK574 := blkb BK574 hb; replace BK575 := blkb BK575 hb; replace HB := belb HB hb; clear hb hbox hg) | ((with_reducible refine gate_dst (N := 6) rfl ?_); refine box_event ?hg (N := 6) ?hd (cs := #[.int .u64 0, .int .i64 0, .int .u64 0, .int .u64 0, .int .i64 0]) (t := 33) ?hr ?_; (case hd => rfl); (case hg => rfl); (case hr => first | (go_simp; done) | (go_simp; rfl)); intro gb577 hg w10 hbox hb; have BK577 := Aside0.mk (hbox); have GW577 := bels HB hg; have GE577 := bels HB hg; have NB574_577 := blkl BK574 hg; have NB577_574 := blkg BK574 hg; have NB575_577 := blkl BK575 hg; have NB577_575 := blkg BK575 hg; have NB576_577 := blkl BK576 hg; have NB577_576 := blkg BK576 hg; replace BK574 := blkb BK574 hb; replace BK575 := blkb BK575 hb; replace BK576 := blkb BK576 hb; replace HB := belb HB hb; clear hb hbox hg; have hnb11 := NB574_575.out; have hnc11 := NB575_574.out; have hnb12 := NB574_576.out; have hnc12 := NB576_574.out; have hnb13 := NB574_577.out; have hnc13 := NB577_574.out; have hcz14_0 : w10.cell? ⟨gb574, 0, none⟩ = some (.int .u64 a0_0) := (blk_cell BK574.out 0).trans rfl; have hcz14_1 : w10.cell? ⟨gb574, 1, none⟩ = some (.int .i64 a0_1) := (blk_cell BK574.out 1).trans rfl; have hcz14_2 : w10.cell? ⟨gb574, 2, none⟩ = some (.int .u64 a0_2) := (blk_cell BK574.out 2).trans rfl; have hcz14_3 : w10.cell? ⟨gb574, 3, none⟩ = some (.int .u64 a0_3) := (blk_cell BK574.out 3).trans rfl; have hcz14_4 : w10.cell? ⟨gb574, 4, none⟩ = some (.int .i64 a0_4) := (blk_cell BK574.out 4).trans rfl; have hfz14_0 := blk_frozen BK574.out 0; have hfz14_1 := blk_frozen BK574.out 1; have hfz14_2 := blk_frozen BK574.out 2; have hfz14_3 := blk_frozen BK574.out 3; have hfz14_4 := blk_frozen BK574.out 4; have hnb15 := NB575_576.out; have hnc15 := NB576_575.out; have hnb16 := NB575_577.out; have hnc16 := NB577_575.out; have hcz17_0 : w10.cell? ⟨gb575, 0, none⟩ = some (.int .u64 a1_0) := (blk_cell BK575.out 0).trans rfl; have hcz17_1 : w10.cell? ⟨gb575, 1, none⟩ = some (.int .u32 a1_1) := (blk_cell BK575.out 1).trans rfl; have hcz17_2 : w10.cell? ⟨gb575, 2, none⟩ = some (.int .u32 a1_2) := (blk_cell BK575.out 2).trans rfl; have hfz17_0 := blk_frozen BK575.out 0; have hfz17_1 := blk_frozen BK575.out 1; have hfz17_2 := blk_frozen BK575.out 2) | ((with_reducible refine gate_callee (f := 24) rfl ?_); refine goesL_ (some 13) rfl rfl Tryz.func24 (by kernel_rfl) rfl #[.agg #[.int .u64 a0_0, .int .i64 a0_1, .int .u64 a0_2, .int .u64 a0_3, .int .i64 a0_4], .agg #[.int .u64 a1_0, .int .u32 a1_1, .int .u32 a1_2]] rfl argt ?_; (with_reducible refine (mean_Mean_Take.calls k a0_0 a0_1 a0_2 a0_3 a0_4 a1_0 a1_1 a1_2 t578 t579 t580 t581 t582 true _ A4.out).mono ?_); rintro e w18 ⟨rfl, hb⟩; refine ⟨_, rfl, ?_⟩; replace BK574 := blkb BK574 hb; replace BK575 := blkb BK575 hb; replace BK576 := blkb BK576 hb; replace BK577 := blkb BK577 hb; replace HB := belb HB hb; (try clear hb); (try clear hb2); (try clear hk); (try clear hi)) | ((with_reducible refine gate_dst (N := 8) rfl ?_); refine box_event ?hg (N := 8) ?hd (cs := #[.int .u64 0, .int .i64 0, .int .u64 0, .int .u64 0, .int .i64 0]) (t := 33) ?hr ?_; (case hd => rfl); (case hg => rfl); (case hr => first | (go_simp; done) | (go_simp; rfl)); intro gb584 hg w19 hbox hb; have BK584 := Aside0.mk (hbox); have GW584 := bels HB hg; have GE584 := bels HB hg; have NB574_584 := blkl BK574 hg; have NB584_574 := blkg BK574 hg; have NB575_584 := blkl BK575 hg; have NB584_575 := blkg BK575 hg; have NB576_584 := blkl BK576 hg; have NB584_576 := blkg BK576 hg; have NB577_584 := blkl BK577 hg; have NB584_577 := blkg BK577 hg; replace BK574 := blkb BK574 hb; replace BK575 := blkb BK575 hb; replace BK576 := blkb BK576 hb; replace BK577 := blkb BK577 hb; replace HB := belb HB hb; clear hb hbox hg; have hnb20 := NB584_574.out; have hnc20 := NB574_584.out; have hnb21 := NB584_575.out; have hnc21 := NB575_584.out; have hnb22 := NB584_576.out; have hnc22 := NB576_584.out; have hnb23 := NB584_577.out; have hnc23 := NB577_584.out; have hcz24_0 : w19.cell? ⟨gb584, 0, none⟩ = some (.int .u64 0) := (blk_cell BK584.out 0).trans rfl; have hcz24_1 : w19.cell? ⟨gb584, 1, none⟩ = some (.int .i64 0) := (blk_cell BK584.out 1).trans rfl; have hcz24_2 : w19.cell? ⟨gb584, 2, none⟩ = some (.int .u64 0) := (blk_cell BK584.out 2).trans rfl; have hcz24_3 : w19.cell? ⟨gb584, 3, none⟩ = some (.int .u64 0) := (blk_cell BK584.out 3).trans rfl; have hcz24_4 : w19.cell? ⟨gb584, 4, none⟩ = some (.int .i64 0) := (blk_cell BK584.out 4).trans rfl; have hfz24_0 := blk_frozen BK584.out 0; have hfz24_1 := blk_frozen BK584.out 1; have hfz24_2 := blk_frozen BK584.out 2; have hfz24_3 := blk_frozen BK584.out 3; have hfz24_4 := blk_frozen BK584.out 4; have hnb25 := NB576_577.out; have hnc25 := NB577_576.out; have hcz26_0 : w19.cell? ⟨gb576, 0, none⟩ = some (.int .u64 a2_0) := (blk_cell BK576.out 0).trans rfl; have hcz26_1 : w19.cell? ⟨gb576, 1, none⟩ = some (.int .u32 a2_1) := (blk_cell BK576.out 1).trans rfl; have hcz26_2 : w19.cell? ⟨gb576, 2, none⟩ = some (.int .u32 a2_2) := (blk_cell BK576.out 2).trans rfl; have hfz26_0 := blk_frozen BK576.out 0; have hfz26_1 := blk_frozen BK576.out 1; have hfz26_2 := blk_frozen BK576.out 2) | ((with_reducible refine gate_callee (f := 25) rfl ?_); refine goesL_ (some 21) rfl rfl Tryz.func25 (by kernel_rfl) rfl #[.agg #[.int .u64 t578, .int .i64 t579, .int .u64 t580, .int .u64 t581, .int .i64 t582], .agg #[.int .u64 a2_0, .int .u32 a2_1, .int .u32 a2_2]] rfl argt ?_; (with_reducible refine (mean_Mean_Add.calls k t578 t579 t580 t581 t582 a2_0 a2_1 a2_2 t585 t586 t587 t588 t589 t590 _ A6.out).mono ?_); rintro e w27 ⟨rfl, hb⟩; refine ⟨_, rfl, ?_⟩; replace BK574 := Aside0.mk (blk_below (g := gb574) (o := .cells #[.int .u64 a0_0, .int .i64 a0_1, .int .u64 a0_2, .int .u64 a0_3, .int .i64 a0_4] 33 (0, 0)) (by (with_reducible repeat (first | refine blk_drewN ?_ _ | refine blk_drew ?_ | refine blk_alloc ?_ _)); refine blk_far ?_ NB574_584.out _; (with_reducible repeat (first | refine blk_drewN ?_ _ | refine blk_drew ?_ | refine blk_alloc ?_ _)); refine blk_far ?_ NB574_584.out _; (with_reducible repeat (first | refine blk_drewN ?_ _ | refine blk_drew ?_ | refine blk_alloc ?_ _)); refine blk_far ?_ NB574_584.out _; (with_reducible repeat (first | refine blk_drewN ?_ _ | refine blk_drew ?_ | refine blk_alloc ?_ _)); refine blk_far ?_ NB574_584.out _; (with_reducible repeat (first | refine blk_drewN ?_ _ | refine blk_drew ?_ | refine blk_alloc ?_ _)); refine blk_far ?_ NB574_584.out _; exact blkt BK574) hb); replace BK575 := Aside0.mk (blk_below (g := gb575) (o := .cells #[.int .u64 a1_0, .int .u32 a1_1, .int .u32 a1_2] 28 (0, 0)) (by (with_reducible repeat (first | refine blk_drewN ?_ _ | refine blk_drew ?_ | refine blk_alloc ?_ _)); refine blk_far ?_ NB575_584.out _; (with_reducible repeat (first | refine blk_drewN ?_ _ | refine blk_drew ?_ | refine blk_alloc ?_ _)); refine blk_far ?_ NB575_584.out _; (with_reducible repeat (first | refine blk_drewN ?_ _ | refine blk_drew ?_ | refine blk_alloc ?_ _)); refine blk_far ?_ NB575_584.out _; (with_reducible repeat (first | refine blk_drewN ?_ _ | refine blk_drew ?_ | refine blk_alloc ?_ _)); refine blk_far ?_ NB575_584.out _; (with_reducible repeat (first | refine blk_drewN ?_ _ | refine blk_drew ?_ | refine blk_alloc ?_ _)); refine blk_far ?_ NB575_584.out _; exact blkt BK575) hb); replace BK576 := Aside0.mk (blk_below (g := gb576) (o := .cells #[.int .u64 a2_0, .int .u32 a2_1, .int .u32 a2_2] 28 (0, 0)) (by (with_reducible repeat (first | refine blk_drewN ?_ _ | refine blk_drew ?_ | refine blk_alloc ?_ _)); refine blk_far ?_ NB576_584.out _; (with_reducible repeat (first | refine blk_drewN ?_ _ | refine blk_drew ?_ | refine blk_alloc ?_ _)); refine blk_far ?_ NB576_584.out _; (with_reducible repeat (first | refine blk_drewN ?_ _ | refine blk_drew ?_ | refine blk_alloc ?_ _)); refine blk_far ?_ NB576_584.out _; (with_reducible repeat (first | refine blk_drewN ?_ _ | refine blk_drew ?_ | refine blk_alloc ?_ _)); refine blk_far ?_ NB576_584.out _; (with_reducible repeat (first | refine blk_drewN ?_ _ | refine blk_drew ?_ | refine blk_alloc ?_ _)); refine blk_far ?_ NB576_584.out _; exact blkt BK576) hb); replace BK577 := Aside0.mk (blk_below (g := gb577) (o := .cells #[.int .u64 0, .int .i64 0, .int .u64 0, .int .u64 0, .int .i64 0] 33 (0, 0)) (by (with_reducible repeat (first | refine blk_drewN ?_ _ | refine blk_drew ?_ | refine blk_alloc ?_ _)); refine blk_far ?_ NB577_584.out _; (with_reducible repeat (first | refine blk_drewN ?_ _ | refine blk_drew ?_ | refine blk_alloc ?_ _)); refine blk_far ?_ NB577_584.out _; (with_reducible repeat (first | refine blk_drewN ?_ _ | refine blk_drew ?_ | refine blk_alloc ?_ _)); refine blk_far ?_ NB577_584.out _; (with_reducible repeat (first | refine blk_drewN ?_ _ | refine blk_drew ?_ | refine blk_alloc ?_ _)); refine blk_far ?_ NB577_584.out _; (with_reducible repeat (first | refine blk_drewN ?_ _ | refine blk_drew ?_ | refine blk_alloc ?_ _)); refine blk_far ?_ NB577_584.out _; exact blkt BK577) hb); replace BK584 := Aside0.mk (blk_below (g := gb584) (o := .cells #[.int .u64 t578, .int .i64 t579, .int .u64 t580, .int .u64 t581, .int .i64 t582] 33 (0, 0)) (by (with_reducible repeat (first | refine blk_drewN ?_ _ | refine blk_drew ?_ | refine blk_alloc ?_ _)); refine blk_put (cs := #[.int .u64 t578, .int .i64 t579, .int .u64 t580, .int .u64 t581, .int .i64 0]) ?_ 4 _ rfl; (with_reducible repeat (first | refine blk_drewN ?_ _ | refine blk_drew ?_ | refine blk_alloc ?_ _)); refine blk_put (cs := #[.int .u64 t578, .int .i64 t579, .int .u64 t580, .int .u64 0, .int .i64 0]) ?_ 3 _ rfl; (with_reducible repeat (first | refine blk_drewN ?_ _ | refine blk_drew ?_ | refine blk_alloc ?_ _)); refine blk_put (cs := #[.int .u64 t578, .int .i64 t579, .int .u64 0, .int .u64 0, .int .i64 0]) ?_ 2 _ rfl; (with_reducible repeat (first | refine blk_drewN ?_ _ | refine blk_drew ?_ | refine blk_alloc ?_ _)); refine blk_put (cs := #[.int .u64 t578, .int .i64 0, .int .u64 0, .int .u64 0, .int .i64 0]) ?_ 1 _ rfl; (with_reducible repeat (first | refine blk_drewN ?_ _ | refine blk_drew ?_ | refine blk_alloc ?_ _)); refine blk_put (cs := #[.int .u64 0, .int .i64 0, .int .u64 0, .int .u64 0, .int .i64 0]) ?_ 0 _ rfl; exact blkt BK584) hb); replace HB := belb HB hb; (try clear hb); (try clear hb2); (try clear hk); (try clear hi); have hcz28_0 : w27.cell? ⟨gb577, 0, none⟩ = some (.int .u64 0) := (blk_cell BK577.out 0).trans rfl; have hcz28_1 : w27.cell? ⟨gb577, 1, none⟩ = some (.int .i64 0) := (blk_cell BK577.out 1).trans rfl; have hcz28_2 : w27.cell? ⟨gb577, 2, none⟩ = some (.int .u64 0) := (blk_cell BK577.out 2).trans rfl; have hcz28_3 : w27.cell? ⟨gb577, 3, none⟩ = some (.int .u64 0) := (blk_cell BK577.out 3).trans rfl; have hcz28_4 : w27.cell? ⟨gb577, 4, none⟩ = some (.int .i64 0) := (blk_cell BK577.out 4).trans rfl; have hfz28_0 := blk_frozen BK577.out 0; have hfz28_1 := blk_frozen BK577.out 1; have hfz28_2 := blk_frozen BK577.out 2; have hfz28_3 := blk_frozen BK577.out 3; have hfz28_4 := blk_frozen BK577.out 4))
  refine bodyPost_ret (results_ct rfl _ _ gb577 33 #[.int .u64 t585, .int .i64 t586, .int .u64 t587, .int .u64 t588, .int .i64 t589] (0, 0) _ rfl (by (with_reducible repeat (first | refine blk_drewN ?_ _ | refine blk_drew ?_ | refine blk_alloc ?_ _)); refine blk_put (cs := #[.int .u64 t585, .int .i64 t586, .int .u64 t587, .int .u64 t588, .int .i64 0]) ?_ 4 _ rfl; (with_reducible repeat (first | refine blk_drewN ?_ _ | refine blk_drew ?_ | refine blk_alloc ?_ _)); refine blk_put (cs := #[.int .u64 t585, .int .i64 t586, .int .u64 t587, .int .u64 0, .int .i64 0]) ?_ 3 _ rfl; (with_reducible repeat (first | refine blk_drewN ?_ _ | refine blk_drew ?_ | refine blk_alloc ?_ _)); refine blk_put (cs := #[.int .u64 t585, .int .i64 t586, .int .u64 0, .int .u64 0, .int .i64 0]) ?_ 2 _ rfl; (with_reducible repeat (first | refine blk_drewN ?_ _ | refine blk_drew ?_ | refine blk_alloc ?_ _)); refine blk_put (cs := #[.int .u64 t585, .int .i64 0, .int .u64 0, .int .u64 0, .int .i64 0]) ?_ 1 _ rfl; (with_reducible repeat (first | refine blk_drewN ?_ _ | refine blk_drew ?_ | refine blk_alloc ?_ _)); refine blk_put (cs := #[.int .u64 0, .int .i64 0, .int .u64 0, .int .u64 0, .int .i64 0]) ?_ 0 _ rfl; exact blkt BK577) Tryz.underlying33 rfl (by kernel_rfl)) rfl ?_
  exact ⟨by first | rfl | (simp [errW_none, errW_some] <;> rfl) | (simp [*, errW_none, errW_some] <;> rfl), belt HB⟩
 ·replace c5 := Bool.eq_false_iff.mpr c5
  subst c5
  have H1 : (some (0, 0, 0, 0, 0, false)) = some (r1, r2, r3, r4, r5, r6) := by rw [if_neg (show ¬ (false = true) by decide)] at H; exact H
  clear H
  have H := H1
  clear H1
  simp only [Option.some.injEq, Prod.mk.injEq] at H
  obtain ⟨rfl, rfl, rfl, rfl, rfl, rfl⟩ := H
  go_enter Tryz.func36, Tryz.ntmps36
  go_wp2_with (first | ((with_reducible refine gate_dst (N := 3) rfl ?_); refine box_event ?hg (N := 3) ?hd (cs := #[.int .u64 a0_0, .int .i64 a0_1, .int .u64 a0_2, .int .u64 a0_3, .int .i64 a0_4]) (t := 33) ?hr ?_; (case hd => rfl); (case hg => rfl); (case hr => first | (go_simp; done) | (go_simp; rfl)); intro gb574 hg w29 hbox hb; have BK574 := Aside0.mk (hbox); have GW574 := bels HB hg; have GE574 := bels HB hg; replace HB := belb HB hb; clear hb hbox hg) | ((with_reducible refine gate_dst (N := 4) rfl ?_); refine box_event ?hg (N := 4) ?hd (cs := #[.int .u64 a1_0, .int .u32 a1_1, .int .u32 a1_2]) (t := 28) ?hr ?_; (case hd => rfl); (case hg => rfl); (case hr => first | (go_simp; done) | (go_simp; rfl)); intro gb575 hg w30 hbox hb; have BK575 := Aside0.mk (hbox); have GW575 := bels HB hg; have GE575 := bels HB hg; have NB574_575 := blkl BK574 hg; have NB575_574 := blkg BK574 hg; replace BK574 := blkb BK574 hb; replace HB := belb HB hb; clear hb hbox hg) | ((with_reducible refine gate_dst (N := 5) rfl ?_); refine box_event ?hg (N := 5) ?hd (cs := #[.int .u64 a2_0, .int .u32 a2_1, .int .u32 a2_2]) (t := 28) ?hr ?_; (case hd => rfl); (case hg => rfl); (case hr => first | (go_simp; done) | (go_simp; rfl)); intro gb576 hg w31 hbox hb; have BK576 := Aside0.mk (hbox); have GW576 := bels HB hg; have GE576 := bels HB hg; have NB574_576 := blkl BK574 hg; have NB576_574 := blkg BK574 hg; have NB575_576 := blkl BK575 hg; have NB576_575 := blkg BK575 hg; replace BK574 := blkb BK574 hb; replace BK575 := blkb BK575 hb; replace HB := belb HB hb; clear hb hbox hg) | ((with_reducible refine gate_dst (N := 6) rfl ?_); refine box_event ?hg (N := 6) ?hd (cs := #[.int .u64 0, .int .i64 0, .int .u64 0, .int .u64 0, .int .i64 0]) (t := 33) ?hr ?_; (case hd => rfl); (case hg => rfl); (case hr => first | (go_simp; done) | (go_simp; rfl)); intro gb577 hg w32 hbox hb; have BK577 := Aside0.mk (hbox); have GW577 := bels HB hg; have GE577 := bels HB hg; have NB574_577 := blkl BK574 hg; have NB577_574 := blkg BK574 hg; have NB575_577 := blkl BK575 hg; have NB577_575 := blkg BK575 hg; have NB576_577 := blkl BK576 hg; have NB577_576 := blkg BK576 hg; replace BK574 := blkb BK574 hb; replace BK575 := blkb BK575 hb; replace BK576 := blkb BK576 hb; replace HB := belb HB hb; clear hb hbox hg; have hnb33 := NB574_575.out; have hnc33 := NB575_574.out; have hnb34 := NB574_576.out; have hnc34 := NB576_574.out; have hnb35 := NB574_577.out; have hnc35 := NB577_574.out; have hcz36_0 : w32.cell? ⟨gb574, 0, none⟩ = some (.int .u64 a0_0) := (blk_cell BK574.out 0).trans rfl; have hcz36_1 : w32.cell? ⟨gb574, 1, none⟩ = some (.int .i64 a0_1) := (blk_cell BK574.out 1).trans rfl; have hcz36_2 : w32.cell? ⟨gb574, 2, none⟩ = some (.int .u64 a0_2) := (blk_cell BK574.out 2).trans rfl; have hcz36_3 : w32.cell? ⟨gb574, 3, none⟩ = some (.int .u64 a0_3) := (blk_cell BK574.out 3).trans rfl; have hcz36_4 : w32.cell? ⟨gb574, 4, none⟩ = some (.int .i64 a0_4) := (blk_cell BK574.out 4).trans rfl; have hfz36_0 := blk_frozen BK574.out 0; have hfz36_1 := blk_frozen BK574.out 1; have hfz36_2 := blk_frozen BK574.out 2; have hfz36_3 := blk_frozen BK574.out 3; have hfz36_4 := blk_frozen BK574.out 4; have hnb37 := NB575_576.out; have hnc37 := NB576_575.out; have hnb38 := NB575_577.out; have hnc38 := NB577_575.out; have hcz39_0 : w32.cell? ⟨gb575, 0, none⟩ = some (.int .u64 a1_0) := (blk_cell BK575.out 0).trans rfl; have hcz39_1 : w32.cell? ⟨gb575, 1, none⟩ = some (.int .u32 a1_1) := (blk_cell BK575.out 1).trans rfl; have hcz39_2 : w32.cell? ⟨gb575, 2, none⟩ = some (.int .u32 a1_2) := (blk_cell BK575.out 2).trans rfl; have hfz39_0 := blk_frozen BK575.out 0; have hfz39_1 := blk_frozen BK575.out 1; have hfz39_2 := blk_frozen BK575.out 2) | ((with_reducible refine gate_callee (f := 24) rfl ?_); refine goesL_ (some 13) rfl rfl Tryz.func24 (by kernel_rfl) rfl #[.agg #[.int .u64 a0_0, .int .i64 a0_1, .int .u64 a0_2, .int .u64 a0_3, .int .i64 a0_4], .agg #[.int .u64 a1_0, .int .u32 a1_1, .int .u32 a1_2]] rfl argt ?_; (with_reducible refine (mean_Mean_Take.calls k a0_0 a0_1 a0_2 a0_3 a0_4 a1_0 a1_1 a1_2 t578 t579 t580 t581 t582 false _ A4.out).mono ?_); rintro e w40 ⟨rfl, hb⟩; refine ⟨_, rfl, ?_⟩; replace BK574 := blkb BK574 hb; replace BK575 := blkb BK575 hb; replace BK576 := blkb BK576 hb; replace BK577 := blkb BK577 hb; replace HB := belb HB hb; (try clear hb); (try clear hb2); (try clear hk); (try clear hi)) | ((with_reducible refine gate_dst (N := 8) rfl ?_); refine box_event ?hg (N := 8) ?hd (cs := #[.int .u64 0, .int .i64 0, .int .u64 0, .int .u64 0, .int .i64 0]) (t := 33) ?hr ?_; (case hd => rfl); (case hg => rfl); (case hr => first | (go_simp; done) | (go_simp; rfl)); intro gb584 hg w41 hbox hb; have BK584 := Aside0.mk (hbox); have GW584 := bels HB hg; have GE584 := bels HB hg; have NB574_584 := blkl BK574 hg; have NB584_574 := blkg BK574 hg; have NB575_584 := blkl BK575 hg; have NB584_575 := blkg BK575 hg; have NB576_584 := blkl BK576 hg; have NB584_576 := blkg BK576 hg; have NB577_584 := blkl BK577 hg; have NB584_577 := blkg BK577 hg; replace BK574 := blkb BK574 hb; replace BK575 := blkb BK575 hb; replace BK576 := blkb BK576 hb; replace BK577 := blkb BK577 hb; replace HB := belb HB hb; clear hb hbox hg; have hnb42 := NB584_574.out; have hnc42 := NB574_584.out; have hnb43 := NB584_575.out; have hnc43 := NB575_584.out; have hnb44 := NB584_576.out; have hnc44 := NB576_584.out; have hnb45 := NB584_577.out; have hnc45 := NB577_584.out; have hcz46_0 : w41.cell? ⟨gb584, 0, none⟩ = some (.int .u64 0) := (blk_cell BK584.out 0).trans rfl; have hcz46_1 : w41.cell? ⟨gb584, 1, none⟩ = some (.int .i64 0) := (blk_cell BK584.out 1).trans rfl; have hcz46_2 : w41.cell? ⟨gb584, 2, none⟩ = some (.int .u64 0) := (blk_cell BK584.out 2).trans rfl; have hcz46_3 : w41.cell? ⟨gb584, 3, none⟩ = some (.int .u64 0) := (blk_cell BK584.out 3).trans rfl; have hcz46_4 : w41.cell? ⟨gb584, 4, none⟩ = some (.int .i64 0) := (blk_cell BK584.out 4).trans rfl; have hfz46_0 := blk_frozen BK584.out 0; have hfz46_1 := blk_frozen BK584.out 1; have hfz46_2 := blk_frozen BK584.out 2; have hfz46_3 := blk_frozen BK584.out 3; have hfz46_4 := blk_frozen BK584.out 4; have hnb47 := NB577_576.out; have hnc47 := NB576_577.out; have hcz48_0 : w41.cell? ⟨gb577, 0, none⟩ = some (.int .u64 0) := (blk_cell BK577.out 0).trans rfl; have hcz48_1 : w41.cell? ⟨gb577, 1, none⟩ = some (.int .i64 0) := (blk_cell BK577.out 1).trans rfl; have hcz48_2 : w41.cell? ⟨gb577, 2, none⟩ = some (.int .u64 0) := (blk_cell BK577.out 2).trans rfl; have hcz48_3 : w41.cell? ⟨gb577, 3, none⟩ = some (.int .u64 0) := (blk_cell BK577.out 3).trans rfl; have hcz48_4 : w41.cell? ⟨gb577, 4, none⟩ = some (.int .i64 0) := (blk_cell BK577.out 4).trans rfl; have hfz48_0 := blk_frozen BK577.out 0; have hfz48_1 := blk_frozen BK577.out 1; have hfz48_2 := blk_frozen BK577.out 2; have hfz48_3 := blk_frozen BK577.out 3; have hfz48_4 := blk_frozen BK577.out 4))
  refine bodyPost_ret (results_ct rfl _ _ gb577 33 #[.int .u64 0, .int .i64 0, .int .u64 0, .int .u64 0, .int .i64 0] (0, 0) _ rfl (by (with_reducible repeat (first | refine blk_drewN ?_ _ | refine blk_drew ?_ | refine blk_alloc ?_ _)); refine blk_put (cs := #[.int .u64 0, .int .i64 0, .int .u64 0, .int .u64 0, .int .i64 0]) ?_ 4 _ rfl; (with_reducible repeat (first | refine blk_drewN ?_ _ | refine blk_drew ?_ | refine blk_alloc ?_ _)); refine blk_put (cs := #[.int .u64 0, .int .i64 0, .int .u64 0, .int .u64 0, .int .i64 0]) ?_ 3 _ rfl; (with_reducible repeat (first | refine blk_drewN ?_ _ | refine blk_drew ?_ | refine blk_alloc ?_ _)); refine blk_put (cs := #[.int .u64 0, .int .i64 0, .int .u64 0, .int .u64 0, .int .i64 0]) ?_ 2 _ rfl; (with_reducible repeat (first | refine blk_drewN ?_ _ | refine blk_drew ?_ | refine blk_alloc ?_ _)); refine blk_put (cs := #[.int .u64 0, .int .i64 0, .int .u64 0, .int .u64 0, .int .i64 0]) ?_ 1 _ rfl; (with_reducible repeat (first | refine blk_drewN ?_ _ | refine blk_drew ?_ | refine blk_alloc ?_ _)); refine blk_put (cs := #[.int .u64 0, .int .i64 0, .int .u64 0, .int .u64 0, .int .i64 0]) ?_ 0 _ rfl; (with_reducible repeat (first | refine blk_drewN ?_ _ | refine blk_drew ?_ | refine blk_alloc ?_ _)); refine blk_far ?_ NB577_584.out _; (with_reducible repeat (first | refine blk_drewN ?_ _ | refine blk_drew ?_ | refine blk_alloc ?_ _)); refine blk_far ?_ NB577_584.out _; (with_reducible repeat (first | refine blk_drewN ?_ _ | refine blk_drew ?_ | refine blk_alloc ?_ _)); refine blk_far ?_ NB577_584.out _; (with_reducible repeat (first | refine blk_drewN ?_ _ | refine blk_drew ?_ | refine blk_alloc ?_ _)); refine blk_far ?_ NB577_584.out _; (with_reducible repeat (first | refine blk_drewN ?_ _ | refine blk_drew ?_ | refine blk_alloc ?_ _)); refine blk_far ?_ NB577_584.out _; exact blkt BK577) Tryz.underlying33 rfl (by kernel_rfl)) rfl ?_
  exact ⟨by first | rfl | (simp [errW_none, errW_some] <;> rfl) | (simp [*, errW_none, errW_some] <;> rfl), belt HB⟩

end Go.Proofs.YtfbkamgdkdnpoaaGreatDoor.Print
