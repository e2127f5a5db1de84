/- What each Go function that is named below answers, as a Lean function, and that its walk comes to just that: for whatever arguments that function gives an answer for. Written by a program of this session (wip/mkpr.py, pr.sh). -/
import Derived.Test.YtfbkamgdkdnpoaaGreatDoorPrint1000
import Derived.Test.YtfbkamgdkdnpoaaGreatDoorPrint1003
import Derived.Test.YtfbkamgdkdnpoaaGreatDoorPrint1006
namespace Go.Proofs.YtfbkamgdkdnpoaaGreatDoor.Print
open Go.RowKit Go.Proofs.YtfbkamgdkdnpoaaGreatDoorW.PrintWords Go.Proofs.YtfbkamgdkdnpoaaGreatDoorW.PrintLast Go.Proofs.YtfbkamgdkdnpoaaGreatDoorW.PrintMore
attribute [local go_sem] max2_int min2_int max_two min_two max_three min_three max_four min_four   -- for this text's walks alone
open Go.Proofs.YtfbkamgdkdnpoaaGreatDoor.Bits Go.Proofs.YtfbkamgdkdnpoaaGreatDoor.Short
attribute [local go_sem] add64_run0 sub64_run0 add64_run sub64_run
set_option linter.unusedVariables false
set_option linter.unusedSimpArgs false

/-! ### mean_Mean_Take: function 24 -/
def mean_Mean_Take.j0 : Nat → Bool → Int → Int → Int → Int → Int → Int → Int → Int → Option (Int × Int × Int × Int × Int × Bool)
 | 0, _, _, _, _, _, _, _, _, _ => none
 | k + 1, x29, x338000, x338001, x338002, x338003, x338004, x339000, x339001, x339002 => if x29 = true then (some (0, 0, 0, 0, 0, false)) else ((pos_Pos_Distance.f k x339000 x339001 x339002 x338000).bind fun bt342 => ((wide_Int_Sub.f x338001 x338002 bt342.1 bt342.2).bind fun bt344 => (if bt344.2.2 = true then ((mean_Mean_Right.f x338000 bt344.1 bt344.2.1 (IntKind.u64.wrap (x338003 - (IntKind.u64.wrap (x339002)))) (wrap64 (x338004 - 1))).bind fun t349 => (if t349 = true then (some (x338000, bt344.1, bt344.2.1, IntKind.u64.wrap (x338003 - (IntKind.u64.wrap (x339002))), wrap64 (x338004 - 1), true)) else (some (0, 0, 0, 0, 0, false)))) else (some (0, 0, 0, 0, 0, false)))))
def mean_Mean_Take.f (k : Nat) (a0_0 : Int) (a0_1 : Int) (a0_2 : Int) (a0_3 : Int) (a0_4 : Int) (a1_0 : Int) (a1_1 : Int) (a1_2 : Int) : Option (Int × Int × Int × Int × Int × Bool) := (mean_Mean_Right.f a0_0 a0_1 a0_2 a0_3 a0_4).bind fun t340 => (if t340 = true then ((pos_Pos_Right.f a1_0 a1_1 a1_2).bind fun t341 => (if t341 = true then (if a0_4 = 0 then (mean_Mean_Take.j0 k true a0_0 a0_1 a0_2 a0_3 a0_4 a1_0 a1_1 a1_2) else (mean_Mean_Take.j0 k (decide (a0_3 < (IntKind.u64.wrap (a1_2)))) a0_0 a0_1 a0_2 a0_3 a0_4 a1_0 a1_1 a1_2)) else (mean_Mean_Take.j0 k true a0_0 a0_1 a0_2 a0_3 a0_4 a1_0 a1_1 a1_2))) else (mean_Mean_Take.j0 k true a0_0 a0_1 a0_2 a0_3 a0_4 a1_0 a1_1 a1_2))
theorem mean_Mean_Take.mono_l : ∀ k, (∀ y0 y1 y2 y3 y4 y5 y6 y7 y8, LeO (mean_Mean_Take.j0 k y0 y1 y2 y3 y4 y5 y6 y7 y8) (mean_Mean_Take.j0 (k + 1) y0 y1 y2 y3 y4 y5 y6 y7 y8))
 | 0 => fun _ _ _ _ _ _ _ _ _ r h => by simp [mean_Mean_Take.j0] at h
 | k + 1 => by
  have ih0 := mean_Mean_Take.mono_l k
  ·intro y0 y1 y2 y3 y4 y5 y6 y7 y8
   unfold mean_Mean_Take.j0
   repeat' first
   | (with_reducible exact ih0 _ _ _ _ _ _ _ _ _)
   | (with_reducible exact pos_Pos_Distance.mono _ _ _ _ _)
   | (with_reducible exact LeO.refl _)
   | (with_reducible exact LeO.none _)
   | (with_reducible refine LeO.ite ?_ ?_)
   | (with_reducible refine LeO.bind ?_ (fun _ => ?_))
   | exact ih0 _ _ _ _ _ _ _ _ _
   | exact pos_Pos_Distance.mono _ _ _ _ _
   | exact LeO.none _
   | refine LeO.ite ?_ ?_
   | refine LeO.bind ?_ (fun _ => ?_)
theorem mean_Mean_Take.mono : ∀ a0 a1 a2 a3 a4 a5 a6 a7 k, LeO (mean_Mean_Take.f k a0 a1 a2 a3 a4 a5 a6 a7) (mean_Mean_Take.f (k + 1) a0 a1 a2 a3 a4 a5 a6 a7) := by
 intro a0 a1 a2 a3 a4 a5 a6 a7 k
 have ih0 := mean_Mean_Take.mono_l k
 unfold mean_Mean_Take.f
 repeat' first
   | (with_reducible exact ih0 _ _ _ _ _ _ _ _ _)
   | (with_reducible exact pos_Pos_Distance.mono _ _ _ _ _)
   | (with_reducible exact LeO.refl _)
   | (with_reducible exact LeO.none _)
   | (with_reducible refine LeO.ite ?_ ?_)
   | (with_reducible refine LeO.bind ?_ (fun _ => ?_))
   | exact ih0 _ _ _ _ _ _ _ _ _
   | exact pos_Pos_Distance.mono _ _ _ _ _
   | exact LeO.none _
   | refine LeO.ite ?_ ?_
   | refine LeO.bind ?_ (fun _ => ?_)
def mean_Mean_Take.T3 : Bool × List (List Nat × List Nat) := (true, [([], []), ([0], [0]), ([], []), ([], []), ([3], [3]), ([2, 4], [2, 4]), ([1, 5, 5], [1, 5]), ([6], [6]), ([7], [7]), ([7], [7]), ([], []), ([10, 8, 6, 0, 1, 2, 3, 4, 5, 6, 7, 8, 10], [8, 10]), ([9, 11, 0, 1, 2, 3, 4, 5, 6, 7, 8, 9, 10, 11], [9])])
def mean_Mean_Take.B3 : List Nat := [0, 1, 0, 0, 8, 28, 63, 127, 255, 255, 0, 1535, 4095]
theorem mean_Mean_Take.tab3 : rtab .any (opsOf Tryz.f24 3) = mean_Mean_Take.T3 := by kernel_rfl
theorem mean_Mean_Take.bits3 : waitsOk mean_Mean_Take.T3.2 mean_Mean_Take.B3 = true := by kernel_rfl
set_option maxHeartbeats 8000000 in
set_option maxRecDepth 100000 in
theorem mean_Mean_Take.calls (k : Nat) (a0_0 : Int) (a0_1 : Int) (a0_2 : Int) (a0_3 : Int) (a0_4 : Int) (a1_0 : Int) (a1_1 : Int) (a1_2 : Int) (r1 : Int) (r2 : Int) (r3 : Int) (r4 : Int) (r5 : Int) (r6 : Bool) (w : World) (h : mean_Mean_Take.f k a0_0 a0_1 a0_2 a0_3 a0_4 a1_0 a1_1 a1_2 = some (r1, r2, r3, r4, r5, r6)) :
  Calls Tryz.prog 24 #[.agg #[.int .u64 a0_0, .int .i64 a0_1, .int .u64 a0_2, .int .u64 a0_3, .int .i64 a0_4], .agg #[.int .u64 a1_0, .int .u32 a1_1, .int .u32 a1_2]] w fun e w' => e = .returned (.tuple #[.agg #[.int .u64 r1, .int .i64 r2, .int .u64 r3, .int .u64 r4, .int .i64 r5], .bool r6]) ∧ Below w.heap.size w w' := by
 have hu33 := Tryz.underlying33
 have hu28 := Tryz.underlying28
 have hu31 := Tryz.underlying31
 have HB := Aside0.mk (Below.refl w.heap.size w)
 have H : ((mean_Mean_Right.f a0_0 a0_1 a0_2 a0_3 a0_4).bind fun t340 => (if t340 = true then ((pos_Pos_Right.f a1_0 a1_1 a1_2).bind fun t341 => (if t341 = true then (if a0_4 = 0 then (mean_Mean_Take.j0 k true a0_0 a0_1 a0_2 a0_3 a0_4 a1_0 a1_1 a1_2) else (mean_Mean_Take.j0 k (decide (a0_3 < (IntKind.u64.wrap (a1_2)))) a0_0 a0_1 a0_2 a0_3 a0_4 a1_0 a1_1 a1_2)) else (mean_Mean_Take.j0 k true a0_0 a0_1 a0_2 a0_3 a0_4 a1_0 a1_1 a1_2))) else (mean_Mean_Take.j0 k true a0_0 a0_1 a0_2 a0_3 a0_4 a1_0 a1_1 a1_2))) = some (r1, r2, r3, r4, r5, r6) := h
 clear h
 have HC3 := Aside0.mk H
 clear H
 go_enter Tryz.func24, Tryz.ntmps24
 go_upto_region 1 with (first | ((with_reducible refine gate_dst (N := 2) rfl ?_); refine box_event ?hg (N := 2) ?hd (cs := #[.int .u64 a0_0, .int .i64 a0_1, .int .u64 a0_2, .int .u64 a0_3, .int .i64 a0_4]) (t := 33) ?hr ?_; (case hd => rfl); (case hg => rfl); (case hr => first | (go_simp; done) | (go_simp; rfl)); intro gb337 hg w4 hbox hb; have BK337 := Aside0.mk (hbox); have GW337 := bels HB hg; have GE337 := bels HB hg; replace HB := belb HB hb; clear hb hbox hg) | ((with_reducible refine gate_dst (N := 3) rfl ?_); refine box_event ?hg (N := 3) ?hd (cs := #[.int .u64 a1_0, .int .u32 a1_1, .int .u32 a1_2]) (t := 28) ?hr ?_; (case hd => rfl); (case hg => rfl); (case hr => first | (go_simp; done) | (go_simp; rfl)); intro gb338 hg w5 hbox hb; have BK338 := Aside0.mk (hbox); have GW338 := bels HB hg; have GE338 := bels HB hg; have NB337_338 := blkl BK337 hg; have NB338_337 := blkg BK337 hg; replace BK337 := blkb BK337 hb; replace HB := belb HB hb; clear hb hbox hg) | ((with_reducible refine gate_dst (N := 4) rfl ?_); refine box_event ?hg (N := 4) ?hd (cs := #[.int .u64 0, .int .i64 0, .int .u64 0, .int .u64 0, .int .i64 0]) (t := 33) ?hr ?_; (case hd => rfl); (case hg => rfl); (case hr => first | (go_simp; done) | (go_simp; rfl)); intro gb339 hg w6 hbox hb; have BK339 := Aside0.mk (hbox); have GW339 := bels HB hg; have GE339 := bels HB hg; have NB337_339 := blkl BK337 hg; have NB339_337 := blkg BK337 hg; have NB338_339 := blkl BK338 hg; have NB339_338 := blkg BK338 hg; replace BK337 := blkb BK337 hb; replace BK338 := blkb BK338 hb; replace HB := belb HB hb; clear hb hbox hg))
 (try simp only [Act.put, List.setIfInBounds_toArray, List.set_cons_zero, List.set_cons_succ])
 go_cut [29] (fun v29 wc => ∃ (kq : Nat) (x29_2 : Bool), v29 = .bool x29_2 ∧ Aside0 (mean_Mean_Take.j0 kq x29_2 a0_0 a0_1 a0_2 a0_3 a0_4 a1_0 a1_1 a1_2 = some (r1, r2, r3, r4, r5, r6)) ∧ Aside0 (kq ≤ k) ∧ Aside0 (wc.heap[gb337]? = some (.cells #[.int .u64 a0_0, .int .i64 a0_1, .int .u64 a0_2, .int .u64 a0_3, .int .i64 a0_4] 33 (0, 0))) ∧ Aside0 (wc.heap[gb338]? = some (.cells #[.int .u64 a1_0, .int .u32 a1_1, .int .u32 a1_2] 28 (0, 0))) ∧ Aside0 (wc.heap[gb339]? = some (.cells #[.int .u64 0, .int .i64 0, .int .u64 0, .int .u64 0, .int .i64 0] 33 (0, 0))) ∧ Aside0 (Below w.heap.size w wc))
 case first =>
  have H := HC3.out
  clear HC3
  replace H := Option.bind_eq_some_iff.mp H
  obtain ⟨t340, A70, H⟩ := H
  replace H : (if t340 = true then ((pos_Pos_Right.f a1_0 a1_1 a1_2).bind fun t341 => (if t341 = true then (if a0_4 = 0 then (mean_Mean_Take.j0 k true a0_0 a0_1 a0_2 a0_3 a0_4 a1_0 a1_1 a1_2) else (mean_Mean_Take.j0 k (decide (a0_3 < (IntKind.u64.wrap (a1_2)))) a0_0 a0_1 a0_2 a0_3 a0_4 a1_0 a1_1 a1_2)) else (mean_Mean_Take.j0 k true a0_0 a0_1 a0_2 a0_3 a0_4 a1_0 a1_1 a1_2))) else (mean_Mean_Take.j0 k true a0_0 a0_1 a0_2 a0_3 a0_4 a1_0 a1_1 a1_2)) = some (r1, r2, r3, r4, r5, r6) := H
  have A7 := Aside0.mk A70
  clear A70
  by_cases c8 : t340 = true
  ·subst c8
   have H1 : ((pos_Pos_Right.f a1_0 a1_1 a1_2).bind fun t341 => (if t341 = true then (if a0_4 = 0 then (mean_Mean_Take.j0 k true a0_0 a0_1 a0_2 a0_3 a0_4 a1_0 a1_1 a1_2) else (mean_Mean_Take.j0 k (decide (a0_3 < (IntKind.u64.wrap (a1_2)))) a0_0 a0_1 a0_2 a0_3 a0_4 a1_0 a1_1 a1_2)) else (mean_Mean_Take.j0 k true a0_0 a0_1 a0_2 a0_3 a0_4 a1_0 a1_1 a1_2))) = some (r1, r2, r3, r4, r5, r6) := by rw [if_pos rfl] at H; exact H
   clear H
   have H := H1
   clear H1
   replace H := Option.bind_eq_some_iff.mp H
   obtain ⟨t341, A90, H⟩ := H
   replace H : (if t341 = true then (if a0_4 = 0 then (mean_Mean_Take.j0 k true a0_0 a0_1 a0_2 a0_3 a0_4 a1_0 a1_1 a1_2) else (mean_Mean_Take.j0 k (decide (a0_3 < (IntKind.u64.wrap (a1_2)))) a0_0 a0_1 a0_2 a0_3 a0_4 a1_0 a1_1 a1_2)) else (mean_Mean_Take.j0 k true a0_0 a0_1 a0_2 a0_3 a0_4 a1_0 a1_1 a1_2)) = some (r1, r2, r3, r4, r5, r6) := H
   have A9 := Aside0.mk A90
   clear A90
   by_cases c10 : t341 = true
   ·subst c10
    have H1 : (if a0_4 = 0 then (mean_Mean_Take.j0 k true a0_0 a0_1 a0_2 a0_3 a0_4 a1_0 a1_1 a1_2) else (mean_Mean_Take.j0 k (decide (a0_3 < (IntKind.u64.wrap (a1_2)))) a0_0 a0_1 a0_2 a0_3 a0_4 a1_0 a1_1 a1_2)) = some (r1, r2, r3, r4, r5, r6) := by rw [if_pos rfl] at H; exact H
    clear H
    have H := H1
    clear H1
    by_cases c11 : a0_4 = 0
    ·rw [if_pos c11] at H
     have c11b0 : (a0_4 == 0) = true := beq_iff_eq.mpr c11
     have c11b1 : (a0_4 != 0) = false := bne_eq_false_iff_eq.mpr c11
     clear c11
     (first | rw [c11b0] | (simp only [i64_w, i32_w]; rw [c11b0]) | skip)
     have H' := Aside0.mk H
     clear H
     have hnb12 := NB337_338.out
     have hnc12 := NB338_337.out
     have hnb13 := NB337_339.out
     have hnc13 := NB339_337.out
     have hcz14_0 : w6.cell? ⟨gb337, 0, none⟩ = some (.int .u64 a0_0) := (blk_cell BK337.out 0).trans rfl
     have hcz14_1 : w6.cell? ⟨gb337, 1, none⟩ = some (.int .i64 a0_1) := (blk_cell BK337.out 1).trans rfl
     have hcz14_2 : w6.cell? ⟨gb337, 2, none⟩ = some (.int .u64 a0_2) := (blk_cell BK337.out 2).trans rfl
     have hcz14_3 : w6.cell? ⟨gb337, 3, none⟩ = some (.int .u64 a0_3) := (blk_cell BK337.out 3).trans rfl
     have hcz14_4 : w6.cell? ⟨gb337, 4, none⟩ = some (.int .i64 a0_4) := (blk_cell BK337.out 4).trans rfl
     have hfz14_0 := blk_frozen BK337.out 0
     have hfz14_1 := blk_frozen BK337.out 1
     have hfz14_2 := blk_frozen BK337.out 2
     have hfz14_3 := blk_frozen BK337.out 3
     have hfz14_4 := blk_frozen BK337.out 4
     go_wp2_with (first | ((with_reducible refine gate_callee (f := 52) rfl ?_); refine goesL_ (some 10) rfl rfl Tryz.func52 (by kernel_rfl) rfl #[.agg #[.int .u64 a0_0, .int .i64 a0_1, .int .u64 a0_2, .int .u64 a0_3, .int .i64 a0_4]] rfl argt ?_; (with_reducible refine (mean_Mean_Right.calls a0_0 a0_1 a0_2 a0_3 a0_4 true _ A7.out).mono ?_); rintro e w15 ⟨rfl, hb⟩; refine ⟨_, rfl, ?_⟩; replace BK337 := blkb BK337 hb; replace BK338 := blkb BK338 hb; replace BK339 := blkb BK339 hb; replace HB := belb HB hb; (try clear hb); (try clear hb2); (try clear hk); (try clear hi); have hnb16 := NB338_339.out; have hnc16 := NB339_338.out; have hcz17_0 : w15.cell? ⟨gb338, 0, none⟩ = some (.int .u64 a1_0) := (blk_cell BK338.out 0).trans rfl; have hcz17_1 : w15.cell? ⟨gb338, 1, none⟩ = some (.int .u32 a1_1) := (blk_cell BK338.out 1).trans rfl; have hcz17_2 : w15.cell? ⟨gb338, 2, none⟩ = some (.int .u32 a1_2) := (blk_cell BK338.out 2).trans rfl; have hfz17_0 := blk_frozen BK338.out 0; have hfz17_1 := blk_frozen BK338.out 1; have hfz17_2 := blk_frozen BK338.out 2) | (go_at_call 17; (with_reducible refine (pos_Pos_Right.calls a1_0 a1_1 a1_2 true _ A9.out).mono ?_); rintro e w18 ⟨rfl, hb⟩; replace BK337 := blkb BK337 hb; replace BK338 := blkb BK338 hb; replace BK339 := blkb BK339 hb; replace HB := belb HB hb; (try clear hb); (try clear hb2); (try clear hk); (try clear hi); have hcz19_0 : w18.cell? ⟨gb337, 0, none⟩ = some (.int .u64 a0_0) := (blk_cell BK337.out 0).trans rfl; have hcz19_1 : w18.cell? ⟨gb337, 1, none⟩ = some (.int .i64 a0_1) := (blk_cell BK337.out 1).trans rfl; have hcz19_2 : w18.cell? ⟨gb337, 2, none⟩ = some (.int .u64 a0_2) := (blk_cell BK337.out 2).trans rfl; have hcz19_3 : w18.cell? ⟨gb337, 3, none⟩ = some (.int .u64 a0_3) := (blk_cell BK337.out 3).trans rfl; have hcz19_4 : w18.cell? ⟨gb337, 4, none⟩ = some (.int .i64 a0_4) := (blk_cell BK337.out 4).trans rfl; have hfz19_0 := blk_frozen BK337.out 0; have hfz19_1 := blk_frozen BK337.out 1; have hfz19_2 := blk_frozen BK337.out 2; have hfz19_3 := blk_frozen BK337.out 3; have hfz19_4 := blk_frozen BK337.out 4))
     go_meet
     case rel => exact ⟨_, (true), (by first | rfl | (simp; done) | (simp [*]; done)), H', ⟨by first | omega | exact Nat.le_refl _⟩, ⟨blkt BK337⟩, ⟨blkt BK338⟩, ⟨blkt BK339⟩, ⟨belt HB⟩⟩
    ·rw [if_neg c11] at H
     have c11b0 : (a0_4 == 0) = false := beq_eq_false_iff_ne.mpr c11
     have c11b1 : (a0_4 != 0) = true := bne_iff_ne.mpr c11
     (first | rw [c11b0] | (simp only [i64_w, i32_w]; rw [c11b0]) | skip)
     have H' := Aside0.mk H
     clear H
     have hnb20 := NB337_338.out
     have hnc20 := NB338_337.out
     have hnb21 := NB337_339.out
     have hnc21 := NB339_337.out
     have hcz22_0 : w6.cell? ⟨gb337, 0, none⟩ = some (.int .u64 a0_0) := (blk_cell BK337.out 0).trans rfl
     have hcz22_1 : w6.cell? ⟨gb337, 1, none⟩ = some (.int .i64 a0_1) := (blk_cell BK337.out 1).trans rfl
     have hcz22_2 : w6.cell? ⟨gb337, 2, none⟩ = some (.int .u64 a0_2) := (blk_cell BK337.out 2).trans rfl
     have hcz22_3 : w6.cell? ⟨gb337, 3, none⟩ = some (.int .u64 a0_3) := (blk_cell BK337.out 3).trans rfl
     have hcz22_4 : w6.cell? ⟨gb337, 4, none⟩ = some (.int .i64 a0_4) := (blk_cell BK337.out 4).trans rfl
     have hfz22_0 := blk_frozen BK337.out 0
     have hfz22_1 := blk_frozen BK337.out 1
     have hfz22_2 := blk_frozen BK337.out 2
     have hfz22_3 := blk_frozen BK337.out 3
     have hfz22_4 := blk_frozen BK337.out 4
     go_wp2_with (first | ((with_reducible refine gate_callee (f := 52) rfl ?_); refine goesL_ (some 10) rfl rfl Tryz.func52 (by kernel_rfl) rfl #[.agg #[.int .u64 a0_0, .int .i64 a0_1, .int .u64 a0_2, .int .u64 a0_3, .int .i64 a0_4]] rfl argt ?_; (with_reducible refine (mean_Mean_Right.calls a0_0 a0_1 a0_2 a0_3 a0_4 true _ A7.out).mono ?_); rintro e w23 ⟨rfl, hb⟩; refine ⟨_, rfl, ?_⟩; replace BK337 := blkb BK337 hb; replace BK338 := blkb BK338 hb; replace BK339 := blkb BK339 hb; replace HB := belb HB hb; (try clear hb); (try clear hb2); (try clear hk); (try clear hi); have hnb24 := NB338_339.out; have hnc24 := NB339_338.out; have hcz25_0 : w23.cell? ⟨gb338, 0, none⟩ = some (.int .u64 a1_0) := (blk_cell BK338.out 0).trans rfl; have hcz25_1 : w23.cell? ⟨gb338, 1, none⟩ = some (.int .u32 a1_1) := (blk_cell BK338.out 1).trans rfl; have hcz25_2 : w23.cell? ⟨gb338, 2, none⟩ = some (.int .u32 a1_2) := (blk_cell BK338.out 2).trans rfl; have hfz25_0 := blk_frozen BK338.out 0; have hfz25_1 := blk_frozen BK338.out 1; have hfz25_2 := blk_frozen BK338.out 2) | (go_at_call 17; (with_reducible refine (pos_Pos_Right.calls a1_0 a1_1 a1_2 true _ A9.out).mono ?_); rintro e w26 ⟨rfl, hb⟩; replace BK337 := blkb BK337 hb; replace BK338 := blkb BK338 hb; replace BK339 := blkb BK339 hb; replace HB := belb HB hb; (try clear hb); (try clear hb2); (try clear hk); (try clear hi); have hcz27_0 : w26.cell? ⟨gb337, 0, none⟩ = some (.int .u64 a0_0) := (blk_cell BK337.out 0).trans rfl; have hcz27_1 : w26.cell? ⟨gb337, 1, none⟩ = some (.int .i64 a0_1) := (blk_cell BK337.out 1).trans rfl; have hcz27_2 : w26.cell? ⟨gb337, 2, none⟩ = some (.int .u64 a0_2) := (blk_cell BK337.out 2).trans rfl; have hcz27_3 : w26.cell? ⟨gb337, 3, none⟩ = some (.int .u64 a0_3) := (blk_cell BK337.out 3).trans rfl; have hcz27_4 : w26.cell? ⟨gb337, 4, none⟩ = some (.int .i64 a0_4) := (blk_cell BK337.out 4).trans rfl; have hfz27_0 := blk_frozen BK337.out 0; have hfz27_1 := blk_frozen BK337.out 1; have hfz27_2 := blk_frozen BK337.out 2; have hfz27_3 := blk_frozen BK337.out 3; have hfz27_4 := blk_frozen BK337.out 4; have hcz28_0 : w26.cell? ⟨gb338, 0, none⟩ = some (.int .u64 a1_0) := (blk_cell BK338.out 0).trans rfl; have hcz28_1 : w26.cell? ⟨gb338, 1, none⟩ = some (.int .u32 a1_1) := (blk_cell BK338.out 1).trans rfl; have hcz28_2 : w26.cell? ⟨gb338, 2, none⟩ = some (.int .u32 a1_2) := (blk_cell BK338.out 2).trans rfl; have hfz28_0 := blk_frozen BK338.out 0; have hfz28_1 := blk_frozen BK338.out 1; have hfz28_2 := blk_frozen BK338.out 2))
     go_meet
     case rel => exact ⟨_, (decide (a0_3 < (IntKind.u64.wrap (a1_2)))), (by first | rfl | (simp; done) | (simp [*]; done)), H', ⟨by first | omega | exact Nat.le_refl _⟩, ⟨blkt BK337⟩, ⟨blkt BK338⟩, ⟨blkt BK339⟩, ⟨belt HB⟩⟩
   ·replace c10 := Bool.eq_false_iff.mpr c10
    subst c10
    have H1 : (mean_Mean_Take.j0 k true a0_0 a0_1 a0_2 a0_3 a0_4 a1_0 a1_1 a1_2) = some (r1, r2, r3, r4, r5, r6) := by rw [if_neg (show ¬ (false = true) by decide)] at H; exact H
    clear H
    have H := H1
    clear H1
    have H' := Aside0.mk H
    clear H
    have hnb29 := NB337_338.out
    have hnc29 := NB338_337.out
    have hnb30 := NB337_339.out
    have hnc30 := NB339_337.out
    have hcz31_0 : w6.cell? ⟨gb337, 0, none⟩ = some (.int .u64 a0_0) := (blk_cell BK337.out 0).trans rfl
    have hcz31_1 : w6.cell? ⟨gb337, 1, none⟩ = some (.int .i64 a0_1) := (blk_cell BK337.out 1).trans rfl
    have hcz31_2 : w6.cell? ⟨gb337, 2, none⟩ = some (.int .u64 a0_2) := (blk_cell BK337.out 2).trans rfl
    have hcz31_3 : w6.cell? ⟨gb337, 3, none⟩ = some (.int .u64 a0_3) := (blk_cell BK337.out 3).trans rfl
    have hcz31_4 : w6.cell? ⟨gb337, 4, none⟩ = some (.int .i64 a0_4) := (blk_cell BK337.out 4).trans rfl
    have hfz31_0 := blk_frozen BK337.out 0
    have hfz31_1 := blk_frozen BK337.out 1
    have hfz31_2 := blk_frozen BK337.out 2
    have hfz31_3 := blk_frozen BK337.out 3
    have hfz31_4 := blk_frozen BK337.out 4
    go_wp2_with (first | ((with_reducible refine gate_callee (f := 52) rfl ?_); refine goesL_ (some 10) rfl rfl Tryz.func52 (by kernel_rfl) rfl #[.agg #[.int .u64 a0_0, .int .i64 a0_1, .int .u64 a0_2, .int .u64 a0_3, .int .i64 a0_4]] rfl argt ?_; (with_reducible refine (mean_Mean_Right.calls a0_0 a0_1 a0_2 a0_3 a0_4 true _ A7.out).mono ?_); rintro e w32 ⟨rfl, hb⟩; refine ⟨_, rfl, ?_⟩; replace BK337 := blkb BK337 hb; replace BK338 := blkb BK338 hb; replace BK339 := blkb BK339 hb; replace HB := belb HB hb; (try clear hb); (try clear hb2); (try clear hk); (try clear hi); have hnb33 := NB338_339.out; have hnc33 := NB339_338.out; have hcz34_0 : w32.cell? ⟨gb338, 0, none⟩ = some (.int .u64 a1_0) := (blk_cell BK338.out 0).trans rfl; have hcz34_1 : w32.cell? ⟨gb338, 1, none⟩ = some (.int .u32 a1_1) := (blk_cell BK338.out 1).trans rfl; have hcz34_2 : w32.cell? ⟨gb338, 2, none⟩ = some (.int .u32 a1_2) := (blk_cell BK338.out 2).trans rfl; have hfz34_0 := blk_frozen BK338.out 0; have hfz34_1 := blk_frozen BK338.out 1; have hfz34_2 := blk_frozen BK338.out 2) | (go_at_call 17; (with_reducible refine (pos_Pos_Right.calls a1_0 a1_1 a1_2 false _ A9.out).mono ?_); rintro e w35 ⟨rfl, hb⟩; replace BK337 := blkb BK337 hb; replace BK338 := blkb BK338 hb; replace BK339 := blkb BK339 hb; replace HB := belb HB hb; (try clear hb); (try clear hb2); (try clear hk); (try clear hi)))
    go_meet
    case rel => exact ⟨_, (true), (by first | rfl | (simp; done) | (simp [*]; done)), H', ⟨by first | omega | exact Nat.le_refl _⟩, ⟨blkt BK337⟩, ⟨blkt BK338⟩, ⟨blkt BK339⟩, ⟨belt HB⟩⟩
  ·replace c8 := Bool.eq_false_iff.mpr c8
   subst c8
   have H1 : (mean_Mean_Take.j0 k true a0_0 a0_1 a0_2 a0_3 a0_4 a1_0 a1_1 a1_2) = some (r1, r2, r3, r4, r5, r6) := by rw [if_neg (show ¬ (false = true) by decide)] at H; exact H
   clear H
   have H := H1
   clear H1
   have H' := Aside0.mk H
   clear H
   have hnb36 := NB337_338.out
   have hnc36 := NB338_337.out
   have hnb37 := NB337_339.out
   have hnc37 := NB339_337.out
   have hcz38_0 : w6.cell? ⟨gb337, 0, none⟩ = some (.int .u64 a0_0) := (blk_cell BK337.out 0).trans rfl
   have hcz38_1 : w6.cell? ⟨gb337, 1, none⟩ = some (.int .i64 a0_1) := (blk_cell BK337.out 1).trans rfl
   have hcz38_2 : w6.cell? ⟨gb337, 2, none⟩ = some (.int .u64 a0_2) := (blk_cell BK337.out 2).trans rfl
   have hcz38_3 : w6.cell? ⟨gb337, 3, none⟩ = some (.int .u64 a0_3) := (blk_cell BK337.out 3).trans rfl
   have hcz38_4 : w6.cell? ⟨gb337, 4, none⟩ = some (.int .i64 a0_4) := (blk_cell BK337.out 4).trans rfl
   have hfz38_0 := blk_frozen BK337.out 0
   have hfz38_1 := blk_frozen BK337.out 1
   have hfz38_2 := blk_frozen BK337.out 2
   have hfz38_3 := blk_frozen BK337.out 3
   have hfz38_4 := blk_frozen BK337.out 4
   go_wp2_with (first | ((with_reducible refine gate_callee (f := 52) rfl ?_); refine goesL_ (some 10) rfl rfl Tryz.func52 (by kernel_rfl) rfl #[.agg #[.int .u64 a0_0, .int .i64 a0_1, .int .u64 a0_2, .int .u64 a0_3, .int .i64 a0_4]] rfl argt ?_; (with_reducible refine (mean_Mean_Right.calls a0_0 a0_1 a0_2 a0_3 a0_4 false _ A7.out).mono ?_); rintro e w39 ⟨rfl, hb⟩; refine ⟨_, rfl, ?_⟩; replace BK337 := blkb BK337 hb; replace BK338 := blkb BK338 hb; replace BK339 := blkb BK339 hb; replace HB := belb HB hb; (try clear hb); (try clear hb2); (try clear hk); (try clear hi)))
   go_meet
   case rel => exact ⟨_, (true), (by first | rfl | (simp; done) | (simp [*]; done)), H', ⟨by first | omega | exact Nat.le_refl _⟩, ⟨blkt BK337⟩, ⟨blkt BK338⟩, ⟨blkt BK339⟩, ⟨belt HB⟩⟩
 case rest =>
  clear HC3
  try clear c1
  try clear c2
  try clear p2
  try clear c3
  try clear c5
  try clear c8
  try clear c10
  try clear c11
  try clear c11b0
  try clear c11b1
  try clear c12
  try clear c13
  try clear c16
  try clear c20
  try clear c21
  try clear c24
  try clear c29
  try clear c30
  try clear c33
  try clear c36
  try clear c37
  try clear hcz14_0
  try clear hcz14_1
  try clear hcz14_2
  try clear hcz14_3
  try clear hcz14_4
  try clear hcz17_0
  try clear hcz17_1
  try clear hcz17_2
  try clear hcz19_0
  try clear hcz19_1
  try clear hcz19_2
  try clear hcz19_3
  try clear hcz19_4
  try clear hcz22_0
  try clear hcz22_1
  try clear hcz22_2
  try clear hcz22_3
  try clear hcz22_4
  try clear hcz25_0
  try clear hcz25_1
  try clear hcz25_2
  try clear hcz27_0
  try clear hcz27_1
  try clear hcz27_2
  try clear hcz27_3
  try clear hcz27_4
  try clear hcz28_0
  try clear hcz28_1
  try clear hcz28_2
  try clear hcz31_0
  try clear hcz31_1
  try clear hcz31_2
  try clear hcz31_3
  try clear hcz31_4
  try clear hcz34_0
  try clear hcz34_1
  try clear hcz34_2
  try clear hcz38_0
  try clear hcz38_1
  try clear hcz38_2
  try clear hcz38_3
  try clear hcz38_4
  try clear hfz14_0
  try clear hfz14_1
  try clear hfz14_2
  try clear hfz14_3
  try clear hfz14_4
  try clear hfz17_0
  try clear hfz17_1
  try clear hfz17_2
  try clear hfz19_0
  try clear hfz19_1
  try clear hfz19_2
  try clear hfz19_3
  try clear hfz19_4
  try clear hfz22_0
  try clear hfz22_1
  try clear hfz22_2
  try clear hfz22_3
  try clear hfz22_4
  try clear hfz25_0
  try clear hfz25_1
  try clear hfz25_2
  try clear hfz27_0
  try clear hfz27_1
  try clear hfz27_2
  try clear hfz27_3
  try clear hfz27_4
  try clear hfz28_0
  try clear hfz28_1
  try clear hfz28_2
  try clear hfz31_0
  try clear hfz31_1
  try clear hfz31_2
  try clear hfz31_3
  try clear hfz31_4
  try clear hfz34_0
  try clear hfz34_1
  try clear hfz34_2
  try clear hfz38_0
  try clear hfz38_1
  try clear hfz38_2
  try clear hfz38_3
  try clear hfz38_4
  obtain ⟨kq, x29_2, rfl, HA, HJ2, BK337, BK338, BK339, HB⟩ := hcut
  cases kq with
  | zero => exact absurd HA.out (by simp [mean_Mean_Take.j0])
  | succ kj2 =>
   have H := HA.out
   clear HA
   simp only [mean_Mean_Take.j0] at H
   by_cases c40 : x29_2 = true
   ·subst c40
    have H1 : (some (0, 0, 0, 0, 0, false)) = some (r1, r2, r3, r4, r5, r6) := by rw [if_pos rfl] at H; exact H
    clear H
    have H := H1
    clear H1
    simp only [Option.some.injEq, Prod.mk.injEq] at H
    obtain ⟨rfl, rfl, rfl, rfl, rfl, rfl⟩ := H
    have hnb41 := NB339_337.out
    have hnc41 := NB337_339.out
    have hnb42 := NB339_338.out
    have hnc42 := NB338_339.out
    have hcz43_0 : wc.cell? ⟨gb339, 0, none⟩ = some (.int .u64 0) := (blk_cell BK339.out 0).trans rfl
    have hcz43_1 : wc.cell? ⟨gb339, 1, none⟩ = some (.int .i64 0) := (blk_cell BK339.out 1).trans rfl
    have hcz43_2 : wc.cell? ⟨gb339, 2, none⟩ = some (.int .u64 0) := (blk_cell BK339.out 2).trans rfl
    have hcz43_3 : wc.cell? ⟨gb339, 3, none⟩ = some (.int .u64 0) := (blk_cell BK339.out 3).trans rfl
    have hcz43_4 : wc.cell? ⟨gb339, 4, none⟩ = some (.int .i64 0) := (blk_cell BK339.out 4).trans rfl
    have hfz43_0 := blk_frozen BK339.out 0
    have hfz43_1 := blk_frozen BK339.out 1
    have hfz43_2 := blk_frozen BK339.out 2
    have hfz43_3 := blk_frozen BK339.out 3
    have hfz43_4 := blk_frozen BK339.out 4
    go_wp2
    refine bodyPost_ret (results_ct rfl _ _ gb339 33 #[.int .u64 0, .int .i64 0, .int .u64 0, .int .u64 0, .int .i64 0] (0, 0) _ rfl (by (with_reducible repeat (first | refine blk_drewN ?_ _ | refine blk_drew ?_ | refine blk_alloc ?_ _)); refine blk_put (cs := #[.int .u64 0, .int .i64 0, .int .u64 0, .int .u64 0, .int .i64 0]) ?_ 4 _ rfl; (with_reducible repeat (first | refine blk_drewN ?_ _ | refine blk_drew ?_ | refine blk_alloc ?_ _)); refine blk_put (cs := #[.int .u64 0, .int .i64 0, .int .u64 0, .int .u64 0, .int .i64 0]) ?_ 3 _ rfl; (with_reducible repeat (first | refine blk_drewN ?_ _ | refine blk_drew ?_ | refine blk_alloc ?_ _)); refine blk_put (cs := #[.int .u64 0, .int .i64 0, .int .u64 0, .int .u64 0, .int .i64 0]) ?_ 2 _ rfl; (with_reducible repeat (first | refine blk_drewN ?_ _ | refine blk_drew ?_ | refine blk_alloc ?_ _)); refine blk_put (cs := #[.int .u64 0, .int .i64 0, .int .u64 0, .int .u64 0, .int .i64 0]) ?_ 1 _ rfl; (with_reducible repeat (first | refine blk_drewN ?_ _ | refine blk_drew ?_ | refine blk_alloc ?_ _)); refine blk_put (cs := #[.int .u64 0, .int .i64 0, .int .u64 0, .int .u64 0, .int .i64 0]) ?_ 0 _ rfl; exact blkt BK339) Tryz.underlying33 rfl (by kernel_rfl)) rfl ?_
    exact ⟨by first | rfl | (simp [errW_none, errW_some] <;> rfl) | (simp [*, errW_none, errW_some] <;> rfl), belt HB⟩
   ·replace c40 := Bool.eq_false_iff.mpr c40
    subst c40
    have H1 : ((pos_Pos_Distance.f kj2 a1_0 a1_1 a1_2 a0_0).bind fun bt342 => ((wide_Int_Sub.f a0_1 a0_2 bt342.1 bt342.2).bind fun bt344 => (if bt344.2.2 = true then ((mean_Mean_Right.f a0_0 bt344.1 bt344.2.1 (IntKind.u64.wrap (a0_3 - (IntKind.u64.wrap (a1_2)))) (wrap64 (a0_4 - 1))).bind fun t349 => (if t349 = true then (some (a0_0, bt344.1, bt344.2.1, IntKind.u64.wrap (a0_3 - (IntKind.u64.wrap (a1_2))), wrap64 (a0_4 - 1), true)) else (some (0, 0, 0, 0, 0, false)))) else (some (0, 0, 0, 0, 0, false))))) = some (r1, r2, r3, r4, r5, r6) := by rw [if_neg (show ¬ (false = true) by decide)] at H; exact H
    clear H
    have H := H1
    clear H1
    replace H := Option.bind_eq_some_iff.mp H
    obtain ⟨⟨t342, t343⟩, A440, H⟩ := H
    replace H : ((wide_Int_Sub.f a0_1 a0_2 t342 t343).bind fun bt344 => (if bt344.2.2 = true then ((mean_Mean_Right.f a0_0 bt344.1 bt344.2.1 (IntKind.u64.wrap (a0_3 - (IntKind.u64.wrap (a1_2)))) (wrap64 (a0_4 - 1))).bind fun t349 => (if t349 = true then (some (a0_0, bt344.1, bt344.2.1, IntKind.u64.wrap (a0_3 - (IntKind.u64.wrap (a1_2))), wrap64 (a0_4 - 1), true)) else (some (0, 0, 0, 0, 0, false)))) else (some (0, 0, 0, 0, 0, false)))) = some (r1, r2, r3, r4, r5, r6) := H
    have A44 := Aside0.mk A440
    clear A440
    replace H := Option.bind_eq_some_iff.mp H
    obtain ⟨⟨t344, t345, t346⟩, A450, H⟩ := H
    replace H : (if t346 = true then ((mean_Mean_Right.f a0_0 t344 t345 (IntKind.u64.wrap (a0_3 - (IntKind.u64.wrap (a1_2)))) (wrap64 (a0_4 - 1))).bind fun t349 => (if t349 = true then (some (a0_0, t344, t345, IntKind.u64.wrap (a0_3 - (IntKind.u64.wrap (a1_2))), wrap64 (a0_4 - 1), true)) else (some (0, 0, 0, 0, 0, false)))) else (some (0, 0, 0, 0, 0, false))) = some (r1, r2, r3, r4, r5, r6) := H
    have A45 := Aside0.mk A450
    clear A450
    by_cases c46 : t346 = true
    ·subst c46
     have H1 : ((mean_Mean_Right.f a0_0 t344 t345 (IntKind.u64.wrap (a0_3 - (IntKind.u64.wrap (a1_2)))) (wrap64 (a0_4 - 1))).bind fun t349 => (if t349 = true then (some (a0_0, t344, t345, IntKind.u64.wrap (a0_3 - (IntKind.u64.wrap (a1_2))), wrap64 (a0_4 - 1), true)) else (some (0, 0, 0, 0, 0, false)))) = some (r1, r2, r3, r4, r5, r6) := by rw [if_pos rfl] at H; exact H
     clear H
     have H := H1
     clear H1
     replace H := Option.bind_eq_some_iff.mp H
     obtain ⟨t349, A470, H⟩ := H
     replace H : (if t349 = true then (some (a0_0, t344, t345, IntKind.u64.wrap (a0_3 - (IntKind.u64.wrap (a1_2))), wrap64 (a0_4 - 1), true)) else (some (0, 0, 0, 0, 0, false))) = some (r1, r2, r3, r4, r5, r6) := H
     have A47 := Aside0.mk A470
     clear A470
     by_cases c48 : t349 = true
     ·subst c48
      have H1 : (some (a0_0, t344, t345, IntKind.u64.wrap (a0_3 - (IntKind.u64.wrap (a1_2))), wrap64 (a0_4 - 1), true)) = some (r1, r2, r3, r4, r5, r6) := by rw [if_pos rfl] at H; exact H
      clear H
      have H := H1
      clear H1
      simp only [Option.some.injEq, Prod.mk.injEq] at H
      obtain ⟨rfl, rfl, rfl, rfl, rfl, rfl⟩ := H
      try go_wp2
      replace BK337 := Aside0.mk (blk_drew BK337.out)
      replace BK338 := Aside0.mk (blk_drew BK338.out)
      replace BK339 := Aside0.mk (blk_drew BK339.out)
      replace HB := Aside0.mk (below_drew1 HB.out)
      refine start_ (n := 13) (S := fun w' => w'.cell? ⟨gb337, 0, none⟩ = some (.int .u64 a0_0) ∧ w'.cell? ⟨gb337, 1, none⟩ = some (.int .i64 a0_1) ∧ w'.cell? ⟨gb337, 2, none⟩ = some (.int .u64 a0_2) ∧ w'.cell? ⟨gb337, 3, none⟩ = some (.int .u64 a0_3) ∧ w'.cell? ⟨gb337, 4, none⟩ = some (.int .i64 a0_4) ∧ w'.cell? ⟨gb338, 0, none⟩ = some (.int .u64 a1_0) ∧ w'.cell? ⟨gb338, 1, none⟩ = some (.int .u32 a1_1) ∧ w'.cell? ⟨gb338, 2, none⟩ = some (.int .u32 a1_2)) (ds := []) #[false, false, false, false, false, false, false, false, false, false, false, false, false] (by kernel_rfl) rfl rfl ⟨(blk_cell BK337.out 0).trans rfl, (blk_cell BK337.out 1).trans rfl, (blk_cell BK337.out 2).trans rfl, (blk_cell BK337.out 3).trans rfl, (blk_cell BK337.out 4).trans rfl, (blk_cell BK338.out 0).trans rfl, (blk_cell BK338.out 1).trans rfl, (blk_cell BK338.out 2).trans rfl⟩ (fun hHeld => ?_); refine with_tabW mean_Mean_Take.tab3 mean_Mean_Take.bits3 (fun HT_ HW_ => ?_)
      generalize wc.drew = w49 at BK337 BK338 BK339 HB hHeld ⊢
      refine pure_ (i := 0) (N := some 32) (v := ?_) (a' := ?_) #[true, false, false, false, false, false, false, false, false, false, false, false, false] rfl rfl (any_of HT_.out (by kernel_rfl)) (fun _ _ _ h => h) (Or.inl ⟨by rfl, ?_⟩) ?_ ?_
      rotate_left
      ·intro w'
       go_simp
       with_reducible rfl
      rotate_left
      ·simp only [Act.put, List.setIfInBounds_toArray, List.set_cons_zero, List.set_cons_succ, i64_w, i32_w]
       rfl
      refine pure_ (i := 3) (N := some 35) (v := ?_) (a' := ?_) #[true, false, false, true, false, false, false, false, false, false, false, false, false] rfl rfl (any_of HT_.out (by kernel_rfl)) (fun _ _ _ h => h) (Or.inl ⟨by rfl, ?_⟩) ?_ ?_
      rotate_left
      ·intro w'
       go_simp
       with_reducible rfl
      rotate_left
      ·simp only [Act.put, List.setIfInBounds_toArray, List.set_cons_zero, List.set_cons_succ, i64_w, i32_w]
       rfl
      refine take_ (i := 1) (N := some 33) (v := ?_) (a' := ?_) #[true, true, false, true, false, false, false, false, false, false, false, false, false] rfl rfl (take_ofW HT_.out HW_.out (by kernel_rfl)) (fun _ _ _ h => h) (Or.inl ⟨by rfl, ?_⟩) hHeld ?_ ?_
      rotate_left
      ·rintro w' ⟨s0, s1, s2, s3, s4, s5, s6, s7⟩
       go_simp
       with_reducible rfl
      rotate_left
      ·simp only [Act.put, List.setIfInBounds_toArray, List.set_cons_zero, List.set_cons_succ, i64_w, i32_w]
       rfl
      refine take_ (i := 2) (N := some 34) (v := ?_) (a' := ?_) #[true, true, true, true, false, false, false, false, false, false, false, false, false] rfl rfl (take_ofW HT_.out HW_.out (by kernel_rfl)) (fun _ _ _ h => h) (Or.inl ⟨by rfl, ?_⟩) hHeld ?_ ?_
      rotate_left
      ·rintro w' ⟨s0, s1, s2, s3, s4, s5, s6, s7⟩
       go_simp
       with_reducible rfl
      rotate_left
      ·simp only [Act.put, List.setIfInBounds_toArray, List.set_cons_zero, List.set_cons_succ, i64_w, i32_w]
       rfl
      refine take_ (i := 4) (N := some 36) (v := ?_) (a' := ?_) #[true, true, true, true, true, false, false, false, false, false, false, false, false] rfl rfl (take_ofW HT_.out HW_.out (by kernel_rfl)) (fun _ _ _ h => h) (Or.inl ⟨by rfl, ?_⟩) hHeld ?_ ?_
      rotate_left
      ·rintro w' ⟨s0, s1, s2, s3, s4, s5, s6, s7⟩
       go_simp
       with_reducible rfl
      rotate_left
      ·simp only [Act.put, List.setIfInBounds_toArray, List.set_cons_zero, List.set_cons_succ, i64_w, i32_w]
       rfl
      refine join_ (σ := Nat) 2 #[true, true, true, true, true, true, true, true, true, true, true, false, false] (fun s_ => [(37, .agg #[.int .i64 t342, .int .u64 t343]), (38, .tuple #[.agg #[.int .i64 t344, .int .u64 t345], .bool true]), (6, .pointer (some ⟨s_, 0, none⟩)), (31, .tuple #[.agg #[.int .i64 t344, .int .u64 t345], .bool true]), (39, .agg #[.int .i64 t344, .int .u64 t345]), (40, .bool true)]) (fun s_ w' => (w'.cell? ⟨gb337, 0, none⟩ = some (.int .u64 a0_0) ∧ w'.cell? ⟨gb337, 1, none⟩ = some (.int .i64 a0_1) ∧ w'.cell? ⟨gb337, 2, none⟩ = some (.int .u64 a0_2) ∧ w'.cell? ⟨gb337, 3, none⟩ = some (.int .u64 a0_3) ∧ w'.cell? ⟨gb337, 4, none⟩ = some (.int .i64 a0_4) ∧ w'.cell? ⟨gb338, 0, none⟩ = some (.int .u64 a1_0) ∧ w'.cell? ⟨gb338, 1, none⟩ = some (.int .u32 a1_1) ∧ w'.cell? ⟨gb338, 2, none⟩ = some (.int .u32 a1_2)) ∧ (w'.heap[gb337]? = some (.cells #[.int .u64 a0_0, .int .i64 a0_1, .int .u64 a0_2, .int .u64 a0_3, .int .i64 a0_4] 33 (0, 0))) ∧ (w'.heap[gb338]? = some (.cells #[.int .u64 a1_0, .int .u32 a1_1, .int .u32 a1_2] 28 (0, 0))) ∧ (w'.heap[gb339]? = some (.cells #[.int .u64 0, .int .i64 0, .int .u64 0, .int .u64 0, .int .i64 0] 33 (0, 0))) ∧ (w'.heap[s_]? = some (.cells #[.int .i64 0, .int .u64 0] 31 (0, 0))) ∧ (w.heap.size ≤ s_) ∧ (w.heap.size ≤ s_) ∧ (gb337 ≠ s_) ∧ (s_ ≠ gb337) ∧ (gb338 ≠ s_) ∧ (s_ ≠ gb338) ∧ (gb339 ≠ s_) ∧ (s_ ≠ gb339) ∧ (Below w.heap.size w w')) ?_ ?_
      rotate_left
      ·intro hCont
       refine two_ (i := 5) (j := 10) (Ni := some 37) (Nj := some 6) #[true, true, true, true, true, true, false, false, false, false, false, false, false] #[true, true, true, true, true, false, false, false, false, false, true, false, false] rfl rfl rfl rfl (two_of HT_.out (by kernel_rfl)) (by decide) (by decide) (fun K hK => ?_) (fun K hK => ?_)
       ·skip
        refine goes_ Tryz.func59 (by kernel_rfl) rfl #[.agg #[.int .u64 a1_0, .int .u32 a1_1, .int .u32 a1_2], .int .u64 a0_0] (by rfl) rfl rfl argt ?_
        with_reducible refine (pos_Pos_Distance.calls kj2 a1_0 a1_1 a1_2 a0_0 t342 t343 _ A44.out).mono ?_
        rintro e w50 ⟨rfl, hb⟩
        refine ⟨_, rfl, ?_⟩
        replace BK337 := blkb BK337 hb
        replace BK338 := blkb BK338 hb
        replace BK339 := blkb BK339 hb
        replace HB := belb HB hb
        (try clear hb)
        (try clear hb2)
        (try clear hk)
        (try clear hi)
        refine hK.out _ _ ⟨(blk_cell BK337.out 0).trans rfl, (blk_cell BK337.out 1).trans rfl, (blk_cell BK337.out 2).trans rfl, (blk_cell BK337.out 3).trans rfl, (blk_cell BK337.out 4).trans rfl, (blk_cell BK338.out 0).trans rfl, (blk_cell BK338.out 1).trans rfl, (blk_cell BK338.out 2).trans rfl⟩ (fun hHeld => ?_)
        clear hK K
        refine norm_ (a' := ?_) ?_ ?_
        rotate_left
        ·show Act.put _ (some 37) _ = _
         simp only [Act.put, List.setIfInBounds_toArray, List.set_cons_zero, List.set_cons_succ, i64_w, i32_w]
         rfl
        refine two_ (i := 6) (j := 10) (Ni := some 38) (Nj := some 6) #[true, true, true, true, true, true, true, false, false, false, false, false, false] #[true, true, true, true, true, true, false, false, false, false, true, false, false] rfl rfl rfl rfl (two_of HT_.out (by kernel_rfl)) (by decide) (by decide) (fun K hK => ?_) (fun K hK => ?_)
        ·skip
         refine goes_ Tryz.func26 (by kernel_rfl) rfl #[.agg #[.int .i64 a0_1, .int .u64 a0_2], .agg #[.int .i64 t342, .int .u64 t343]] (by rfl) rfl rfl argt ?_
         with_reducible refine (wide_Int_Sub.calls a0_1 a0_2 t342 t343 t344 t345 true _ A45.out).mono ?_
         rintro e w51 ⟨rfl, hb⟩
         refine ⟨_, rfl, ?_⟩
         replace BK337 := blkb BK337 hb
         replace BK338 := blkb BK338 hb
         replace BK339 := blkb BK339 hb
         replace HB := belb HB hb
         (try clear hb)
         (try clear hb2)
         (try clear hk)
         (try clear hi)
         refine hK.out _ _ ⟨(blk_cell BK337.out 0).trans rfl, (blk_cell BK337.out 1).trans rfl, (blk_cell BK337.out 2).trans rfl, (blk_cell BK337.out 3).trans rfl, (blk_cell BK337.out 4).trans rfl, (blk_cell BK338.out 0).trans rfl, (blk_cell BK338.out 1).trans rfl, (blk_cell BK338.out 2).trans rfl⟩ (fun hHeld => ?_)
         clear hK K
         refine norm_ (a' := ?_) ?_ ?_
         rotate_left
         ·show Act.put _ (some 38) _ = _
          simp only [Act.put, List.setIfInBounds_toArray, List.set_cons_zero, List.set_cons_succ, i64_w, i32_w]
          rfl
         refine pure_ (i := 7) (N := some 31) (v := ?_) (a' := ?_) #[true, true, true, true, true, true, true, true, false, false, false, false, false] rfl rfl (any_of HT_.out (by kernel_rfl)) (fun _ _ _ h => h) (Or.inl ⟨by rfl, ?_⟩) ?_ ?_
         rotate_left
         ·intro w'
          go_simp
          with_reducible rfl
         rotate_left
         ·simp only [Act.put, List.setIfInBounds_toArray, List.set_cons_zero, List.set_cons_succ, i64_w, i32_w]
          rfl
         refine pure_ (i := 8) (N := some 39) (v := ?_) (a' := ?_) #[true, true, true, true, true, true, true, true, true, false, false, false, false] rfl rfl (any_of HT_.out (by kernel_rfl)) (fun _ _ _ h => h) (Or.inl ⟨by rfl, ?_⟩) ?_ ?_
         rotate_left
         ·intro w'
          go_simp
          with_reducible rfl
         rotate_left
         ·simp only [Act.put, List.setIfInBounds_toArray, List.set_cons_zero, List.set_cons_succ, i64_w, i32_w]
          rfl
         refine pure_ (i := 9) (N := some 40) (v := ?_) (a' := ?_) #[true, true, true, true, true, true, true, true, true, true, false, false, false] rfl rfl (any_of HT_.out (by kernel_rfl)) (fun _ _ _ h => h) (Or.inl ⟨by rfl, ?_⟩) ?_ ?_
         rotate_left
         ·intro w'
          go_simp
          with_reducible rfl
         rotate_left
         ·simp only [Act.put, List.setIfInBounds_toArray, List.set_cons_zero, List.set_cons_succ, i64_w, i32_w]
          rfl
         refine one_ (i := 10) (N := some 6) #[true, true, true, true, true, true, true, true, true, true, true, false, false] rfl rfl (one_of HT_.out (by kernel_rfl)) (by decide) (fun K hK => ?_)
         refine box_step ?hg (N := 6) ?hd (cs := #[.int .i64 0, .int .u64 0]) (t := 31) ?hr ?_; (case hd => rfl); (case hg => rfl); (case hr => first | (go_simp; done) | (go_simp; rfl))
         intro gb347 hg w52 hbox hb
         have BK347 := Aside0.mk (hbox)
         have GW347 := bels HB hg
         have GE347 := bels HB hg
         have NB337_347 := blkl BK337 hg
         have NB347_337 := blkg BK337 hg
         have NB338_347 := blkl BK338 hg
         have NB347_338 := blkg BK338 hg
         have NB339_347 := blkl BK339 hg
         have NB347_339 := blkg BK339 hg
         replace BK337 := blkb BK337 hb
         replace BK338 := blkb BK338 hb
         replace BK339 := blkb BK339 hb
         replace HB := belb HB hb
         clear hb hbox hg
         refine hK.out _ _ ⟨(blk_cell BK337.out 0).trans rfl, (blk_cell BK337.out 1).trans rfl, (blk_cell BK337.out 2).trans rfl, (blk_cell BK337.out 3).trans rfl, (blk_cell BK337.out 4).trans rfl, (blk_cell BK338.out 0).trans rfl, (blk_cell BK338.out 1).trans rfl, (blk_cell BK338.out 2).trans rfl⟩ (fun hHeld => ?_)
         clear hK K
         refine norm_ (a' := ?_) ?_ ?_
         rotate_left
         ·show Act.put _ (some 6) _ = _
          simp only [Act.put, List.setIfInBounds_toArray, List.set_cons_zero, List.set_cons_succ, i64_w, i32_w]
          rfl
         exact norm_ (by simp only [putAll, Act.put, List.setIfInBounds_toArray, List.set_cons_zero, List.set_cons_succ]) (hCont (gb347) _ ⟨hHeld, (blkt BK337), (blkt BK338), (blkt BK339), (blkt BK347), GW347.out, GE347.out, NB337_347.out, NB347_337.out, NB338_347.out, NB347_338.out, NB339_347.out, NB347_339.out, (belt HB)⟩)
        ·skip
         refine box_step ?hg (N := 6) ?hd (cs := #[.int .i64 0, .int .u64 0]) (t := 31) ?hr ?_; (case hd => rfl); (case hg => rfl); (case hr => first | (go_simp; done) | (go_simp; rfl))
         intro gb347 hg w51 hbox hb
         have BK347 := Aside0.mk (hbox)
         have GW347 := bels HB hg
         have GE347 := bels HB hg
         have NB337_347 := blkl BK337 hg
         have NB347_337 := blkg BK337 hg
         have NB338_347 := blkl BK338 hg
         have NB347_338 := blkg BK338 hg
         have NB339_347 := blkl BK339 hg
         have NB347_339 := blkg BK339 hg
         replace BK337 := blkb BK337 hb
         replace BK338 := blkb BK338 hb
         replace BK339 := blkb BK339 hb
         replace HB := belb HB hb
         clear hb hbox hg
         refine hK.out _ _ ⟨(blk_cell BK337.out 0).trans rfl, (blk_cell BK337.out 1).trans rfl, (blk_cell BK337.out 2).trans rfl, (blk_cell BK337.out 3).trans rfl, (blk_cell BK337.out 4).trans rfl, (blk_cell BK338.out 0).trans rfl, (blk_cell BK338.out 1).trans rfl, (blk_cell BK338.out 2).trans rfl⟩ (fun hHeld => ?_)
         clear hK K
         refine norm_ (a' := ?_) ?_ ?_
         rotate_left
         ·show Act.put _ (some 6) _ = _
          simp only [Act.put, List.setIfInBounds_toArray, List.set_cons_zero, List.set_cons_succ, i64_w, i32_w]
          rfl
         refine one_ (i := 6) (N := some 38) #[true, true, true, true, true, true, true, false, false, false, true, false, false] rfl rfl (one_of HT_.out (by kernel_rfl)) (by decide) (fun K hK => ?_)
         refine goes_ Tryz.func26 (by kernel_rfl) rfl #[.agg #[.int .i64 a0_1, .int .u64 a0_2], .agg #[.int .i64 t342, .int .u64 t343]] (by rfl) rfl rfl argt ?_
         with_reducible refine (wide_Int_Sub.calls a0_1 a0_2 t342 t343 t344 t345 true _ A45.out).mono ?_
         rintro e w52 ⟨rfl, hb⟩
         refine ⟨_, rfl, ?_⟩
         replace BK337 := blkb BK337 hb
         replace BK338 := blkb BK338 hb
         replace BK339 := blkb BK339 hb
         replace BK347 := blkb BK347 hb
         replace HB := belb HB hb
         (try clear hb)
         (try clear hb2)
         (try clear hk)
         (try clear hi)
         refine hK.out _ _ ⟨(blk_cell BK337.out 0).trans rfl, (blk_cell BK337.out 1).trans rfl, (blk_cell BK337.out 2).trans rfl, (blk_cell BK337.out 3).trans rfl, (blk_cell BK337.out 4).trans rfl, (blk_cell BK338.out 0).trans rfl, (blk_cell BK338.out 1).trans rfl, (blk_cell BK338.out 2).trans rfl⟩ (fun hHeld => ?_)
         clear hK K
         refine norm_ (a' := ?_) ?_ ?_
         rotate_left
         ·show Act.put _ (some 38) _ = _
          simp only [Act.put, List.setIfInBounds_toArray, List.set_cons_zero, List.set_cons_succ, i64_w, i32_w]
          rfl
         refine pure_ (i := 7) (N := some 31) (v := ?_) (a' := ?_) #[true, true, true, true, true, true, true, true, false, false, true, false, false] rfl rfl (any_of HT_.out (by kernel_rfl)) (fun _ _ _ h => h) (Or.inl ⟨by rfl, ?_⟩) ?_ ?_
         rotate_left
         ·intro w'
          go_simp
          with_reducible rfl
         rotate_left
         ·simp only [Act.put, List.setIfInBounds_toArray, List.set_cons_zero, List.set_cons_succ, i64_w, i32_w]
          rfl
         refine pure_ (i := 8) (N := some 39) (v := ?_) (a' := ?_) #[true, true, true, true, true, true, true, true, true, false, true, false, false] rfl rfl (any_of HT_.out (by kernel_rfl)) (fun _ _ _ h => h) (Or.inl ⟨by rfl, ?_⟩) ?_ ?_
         rotate_left
         ·intro w'
          go_simp
          with_reducible rfl
         rotate_left
         ·simp only [Act.put, List.setIfInBounds_toArray, List.set_cons_zero, List.set_cons_succ, i64_w, i32_w]
          rfl
         refine pure_ (i := 9) (N := some 40) (v := ?_) (a' := ?_) #[true, true, true, true, true, true, true, true, true, true, true, false, false] rfl rfl (any_of HT_.out (by kernel_rfl)) (fun _ _ _ h => h) (Or.inl ⟨by rfl, ?_⟩) ?_ ?_
         rotate_left
         ·intro w'
          go_simp
          with_reducible rfl
         rotate_left
         ·simp only [Act.put, List.setIfInBounds_toArray, List.set_cons_zero, List.set_cons_succ, i64_w, i32_w]
          rfl
         exact norm_ (by simp only [putAll, Act.put, List.setIfInBounds_toArray, List.set_cons_zero, List.set_cons_succ]) (hCont (gb347) _ ⟨hHeld, (blkt BK337), (blkt BK338), (blkt BK339), (blkt BK347), GW347.out, GE347.out, NB337_347.out, NB347_337.out, NB338_347.out, NB347_338.out, NB339_347.out, NB347_339.out, (belt HB)⟩)
       ·skip
        refine box_step ?hg (N := 6) ?hd (cs := #[.int .i64 0, .int .u64 0]) (t := 31) ?hr ?_; (case hd => rfl); (case hg => rfl); (case hr => first | (go_simp; done) | (go_simp; rfl))
        intro gb347 hg w50 hbox hb
        have BK347 := Aside0.mk (hbox)
        have GW347 := bels HB hg
        have GE347 := bels HB hg
        have NB337_347 := blkl BK337 hg
        have NB347_337 := blkg BK337 hg
        have NB338_347 := blkl BK338 hg
        have NB347_338 := blkg BK338 hg
        have NB339_347 := blkl BK339 hg
        have NB347_339 := blkg BK339 hg
        replace BK337 := blkb BK337 hb
        replace BK338 := blkb BK338 hb
        replace BK339 := blkb BK339 hb
        replace HB := belb HB hb
        clear hb hbox hg
        refine hK.out _ _ ⟨(blk_cell BK337.out 0).trans rfl, (blk_cell BK337.out 1).trans rfl, (blk_cell BK337.out 2).trans rfl, (blk_cell BK337.out 3).trans rfl, (blk_cell BK337.out 4).trans rfl, (blk_cell BK338.out 0).trans rfl, (blk_cell BK338.out 1).trans rfl, (blk_cell BK338.out 2).trans rfl⟩ (fun hHeld => ?_)
        clear hK K
        refine norm_ (a' := ?_) ?_ ?_
        rotate_left
        ·show Act.put _ (some 6) _ = _
         simp only [Act.put, List.setIfInBounds_toArray, List.set_cons_zero, List.set_cons_succ, i64_w, i32_w]
         rfl
        refine one_ (i := 5) (N := some 37) #[true, true, true, true, true, true, false, false, false, false, true, false, false] rfl rfl (one_of HT_.out (by kernel_rfl)) (by decide) (fun K hK => ?_)
        refine goes_ Tryz.func59 (by kernel_rfl) rfl #[.agg #[.int .u64 a1_0, .int .u32 a1_1, .int .u32 a1_2], .int .u64 a0_0] (by rfl) rfl rfl argt ?_
        with_reducible refine (pos_Pos_Distance.calls kj2 a1_0 a1_1 a1_2 a0_0 t342 t343 _ A44.out).mono ?_
        rintro e w51 ⟨rfl, hb⟩
        refine ⟨_, rfl, ?_⟩
        replace BK337 := blkb BK337 hb
        replace BK338 := blkb BK338 hb
        replace BK339 := blkb BK339 hb
        replace BK347 := blkb BK347 hb
        replace HB := belb HB hb
        (try clear hb)
        (try clear hb2)
        (try clear hk)
        (try clear hi)
        refine hK.out _ _ ⟨(blk_cell BK337.out 0).trans rfl, (blk_cell BK337.out 1).trans rfl, (blk_cell BK337.out 2).trans rfl, (blk_cell BK337.out 3).trans rfl, (blk_cell BK337.out 4).trans rfl, (blk_cell BK338.out 0).trans rfl, (blk_cell BK338.out 1).trans rfl, (blk_cell BK338.out 2).trans rfl⟩ (fun hHeld => ?_)
        clear hK K
        refine norm_ (a' := ?_) ?_ ?_
        rotate_left
        ·show Act.put _ (some 37) _ = _
         simp only [Act.put, List.setIfInBounds_toArray, List.set_cons_zero, List.set_cons_succ, i64_w, i32_w]
         rfl
        refine one_ (i := 6) (N := some 38) #[true, true, true, true, true, true, true, false, false, false, true, false, false] rfl rfl (one_of HT_.out (by kernel_rfl)) (by decide) (fun K hK => ?_)
        refine goes_ Tryz.func26 (by kernel_rfl) rfl #[.agg #[.int .i64 a0_1, .int .u64 a0_2], .agg #[.int .i64 t342, .int .u64 t343]] (by rfl) rfl rfl argt ?_
        with_reducible refine (wide_Int_Sub.calls a0_1 a0_2 t342 t343 t344 t345 true _ A45.out).mono ?_
        rintro e w52 ⟨rfl, hb⟩
        refine ⟨_, rfl, ?_⟩
        replace BK337 := blkb BK337 hb
        replace BK338 := blkb BK338 hb
        replace BK339 := blkb BK339 hb
        replace BK347 := blkb BK347 hb
        replace HB := belb HB hb
        (try clear hb)
        (try clear hb2)
        (try clear hk)
        (try clear hi)
        refine hK.out _ _ ⟨(blk_cell BK337.out 0).trans rfl, (blk_cell BK337.out 1).trans rfl, (blk_cell BK337.out 2).trans rfl, (blk_cell BK337.out 3).trans rfl, (blk_cell BK337.out 4).trans rfl, (blk_cell BK338.out 0).trans rfl, (blk_cell BK338.out 1).trans rfl, (blk_cell BK338.out 2).trans rfl⟩ (fun hHeld => ?_)
        clear hK K
        refine norm_ (a' := ?_) ?_ ?_
        rotate_left
        ·show Act.put _ (some 38) _ = _
         simp only [Act.put, List.setIfInBounds_toArray, List.set_cons_zero, List.set_cons_succ, i64_w, i32_w]
         rfl
        refine pure_ (i := 7) (N := some 31) (v := ?_) (a' := ?_) #[true, true, true, true, true, true, true, true, false, false, true, false, false] rfl rfl (any_of HT_.out (by kernel_rfl)) (fun _ _ _ h => h) (Or.inl ⟨by rfl, ?_⟩) ?_ ?_
        rotate_left
        ·intro w'
         go_simp
         with_reducible rfl
        rotate_left
        ·simp only [Act.put, List.setIfInBounds_toArray, List.set_cons_zero, List.set_cons_succ, i64_w, i32_w]
         rfl
        refine pure_ (i := 8) (N := some 39) (v := ?_) (a' := ?_) #[true, true, true, true, true, true, true, true, true, false, true, false, false] rfl rfl (any_of HT_.out (by kernel_rfl)) (fun _ _ _ h => h) (Or.inl ⟨by rfl, ?_⟩) ?_ ?_
        rotate_left
        ·intro w'
         go_simp
         with_reducible rfl
        rotate_left
        ·simp only [Act.put, List.setIfInBounds_toArray, List.set_cons_zero, List.set_cons_succ, i64_w, i32_w]
         rfl
        refine pure_ (i := 9) (N := some 40) (v := ?_) (a' := ?_) #[true, true, true, true, true, true, true, true, true, true, true, false, false] rfl rfl (any_of HT_.out (by kernel_rfl)) (fun _ _ _ h => h) (Or.inl ⟨by rfl, ?_⟩) ?_ ?_
        rotate_left
        ·intro w'
         go_simp
         with_reducible rfl
        rotate_left
        ·simp only [Act.put, List.setIfInBounds_toArray, List.set_cons_zero, List.set_cons_succ, i64_w, i32_w]
         rfl
        exact norm_ (by simp only [putAll, Act.put, List.setIfInBounds_toArray, List.set_cons_zero, List.set_cons_succ]) (hCont (gb347) _ ⟨hHeld, (blkt BK337), (blkt BK338), (blkt BK339), (blkt BK347), GW347.out, GE347.out, NB337_347.out, NB347_337.out, NB338_347.out, NB347_338.out, NB339_347.out, NB347_339.out, (belt HB)⟩)
      rintro gb347 w53 ⟨hS_, h0_, h1_, h2_, h3_, h4_, h5_, h6_, h7_, h8_, h9_, h10_, h11_, h12_⟩
      replace BK337 : Aside0 (w53.heap[gb337]? = some (.cells #[.int .u64 a0_0, .int .i64 a0_1, .int .u64 a0_2, .int .u64 a0_3, .int .i64 a0_4] 33 (0, 0))) := ⟨h0_⟩
      replace BK338 : Aside0 (w53.heap[gb338]? = some (.cells #[.int .u64 a1_0, .int .u32 a1_1, .int .u32 a1_2] 28 (0, 0))) := ⟨h1_⟩
      replace BK339 : Aside0 (w53.heap[gb339]? = some (.cells #[.int .u64 0, .int .i64 0, .int .u64 0, .int .u64 0, .int .i64 0] 33 (0, 0))) := ⟨h2_⟩
      have BK347 : Aside0 (w53.heap[gb347]? = some (.cells #[.int .i64 0, .int .u64 0] 31 (0, 0))) := ⟨h3_⟩
      have GW347 : Aside0 (w.heap.size ≤ gb347) := ⟨h4_⟩
      have GE347 : Aside0 (w.heap.size ≤ gb347) := ⟨h5_⟩
      have NB337_347 : Aside0 (gb337 ≠ gb347) := ⟨h6_⟩
      have NB347_337 : Aside0 (gb347 ≠ gb337) := ⟨h7_⟩
      have NB338_347 : Aside0 (gb338 ≠ gb347) := ⟨h8_⟩
      have NB347_338 : Aside0 (gb347 ≠ gb338) := ⟨h9_⟩
      have NB339_347 : Aside0 (gb339 ≠ gb347) := ⟨h10_⟩
      have NB347_339 : Aside0 (gb347 ≠ gb339) := ⟨h11_⟩
      replace HB : Aside0 (Below w.heap.size w w53) := ⟨h12_⟩
      clear h0_ h1_ h2_ h3_ h4_ h5_ h6_ h7_ h8_ h9_ h10_ h11_ h12_
      have hHeld : w53.cell? ⟨gb337, 0, none⟩ = some (.int .u64 a0_0) ∧ w53.cell? ⟨gb337, 1, none⟩ = some (.int .i64 a0_1) ∧ w53.cell? ⟨gb337, 2, none⟩ = some (.int .u64 a0_2) ∧ w53.cell? ⟨gb337, 3, none⟩ = some (.int .u64 a0_3) ∧ w53.cell? ⟨gb337, 4, none⟩ = some (.int .i64 a0_4) ∧ w53.cell? ⟨gb338, 0, none⟩ = some (.int .u64 a1_0) ∧ w53.cell? ⟨gb338, 1, none⟩ = some (.int .u32 a1_1) ∧ w53.cell? ⟨gb338, 2, none⟩ = some (.int .u32 a1_2) := hS_
      refine norm_ (a' := ?_) ?_ ?_
      rotate_left
      ·simp only [putAll, Act.put, List.setIfInBounds_toArray, List.set_cons_zero, List.set_cons_succ]
       rfl
      refine one_ (i := 11) (N := none) #[true, true, true, true, true, true, true, true, true, true, true, true, false] rfl rfl (one_of HT_.out (by kernel_rfl)) (by decide) (fun K hK => ?_)
      have hs54 : w53.cell? ⟨gb347, 0, none⟩ = some (.int .i64 0) := (blk_cell BK347.out 0).trans rfl
      have hfs54 := blk_frozen BK347.out 0
      have hns54_0 := NB337_347.out
      have hns54_1 := NB338_347.out
      have hns54_2 := NB339_347.out
      have hms54_0 := NB347_337.out
      have hms54_1 := NB347_338.out
      have hms54_2 := NB347_339.out
      have hs55 : w53.cell? ⟨gb347, 1, none⟩ = some (.int .u64 0) := (blk_cell BK347.out 1).trans rfl
      have hfs55 := blk_frozen BK347.out 1
      have hns55_0 := NB337_347.out
      have hns55_1 := NB338_347.out
      have hns55_2 := NB339_347.out
      have hms55_0 := NB347_337.out
      have hms55_1 := NB347_338.out
      have hms55_2 := NB347_339.out
      refine skip_ (w1 := ?_) (by rfl) rfl ?_ ?_
      rotate_left
      ·go_simp
       rfl
      refine hK.out _ _ ⟨((cell_far (p := ⟨gb347, _, none⟩) NB337_347.out _).trans (((cell_far (p := ⟨gb347, _, none⟩) NB337_347.out _).trans (hHeld.1)))), ((cell_far (p := ⟨gb347, _, none⟩) NB337_347.out _).trans (((cell_far (p := ⟨gb347, _, none⟩) NB337_347.out _).trans (hHeld.2.1)))), ((cell_far (p := ⟨gb347, _, none⟩) NB337_347.out _).trans (((cell_far (p := ⟨gb347, _, none⟩) NB337_347.out _).trans (hHeld.2.2.1)))), ((cell_far (p := ⟨gb347, _, none⟩) NB337_347.out _).trans (((cell_far (p := ⟨gb347, _, none⟩) NB337_347.out _).trans (hHeld.2.2.2.1)))), ((cell_far (p := ⟨gb347, _, none⟩) NB337_347.out _).trans (((cell_far (p := ⟨gb347, _, none⟩) NB337_347.out _).trans (hHeld.2.2.2.2.1)))), ((cell_far (p := ⟨gb347, _, none⟩) NB338_347.out _).trans (((cell_far (p := ⟨gb347, _, none⟩) NB338_347.out _).trans (hHeld.2.2.2.2.2.1)))), ((cell_far (p := ⟨gb347, _, none⟩) NB338_347.out _).trans (((cell_far (p := ⟨gb347, _, none⟩) NB338_347.out _).trans (hHeld.2.2.2.2.2.2.1)))), ((cell_far (p := ⟨gb347, _, none⟩) NB338_347.out _).trans (((cell_far (p := ⟨gb347, _, none⟩) NB338_347.out _).trans (hHeld.2.2.2.2.2.2.2))))⟩ (fun hHeld => ?_)
      clear hK K
      refine pure_ (i := 12) (N := some 7) (v := ?_) (a' := ?_) #[true, true, true, true, true, true, true, true, true, true, true, true, true] rfl rfl (any_of HT_.out (by kernel_rfl)) (fun _ _ _ h => h) (Or.inl ⟨by rfl, ?_⟩) ?_ ?_
      rotate_left
      ·intro w'
       go_simp
       with_reducible rfl
      rotate_left
      ·simp only [Act.put, List.setIfInBounds_toArray, List.set_cons_zero, List.set_cons_succ, i64_w, i32_w]
       rfl
      refine done_ (done_of HT_.out (by kernel_rfl)) ?_
      have hnb56 := NB337_338.out
      have hnc56 := NB338_337.out
      have hnb57 := NB337_339.out
      have hnc57 := NB339_337.out
      have hnb58 := NB337_347.out
      have hnc58 := NB347_337.out
      have hcz59_0 : w53.cell? ⟨gb337, 0, none⟩ = some (.int .u64 a0_0) := (blk_cell BK337.out 0).trans rfl
      have hcz59_1 : w53.cell? ⟨gb337, 1, none⟩ = some (.int .i64 a0_1) := (blk_cell BK337.out 1).trans rfl
      have hcz59_2 : w53.cell? ⟨gb337, 2, none⟩ = some (.int .u64 a0_2) := (blk_cell BK337.out 2).trans rfl
      have hcz59_3 : w53.cell? ⟨gb337, 3, none⟩ = some (.int .u64 a0_3) := (blk_cell BK337.out 3).trans rfl
      have hcz59_4 : w53.cell? ⟨gb337, 4, none⟩ = some (.int .i64 a0_4) := (blk_cell BK337.out 4).trans rfl
      have hfz59_0 := blk_frozen BK337.out 0
      have hfz59_1 := blk_frozen BK337.out 1
      have hfz59_2 := blk_frozen BK337.out 2
      have hfz59_3 := blk_frozen BK337.out 3
      have hfz59_4 := blk_frozen BK337.out 4
      have hnb60 := NB347_338.out
      have hnc60 := NB338_347.out
      have hnb61 := NB347_339.out
      have hnc61 := NB339_347.out
      have hcz62_0 : w53.cell? ⟨gb347, 0, none⟩ = some (.int .i64 0) := (blk_cell BK347.out 0).trans rfl
      have hcz62_1 : w53.cell? ⟨gb347, 1, none⟩ = some (.int .u64 0) := (blk_cell BK347.out 1).trans rfl
      have hfz62_0 := blk_frozen BK347.out 0
      have hfz62_1 := blk_frozen BK347.out 1
      have hnb63 := NB338_339.out
      have hnc63 := NB339_338.out
      have hcz64_0 : w53.cell? ⟨gb338, 0, none⟩ = some (.int .u64 a1_0) := (blk_cell BK338.out 0).trans rfl
      have hcz64_1 : w53.cell? ⟨gb338, 1, none⟩ = some (.int .u32 a1_1) := (blk_cell BK338.out 1).trans rfl
      have hcz64_2 : w53.cell? ⟨gb338, 2, none⟩ = some (.int .u32 a1_2) := (blk_cell BK338.out 2).trans rfl
      have hfz64_0 := blk_frozen BK338.out 0
      have hfz64_1 := blk_frozen BK338.out 1
      have hfz64_2 := blk_frozen BK338.out 2
      try go_wp2_with (first | ((with_reducible refine gate_dst (N := 8) rfl ?_); refine box_event ?hg (N := 8) ?hd (cs := #[.int .u64 0, .int .i64 0, .int .u64 0, .int .u64 0, .int .i64 0]) (t := 33) ?hr ?_; (case hd => rfl); (case hg => rfl); (case hr => first | (go_simp; done) | (go_simp; rfl)); intro gb348 hg w65 hbox hb; have BK348 := Aside0.mk (hbox); have GW348 := bels HB hg; have GE348 := bels HB hg; have NB337_348 := Aside0.mk ((by rw [hg]; exact Nat.ne_of_lt (blk_lt (g := gb337) (o := .cells #[.int .u64 a0_0, .int .i64 a0_1, .int .u64 a0_2, .int .u64 a0_3, .int .i64 a0_4] 33 (0, 0)) (by (with_reducible repeat (first | refine blk_drewN ?_ _ | refine blk_drew ?_ | refine blk_alloc ?_ _)); refine blk_far ?_ NB337_347.out _; (with_reducible repeat (first | refine blk_drewN ?_ _ | refine blk_drew ?_ | refine blk_alloc ?_ _)); refine blk_far ?_ NB337_347.out _; exact blkt BK337)) : gb337 ≠ gb348)); have NB348_337 := Aside0.mk ((by rw [hg]; exact Nat.ne_of_gt (blk_lt (g := gb337) (o := .cells #[.int .u64 a0_0, .int .i64 a0_1, .int .u64 a0_2, .int .u64 a0_3, .int .i64 a0_4] 33 (0, 0)) (by (with_reducible repeat (first | refine blk_drewN ?_ _ | refine blk_drew ?_ | refine blk_alloc ?_ _)); refine blk_far ?_ NB337_347.out _; (with_reducible repeat (first | refine blk_drewN ?_ _ | refine blk_drew ?_ | refine blk_alloc ?_ _)); refine blk_far ?_ NB337_347.out _; exact blkt BK337)) : gb348 ≠ gb337)); have NB338_348 := Aside0.mk ((by rw [hg]; exact Nat.ne_of_lt (blk_lt (g := gb338) (o := .cells #[.int .u64 a1_0, .int .u32 a1_1, .int .u32 a1_2] 28 (0, 0)) (by (with_reducible repeat (first | refine blk_drewN ?_ _ | refine blk_drew ?_ | refine blk_alloc ?_ _)); refine blk_far ?_ NB338_347.out _; (with_reducible repeat (first | refine blk_drewN ?_ _ | refine blk_drew ?_ | refine blk_alloc ?_ _)); refine blk_far ?_ NB338_347.out _; exact blkt BK338)) : gb338 ≠ gb348)); have NB348_338 := Aside0.mk ((by rw [hg]; exact Nat.ne_of_gt (blk_lt (g := gb338) (o := .cells #[.int .u64 a1_0, .int .u32 a1_1, .int .u32 a1_2] 28 (0, 0)) (by (with_reducible repeat (first | refine blk_drewN ?_ _ | refine blk_drew ?_ | refine blk_alloc ?_ _)); refine blk_far ?_ NB338_347.out _; (with_reducible repeat (first | refine blk_drewN ?_ _ | refine blk_drew ?_ | refine blk_alloc ?_ _)); refine blk_far ?_ NB338_347.out _; exact blkt BK338)) : gb348 ≠ gb338)); have NB339_348 := Aside0.mk ((by rw [hg]; exact Nat.ne_of_lt (blk_lt (g := gb339) (o := .cells #[.int .u64 0, .int .i64 0, .int .u64 0, .int .u64 0, .int .i64 0] 33 (0, 0)) (by (with_reducible repeat (first | refine blk_drewN ?_ _ | refine blk_drew ?_ | refine blk_alloc ?_ _)); refine blk_far ?_ NB339_347.out _; (with_reducible repeat (first | refine blk_drewN ?_ _ | refine blk_drew ?_ | refine blk_alloc ?_ _)); refine blk_far ?_ NB339_347.out _; exact blkt BK339)) : gb339 ≠ gb348)); have NB348_339 := Aside0.mk ((by rw [hg]; exact Nat.ne_of_gt (blk_lt (g := gb339) (o := .cells #[.int .u64 0, .int .i64 0, .int .u64 0, .int .u64 0, .int .i64 0] 33 (0, 0)) (by (with_reducible repeat (first | refine blk_drewN ?_ _ | refine blk_drew ?_ | refine blk_alloc ?_ _)); refine blk_far ?_ NB339_347.out _; (with_reducible repeat (first | refine blk_drewN ?_ _ | refine blk_drew ?_ | refine blk_alloc ?_ _)); refine blk_far ?_ NB339_347.out _; exact blkt BK339)) : gb348 ≠ gb339)); have NB347_348 := Aside0.mk ((by rw [hg]; exact Nat.ne_of_lt (blk_lt (g := gb347) (o := .cells #[.int .i64 t344, .int .u64 t345] 31 (0, 0)) (by (with_reducible repeat (first | refine blk_drewN ?_ _ | refine blk_drew ?_ | refine blk_alloc ?_ _)); refine blk_put (cs := #[.int .i64 t344, .int .u64 0]) ?_ 1 _ rfl; (with_reducible repeat (first | refine blk_drewN ?_ _ | refine blk_drew ?_ | refine blk_alloc ?_ _)); refine blk_put (cs := #[.int .i64 0, .int .u64 0]) ?_ 0 _ rfl; exact blkt BK347)) : gb347 ≠ gb348)); have NB348_347 := Aside0.mk ((by rw [hg]; exact Nat.ne_of_gt (blk_lt (g := gb347) (o := .cells #[.int .i64 t344, .int .u64 t345] 31 (0, 0)) (by (with_reducible repeat (first | refine blk_drewN ?_ _ | refine blk_drew ?_ | refine blk_alloc ?_ _)); refine blk_put (cs := #[.int .i64 t344, .int .u64 0]) ?_ 1 _ rfl; (with_reducible repeat (first | refine blk_drewN ?_ _ | refine blk_drew ?_ | refine blk_alloc ?_ _)); refine blk_put (cs := #[.int .i64 0, .int .u64 0]) ?_ 0 _ rfl; exact blkt BK347)) : gb348 ≠ gb347)); replace BK337 := Aside0.mk (blk_below (g := gb337) (o := .cells #[.int .u64 a0_0, .int .i64 a0_1, .int .u64 a0_2, .int .u64 a0_3, .int .i64 a0_4] 33 (0, 0)) (by (with_reducible repeat (first | refine blk_drewN ?_ _ | refine blk_drew ?_ | refine blk_alloc ?_ _)); refine blk_far ?_ NB337_347.out _; (with_reducible repeat (first | refine blk_drewN ?_ _ | refine blk_drew ?_ | refine blk_alloc ?_ _)); refine blk_far ?_ NB337_347.out _; exact blkt BK337) hb); replace BK338 := Aside0.mk (blk_below (g := gb338) (o := .cells #[.int .u64 a1_0, .int .u32 a1_1, .int .u32 a1_2] 28 (0, 0)) (by (with_reducible repeat (first | refine blk_drewN ?_ _ | refine blk_drew ?_ | refine blk_alloc ?_ _)); refine blk_far ?_ NB338_347.out _; (with_reducible repeat (first | refine blk_drewN ?_ _ | refine blk_drew ?_ | refine blk_alloc ?_ _)); refine blk_far ?_ NB338_347.out _; exact blkt BK338) hb); replace BK339 := Aside0.mk (blk_below (g := gb339) (o := .cells #[.int .u64 0, .int .i64 0, .int .u64 0, .int .u64 0, .int .i64 0] 33 (0, 0)) (by (with_reducible repeat (first | refine blk_drewN ?_ _ | refine blk_drew ?_ | refine blk_alloc ?_ _)); refine blk_far ?_ NB339_347.out _; (with_reducible repeat (first | refine blk_drewN ?_ _ | refine blk_drew ?_ | refine blk_alloc ?_ _)); refine blk_far ?_ NB339_347.out _; exact blkt BK339) hb); replace BK347 := Aside0.mk (blk_below (g := gb347) (o := .cells #[.int .i64 t344, .int .u64 t345] 31 (0, 0)) (by (with_reducible repeat (first | refine blk_drewN ?_ _ | refine blk_drew ?_ | refine blk_alloc ?_ _)); refine blk_put (cs := #[.int .i64 t344, .int .u64 0]) ?_ 1 _ rfl; (with_reducible repeat (first | refine blk_drewN ?_ _ | refine blk_drew ?_ | refine blk_alloc ?_ _)); refine blk_put (cs := #[.int .i64 0, .int .u64 0]) ?_ 0 _ rfl; exact blkt BK347) hb); replace HB := belb HB hb; clear hb hbox hg; have hnb66 := NB348_337.out; have hnc66 := NB337_348.out; have hnb67 := NB348_338.out; have hnc67 := NB338_348.out; have hnb68 := NB348_339.out; have hnc68 := NB339_348.out; have hnb69 := NB348_347.out; have hnc69 := NB347_348.out; have hcz70_0 : w65.cell? ⟨gb348, 0, none⟩ = some (.int .u64 0) := (blk_cell BK348.out 0).trans rfl; have hcz70_1 : w65.cell? ⟨gb348, 1, none⟩ = some (.int .i64 0) := (blk_cell BK348.out 1).trans rfl; have hcz70_2 : w65.cell? ⟨gb348, 2, none⟩ = some (.int .u64 0) := (blk_cell BK348.out 2).trans rfl; have hcz70_3 : w65.cell? ⟨gb348, 3, none⟩ = some (.int .u64 0) := (blk_cell BK348.out 3).trans rfl; have hcz70_4 : w65.cell? ⟨gb348, 4, none⟩ = some (.int .i64 0) := (blk_cell BK348.out 4).trans rfl; have hfz70_0 := blk_frozen BK348.out 0; have hfz70_1 := blk_frozen BK348.out 1; have hfz70_2 := blk_frozen BK348.out 2; have hfz70_3 := blk_frozen BK348.out 3; have hfz70_4 := blk_frozen BK348.out 4) | (go_at_call 52; (with_reducible refine (mean_Mean_Right.calls a0_0 t344 t345 (IntKind.u64.wrap (a0_3 - (IntKind.u64.wrap (a1_2)))) (wrap64 (a0_4 - 1)) true _ A47.out).mono ?_); rintro e w71 ⟨rfl, hb⟩; replace BK337 := Aside0.mk (blk_below (g := gb337) (o := .cells #[.int .u64 a0_0, .int .i64 a0_1, .int .u64 a0_2, .int .u64 a0_3, .int .i64 a0_4] 33 (0, 0)) (by (with_reducible repeat (first | refine blk_drewN ?_ _ | refine blk_drew ?_ | refine blk_alloc ?_ _)); refine blk_far ?_ NB337_348.out _; (with_reducible repeat (first | refine blk_drewN ?_ _ | refine blk_drew ?_ | refine blk_alloc ?_ _)); refine blk_far ?_ NB337_348.out _; (with_reducible repeat (first | refine blk_drewN ?_ _ | refine blk_drew ?_ | refine blk_alloc ?_ _)); refine blk_far ?_ NB337_348.out _; (with_reducible repeat (first | refine blk_drewN ?_ _ | refine blk_drew ?_ | refine blk_alloc ?_ _)); refine blk_far ?_ NB337_348.out _; (with_reducible repeat (first | refine blk_drewN ?_ _ | refine blk_drew ?_ | refine blk_alloc ?_ _)); refine blk_far ?_ NB337_348.out _; exact blkt BK337) hb); replace BK338 := Aside0.mk (blk_below (g := gb338) (o := .cells #[.int .u64 a1_0, .int .u32 a1_1, .int .u32 a1_2] 28 (0, 0)) (by (with_reducible repeat (first | refine blk_drewN ?_ _ | refine blk_drew ?_ | refine blk_alloc ?_ _)); refine blk_far ?_ NB338_348.out _; (with_reducible repeat (first | refine blk_drewN ?_ _ | refine blk_drew ?_ | refine blk_alloc ?_ _)); refine blk_far ?_ NB338_348.out _; (with_reducible repeat (first | refine blk_drewN ?_ _ | refine blk_drew ?_ | refine blk_alloc ?_ _)); refine blk_far ?_ NB338_348.out _; (with_reducible repeat (first | refine blk_drewN ?_ _ | refine blk_drew ?_ | refine blk_alloc ?_ _)); refine blk_far ?_ NB338_348.out _; (with_reducible repeat (first | refine blk_drewN ?_ _ | refine blk_drew ?_ | refine blk_alloc ?_ _)); refine blk_far ?_ NB338_348.out _; exact blkt BK338) hb); replace BK339 := Aside0.mk (blk_below (g := gb339) (o := .cells #[.int .u64 0, .int .i64 0, .int .u64 0, .int .u64 0, .int .i64 0] 33 (0, 0)) (by (with_reducible repeat (first | refine blk_drewN ?_ _ | refine blk_drew ?_ | refine blk_alloc ?_ _)); refine blk_far ?_ NB339_348.out _; (with_reducible repeat (first | refine blk_drewN ?_ _ | refine blk_drew ?_ | refine blk_alloc ?_ _)); refine blk_far ?_ NB339_348.out _; (with_reducible repeat (first | refine blk_drewN ?_ _ | refine blk_drew ?_ | refine blk_alloc ?_ _)); refine blk_far ?_ NB339_348.out _; (with_reducible repeat (first | refine blk_drewN ?_ _ | refine blk_drew ?_ | refine blk_alloc ?_ _)); refine blk_far ?_ NB339_348.out _; (with_reducible repeat (first | refine blk_drewN ?_ _ | refine blk_drew ?_ | refine blk_alloc ?_ _)); refine blk_far ?_ NB339_348.out _; exact blkt BK339) hb); replace BK347 := Aside0.mk (blk_below (g := gb347) (o := .cells #[.int .i64 t344, .int .u64 t345] 31 (0, 0)) (by (with_reducible repeat (first | refine blk_drewN ?_ _ | refine blk_drew ?_ | refine blk_alloc ?_ _)); refine blk_far ?_ NB347_348.out _; (with_reducible repeat (first | refine blk_drewN ?_ _ | refine blk_drew ?_ | refine blk_alloc ?_ _)); refine blk_far ?_ NB347_348.out _; (with_reducible repeat (first | refine blk_drewN ?_ _ | refine blk_drew ?_ | refine blk_alloc ?_ _)); refine blk_far ?_ NB347_348.out _; (with_reducible repeat (first | refine blk_drewN ?_ _ | refine blk_drew ?_ | refine blk_alloc ?_ _)); refine blk_far ?_ NB347_348.out _; (with_reducible repeat (first | refine blk_drewN ?_ _ | refine blk_drew ?_ | refine blk_alloc ?_ _)); refine blk_far ?_ NB347_348.out _; exact blkt BK347) hb); replace BK348 := Aside0.mk (blk_below (g := gb348) (o := .cells #[.int .u64 a0_0, .int .i64 t344, .int .u64 t345, .int .u64 (IntKind.u64.wrap (a0_3 - (IntKind.u64.wrap (a1_2)))), .int .i64 (wrap64 (a0_4 - 1))] 33 (0, 0)) (by (with_reducible repeat (first | refine blk_drewN ?_ _ | refine blk_drew ?_ | refine blk_alloc ?_ _)); refine blk_put (cs := #[.int .u64 a0_0, .int .i64 t344, .int .u64 t345, .int .u64 (IntKind.u64.wrap (a0_3 - (IntKind.u64.wrap (a1_2)))), .int .i64 0]) ?_ 4 _ rfl; (with_reducible repeat (first | refine blk_drewN ?_ _ | refine blk_drew ?_ | refine blk_alloc ?_ _)); refine blk_put (cs := #[.int .u64 a0_0, .int .i64 t344, .int .u64 t345, .int .u64 0, .int .i64 0]) ?_ 3 _ rfl; (with_reducible repeat (first | refine blk_drewN ?_ _ | refine blk_drew ?_ | refine blk_alloc ?_ _)); refine blk_put (cs := #[.int .u64 a0_0, .int .i64 t344, .int .u64 0, .int .u64 0, .int .i64 0]) ?_ 2 _ rfl; (with_reducible repeat (first | refine blk_drewN ?_ _ | refine blk_drew ?_ | refine blk_alloc ?_ _)); refine blk_put (cs := #[.int .u64 a0_0, .int .i64 0, .int .u64 0, .int .u64 0, .int .i64 0]) ?_ 1 _ rfl; (with_reducible repeat (first | refine blk_drewN ?_ _ | refine blk_drew ?_ | refine blk_alloc ?_ _)); refine blk_put (cs := #[.int .u64 0, .int .i64 0, .int .u64 0, .int .u64 0, .int .i64 0]) ?_ 0 _ rfl; exact blkt BK348) hb); replace HB := belb HB hb; (try clear hb); (try clear hb2); (try clear hk); (try clear hi); have hcz72_0 : w71.cell? ⟨gb348, 0, none⟩ = some (.int .u64 a0_0) := (blk_cell BK348.out 0).trans rfl; have hcz72_1 : w71.cell? ⟨gb348, 1, none⟩ = some (.int .i64 t344) := (blk_cell BK348.out 1).trans rfl; have hcz72_2 : w71.cell? ⟨gb348, 2, none⟩ = some (.int .u64 t345) := (blk_cell BK348.out 2).trans rfl; have hcz72_3 : w71.cell? ⟨gb348, 3, none⟩ = some (.int .u64 (IntKind.u64.wrap (a0_3 - (IntKind.u64.wrap (a1_2))))) := (blk_cell BK348.out 3).trans rfl; have hcz72_4 : w71.cell? ⟨gb348, 4, none⟩ = some (.int .i64 (wrap64 (a0_4 - 1))) := (blk_cell BK348.out 4).trans rfl; have hfz72_0 := blk_frozen BK348.out 0; have hfz72_1 := blk_frozen BK348.out 1; have hfz72_2 := blk_frozen BK348.out 2; have hfz72_3 := blk_frozen BK348.out 3; have hfz72_4 := blk_frozen BK348.out 4; have hcz73_0 : w71.cell? ⟨gb339, 0, none⟩ = some (.int .u64 0) := (blk_cell BK339.out 0).trans rfl; have hcz73_1 : w71.cell? ⟨gb339, 1, none⟩ = some (.int .i64 0) := (blk_cell BK339.out 1).trans rfl; have hcz73_2 : w71.cell? ⟨gb339, 2, none⟩ = some (.int .u64 0) := (blk_cell BK339.out 2).trans rfl; have hcz73_3 : w71.cell? ⟨gb339, 3, none⟩ = some (.int .u64 0) := (blk_cell BK339.out 3).trans rfl; have hcz73_4 : w71.cell? ⟨gb339, 4, none⟩ = some (.int .i64 0) := (blk_cell BK339.out 4).trans rfl; have hfz73_0 := blk_frozen BK339.out 0; have hfz73_1 := blk_frozen BK339.out 1; have hfz73_2 := blk_frozen BK339.out 2; have hfz73_3 := blk_frozen BK339.out 3; have hfz73_4 := blk_frozen BK339.out 4))
      refine bodyPost_ret (results_ct rfl _ _ gb339 33 #[.int .u64 a0_0, .int .i64 t344, .int .u64 t345, .int .u64 (IntKind.u64.wrap (a0_3 - (IntKind.u64.wrap (a1_2)))), .int .i64 (wrap64 (a0_4 - 1))] (0, 0) _ rfl (by (with_reducible repeat (first | refine blk_drewN ?_ _ | refine blk_drew ?_ | refine blk_alloc ?_ _)); refine blk_put (cs := #[.int .u64 a0_0, .int .i64 t344, .int .u64 t345, .int .u64 (IntKind.u64.wrap (a0_3 - (IntKind.u64.wrap (a1_2)))), .int .i64 0]) ?_ 4 _ rfl; (with_reducible repeat (first | refine blk_drewN ?_ _ | refine blk_drew ?_ | refine blk_alloc ?_ _)); refine blk_put (cs := #[.int .u64 a0_0, .int .i64 t344, .int .u64 t345, .int .u64 0, .int .i64 0]) ?_ 3 _ rfl; (with_reducible repeat (first | refine blk_drewN ?_ _ | refine blk_drew ?_ | refine blk_alloc ?_ _)); refine blk_put (cs := #[.int .u64 a0_0, .int .i64 t344, .int .u64 0, .int .u64 0, .int .i64 0]) ?_ 2 _ rfl; (with_reducible repeat (first | refine blk_drewN ?_ _ | refine blk_drew ?_ | refine blk_alloc ?_ _)); refine blk_put (cs := #[.int .u64 a0_0, .int .i64 0, .int .u64 0, .int .u64 0, .int .i64 0]) ?_ 1 _ rfl; (with_reducible repeat (first | refine blk_drewN ?_ _ | refine blk_drew ?_ | refine blk_alloc ?_ _)); refine blk_put (cs := #[.int .u64 0, .int .i64 0, .int .u64 0, .int .u64 0, .int .i64 0]) ?_ 0 _ rfl; exact blkt BK339) Tryz.underlying33 rfl (by kernel_rfl)) rfl ?_
      exact ⟨by first | rfl | (simp [errW_none, errW_some] <;> rfl) | (simp [*, errW_none, errW_some] <;> rfl), belt HB⟩
     ·replace c48 := Bool.eq_false_iff.mpr c48
      subst c48
      have H1 : (some (0, 0, 0, 0, 0, false)) = some (r1, r2, r3, r4, r5, r6) := by rw [if_neg (show ¬ (false = true) by decide)] at H; exact H
      clear H
      have H := H1
      clear H1
      simp only [Option.some.injEq, Prod.mk.injEq] at H
      obtain ⟨rfl, rfl, rfl, rfl, rfl, rfl⟩ := H
      try go_wp2
      replace BK337 := Aside0.mk (blk_drew BK337.out)
      replace BK338 := Aside0.mk (blk_drew BK338.out)
      replace BK339 := Aside0.mk (blk_drew BK339.out)
      replace HB := Aside0.mk (below_drew1 HB.out)
      refine start_ (n := 13) (S := fun w' => w'.cell? ⟨gb337, 0, none⟩ = some (.int .u64 a0_0) ∧ w'.cell? ⟨gb337, 1, none⟩ = some (.int .i64 a0_1) ∧ w'.cell? ⟨gb337, 2, none⟩ = some (.int .u64 a0_2) ∧ w'.cell? ⟨gb337, 3, none⟩ = some (.int .u64 a0_3) ∧ w'.cell? ⟨gb337, 4, none⟩ = some (.int .i64 a0_4) ∧ w'.cell? ⟨gb338, 0, none⟩ = some (.int .u64 a1_0) ∧ w'.cell? ⟨gb338, 1, none⟩ = some (.int .u32 a1_1) ∧ w'.cell? ⟨gb338, 2, none⟩ = some (.int .u32 a1_2)) (ds := []) #[false, false, false, false, false, false, false, false, false, false, false, false, false] (by kernel_rfl) rfl rfl ⟨(blk_cell BK337.out 0).trans rfl, (blk_cell BK337.out 1).trans rfl, (blk_cell BK337.out 2).trans rfl, (blk_cell BK337.out 3).trans rfl, (blk_cell BK337.out 4).trans rfl, (blk_cell BK338.out 0).trans rfl, (blk_cell BK338.out 1).trans rfl, (blk_cell BK338.out 2).trans rfl⟩ (fun hHeld => ?_); refine with_tabW mean_Mean_Take.tab3 mean_Mean_Take.bits3 (fun HT_ HW_ => ?_)
      generalize wc.drew = w74 at BK337 BK338 BK339 HB hHeld ⊢
      refine pure_ (i := 0) (N := some 32) (v := ?_) (a' := ?_) #[true, false, false, false, false, false, false, false, false, false, false, false, false] rfl rfl (any_of HT_.out (by kernel_rfl)) (fun _ _ _ h => h) (Or.inl ⟨by rfl, ?_⟩) ?_ ?_
      rotate_left
      ·intro w'
       go_simp
       with_reducible rfl
      rotate_left
      ·simp only [Act.put, List.setIfInBounds_toArray, List.set_cons_zero, List.set_cons_succ, i64_w, i32_w]
       rfl
      refine pure_ (i := 3) (N := some 35) (v := ?_) (a' := ?_) #[true, false, false, true, false, false, false, false, false, false, false, false, false] rfl rfl (any_of HT_.out (by kernel_rfl)) (fun _ _ _ h => h) (Or.inl ⟨by rfl, ?_⟩) ?_ ?_
      rotate_left
      ·intro w'
       go_simp
       with_reducible rfl
      rotate_left
      ·simp only [Act.put, List.setIfInBounds_toArray, List.set_cons_zero, List.set_cons_succ, i64_w, i32_w]
       rfl
      refine take_ (i := 1) (N := some 33) (v := ?_) (a' := ?_) #[true, true, false, true, false, false, false, false, false, false, false, false, false] rfl rfl (take_ofW HT_.out HW_.out (by kernel_rfl)) (fun _ _ _ h => h) (Or.inl ⟨by rfl, ?_⟩) hHeld ?_ ?_
      rotate_left
      ·rintro w' ⟨s0, s1, s2, s3, s4, s5, s6, s7⟩
       go_simp
       with_reducible rfl
      rotate_left
      ·simp only [Act.put, List.setIfInBounds_toArray, List.set_cons_zero, List.set_cons_succ, i64_w, i32_w]
       rfl
      refine take_ (i := 2) (N := some 34) (v := ?_) (a' := ?_) #[true, true, true, true, false, false, false, false, false, false, false, false, false] rfl rfl (take_ofW HT_.out HW_.out (by kernel_rfl)) (fun _ _ _ h => h) (Or.inl ⟨by rfl, ?_⟩) hHeld ?_ ?_
      rotate_left
      ·rintro w' ⟨s0, s1, s2, s3, s4, s5, s6, s7⟩
       go_simp
       with_reducible rfl
      rotate_left
      ·simp only [Act.put, List.setIfInBounds_toArray, List.set_cons_zero, List.set_cons_succ, i64_w, i32_w]
       rfl
      refine take_ (i := 4) (N := some 36) (v := ?_) (a' := ?_) #[true, true, true, true, true, false, false, false, false, false, false, false, false] rfl rfl (take_ofW HT_.out HW_.out (by kernel_rfl)) (fun _ _ _ h => h) (Or.inl ⟨by rfl, ?_⟩) hHeld ?_ ?_
      rotate_left
      ·rintro w' ⟨s0, s1, s2, s3, s4, s5, s6, s7⟩
       go_simp
       with_reducible rfl
      rotate_left
      ·simp only [Act.put, List.setIfInBounds_toArray, List.set_cons_zero, List.set_cons_succ, i64_w, i32_w]
       rfl
      refine join_ (σ := Nat) 2 #[true, true, true, true, true, true, true, true, true, true, true, false, false] (fun s_ => [(37, .agg #[.int .i64 t342, .int .u64 t343]), (38, .tuple #[.agg #[.int .i64 t344, .int .u64 t345], .bool true]), (6, .pointer (some ⟨s_, 0, none⟩)), (31, .tuple #[.agg #[.int .i64 t344, .int .u64 t345], .bool true]), (39, .agg #[.int .i64 t344, .int .u64 t345]), (40, .bool true)]) (fun s_ w' => (w'.cell? ⟨gb337, 0, none⟩ = some (.int .u64 a0_0) ∧ w'.cell? ⟨gb337, 1, none⟩ = some (.int .i64 a0_1) ∧ w'.cell? ⟨gb337, 2, none⟩ = some (.int .u64 a0_2) ∧ w'.cell? ⟨gb337, 3, none⟩ = some (.int .u64 a0_3) ∧ w'.cell? ⟨gb337, 4, none⟩ = some (.int .i64 a0_4) ∧ w'.cell? ⟨gb338, 0, none⟩ = some (.int .u64 a1_0) ∧ w'.cell? ⟨gb338, 1, none⟩ = some (.int .u32 a1_1) ∧ w'.cell? ⟨gb338, 2, none⟩ = some (.int .u32 a1_2)) ∧ (w'.heap[gb337]? = some (.cells #[.int .u64 a0_0, .int .i64 a0_1, .int .u64 a0_2, .int .u64 a0_3, .int .i64 a0_4] 33 (0, 0))) ∧ (w'.heap[gb338]? = some (.cells #[.int .u64 a1_0, .int .u32 a1_1, .int .u32 a1_2] 28 (0, 0))) ∧ (w'.heap[gb339]? = some (.cells #[.int .u64 0, .int .i64 0, .int .u64 0, .int .u64 0, .int .i64 0] 33 (0, 0))) ∧ (w'.heap[s_]? = some (.cells #[.int .i64 0, .int .u64 0] 31 (0, 0))) ∧ (w.heap.size ≤ s_) ∧ (w.heap.size ≤ s_) ∧ (gb337 ≠ s_) ∧ (s_ ≠ gb337) ∧ (gb338 ≠ s_) ∧ (s_ ≠ gb338) ∧ (gb339 ≠ s_) ∧ (s_ ≠ gb339) ∧ (Below w.heap.size w w')) ?_ ?_
      rotate_left
      ·intro hCont
       refine two_ (i := 5) (j := 10) (Ni := some 37) (Nj := some 6) #[true, true, true, true, true, true, false, false, false, false, false, false, false] #[true, true, true, true, true, false, false, false, false, false, true, false, false] rfl rfl rfl rfl (two_of HT_.out (by kernel_rfl)) (by decide) (by decide) (fun K hK => ?_) (fun K hK => ?_)
       ·skip
        refine goes_ Tryz.func59 (by kernel_rfl) rfl #[.agg #[.int .u64 a1_0, .int .u32 a1_1, .int .u32 a1_2], .int .u64 a0_0] (by rfl) rfl rfl argt ?_
        with_reducible refine (pos_Pos_Distance.calls kj2 a1_0 a1_1 a1_2 a0_0 t342 t343 _ A44.out).mono ?_
        rintro e w75 ⟨rfl, hb⟩
        refine ⟨_, rfl, ?_⟩
        replace BK337 := blkb BK337 hb
        replace BK338 := blkb BK338 hb
        replace BK339 := blkb BK339 hb
        replace HB := belb HB hb
        (try clear hb)
        (try clear hb2)
        (try clear hk)
        (try clear hi)
        refine hK.out _ _ ⟨(blk_cell BK337.out 0).trans rfl, (blk_cell BK337.out 1).trans rfl, (blk_cell BK337.out 2).trans rfl, (blk_cell BK337.out 3).trans rfl, (blk_cell BK337.out 4).trans rfl, (blk_cell BK338.out 0).trans rfl, (blk_cell BK338.out 1).trans rfl, (blk_cell BK338.out 2).trans rfl⟩ (fun hHeld => ?_)
        clear hK K
        refine norm_ (a' := ?_) ?_ ?_
        rotate_left
        ·show Act.put _ (some 37) _ = _
         simp only [Act.put, List.setIfInBounds_toArray, List.set_cons_zero, List.set_cons_succ, i64_w, i32_w]
         rfl
        refine two_ (i := 6) (j := 10) (Ni := some 38) (Nj := some 6) #[true, true, true, true, true, true, true, false, false, false, false, false, false] #[true, true, true, true, true, true, false, false, false, false, true, false, false] rfl rfl rfl rfl (two_of HT_.out (by kernel_rfl)) (by decide) (by decide) (fun K hK => ?_) (fun K hK => ?_)
        ·skip
         refine goes_ Tryz.func26 (by kernel_rfl) rfl #[.agg #[.int .i64 a0_1, .int .u64 a0_2], .agg #[.int .i64 t342, .int .u64 t343]] (by rfl) rfl rfl argt ?_
         with_reducible refine (wide_Int_Sub.calls a0_1 a0_2 t342 t343 t344 t345 true _ A45.out).mono ?_
         rintro e w76 ⟨rfl, hb⟩
         refine ⟨_, rfl, ?_⟩
         replace BK337 := blkb BK337 hb
         replace BK338 := blkb BK338 hb
         replace BK339 := blkb BK339 hb
         replace HB := belb HB hb
         (try clear hb)
         (try clear hb2)
         (try clear hk)
         (try clear hi)
         refine hK.out _ _ ⟨(blk_cell BK337.out 0).trans rfl, (blk_cell BK337.out 1).trans rfl, (blk_cell BK337.out 2).trans rfl, (blk_cell BK337.out 3).trans rfl, (blk_cell BK337.out 4).trans rfl, (blk_cell BK338.out 0).trans rfl, (blk_cell BK338.out 1).trans rfl, (blk_cell BK338.out 2).trans rfl⟩ (fun hHeld => ?_)
         clear hK K
         refine norm_ (a' := ?_) ?_ ?_
         rotate_left
         ·show Act.put _ (some 38) _ = _
          simp only [Act.put, List.setIfInBounds_toArray, List.set_cons_zero, List.set_cons_succ, i64_w, i32_w]
          rfl
         refine pure_ (i := 7) (N := some 31) (v := ?_) (a' := ?_) #[true, true, true, true, true, true, true, true, false, false, false, false, false] rfl rfl (any_of HT_.out (by kernel_rfl)) (fun _ _ _ h => h) (Or.inl ⟨by rfl, ?_⟩) ?_ ?_
         rotate_left
         ·intro w'
          go_simp
          with_reducible rfl
         rotate_left
         ·simp only [Act.put, List.setIfInBounds_toArray, List.set_cons_zero, List.set_cons_succ, i64_w, i32_w]
          rfl
         refine pure_ (i := 8) (N := some 39) (v := ?_) (a' := ?_) #[true, true, true, true, true, true, true, true, true, false, false, false, false] rfl rfl (any_of HT_.out (by kernel_rfl)) (fun _ _ _ h => h) (Or.inl ⟨by rfl, ?_⟩) ?_ ?_
         rotate_left
         ·intro w'
          go_simp
          with_reducible rfl
         rotate_left
         ·simp only [Act.put, List.setIfInBounds_toArray, List.set_cons_zero, List.set_cons_succ, i64_w, i32_w]
          rfl
         refine pure_ (i := 9) (N := some 40) (v := ?_) (a' := ?_) #[true, true, true, true, true, true, true, true, true, true, false, false, false] rfl rfl (any_of HT_.out (by kernel_rfl)) (fun _ _ _ h => h) (Or.inl ⟨by rfl, ?_⟩) ?_ ?_
         rotate_left
         ·intro w'
          go_simp
          with_reducible rfl
         rotate_left
         ·simp only [Act.put, List.setIfInBounds_toArray, List.set_cons_zero, List.set_cons_succ, i64_w, i32_w]
          rfl
         refine one_ (i := 10) (N := some 6) #[true, true, true, true, true, true, true, true, true, true, true, false, false] rfl rfl (one_of HT_.out (by kernel_rfl)) (by decide) (fun K hK => ?_)
         refine box_step ?hg (N := 6) ?hd (cs := #[.int .i64 0, .int .u64 0]) (t := 31) ?hr ?_; (case hd => rfl); (case hg => rfl); (case hr => first | (go_simp; done) | (go_simp; rfl))
         intro gb347 hg w77 hbox hb
         have BK347 := Aside0.mk (hbox)
         have GW347 := bels HB hg
         have GE347 := bels HB hg
         have NB337_347 := blkl BK337 hg
         have NB347_337 := blkg BK337 hg
         have NB338_347 := blkl BK338 hg
         have NB347_338 := blkg BK338 hg
         have NB339_347 := blkl BK339 hg
         have NB347_339 := blkg BK339 hg
         replace BK337 := blkb BK337 hb
         replace BK338 := blkb BK338 hb
         replace BK339 := blkb BK339 hb
         replace HB := belb HB hb
         clear hb hbox hg
         refine hK.out _ _ ⟨(blk_cell BK337.out 0).trans rfl, (blk_cell BK337.out 1).trans rfl, (blk_cell BK337.out 2).trans rfl, (blk_cell BK337.out 3).trans rfl, (blk_cell BK337.out 4).trans rfl, (blk_cell BK338.out 0).trans rfl, (blk_cell BK338.out 1).trans rfl, (blk_cell BK338.out 2).trans rfl⟩ (fun hHeld => ?_)
         clear hK K
         refine norm_ (a' := ?_) ?_ ?_
         rotate_left
         ·show Act.put _ (some 6) _ = _
          simp only [Act.put, List.setIfInBounds_toArray, List.set_cons_zero, List.set_cons_succ, i64_w, i32_w]
          rfl
         exact norm_ (by simp only [putAll, Act.put, List.setIfInBounds_toArray, List.set_cons_zero, List.set_cons_succ]) (hCont (gb347) _ ⟨hHeld, (blkt BK337), (blkt BK338), (blkt BK339), (blkt BK347), GW347.out, GE347.out, NB337_347.out, NB347_337.out, NB338_347.out, NB347_338.out, NB339_347.out, NB347_339.out, (belt HB)⟩)
        ·skip
         refine box_step ?hg (N := 6) ?hd (cs := #[.int .i64 0, .int .u64 0]) (t := 31) ?hr ?_; (case hd => rfl); (case hg => rfl); (case hr => first | (go_simp; done) | (go_simp; rfl))
         intro gb347 hg w76 hbox hb
         have BK347 := Aside0.mk (hbox)
         have GW347 := bels HB hg
         have GE347 := bels HB hg
         have NB337_347 := blkl BK337 hg
         have NB347_337 := blkg BK337 hg
         have NB338_347 := blkl BK338 hg
         have NB347_338 := blkg BK338 hg
         have NB339_347 := blkl BK339 hg
         have NB347_339 := blkg BK339 hg
         replace BK337 := blkb BK337 hb
         replace BK338 := blkb BK338 hb
         replace BK339 := blkb BK339 hb
         replace HB := belb HB hb
         clear hb hbox hg
         refine hK.out _ _ ⟨(blk_cell BK337.out 0).trans rfl, (blk_cell BK337.out 1).trans rfl, (blk_cell BK337.out 2).trans rfl, (blk_cell BK337.out 3).trans rfl, (blk_cell BK337.out 4).trans rfl, (blk_cell BK338.out 0).trans rfl, (blk_cell BK338.out 1).trans rfl, (blk_cell BK338.out 2).trans rfl⟩ (fun hHeld => ?_)
         clear hK K
         refine norm_ (a' := ?_) ?_ ?_
         rotate_left
         ·show Act.put _ (some 6) _ = _
          simp only [Act.put, List.setIfInBounds_toArray, List.set_cons_zero, List.set_cons_succ, i64_w, i32_w]
          rfl
         refine one_ (i := 6) (N := some 38) #[true, true, true, true, true, true, true, false, false, false, true, false, false] rfl rfl (one_of HT_.out (by kernel_rfl)) (by decide) (fun K hK => ?_)
         refine goes_ Tryz.func26 (by kernel_rfl) rfl #[.agg #[.int .i64 a0_1, .int .u64 a0_2], .agg #[.int .i64 t342, .int .u64 t343]] (by rfl) rfl rfl argt ?_
         with_reducible refine (wide_Int_Sub.calls a0_1 a0_2 t342 t343 t344 t345 true _ A45.out).mono ?_
         rintro e w77 ⟨rfl, hb⟩
         refine ⟨_, rfl, ?_⟩
         replace BK337 := blkb BK337 hb
         replace BK338 := blkb BK338 hb
         replace BK339 := blkb BK339 hb
         replace BK347 := blkb BK347 hb
         replace HB := belb HB hb
         (try clear hb)
         (try clear hb2)
         (try clear hk)
         (try clear hi)
         refine hK.out _ _ ⟨(blk_cell BK337.out 0).trans rfl, (blk_cell BK337.out 1).trans rfl, (blk_cell BK337.out 2).trans rfl, (blk_cell BK337.out 3).trans rfl, (blk_cell BK337.out 4).trans rfl, (blk_cell BK338.out 0).trans rfl, (blk_cell BK338.out 1).trans rfl, (blk_cell BK338.out 2).trans rfl⟩ (fun hHeld => ?_)
         clear hK K
         refine norm_ (a' := ?_) ?_ ?_
         rotate_left
         ·show Act.put _ (some 38) _ = _
          simp only [Act.put, List.setIfInBounds_toArray, List.set_cons_zero, List.set_cons_succ, i64_w, i32_w]
          rfl
         refine pure_ (i := 7) (N := some 31) (v := ?_) (a' := ?_) #[true, true, true, true, true, true, true, true, false, false, true, false, false] rfl rfl (any_of HT_.out (by kernel_rfl)) (fun _ _ _ h => h) (Or.inl ⟨by rfl, ?_⟩) ?_ ?_
         rotate_left
         ·intro w'
          go_simp
          with_reducible rfl
         rotate_left
         ·simp only [Act.put, List.setIfInBounds_toArray, List.set_cons_zero, List.set_cons_succ, i64_w, i32_w]
          rfl
         refine pure_ (i := 8) (N := some 39) (v := ?_) (a' := ?_) #[true, true, true, true, true, true, true, true, true, false, true, false, false] rfl rfl (any_of HT_.out (by kernel_rfl)) (fun _ _ _ h => h) (Or.inl ⟨by rfl, ?_⟩) ?_ ?_
         rotate_left
         ·intro w'
          go_simp
          with_reducible rfl
         rotate_left
         ·simp only [Act.put, List.setIfInBounds_toArray, List.set_cons_zero, List.set_cons_succ, i64_w, i32_w]
          rfl
         refine pure_ (i := 9) (N := some 40) (v := ?_) (a' := ?_) #[true, true, true, true, true, true, true, true, true, true, true, false, false] rfl rfl (any_of HT_.out (by kernel_rfl)) (fun _ _ _ h => h) (Or.inl ⟨by rfl, ?_⟩) ?_ ?_
         rotate_left
         ·intro w'
          go_simp
          with_reducible rfl
         rotate_left
         ·simp only [Act.put, List.setIfInBounds_toArray, List.set_cons_zero, List.set_cons_succ, i64_w, i32_w]
          rfl
         exact norm_ (by simp only [putAll, Act.put, List.setIfInBounds_toArray, List.set_cons_zero, List.set_cons_succ]) (hCont (gb347) _ ⟨hHeld, (blkt BK337), (blkt BK338), (blkt BK339), (blkt BK347), GW347.out, GE347.out, NB337_347.out, NB347_337.out, NB338_347.out, NB347_338.out, NB339_347.out, NB347_339.out, (belt HB)⟩)
       ·skip
        refine box_step ?hg (N := 6) ?hd (cs := #[.int .i64 0, .int .u64 0]) (t := 31) ?hr ?_; (case hd => rfl); (case hg => rfl); (case hr => first | (go_simp; done) | (go_simp; rfl))
        intro gb347 hg w75 hbox hb
        have BK347 := Aside0.mk (hbox)
        have GW347 := bels HB hg
        have GE347 := bels HB hg
        have NB337_347 := blkl BK337 hg
        have NB347_337 := blkg BK337 hg
        have NB338_347 := blkl BK338 hg
        have NB347_338 := blkg BK338 hg
        have NB339_347 := blkl BK339 hg
        have NB347_339 := blkg BK339 hg
        replace BK337 := blkb BK337 hb
        replace BK338 := blkb BK338 hb
        replace BK339 := blkb BK339 hb
        replace HB := belb HB hb
        clear hb hbox hg
        refine hK.out _ _ ⟨(blk_cell BK337.out 0).trans rfl, (blk_cell BK337.out 1).trans rfl, (blk_cell BK337.out 2).trans rfl, (blk_cell BK337.out 3).trans rfl, (blk_cell BK337.out 4).trans rfl, (blk_cell BK338.out 0).trans rfl, (blk_cell BK338.out 1).trans rfl, (blk_cell BK338.out 2).trans rfl⟩ (fun hHeld => ?_)
        clear hK K
        refine norm_ (a' := ?_) ?_ ?_
        rotate_left
        ·show Act.put _ (some 6) _ = _
         simp only [Act.put, List.setIfInBounds_toArray, List.set_cons_zero, List.set_cons_succ, i64_w, i32_w]
         rfl
        refine one_ (i := 5) (N := some 37) #[true, true, true, true, true, true, false, false, false, false, true, false, false] rfl rfl (one_of HT_.out (by kernel_rfl)) (by decide) (fun K hK => ?_)
        refine goes_ Tryz.func59 (by kernel_rfl) rfl #[.agg #[.int .u64 a1_0, .int .u32 a1_1, .int .u32 a1_2], .int .u64 a0_0] (by rfl) rfl rfl argt ?_
        with_reducible refine (pos_Pos_Distance.calls kj2 a1_0 a1_1 a1_2 a0_0 t342 t343 _ A44.out).mono ?_
        rintro e w76 ⟨rfl, hb⟩
        refine ⟨_, rfl, ?_⟩
        replace BK337 := blkb BK337 hb
        replace BK338 := blkb BK338 hb
        replace BK339 := blkb BK339 hb
        replace BK347 := blkb BK347 hb
        replace HB := belb HB hb
        (try clear hb)
        (try clear hb2)
        (try clear hk)
        (try clear hi)
        refine hK.out _ _ ⟨(blk_cell BK337.out 0).trans rfl, (blk_cell BK337.out 1).trans rfl, (blk_cell BK337.out 2).trans rfl, (blk_cell BK337.out 3).trans rfl, (blk_cell BK337.out 4).trans rfl, (blk_cell BK338.out 0).trans rfl, (blk_cell BK338.out 1).trans rfl, (blk_cell BK338.out 2).trans rfl⟩ (fun hHeld => ?_)
        clear hK K
        refine norm_ (a' := ?_) ?_ ?_
        rotate_left
        ·show Act.put _ (some 37) _ = _
         simp only [Act.put, List.setIfInBounds_toArray, List.set_cons_zero, List.set_cons_succ, i64_w, i32_w]
         rfl
        refine one_ (i := 6) (N := some 38) #[true, true, true, true, true, true, true, false, false, false, true, false, false] rfl rfl (one_of HT_.out (by kernel_rfl)) (by decide) (fun K hK => ?_)
        refine goes_ Tryz.func26 (by kernel_rfl) rfl #[.agg #[.int .i64 a0_1, .int .u64 a0_2], .agg #[.int .i64 t342, .int .u64 t343]] (by rfl) rfl rfl argt ?_
        with_reducible refine (wide_Int_Sub.calls a0_1 a0_2 t342 t343 t344 t345 true _ A45.out).mono ?_
        rintro e w77 ⟨rfl, hb⟩
        refine ⟨_, rfl, ?_⟩
        replace BK337 := blkb BK337 hb
        replace BK338 := blkb BK338 hb
        replace BK339 := blkb BK339 hb
        replace BK347 := blkb BK347 hb
        replace HB := belb HB hb
        (try clear hb)
        (try clear hb2)
        (try clear hk)
        (try clear hi)
        refine hK.out _ _ ⟨(blk_cell BK337.out 0).trans rfl, (blk_cell BK337.out 1).trans rfl, (blk_cell BK337.out 2).trans rfl, (blk_cell BK337.out 3).trans rfl, (blk_cell BK337.out 4).trans rfl, (blk_cell BK338.out 0).trans rfl, (blk_cell BK338.out 1).trans rfl, (blk_cell BK338.out 2).trans rfl⟩ (fun hHeld => ?_)
        clear hK K
        refine norm_ (a' := ?_) ?_ ?_
        rotate_left
        ·show Act.put _ (some 38) _ = _
         simp only [Act.put, List.setIfInBounds_toArray, List.set_cons_zero, List.set_cons_succ, i64_w, i32_w]
         rfl
        refine pure_ (i := 7) (N := some 31) (v := ?_) (a' := ?_) #[true, true, true, true, true, true, true, true, false, false, true, false, false] rfl rfl (any_of HT_.out (by kernel_rfl)) (fun _ _ _ h => h) (Or.inl ⟨by rfl, ?_⟩) ?_ ?_
        rotate_left
        ·intro w'
         go_simp
         with_reducible rfl
        rotate_left
        ·simp only [Act.put, List.setIfInBounds_toArray, List.set_cons_zero, List.set_cons_succ, i64_w, i32_w]
         rfl
        refine pure_ (i := 8) (N := some 39) (v := ?_) (a' := ?_) #[true, true, true, true, true, true, true, true, true, false, true, false, false] rfl rfl (any_of HT_.out (by kernel_rfl)) (fun _ _ _ h => h) (Or.inl ⟨by rfl, ?_⟩) ?_ ?_
        rotate_left
        ·intro w'
         go_simp
         with_reducible rfl
        rotate_left
        ·simp only [Act.put, List.setIfInBounds_toArray, List.set_cons_zero, List.set_cons_succ, i64_w, i32_w]
         rfl
        refine pure_ (i := 9) (N := some 40) (v := ?_) (a' := ?_) #[true, true, true, true, true, true, true, true, true, true, true, false, false] rfl rfl (any_of HT_.out (by kernel_rfl)) (fun _ _ _ h => h) (Or.inl ⟨by rfl, ?_⟩) ?_ ?_
        rotate_left
        ·intro w'
         go_simp
         with_reducible rfl
        rotate_left
        ·simp only [Act.put, List.setIfInBounds_toArray, List.set_cons_zero, List.set_cons_succ, i64_w, i32_w]
         rfl
        exact norm_ (by simp only [putAll, Act.put, List.setIfInBounds_toArray, List.set_cons_zero, List.set_cons_succ]) (hCont (gb347) _ ⟨hHeld, (blkt BK337), (blkt BK338), (blkt BK339), (blkt BK347), GW347.out, GE347.out, NB337_347.out, NB347_337.out, NB338_347.out, NB347_338.out, NB339_347.out, NB347_339.out, (belt HB)⟩)
      rintro gb347 w78 ⟨hS_, h0_, h1_, h2_, h3_, h4_, h5_, h6_, h7_, h8_, h9_, h10_, h11_, h12_⟩
      replace BK337 : Aside0 (w78.heap[gb337]? = some (.cells #[.int .u64 a0_0, .int .i64 a0_1, .int .u64 a0_2, .int .u64 a0_3, .int .i64 a0_4] 33 (0, 0))) := ⟨h0_⟩
      replace BK338 : Aside0 (w78.heap[gb338]? = some (.cells #[.int .u64 a1_0, .int .u32 a1_1, .int .u32 a1_2] 28 (0, 0))) := ⟨h1_⟩
      replace BK339 : Aside0 (w78.heap[gb339]? = some (.cells #[.int .u64 0, .int .i64 0, .int .u64 0, .int .u64 0, .int .i64 0] 33 (0, 0))) := ⟨h2_⟩
      have BK347 : Aside0 (w78.heap[gb347]? = some (.cells #[.int .i64 0, .int .u64 0] 31 (0, 0))) := ⟨h3_⟩
      have GW347 : Aside0 (w.heap.size ≤ gb347) := ⟨h4_⟩
      have GE347 : Aside0 (w.heap.size ≤ gb347) := ⟨h5_⟩
      have NB337_347 : Aside0 (gb337 ≠ gb347) := ⟨h6_⟩
      have NB347_337 : Aside0 (gb347 ≠ gb337) := ⟨h7_⟩
      have NB338_347 : Aside0 (gb338 ≠ gb347) := ⟨h8_⟩
      have NB347_338 : Aside0 (gb347 ≠ gb338) := ⟨h9_⟩
      have NB339_347 : Aside0 (gb339 ≠ gb347) := ⟨h10_⟩
      have NB347_339 : Aside0 (gb347 ≠ gb339) := ⟨h11_⟩
      replace HB : Aside0 (Below w.heap.size w w78) := ⟨h12_⟩
      clear h0_ h1_ h2_ h3_ h4_ h5_ h6_ h7_ h8_ h9_ h10_ h11_ h12_
      have hHeld : w78.cell? ⟨gb337, 0, none⟩ = some (.int .u64 a0_0) ∧ w78.cell? ⟨gb337, 1, none⟩ = some (.int .i64 a0_1) ∧ w78.cell? ⟨gb337, 2, none⟩ = some (.int .u64 a0_2) ∧ w78.cell? ⟨gb337, 3, none⟩ = some (.int .u64 a0_3) ∧ w78.cell? ⟨gb337, 4, none⟩ = some (.int .i64 a0_4) ∧ w78.cell? ⟨gb338, 0, none⟩ = some (.int .u64 a1_0) ∧ w78.cell? ⟨gb338, 1, none⟩ = some (.int .u32 a1_1) ∧ w78.cell? ⟨gb338, 2, none⟩ = some (.int .u32 a1_2) := hS_
      refine norm_ (a' := ?_) ?_ ?_
      rotate_left
      ·simp only [putAll, Act.put, List.setIfInBounds_toArray, List.set_cons_zero, List.set_cons_succ]
       rfl
      refine one_ (i := 11) (N := none) #[true, true, true, true, true, true, true, true, true, true, true, true, false] rfl rfl (one_of HT_.out (by kernel_rfl)) (by decide) (fun K hK => ?_)
      have hs79 : w78.cell? ⟨gb347, 0, none⟩ = some (.int .i64 0) := (blk_cell BK347.out 0).trans rfl
      have hfs79 := blk_frozen BK347.out 0
      have hns79_0 := NB337_347.out
      have hns79_1 := NB338_347.out
      have hns79_2 := NB339_347.out
      have hms79_0 := NB347_337.out
      have hms79_1 := NB347_338.out
      have hms79_2 := NB347_339.out
      have hs80 : w78.cell? ⟨gb347, 1, none⟩ = some (.int .u64 0) := (blk_cell BK347.out 1).trans rfl
      have hfs80 := blk_frozen BK347.out 1
      have hns80_0 := NB337_347.out
      have hns80_1 := NB338_347.out
      have hns80_2 := NB339_347.out
      have hms80_0 := NB347_337.out
      have hms80_1 := NB347_338.out
      have hms80_2 := NB347_339.out
      refine skip_ (w1 := ?_) (by rfl) rfl ?_ ?_
      rotate_left
      ·go_simp
       rfl
      refine hK.out _ _ ⟨((cell_far (p := ⟨gb347, _, none⟩) NB337_347.out _).trans (((cell_far (p := ⟨gb347, _, none⟩) NB337_347.out _).trans (hHeld.1)))), ((cell_far (p := ⟨gb347, _, none⟩) NB337_347.out _).trans (((cell_far (p := ⟨gb347, _, none⟩) NB337_347.out _).trans (hHeld.2.1)))), ((cell_far (p := ⟨gb347, _, none⟩) NB337_347.out _).trans (((cell_far (p := ⟨gb347, _, none⟩) NB337_347.out _).trans (hHeld.2.2.1)))), ((cell_far (p := ⟨gb347, _, none⟩) NB337_347.out _).trans (((cell_far (p := ⟨gb347, _, none⟩) NB337_347.out _).trans (hHeld.2.2.2.1)))), ((cell_far (p := ⟨gb347, _, none⟩) NB337_347.out _).trans (((cell_far (p := ⟨gb347, _, none⟩) NB337_347.out _).trans (hHeld.2.2.2.2.1)))), ((cell_far (p := ⟨gb347, _, none⟩) NB338_347.out _).trans (((cell_far (p := ⟨gb347, _, none⟩) NB338_347.out _).trans (hHeld.2.2.2.2.2.1)))), ((cell_far (p := ⟨gb347, _, none⟩) NB338_347.out _).trans (((cell_far (p := ⟨gb347, _, none⟩) NB338_347.out _).trans (hHeld.2.2.2.2.2.2.1)))), ((cell_far (p := ⟨gb347, _, none⟩) NB338_347.out _).trans (((cell_far (p := ⟨gb347, _, none⟩) NB338_347.out _).trans (hHeld.2.2.2.2.2.2.2))))⟩ (fun hHeld => ?_)
      clear hK K
      refine pure_ (i := 12) (N := some 7) (v := ?_) (a' := ?_) #[true, true, true, true, true, true, true, true, true, true, true, true, true] rfl rfl (any_of HT_.out (by kernel_rfl)) (fun _ _ _ h => h) (Or.inl ⟨by rfl, ?_⟩) ?_ ?_
      rotate_left
      ·intro w'
       go_simp
       with_reducible rfl
      rotate_left
      ·simp only [Act.put, List.setIfInBounds_toArray, List.set_cons_zero, List.set_cons_succ, i64_w, i32_w]
       rfl
      refine done_ (done_of HT_.out (by kernel_rfl)) ?_
      have hnb81 := NB337_338.out
      have hnc81 := NB338_337.out
      have hnb82 := NB337_339.out
      have hnc82 := NB339_337.out
      have hnb83 := NB337_347.out
      have hnc83 := NB347_337.out
      have hcz84_0 : w78.cell? ⟨gb337, 0, none⟩ = some (.int .u64 a0_0) := (blk_cell BK337.out 0).trans rfl
      have hcz84_1 : w78.cell? ⟨gb337, 1, none⟩ = some (.int .i64 a0_1) := (blk_cell BK337.out 1).trans rfl
      have hcz84_2 : w78.cell? ⟨gb337, 2, none⟩ = some (.int .u64 a0_2) := (blk_cell BK337.out 2).trans rfl
      have hcz84_3 : w78.cell? ⟨gb337, 3, none⟩ = some (.int .u64 a0_3) := (blk_cell BK337.out 3).trans rfl
      have hcz84_4 : w78.cell? ⟨gb337, 4, none⟩ = some (.int .i64 a0_4) := (blk_cell BK337.out 4).trans rfl
      have hfz84_0 := blk_frozen BK337.out 0
      have hfz84_1 := blk_frozen BK337.out 1
      have hfz84_2 := blk_frozen BK337.out 2
      have hfz84_3 := blk_frozen BK337.out 3
      have hfz84_4 := blk_frozen BK337.out 4
      have hnb85 := NB347_338.out
      have hnc85 := NB338_347.out
      have hnb86 := NB347_339.out
      have hnc86 := NB339_347.out
      have hcz87_0 : w78.cell? ⟨gb347, 0, none⟩ = some (.int .i64 0) := (blk_cell BK347.out 0).trans rfl
      have hcz87_1 : w78.cell? ⟨gb347, 1, none⟩ = some (.int .u64 0) := (blk_cell BK347.out 1).trans rfl
      have hfz87_0 := blk_frozen BK347.out 0
      have hfz87_1 := blk_frozen BK347.out 1
      have hnb88 := NB338_339.out
      have hnc88 := NB339_338.out
      have hcz89_0 : w78.cell? ⟨gb338, 0, none⟩ = some (.int .u64 a1_0) := (blk_cell BK338.out 0).trans rfl
      have hcz89_1 : w78.cell? ⟨gb338, 1, none⟩ = some (.int .u32 a1_1) := (blk_cell BK338.out 1).trans rfl
      have hcz89_2 : w78.cell? ⟨gb338, 2, none⟩ = some (.int .u32 a1_2) := (blk_cell BK338.out 2).trans rfl
      have hfz89_0 := blk_frozen BK338.out 0
      have hfz89_1 := blk_frozen BK338.out 1
      have hfz89_2 := blk_frozen BK338.out 2
      try go_wp2_with (first | ((with_reducible refine gate_dst (N := 8) rfl ?_); refine box_event ?hg (N := 8) ?hd (cs := #[.int .u64 0, .int .i64 0, .int .u64 0, .int .u64 0, .int .i64 0]) (t := 33) ?hr ?_; (case hd => rfl); (case hg => rfl); (case hr => first | (go_simp; done) | (go_simp; rfl)); intro gb348 hg w90 hbox hb; have BK348 := Aside0.mk (hbox); have GW348 := bels HB hg; have GE348 := bels HB hg; have NB337_348 := Aside0.mk ((by rw [hg]; exact Nat.ne_of_lt (blk_lt (g := gb337) (o := .cells #[.int .u64 a0_0, .int .i64 a0_1, .int .u64 a0_2, .int .u64 a0_3, .int .i64 a0_4] 33 (0, 0)) (by (with_reducible repeat (first | refine blk_drewN ?_ _ | refine blk_drew ?_ | refine blk_alloc ?_ _)); refine blk_far ?_ NB337_347.out _; (with_reducible repeat (first | refine blk_drewN ?_ _ | refine blk_drew ?_ | refine blk_alloc ?_ _)); refine blk_far ?_ NB337_347.out _; exact blkt BK337)) : gb337 ≠ gb348)); have NB348_337 := Aside0.mk ((by rw [hg]; exact Nat.ne_of_gt (blk_lt (g := gb337) (o := .cells #[.int .u64 a0_0, .int .i64 a0_1, .int .u64 a0_2, .int .u64 a0_3, .int .i64 a0_4] 33 (0, 0)) (by (with_reducible repeat (first | refine blk_drewN ?_ _ | refine blk_drew ?_ | refine blk_alloc ?_ _)); refine blk_far ?_ NB337_347.out _; (with_reducible repeat (first | refine blk_drewN ?_ _ | refine blk_drew ?_ | refine blk_alloc ?_ _)); refine blk_far ?_ NB337_347.out _; exact blkt BK337)) : gb348 ≠ gb337)); have NB338_348 := Aside0.mk ((by rw [hg]; exact Nat.ne_of_lt (blk_lt (g := gb338) (o := .cells #[.int .u64 a1_0, .int .u32 a1_1, .int .u32 a1_2] 28 (0, 0)) (by (with_reducible repeat (first | refine blk_drewN ?_ _ | refine blk_drew ?_ | refine blk_alloc ?_ _)); refine blk_far ?_ NB338_347.out _; (with_reducible repeat (first | refine blk_drewN ?_ _ | refine blk_drew ?_ | refine blk_alloc ?_ _)); refine blk_far ?_ NB338_347.out _; exact blkt BK338)) : gb338 ≠ gb348)); have NB348_338 := Aside0.mk ((by rw [hg]; exact Nat.ne_of_gt (blk_lt (g := gb338) (o := .cells #[.int .u64 a1_0, .int .u32 a1_1, .int .u32 a1_2] 28 (0, 0)) (by (with_reducible repeat (first | refine blk_drewN ?_ _ | refine blk_drew ?_ | refine blk_alloc ?_ _)); refine blk_far ?_ NB338_347.out _; (with_reducible repeat (first | refine blk_drewN ?_ _ | refine blk_drew ?_ | refine blk_alloc ?_ _)); refine blk_far ?_ NB338_347.out _; exact blkt BK338)) : gb348 ≠ gb338)); have NB339_348 := Aside0.mk ((by rw [hg]; exact Nat.ne_of_lt (blk_lt (g := gb339) (o := .cells #[.int .u64 0, .int .i64 0, .int .u64 0, .int .u64 0, .int .i64 0] 33 (0, 0)) (by (with_reducible repeat (first | refine blk_drewN ?_ _ | refine blk_drew ?_ | refine blk_alloc ?_ _)); refine blk_far ?_ NB339_347.out _; (with_reducible repeat (first | refine blk_drewN ?_ _ | refine blk_drew ?_ | refine blk_alloc ?_ _)); refine blk_far ?_ NB339_347.out _; exact blkt BK339)) : gb339 ≠ gb348)); have NB348_339 := Aside0.mk ((by rw [hg]; exact Nat.ne_of_gt (blk_lt (g := gb339) (o := .cells #[.int .u64 0, .int .i64 0, .int .u64 0, .int .u64 0, .int .i64 0] 33 (0, 0)) (by (with_reducible repeat (first | refine blk_drewN ?_ _ | refine blk_drew ?_ | refine blk_alloc ?_ _)); refine blk_far ?_ NB339_347.out _; (with_reducible repeat (first | refine blk_drewN ?_ _ | refine blk_drew ?_ | refine blk_alloc ?_ _)); refine blk_far ?_ NB339_347.out _; exact blkt BK339)) : gb348 ≠ gb339)); have NB347_348 := Aside0.mk ((by rw [hg]; exact Nat.ne_of_lt (blk_lt (g := gb347) (o := .cells #[.int .i64 t344, .int .u64 t345] 31 (0, 0)) (by (with_reducible repeat (first | refine blk_drewN ?_ _ | refine blk_drew ?_ | refine blk_alloc ?_ _)); refine blk_put (cs := #[.int .i64 t344, .int .u64 0]) ?_ 1 _ rfl; (with_reducible repeat (first | refine blk_drewN ?_ _ | refine blk_drew ?_ | refine blk_alloc ?_ _)); refine blk_put (cs := #[.int .i64 0, .int .u64 0]) ?_ 0 _ rfl; exact blkt BK347)) : gb347 ≠ gb348)); have NB348_347 := Aside0.mk ((by rw [hg]; exact Nat.ne_of_gt (blk_lt (g := gb347) (o := .cells #[.int .i64 t344, .int .u64 t345] 31 (0, 0)) (by (with_reducible repeat (first | refine blk_drewN ?_ _ | refine blk_drew ?_ | refine blk_alloc ?_ _)); refine blk_put (cs := #[.int .i64 t344, .int .u64 0]) ?_ 1 _ rfl; (with_reducible repeat (first | refine blk_drewN ?_ _ | refine blk_drew ?_ | refine blk_alloc ?_ _)); refine blk_put (cs := #[.int .i64 0, .int .u64 0]) ?_ 0 _ rfl; exact blkt BK347)) : gb348 ≠ gb347)); replace BK337 := Aside0.mk (blk_below (g := gb337) (o := .cells #[.int .u64 a0_0, .int .i64 a0_1, .int .u64 a0_2, .int .u64 a0_3, .int .i64 a0_4] 33 (0, 0)) (by (with_reducible repeat (first | refine blk_drewN ?_ _ | refine blk_drew ?_ | refine blk_alloc ?_ _)); refine blk_far ?_ NB337_347.out _; (with_reducible repeat (first | refine blk_drewN ?_ _ | refine blk_drew ?_ | refine blk_alloc ?_ _)); refine blk_far ?_ NB337_347.out _; exact blkt BK337) hb); replace BK338 := Aside0.mk (blk_below (g := gb338) (o := .cells #[.int .u64 a1_0, .int .u32 a1_1, .int .u32 a1_2] 28 (0, 0)) (by (with_reducible repeat (first | refine blk_drewN ?_ _ | refine blk_drew ?_ | refine blk_alloc ?_ _)); refine blk_far ?_ NB338_347.out _; (with_reducible repeat (first | refine blk_drewN ?_ _ | refine blk_drew ?_ | refine blk_alloc ?_ _)); refine blk_far ?_ NB338_347.out _; exact blkt BK338) hb); replace BK339 := Aside0.mk (blk_below (g := gb339) (o := .cells #[.int .u64 0, .int .i64 0, .int .u64 0, .int .u64 0, .int .i64 0] 33 (0, 0)) (by (with_reducible repeat (first | refine blk_drewN ?_ _ | refine blk_drew ?_ | refine blk_alloc ?_ _)); refine blk_far ?_ NB339_347.out _; (with_reducible repeat (first | refine blk_drewN ?_ _ | refine blk_drew ?_ | refine blk_alloc ?_ _)); refine blk_far ?_ NB339_347.out _; exact blkt BK339) hb); replace BK347 := Aside0.mk (blk_below (g := gb347) (o := .cells #[.int .i64 t344, .int .u64 t345] 31 (0, 0)) (by (with_reducible repeat (first | refine blk_drewN ?_ _ | refine blk_drew ?_ | refine blk_alloc ?_ _)); refine blk_put (cs := #[.int .i64 t344, .int .u64 0]) ?_ 1 _ rfl; (with_reducible repeat (first | refine blk_drewN ?_ _ | refine blk_drew ?_ | refine blk_alloc ?_ _)); refine blk_put (cs := #[.int .i64 0, .int .u64 0]) ?_ 0 _ rfl; exact blkt BK347) hb); replace HB := belb HB hb; clear hb hbox hg; have hnb91 := NB348_337.out; have hnc91 := NB337_348.out; have hnb92 := NB348_338.out; have hnc92 := NB338_348.out; have hnb93 := NB348_339.out; have hnc93 := NB339_348.out; have hnb94 := NB348_347.out; have hnc94 := NB347_348.out; have hcz95_0 : w90.cell? ⟨gb348, 0, none⟩ = some (.int .u64 0) := (blk_cell BK348.out 0).trans rfl; have hcz95_1 : w90.cell? ⟨gb348, 1, none⟩ = some (.int .i64 0) := (blk_cell BK348.out 1).trans rfl; have hcz95_2 : w90.cell? ⟨gb348, 2, none⟩ = some (.int .u64 0) := (blk_cell BK348.out 2).trans rfl; have hcz95_3 : w90.cell? ⟨gb348, 3, none⟩ = some (.int .u64 0) := (blk_cell BK348.out 3).trans rfl; have hcz95_4 : w90.cell? ⟨gb348, 4, none⟩ = some (.int .i64 0) := (blk_cell BK348.out 4).trans rfl; have hfz95_0 := blk_frozen BK348.out 0; have hfz95_1 := blk_frozen BK348.out 1; have hfz95_2 := blk_frozen BK348.out 2; have hfz95_3 := blk_frozen BK348.out 3; have hfz95_4 := blk_frozen BK348.out 4) | (go_at_call 52; (with_reducible refine (mean_Mean_Right.calls a0_0 t344 t345 (IntKind.u64.wrap (a0_3 - (IntKind.u64.wrap (a1_2)))) (wrap64 (a0_4 - 1)) false _ A47.out).mono ?_); rintro e w96 ⟨rfl, hb⟩; replace BK337 := Aside0.mk (blk_below (g := gb337) (o := .cells #[.int .u64 a0_0, .int .i64 a0_1, .int .u64 a0_2, .int .u64 a0_3, .int .i64 a0_4] 33 (0, 0)) (by (with_reducible repeat (first | refine blk_drewN ?_ _ | refine blk_drew ?_ | refine blk_alloc ?_ _)); refine blk_far ?_ NB337_348.out _; (with_reducible repeat (first | refine blk_drewN ?_ _ | refine blk_drew ?_ | refine blk_alloc ?_ _)); refine blk_far ?_ NB337_348.out _; (with_reducible repeat (first | refine blk_drewN ?_ _ | refine blk_drew ?_ | refine blk_alloc ?_ _)); refine blk_far ?_ NB337_348.out _; (with_reducible repeat (first | refine blk_drewN ?_ _ | refine blk_drew ?_ | refine blk_alloc ?_ _)); refine blk_far ?_ NB337_348.out _; (with_reducible repeat (first | refine blk_drewN ?_ _ | refine blk_drew ?_ | refine blk_alloc ?_ _)); refine blk_far ?_ NB337_348.out _; exact blkt BK337) hb); replace BK338 := Aside0.mk (blk_below (g := gb338) (o := .cells #[.int .u64 a1_0, .int .u32 a1_1, .int .u32 a1_2] 28 (0, 0)) (by (with_reducible repeat (first | refine blk_drewN ?_ _ | refine blk_drew ?_ | refine blk_alloc ?_ _)); refine blk_far ?_ NB338_348.out _; (with_reducible repeat (first | refine blk_drewN ?_ _ | refine blk_drew ?_ | refine blk_alloc ?_ _)); refine blk_far ?_ NB338_348.out _; (with_reducible repeat (first | refine blk_drewN ?_ _ | refine blk_drew ?_ | refine blk_alloc ?_ _)); refine blk_far ?_ NB338_348.out _; (with_reducible repeat (first | refine blk_drewN ?_ _ | refine blk_drew ?_ | refine blk_alloc ?_ _)); refine blk_far ?_ NB338_348.out _; (with_reducible repeat (first | refine blk_drewN ?_ _ | refine blk_drew ?_ | refine blk_alloc ?_ _)); refine blk_far ?_ NB338_348.out _; exact blkt BK338) hb); replace BK339 := Aside0.mk (blk_below (g := gb339) (o := .cells #[.int .u64 0, .int .i64 0, .int .u64 0, .int .u64 0, .int .i64 0] 33 (0, 0)) (by (with_reducible repeat (first | refine blk_drewN ?_ _ | refine blk_drew ?_ | refine blk_alloc ?_ _)); refine blk_far ?_ NB339_348.out _; (with_reducible repeat (first | refine blk_drewN ?_ _ | refine blk_drew ?_ | refine blk_alloc ?_ _)); refine blk_far ?_ NB339_348.out _; (with_reducible repeat (first | refine blk_drewN ?_ _ | refine blk_drew ?_ | refine blk_alloc ?_ _)); refine blk_far ?_ NB339_348.out _; (with_reducible repeat (first | refine blk_drewN ?_ _ | refine blk_drew ?_ | refine blk_alloc ?_ _)); refine blk_far ?_ NB339_348.out _; (with_reducible repeat (first | refine blk_drewN ?_ _ | refine blk_drew ?_ | refine blk_alloc ?_ _)); refine blk_far ?_ NB339_348.out _; exact blkt BK339) hb); replace BK347 := Aside0.mk (blk_below (g := gb347) (o := .cells #[.int .i64 t344, .int .u64 t345] 31 (0, 0)) (by (with_reducible repeat (first | refine blk_drewN ?_ _ | refine blk_drew ?_ | refine blk_alloc ?_ _)); refine blk_far ?_ NB347_348.out _; (with_reducible repeat (first | refine blk_drewN ?_ _ | refine blk_drew ?_ | refine blk_alloc ?_ _)); refine blk_far ?_ NB347_348.out _; (with_reducible repeat (first | refine blk_drewN ?_ _ | refine blk_drew ?_ | refine blk_alloc ?_ _)); refine blk_far ?_ NB347_348.out _; (with_reducible repeat (first | refine blk_drewN ?_ _ | refine blk_drew ?_ | refine blk_alloc ?_ _)); refine blk_far ?_ NB347_348.out _; (with_reducible repeat (first | refine blk_drewN ?_ _ | refine blk_drew ?_ | refine blk_alloc ?_ _)); refine blk_far ?_ NB347_348.out _; exact blkt BK347) hb); replace BK348 := Aside0.mk (blk_below (g := gb348) (o := .cells #[.int .u64 a0_0, .int .i64 t344, .int .u64 t345, .int .u64 (IntKind.u64.wrap (a0_3 - (IntKind.u64.wrap (a1_2)))), .int .i64 (wrap64 (a0_4 - 1))] 33 (0, 0)) (by (with_reducible repeat (first | refine blk_drewN ?_ _ | refine blk_drew ?_ | refine blk_alloc ?_ _)); refine blk_put (cs := #[.int .u64 a0_0, .int .i64 t344, .int .u64 t345, .int .u64 (IntKind.u64.wrap (a0_3 - (IntKind.u64.wrap (a1_2)))), .int .i64 0]) ?_ 4 _ rfl; (with_reducible repeat (first | refine blk_drewN ?_ _ | refine blk_drew ?_ | refine blk_alloc ?_ _)); refine blk_put (cs := #[.int .u64 a0_0, .int .i64 t344, .int .u64 t345, .int .u64 0, .int .i64 0]) ?_ 3 _ rfl; (with_reducible repeat (first | refine blk_drewN ?_ _ | refine blk_drew ?_ | refine blk_alloc ?_ _)); refine blk_put (cs := #[.int .u64 a0_0, .int .i64 t344, .int .u64 0, .int .u64 0, .int .i64 0]) ?_ 2 _ rfl; (with_reducible repeat (first | refine blk_drewN ?_ _ | refine blk_drew ?_ | refine blk_alloc ?_ _)); refine blk_put (cs := #[.int .u64 a0_0, .int .i64 0, .int .u64 0, .int .u64 0, .int .i64 0]) ?_ 1 _ rfl; (with_reducible repeat (first | refine blk_drewN ?_ _ | refine blk_drew ?_ | refine blk_alloc ?_ _)); refine blk_put (cs := #[.int .u64 0, .int .i64 0, .int .u64 0, .int .u64 0, .int .i64 0]) ?_ 0 _ rfl; exact blkt BK348) hb); replace HB := belb HB hb; (try clear hb); (try clear hb2); (try clear hk); (try clear hi); have hcz97_0 : w96.cell? ⟨gb339, 0, none⟩ = some (.int .u64 0) := (blk_cell BK339.out 0).trans rfl; have hcz97_1 : w96.cell? ⟨gb339, 1, none⟩ = some (.int .i64 0) := (blk_cell BK339.out 1).trans rfl; have hcz97_2 : w96.cell? ⟨gb339, 2, none⟩ = some (.int .u64 0) := (blk_cell BK339.out 2).trans rfl; have hcz97_3 : w96.cell? ⟨gb339, 3, none⟩ = some (.int .u64 0) := (blk_cell BK339.out 3).trans rfl; have hcz97_4 : w96.cell? ⟨gb339, 4, none⟩ = some (.int .i64 0) := (blk_cell BK339.out 4).trans rfl; have hfz97_0 := blk_frozen BK339.out 0; have hfz97_1 := blk_frozen BK339.out 1; have hfz97_2 := blk_frozen BK339.out 2; have hfz97_3 := blk_frozen BK339.out 3; have hfz97_4 := blk_frozen BK339.out 4))
      refine bodyPost_ret (results_ct rfl _ _ gb339 33 #[.int .u64 0, .int .i64 0, .int .u64 0, .int .u64 0, .int .i64 0] (0, 0) _ rfl (by (with_reducible repeat (first | refine blk_drewN ?_ _ | refine blk_drew ?_ | refine blk_alloc ?_ _)); refine blk_put (cs := #[.int .u64 0, .int .i64 0, .int .u64 0, .int .u64 0, .int .i64 0]) ?_ 4 _ rfl; (with_reducible repeat (first | refine blk_drewN ?_ _ | refine blk_drew ?_ | refine blk_alloc ?_ _)); refine blk_put (cs := #[.int .u64 0, .int .i64 0, .int .u64 0, .int .u64 0, .int .i64 0]) ?_ 3 _ rfl; (with_reducible repeat (first | refine blk_drewN ?_ _ | refine blk_drew ?_ | refine blk_alloc ?_ _)); refine blk_put (cs := #[.int .u64 0, .int .i64 0, .int .u64 0, .int .u64 0, .int .i64 0]) ?_ 2 _ rfl; (with_reducible repeat (first | refine blk_drewN ?_ _ | refine blk_drew ?_ | refine blk_alloc ?_ _)); refine blk_put (cs := #[.int .u64 0, .int .i64 0, .int .u64 0, .int .u64 0, .int .i64 0]) ?_ 1 _ rfl; (with_reducible repeat (first | refine blk_drewN ?_ _ | refine blk_drew ?_ | refine blk_alloc ?_ _)); refine blk_put (cs := #[.int .u64 0, .int .i64 0, .int .u64 0, .int .u64 0, .int .i64 0]) ?_ 0 _ rfl; exact blkt BK339) Tryz.underlying33 rfl (by kernel_rfl)) rfl ?_
      exact ⟨by first | rfl | (simp [errW_none, errW_some] <;> rfl) | (simp [*, errW_none, errW_some] <;> rfl), belt HB⟩
    ·replace c46 := Bool.eq_false_iff.mpr c46
     subst c46
     have H1 : (some (0, 0, 0, 0, 0, false)) = some (r1, r2, r3, r4, r5, r6) := by rw [if_neg (show ¬ (false = true) by decide)] at H; exact H
     clear H
     have H := H1
     clear H1
     simp only [Option.some.injEq, Prod.mk.injEq] at H
     obtain ⟨rfl, rfl, rfl, rfl, rfl, rfl⟩ := H
     try go_wp2
     replace BK337 := Aside0.mk (blk_drew BK337.out)
     replace BK338 := Aside0.mk (blk_drew BK338.out)
     replace BK339 := Aside0.mk (blk_drew BK339.out)
     replace HB := Aside0.mk (below_drew1 HB.out)
     refine start_ (n := 13) (S := fun w' => w'.cell? ⟨gb337, 0, none⟩ = some (.int .u64 a0_0) ∧ w'.cell? ⟨gb337, 1, none⟩ = some (.int .i64 a0_1) ∧ w'.cell? ⟨gb337, 2, none⟩ = some (.int .u64 a0_2) ∧ w'.cell? ⟨gb337, 3, none⟩ = some (.int .u64 a0_3) ∧ w'.cell? ⟨gb337, 4, none⟩ = some (.int .i64 a0_4) ∧ w'.cell? ⟨gb338, 0, none⟩ = some (.int .u64 a1_0) ∧ w'.cell? ⟨gb338, 1, none⟩ = some (.int .u32 a1_1) ∧ w'.cell? ⟨gb338, 2, none⟩ = some (.int .u32 a1_2)) (ds := []) #[false, false, false, false, false, false, false, false, false, false, false, false, false] (by kernel_rfl) rfl rfl ⟨(blk_cell BK337.out 0).trans rfl, (blk_cell BK337.out 1).trans rfl, (blk_cell BK337.out 2).trans rfl, (blk_cell BK337.out 3).trans rfl, (blk_cell BK337.out 4).trans rfl, (blk_cell BK338.out 0).trans rfl, (blk_cell BK338.out 1).trans rfl, (blk_cell BK338.out 2).trans rfl⟩ (fun hHeld => ?_); refine with_tabW mean_Mean_Take.tab3 mean_Mean_Take.bits3 (fun HT_ HW_ => ?_)
     generalize wc.drew = w98 at BK337 BK338 BK339 HB hHeld ⊢
     refine pure_ (i := 0) (N := some 32) (v := ?_) (a' := ?_) #[true, false, false, false, false, false, false, false, false, false, false, false, false] rfl rfl (any_of HT_.out (by kernel_rfl)) (fun _ _ _ h => h) (Or.inl ⟨by rfl, ?_⟩) ?_ ?_
     rotate_left
     ·intro w'
      go_simp
      with_reducible rfl
     rotate_left
     ·simp only [Act.put, List.setIfInBounds_toArray, List.set_cons_zero, List.set_cons_succ, i64_w, i32_w]
      rfl
     refine pure_ (i := 3) (N := some 35) (v := ?_) (a' := ?_) #[true, false, false, true, false, false, false, false, false, false, false, false, false] rfl rfl (any_of HT_.out (by kernel_rfl)) (fun _ _ _ h => h) (Or.inl ⟨by rfl, ?_⟩) ?_ ?_
     rotate_left
     ·intro w'
      go_simp
      with_reducible rfl
     rotate_left
     ·simp only [Act.put, List.setIfInBounds_toArray, List.set_cons_zero, List.set_cons_succ, i64_w, i32_w]
      rfl
     refine take_ (i := 1) (N := some 33) (v := ?_) (a' := ?_) #[true, true, false, true, false, false, false, false, false, false, false, false, false] rfl rfl (take_ofW HT_.out HW_.out (by kernel_rfl)) (fun _ _ _ h => h) (Or.inl ⟨by rfl, ?_⟩) hHeld ?_ ?_
     rotate_left
     ·rintro w' ⟨s0, s1, s2, s3, s4, s5, s6, s7⟩
      go_simp
      with_reducible rfl
     rotate_left
     ·simp only [Act.put, List.setIfInBounds_toArray, List.set_cons_zero, List.set_cons_succ, i64_w, i32_w]
      rfl
     refine take_ (i := 2) (N := some 34) (v := ?_) (a' := ?_) #[true, true, true, true, false, false, false, false, false, false, false, false, false] rfl rfl (take_ofW HT_.out HW_.out (by kernel_rfl)) (fun _ _ _ h => h) (Or.inl ⟨by rfl, ?_⟩) hHeld ?_ ?_
     rotate_left
     ·rintro w' ⟨s0, s1, s2, s3, s4, s5, s6, s7⟩
      go_simp
      with_reducible rfl
     rotate_left
     ·simp only [Act.put, List.setIfInBounds_toArray, List.set_cons_zero, List.set_cons_succ, i64_w, i32_w]
      rfl
     refine take_ (i := 4) (N := some 36) (v := ?_) (a' := ?_) #[true, true, true, true, true, false, false, false, false, false, false, false, false] rfl rfl (take_ofW HT_.out HW_.out (by kernel_rfl)) (fun _ _ _ h => h) (Or.inl ⟨by rfl, ?_⟩) hHeld ?_ ?_
     rotate_left
     ·rintro w' ⟨s0, s1, s2, s3, s4, s5, s6, s7⟩
      go_simp
      with_reducible rfl
     rotate_left
     ·simp only [Act.put, List.setIfInBounds_toArray, List.set_cons_zero, List.set_cons_succ, i64_w, i32_w]
      rfl
     refine join_ (σ := Nat) 2 #[true, true, true, true, true, true, true, true, true, true, true, false, false] (fun s_ => [(37, .agg #[.int .i64 t342, .int .u64 t343]), (38, .tuple #[.agg #[.int .i64 t344, .int .u64 t345], .bool false]), (6, .pointer (some ⟨s_, 0, none⟩)), (31, .tuple #[.agg #[.int .i64 t344, .int .u64 t345], .bool false]), (39, .agg #[.int .i64 t344, .int .u64 t345]), (40, .bool false)]) (fun s_ w' => (w'.cell? ⟨gb337, 0, none⟩ = some (.int .u64 a0_0) ∧ w'.cell? ⟨gb337, 1, none⟩ = some (.int .i64 a0_1) ∧ w'.cell? ⟨gb337, 2, none⟩ = some (.int .u64 a0_2) ∧ w'.cell? ⟨gb337, 3, none⟩ = some (.int .u64 a0_3) ∧ w'.cell? ⟨gb337, 4, none⟩ = some (.int .i64 a0_4) ∧ w'.cell? ⟨gb338, 0, none⟩ = some (.int .u64 a1_0) ∧ w'.cell? ⟨gb338, 1, none⟩ = some (.int .u32 a1_1) ∧ w'.cell? ⟨gb338, 2, none⟩ = some (.int .u32 a1_2)) ∧ (w'.heap[gb337]? = some (.cells #[.int .u64 a0_0, .int .i64 a0_1, .int .u64 a0_2, .int .u64 a0_3, .int .i64 a0_4] 33 (0, 0))) ∧ (w'.heap[gb338]? = some (.cells #[.int .u64 a1_0, .int .u32 a1_1, .int .u32 a1_2] 28 (0, 0))) ∧ (w'.heap[gb339]? = some (.cells #[.int .u64 0, .int .i64 0, .int .u64 0, .int .u64 0, .int .i64 0] 33 (0, 0))) ∧ (w'.heap[s_]? = some (.cells #[.int .i64 0, .int .u64 0] 31 (0, 0))) ∧ (w.heap.size ≤ s_) ∧ (w.heap.size ≤ s_) ∧ (gb337 ≠ s_) ∧ (s_ ≠ gb337) ∧ (gb338 ≠ s_) ∧ (s_ ≠ gb338) ∧ (gb339 ≠ s_) ∧ (s_ ≠ gb339) ∧ (Below w.heap.size w w')) ?_ ?_
     rotate_left
     ·intro hCont
      refine two_ (i := 5) (j := 10) (Ni := some 37) (Nj := some 6) #[true, true, true, true, true, true, false, false, false, false, false, false, false] #[true, true, true, true, true, false, false, false, false, false, true, false, false] rfl rfl rfl rfl (two_of HT_.out (by kernel_rfl)) (by decide) (by decide) (fun K hK => ?_) (fun K hK => ?_)
      ·skip
       refine goes_ Tryz.func59 (by kernel_rfl) rfl #[.agg #[.int .u64 a1_0, .int .u32 a1_1, .int .u32 a1_2], .int .u64 a0_0] (by rfl) rfl rfl argt ?_
       with_reducible refine (pos_Pos_Distance.calls kj2 a1_0 a1_1 a1_2 a0_0 t342 t343 _ A44.out).mono ?_
       rintro e w99 ⟨rfl, hb⟩
       refine ⟨_, rfl, ?_⟩
       replace BK337 := blkb BK337 hb
       replace BK338 := blkb BK338 hb
       replace BK339 := blkb BK339 hb
       replace HB := belb HB hb
       (try clear hb)
       (try clear hb2)
       (try clear hk)
       (try clear hi)
       refine hK.out _ _ ⟨(blk_cell BK337.out 0).trans rfl, (blk_cell BK337.out 1).trans rfl, (blk_cell BK337.out 2).trans rfl, (blk_cell BK337.out 3).trans rfl, (blk_cell BK337.out 4).trans rfl, (blk_cell BK338.out 0).trans rfl, (blk_cell BK338.out 1).trans rfl, (blk_cell BK338.out 2).trans rfl⟩ (fun hHeld => ?_)
       clear hK K
       refine norm_ (a' := ?_) ?_ ?_
       rotate_left
       ·show Act.put _ (some 37) _ = _
        simp only [Act.put, List.setIfInBounds_toArray, List.set_cons_zero, List.set_cons_succ, i64_w, i32_w]
        rfl
       refine two_ (i := 6) (j := 10) (Ni := some 38) (Nj := some 6) #[true, true, true, true, true, true, true, false, false, false, false, false, false] #[true, true, true, true, true, true, false, false, false, false, true, false, false] rfl rfl rfl rfl (two_of HT_.out (by kernel_rfl)) (by decide) (by decide) (fun K hK => ?_) (fun K hK => ?_)
       ·skip
        refine goes_ Tryz.func26 (by kernel_rfl) rfl #[.agg #[.int .i64 a0_1, .int .u64 a0_2], .agg #[.int .i64 t342, .int .u64 t343]] (by rfl) rfl rfl argt ?_
        with_reducible refine (wide_Int_Sub.calls a0_1 a0_2 t342 t343 t344 t345 false _ A45.out).mono ?_
        rintro e w100 ⟨rfl, hb⟩
        refine ⟨_, rfl, ?_⟩
        replace BK337 := blkb BK337 hb
        replace BK338 := blkb BK338 hb
        replace BK339 := blkb BK339 hb
        replace HB := belb HB hb
        (try clear hb)
        (try clear hb2)
        (try clear hk)
        (try clear hi)
        refine hK.out _ _ ⟨(blk_cell BK337.out 0).trans rfl, (blk_cell BK337.out 1).trans rfl, (blk_cell BK337.out 2).trans rfl, (blk_cell BK337.out 3).trans rfl, (blk_cell BK337.out 4).trans rfl, (blk_cell BK338.out 0).trans rfl, (blk_cell BK338.out 1).trans rfl, (blk_cell BK338.out 2).trans rfl⟩ (fun hHeld => ?_)
        clear hK K
        refine norm_ (a' := ?_) ?_ ?_
        rotate_left
        ·show Act.put _ (some 38) _ = _
         simp only [Act.put, List.setIfInBounds_toArray, List.set_cons_zero, List.set_cons_succ, i64_w, i32_w]
         rfl
        refine pure_ (i := 7) (N := some 31) (v := ?_) (a' := ?_) #[true, true, true, true, true, true, true, true, false, false, false, false, false] rfl rfl (any_of HT_.out (by kernel_rfl)) (fun _ _ _ h => h) (Or.inl ⟨by rfl, ?_⟩) ?_ ?_
        rotate_left
        ·intro w'
         go_simp
         with_reducible rfl
        rotate_left
        ·simp only [Act.put, List.setIfInBounds_toArray, List.set_cons_zero, List.set_cons_succ, i64_w, i32_w]
         rfl
        refine pure_ (i := 8) (N := some 39) (v := ?_) (a' := ?_) #[true, true, true, true, true, true, true, true, true, false, false, false, false] rfl rfl (any_of HT_.out (by kernel_rfl)) (fun _ _ _ h => h) (Or.inl ⟨by rfl, ?_⟩) ?_ ?_
        rotate_left
        ·intro w'
         go_simp
         with_reducible rfl
        rotate_left
        ·simp only [Act.put, List.setIfInBounds_toArray, List.set_cons_zero, List.set_cons_succ, i64_w, i32_w]
         rfl
        refine pure_ (i := 9) (N := some 40) (v := ?_) (a' := ?_) #[true, true, true, true, true, true, true, true, true, true, false, false, false] rfl rfl (any_of HT_.out (by kernel_rfl)) (fun _ _ _ h => h) (Or.inl ⟨by rfl, ?_⟩) ?_ ?_
        rotate_left
        ·intro w'
         go_simp
         with_reducible rfl
        rotate_left
        ·simp only [Act.put, List.setIfInBounds_toArray, List.set_cons_zero, List.set_cons_succ, i64_w, i32_w]
         rfl
        refine one_ (i := 10) (N := some 6) #[true, true, true, true, true, true, true, true, true, true, true, false, false] rfl rfl (one_of HT_.out (by kernel_rfl)) (by decide) (fun K hK => ?_)
        refine box_step ?hg (N := 6) ?hd (cs := #[.int .i64 0, .int .u64 0]) (t := 31) ?hr ?_; (case hd => rfl); (case hg => rfl); (case hr => first | (go_simp; done) | (go_simp; rfl))
        intro gb347 hg w101 hbox hb
        have BK347 := Aside0.mk (hbox)
        have GW347 := bels HB hg
        have GE347 := bels HB hg
        have NB337_347 := blkl BK337 hg
        have NB347_337 := blkg BK337 hg
        have NB338_347 := blkl BK338 hg
        have NB347_338 := blkg BK338 hg
        have NB339_347 := blkl BK339 hg
        have NB347_339 := blkg BK339 hg
        replace BK337 := blkb BK337 hb
        replace BK338 := blkb BK338 hb
        replace BK339 := blkb BK339 hb
        replace HB := belb HB hb
        clear hb hbox hg
        refine hK.out _ _ ⟨(blk_cell BK337.out 0).trans rfl, (blk_cell BK337.out 1).trans rfl, (blk_cell BK337.out 2).trans rfl, (blk_cell BK337.out 3).trans rfl, (blk_cell BK337.out 4).trans rfl, (blk_cell BK338.out 0).trans rfl, (blk_cell BK338.out 1).trans rfl, (blk_cell BK338.out 2).trans rfl⟩ (fun hHeld => ?_)
        clear hK K
        refine norm_ (a' := ?_) ?_ ?_
        rotate_left
        ·show Act.put _ (some 6) _ = _
         simp only [Act.put, List.setIfInBounds_toArray, List.set_cons_zero, List.set_cons_succ, i64_w, i32_w]
         rfl
        exact norm_ (by simp only [putAll, Act.put, List.setIfInBounds_toArray, List.set_cons_zero, List.set_cons_succ]) (hCont (gb347) _ ⟨hHeld, (blkt BK337), (blkt BK338), (blkt BK339), (blkt BK347), GW347.out, GE347.out, NB337_347.out, NB347_337.out, NB338_347.out, NB347_338.out, NB339_347.out, NB347_339.out, (belt HB)⟩)
       ·skip
        refine box_step ?hg (N := 6) ?hd (cs := #[.int .i64 0, .int .u64 0]) (t := 31) ?hr ?_; (case hd => rfl); (case hg => rfl); (case hr => first | (go_simp; done) | (go_simp; rfl))
        intro gb347 hg w100 hbox hb
        have BK347 := Aside0.mk (hbox)
        have GW347 := bels HB hg
        have GE347 := bels HB hg
        have NB337_347 := blkl BK337 hg
        have NB347_337 := blkg BK337 hg
        have NB338_347 := blkl BK338 hg
        have NB347_338 := blkg BK338 hg
        have NB339_347 := blkl BK339 hg
        have NB347_339 := blkg BK339 hg
        replace BK337 := blkb BK337 hb
        replace BK338 := blkb BK338 hb
        replace BK339 := blkb BK339 hb
        replace HB := belb HB hb
        clear hb hbox hg
        refine hK.out _ _ ⟨(blk_cell BK337.out 0).trans rfl, (blk_cell BK337.out 1).trans rfl, (blk_cell BK337.out 2).trans rfl, (blk_cell BK337.out 3).trans rfl, (blk_cell BK337.out 4).trans rfl, (blk_cell BK338.out 0).trans rfl, (blk_cell BK338.out 1).trans rfl, (blk_cell BK338.out 2).trans rfl⟩ (fun hHeld => ?_)
        clear hK K
        refine norm_ (a' := ?_) ?_ ?_
        rotate_left
        ·show Act.put _ (some 6) _ = _
         simp only [Act.put, List.setIfInBounds_toArray, List.set_cons_zero, List.set_cons_succ, i64_w, i32_w]
         rfl
        refine one_ (i := 6) (N := some 38) #[true, true, true, true, true, true, true, false, false, false, true, false, false] rfl rfl (one_of HT_.out (by kernel_rfl)) (by decide) (fun K hK => ?_)
        refine goes_ Tryz.func26 (by kernel_rfl) rfl #[.agg #[.int .i64 a0_1, .int .u64 a0_2], .agg #[.int .i64 t342, .int .u64 t343]] (by rfl) rfl rfl argt ?_
        with_reducible refine (wide_Int_Sub.calls a0_1 a0_2 t342 t343 t344 t345 false _ A45.out).mono ?_
        rintro e w101 ⟨rfl, hb⟩
        refine ⟨_, rfl, ?_⟩
        replace BK337 := blkb BK337 hb
        replace BK338 := blkb BK338 hb
        replace BK339 := blkb BK339 hb
        replace BK347 := blkb BK347 hb
        replace HB := belb HB hb
        (try clear hb)
        (try clear hb2)
        (try clear hk)
        (try clear hi)
        refine hK.out _ _ ⟨(blk_cell BK337.out 0).trans rfl, (blk_cell BK337.out 1).trans rfl, (blk_cell BK337.out 2).trans rfl, (blk_cell BK337.out 3).trans rfl, (blk_cell BK337.out 4).trans rfl, (blk_cell BK338.out 0).trans rfl, (blk_cell BK338.out 1).trans rfl, (blk_cell BK338.out 2).trans rfl⟩ (fun hHeld => ?_)
        clear hK K
        refine norm_ (a' := ?_) ?_ ?_
        rotate_left
        ·show Act.put _ (some 38) _ = _
         simp only [Act.put, List.setIfInBounds_toArray, List.set_cons_zero, List.set_cons_succ, i64_w, i32_w]
         rfl
        refine pure_ (i := 7) (N := some 31) (v := ?_) (a' := ?_) #[true, true, true, true, true, true, true, true, false, false, true, false, false] rfl rfl (any_of HT_.out (by kernel_rfl)) (fun _ _ _ h => h) (Or.inl ⟨by rfl, ?_⟩) ?_ ?_
        rotate_left
        ·intro w'
         go_simp
         with_reducible rfl
        rotate_left
        ·simp only [Act.put, List.setIfInBounds_toArray, List.set_cons_zero, List.set_cons_succ, i64_w, i32_w]
         rfl
        refine pure_ (i := 8) (N := some 39) (v := ?_) (a' := ?_) #[true, true, true, true, true, true, true, true, true, false, true, false, false] rfl rfl (any_of HT_.out (by kernel_rfl)) (fun _ _ _ h => h) (Or.inl ⟨by rfl, ?_⟩) ?_ ?_
        rotate_left
        ·intro w'
         go_simp
         with_reducible rfl
        rotate_left
        ·simp only [Act.put, List.setIfInBounds_toArray, List.set_cons_zero, List.set_cons_succ, i64_w, i32_w]
         rfl
        refine pure_ (i := 9) (N := some 40) (v := ?_) (a' := ?_) #[true, true, true, true, true, true, true, true, true, true, true, false, false] rfl rfl (any_of HT_.out (by kernel_rfl)) (fun _ _ _ h => h) (Or.inl ⟨by rfl, ?_⟩) ?_ ?_
        rotate_left
        ·intro w'
         go_simp
         with_reducible rfl
        rotate_left
        ·simp only [Act.put, List.setIfInBounds_toArray, List.set_cons_zero, List.set_cons_succ, i64_w, i32_w]
         rfl
        exact norm_ (by simp only [putAll, Act.put, List.setIfInBounds_toArray, List.set_cons_zero, List.set_cons_succ]) (hCont (gb347) _ ⟨hHeld, (blkt BK337), (blkt BK338), (blkt BK339), (blkt BK347), GW347.out, GE347.out, NB337_347.out, NB347_337.out, NB338_347.out, NB347_338.out, NB339_347.out, NB347_339.out, (belt HB)⟩)
      ·skip
       refine box_step ?hg (N := 6) ?hd (cs := #[.int .i64 0, .int .u64 0]) (t := 31) ?hr ?_; (case hd => rfl); (case hg => rfl); (case hr => first | (go_simp; done) | (go_simp; rfl))
       intro gb347 hg w99 hbox hb
       have BK347 := Aside0.mk (hbox)
       have GW347 := bels HB hg
       have GE347 := bels HB hg
       have NB337_347 := blkl BK337 hg
       have NB347_337 := blkg BK337 hg
       have NB338_347 := blkl BK338 hg
       have NB347_338 := blkg BK338 hg
       have NB339_347 := blkl BK339 hg
       have NB347_339 := blkg BK339 hg
       replace BK337 := blkb BK337 hb
       replace BK338 := blkb BK338 hb
       replace BK339 := blkb BK339 hb
       replace HB := belb HB hb
       clear hb hbox hg
       refine hK.out _ _ ⟨(blk_cell BK337.out 0).trans rfl, (blk_cell BK337.out 1).trans rfl, (blk_cell BK337.out 2).trans rfl, (blk_cell BK337.out 3).trans rfl, (blk_cell BK337.out 4).trans rfl, (blk_cell BK338.out 0).trans rfl, (blk_cell BK338.out 1).trans rfl, (blk_cell BK338.out 2).trans rfl⟩ (fun hHeld => ?_)
       clear hK K
       refine norm_ (a' := ?_) ?_ ?_
       rotate_left
       ·show Act.put _ (some 6) _ = _
        simp only [Act.put, List.setIfInBounds_toArray, List.set_cons_zero, List.set_cons_succ, i64_w, i32_w]
        rfl
       refine one_ (i := 5) (N := some 37) #[true, true, true, true, true, true, false, false, false, false, true, false, false] rfl rfl (one_of HT_.out (by kernel_rfl)) (by decide) (fun K hK => ?_)
       refine goes_ Tryz.func59 (by kernel_rfl) rfl #[.agg #[.int .u64 a1_0, .int .u32 a1_1, .int .u32 a1_2], .int .u64 a0_0] (by rfl) rfl rfl argt ?_
       with_reducible refine (pos_Pos_Distance.calls kj2 a1_0 a1_1 a1_2 a0_0 t342 t343 _ A44.out).mono ?_
       rintro e w100 ⟨rfl, hb⟩
       refine ⟨_, rfl, ?_⟩
       replace BK337 := blkb BK337 hb
       replace BK338 := blkb BK338 hb
       replace BK339 := blkb BK339 hb
       replace BK347 := blkb BK347 hb
       replace HB := belb HB hb
       (try clear hb)
       (try clear hb2)
       (try clear hk)
       (try clear hi)
       refine hK.out _ _ ⟨(blk_cell BK337.out 0).trans rfl, (blk_cell BK337.out 1).trans rfl, (blk_cell BK337.out 2).trans rfl, (blk_cell BK337.out 3).trans rfl, (blk_cell BK337.out 4).trans rfl, (blk_cell BK338.out 0).trans rfl, (blk_cell BK338.out 1).trans rfl, (blk_cell BK338.out 2).trans rfl⟩ (fun hHeld => ?_)
       clear hK K
       refine norm_ (a' := ?_) ?_ ?_
       rotate_left
       ·show Act.put _ (some 37) _ = _
        simp only [Act.put, List.setIfInBounds_toArray, List.set_cons_zero, List.set_cons_succ, i64_w, i32_w]
        rfl
       refine one_ (i := 6) (N := some 38) #[true, true, true, true, true, true, true, false, false, false, true, false, false] rfl rfl (one_of HT_.out (by kernel_rfl)) (by decide) (fun K hK => ?_)
       refine goes_ Tryz.func26 (by kernel_rfl) rfl #[.agg #[.int .i64 a0_1, .int .u64 a0_2], .agg #[.int .i64 t342, .int .u64 t343]] (by rfl) rfl rfl argt ?_
       with_reducible refine (wide_Int_Sub.calls a0_1 a0_2 t342 t343 t344 t345 false _ A45.out).mono ?_
       rintro e w101 ⟨rfl, hb⟩
       refine ⟨_, rfl, ?_⟩
       replace BK337 := blkb BK337 hb
       replace BK338 := blkb BK338 hb
       replace BK339 := blkb BK339 hb
       replace BK347 := blkb BK347 hb
       replace HB := belb HB hb
       (try clear hb)
       (try clear hb2)
       (try clear hk)
       (try clear hi)
       refine hK.out _ _ ⟨(blk_cell BK337.out 0).trans rfl, (blk_cell BK337.out 1).trans rfl, (blk_cell BK337.out 2).trans rfl, (blk_cell BK337.out 3).trans rfl, (blk_cell BK337.out 4).trans rfl, (blk_cell BK338.out 0).trans rfl, (blk_cell BK338.out 1).trans rfl, (blk_cell BK338.out 2).trans rfl⟩ (fun hHeld => ?_)
       clear hK K
       refine norm_ (a' := ?_) ?_ ?_
       rotate_left
       ·show Act.put _ (some 38) _ = _
        simp only [Act.put, List.setIfInBounds_toArray, List.set_cons_zero, List.set_cons_succ, i64_w, i32_w]
        rfl
       refine pure_ (i := 7) (N := some 31) (v := ?_) (a' := ?_) #[true, true, true, true, true, true, true, true, false, false, true, false, false] rfl rfl (any_of HT_.out (by kernel_rfl)) (fun _ _ _ h => h) (Or.inl ⟨by rfl, ?_⟩) ?_ ?_
       rotate_left
       ·intro w'
        go_simp
        with_reducible rfl
       rotate_left
       ·simp only [Act.put, List.setIfInBounds_toArray, List.set_cons_zero, List.set_cons_succ, i64_w, i32_w]
        rfl
       refine pure_ (i := 8) (N := some 39) (v := ?_) (a' := ?_) #[true, true, true, true, true, true, true, true, true, false, true, false, false] rfl rfl (any_of HT_.out (by kernel_rfl)) (fun _ _ _ h => h) (Or.inl ⟨by rfl, ?_⟩) ?_ ?_
       rotate_left
       ·intro w'
        go_simp
        with_reducible rfl
       rotate_left
       ·simp only [Act.put, List.setIfInBounds_toArray, List.set_cons_zero, List.set_cons_succ, i64_w, i32_w]
        rfl
       refine pure_ (i := 9) (N := some 40) (v := ?_) (a' := ?_) #[true, true, true, true, true, true, true, true, true, true, true, false, false] rfl rfl (any_of HT_.out (by kernel_rfl)) (fun _ _ _ h => h) (Or.inl ⟨by rfl, ?_⟩) ?_ ?_
       rotate_left
       ·intro w'
        go_simp
        with_reducible rfl
       rotate_left
       ·simp only [Act.put, List.setIfInBounds_toArray, List.set_cons_zero, List.set_cons_succ, i64_w, i32_w]
        rfl
       exact norm_ (by simp only [putAll, Act.put, List.setIfInBounds_toArray, List.set_cons_zero, List.set_cons_succ]) (hCont (gb347) _ ⟨hHeld, (blkt BK337), (blkt BK338), (blkt BK339), (blkt BK347), GW347.out, GE347.out, NB337_347.out, NB347_337.out, NB338_347.out, NB347_338.out, NB339_347.out, NB347_339.out, (belt HB)⟩)
     rintro gb347 w102 ⟨hS_, h0_, h1_, h2_, h3_, h4_, h5_, h6_, h7_, h8_, h9_, h10_, h11_, h12_⟩
     replace BK337 : Aside0 (w102.heap[gb337]? = some (.cells #[.int .u64 a0_0, .int .i64 a0_1, .int .u64 a0_2, .int .u64 a0_3, .int .i64 a0_4] 33 (0, 0))) := ⟨h0_⟩
     replace BK338 : Aside0 (w102.heap[gb338]? = some (.cells #[.int .u64 a1_0, .int .u32 a1_1, .int .u32 a1_2] 28 (0, 0))) := ⟨h1_⟩
     replace BK339 : Aside0 (w102.heap[gb339]? = some (.cells #[.int .u64 0, .int .i64 0, .int .u64 0, .int .u64 0, .int .i64 0] 33 (0, 0))) := ⟨h2_⟩
     have BK347 : Aside0 (w102.heap[gb347]? = some (.cells #[.int .i64 0, .int .u64 0] 31 (0, 0))) := ⟨h3_⟩
     have GW347 : Aside0 (w.heap.size ≤ gb347) := ⟨h4_⟩
     have GE347 : Aside0 (w.heap.size ≤ gb347) := ⟨h5_⟩
     have NB337_347 : Aside0 (gb337 ≠ gb347) := ⟨h6_⟩
     have NB347_337 : Aside0 (gb347 ≠ gb337) := ⟨h7_⟩
     have NB338_347 : Aside0 (gb338 ≠ gb347) := ⟨h8_⟩
     have NB347_338 : Aside0 (gb347 ≠ gb338) := ⟨h9_⟩
     have NB339_347 : Aside0 (gb339 ≠ gb347) := ⟨h10_⟩
     have NB347_339 : Aside0 (gb347 ≠ gb339) := ⟨h11_⟩
     replace HB : Aside0 (Below w.heap.size w w102) := ⟨h12_⟩
     clear h0_ h1_ h2_ h3_ h4_ h5_ h6_ h7_ h8_ h9_ h10_ h11_ h12_
     have hHeld : w102.cell? ⟨gb337, 0, none⟩ = some (.int .u64 a0_0) ∧ w102.cell? ⟨gb337, 1, none⟩ = some (.int .i64 a0_1) ∧ w102.cell? ⟨gb337, 2, none⟩ = some (.int .u64 a0_2) ∧ w102.cell? ⟨gb337, 3, none⟩ = some (.int .u64 a0_3) ∧ w102.cell? ⟨gb337, 4, none⟩ = some (.int .i64 a0_4) ∧ w102.cell? ⟨gb338, 0, none⟩ = some (.int .u64 a1_0) ∧ w102.cell? ⟨gb338, 1, none⟩ = some (.int .u32 a1_1) ∧ w102.cell? ⟨gb338, 2, none⟩ = some (.int .u32 a1_2) := hS_
     refine norm_ (a' := ?_) ?_ ?_
     rotate_left
     ·simp only [putAll, Act.put, List.setIfInBounds_toArray, List.set_cons_zero, List.set_cons_succ]
      rfl
     refine one_ (i := 11) (N := none) #[true, true, true, true, true, true, true, true, true, true, true, true, false] rfl rfl (one_of HT_.out (by kernel_rfl)) (by decide) (fun K hK => ?_)
     have hs103 : w102.cell? ⟨gb347, 0, none⟩ = some (.int .i64 0) := (blk_cell BK347.out 0).trans rfl
     have hfs103 := blk_frozen BK347.out 0
     have hns103_0 := NB337_347.out
     have hns103_1 := NB338_347.out
     have hns103_2 := NB339_347.out
     have hms103_0 := NB347_337.out
     have hms103_1 := NB347_338.out
     have hms103_2 := NB347_339.out
     have hs104 : w102.cell? ⟨gb347, 1, none⟩ = some (.int .u64 0) := (blk_cell BK347.out 1).trans rfl
     have hfs104 := blk_frozen BK347.out 1
     have hns104_0 := NB337_347.out
     have hns104_1 := NB338_347.out
     have hns104_2 := NB339_347.out
     have hms104_0 := NB347_337.out
     have hms104_1 := NB347_338.out
     have hms104_2 := NB347_339.out
     refine skip_ (w1 := ?_) (by rfl) rfl ?_ ?_
     rotate_left
     ·go_simp
      rfl
     refine hK.out _ _ ⟨((cell_far (p := ⟨gb347, _, none⟩) NB337_347.out _).trans (((cell_far (p := ⟨gb347, _, none⟩) NB337_347.out _).trans (hHeld.1)))), ((cell_far (p := ⟨gb347, _, none⟩) NB337_347.out _).trans (((cell_far (p := ⟨gb347, _, none⟩) NB337_347.out _).trans (hHeld.2.1)))), ((cell_far (p := ⟨gb347, _, none⟩) NB337_347.out _).trans (((cell_far (p := ⟨gb347, _, none⟩) NB337_347.out _).trans (hHeld.2.2.1)))), ((cell_far (p := ⟨gb347, _, none⟩) NB337_347.out _).trans (((cell_far (p := ⟨gb347, _, none⟩) NB337_347.out _).trans (hHeld.2.2.2.1)))), ((cell_far (p := ⟨gb347, _, none⟩) NB337_347.out _).trans (((cell_far (p := ⟨gb347, _, none⟩) NB337_347.out _).trans (hHeld.2.2.2.2.1)))), ((cell_far (p := ⟨gb347, _, none⟩) NB338_347.out _).trans (((cell_far (p := ⟨gb347, _, none⟩) NB338_347.out _).trans (hHeld.2.2.2.2.2.1)))), ((cell_far (p := ⟨gb347, _, none⟩) NB338_347.out _).trans (((cell_far (p := ⟨gb347, _, none⟩) NB338_347.out _).trans (hHeld.2.2.2.2.2.2.1)))), ((cell_far (p := ⟨gb347, _, none⟩) NB338_347.out _).trans (((cell_far (p := ⟨gb347, _, none⟩) NB338_347.out _).trans (hHeld.2.2.2.2.2.2.2))))⟩ (fun hHeld => ?_)
     clear hK K
     refine pure_ (i := 12) (N := some 7) (v := ?_) (a' := ?_) #[true, true, true, true, true, true, true, true, true, true, true, true, true] rfl rfl (any_of HT_.out (by kernel_rfl)) (fun _ _ _ h => h) (Or.inl ⟨by rfl, ?_⟩) ?_ ?_
     rotate_left
     ·intro w'
      go_simp
      with_reducible rfl
     rotate_left
     ·simp only [Act.put, List.setIfInBounds_toArray, List.set_cons_zero, List.set_cons_succ, i64_w, i32_w]
      rfl
     refine done_ (done_of HT_.out (by kernel_rfl)) ?_
     have hnb105 := NB337_338.out
     have hnc105 := NB338_337.out
     have hnb106 := NB337_339.out
     have hnc106 := NB339_337.out
     have hnb107 := NB337_347.out
     have hnc107 := NB347_337.out
     have hcz108_0 : w102.cell? ⟨gb337, 0, none⟩ = some (.int .u64 a0_0) := (blk_cell BK337.out 0).trans rfl
     have hcz108_1 : w102.cell? ⟨gb337, 1, none⟩ = some (.int .i64 a0_1) := (blk_cell BK337.out 1).trans rfl
     have hcz108_2 : w102.cell? ⟨gb337, 2, none⟩ = some (.int .u64 a0_2) := (blk_cell BK337.out 2).trans rfl
     have hcz108_3 : w102.cell? ⟨gb337, 3, none⟩ = some (.int .u64 a0_3) := (blk_cell BK337.out 3).trans rfl
     have hcz108_4 : w102.cell? ⟨gb337, 4, none⟩ = some (.int .i64 a0_4) := (blk_cell BK337.out 4).trans rfl
     have hfz108_0 := blk_frozen BK337.out 0
     have hfz108_1 := blk_frozen BK337.out 1
     have hfz108_2 := blk_frozen BK337.out 2
     have hfz108_3 := blk_frozen BK337.out 3
     have hfz108_4 := blk_frozen BK337.out 4
     have hnb109 := NB347_338.out
     have hnc109 := NB338_347.out
     have hnb110 := NB347_339.out
     have hnc110 := NB339_347.out
     have hcz111_0 : w102.cell? ⟨gb347, 0, none⟩ = some (.int .i64 0) := (blk_cell BK347.out 0).trans rfl
     have hcz111_1 : w102.cell? ⟨gb347, 1, none⟩ = some (.int .u64 0) := (blk_cell BK347.out 1).trans rfl
     have hfz111_0 := blk_frozen BK347.out 0
     have hfz111_1 := blk_frozen BK347.out 1
     have hnb112 := NB338_339.out
     have hnc112 := NB339_338.out
     have hcz113_0 : w102.cell? ⟨gb338, 0, none⟩ = some (.int .u64 a1_0) := (blk_cell BK338.out 0).trans rfl
     have hcz113_1 : w102.cell? ⟨gb338, 1, none⟩ = some (.int .u32 a1_1) := (blk_cell BK338.out 1).trans rfl
     have hcz113_2 : w102.cell? ⟨gb338, 2, none⟩ = some (.int .u32 a1_2) := (blk_cell BK338.out 2).trans rfl
     have hfz113_0 := blk_frozen BK338.out 0
     have hfz113_1 := blk_frozen BK338.out 1
     have hfz113_2 := blk_frozen BK338.out 2
     try go_wp2_with (first | ((with_reducible refine gate_dst (N := 8) rfl ?_); refine box_event ?hg (N := 8) ?hd (cs := #[.int .u64 0, .int .i64 0, .int .u64 0, .int .u64 0, .int .i64 0]) (t := 33) ?hr ?_; (case hd => rfl); (case hg => rfl); (case hr => first | (go_simp; done) | (go_simp; rfl)); intro gb348 hg w114 hbox hb; have BK348 := Aside0.mk (hbox); have GW348 := bels HB hg; have GE348 := bels HB hg; have NB337_348 := Aside0.mk ((by rw [hg]; exact Nat.ne_of_lt (blk_lt (g := gb337) (o := .cells #[.int .u64 a0_0, .int .i64 a0_1, .int .u64 a0_2, .int .u64 a0_3, .int .i64 a0_4] 33 (0, 0)) (by (with_reducible repeat (first | refine blk_drewN ?_ _ | refine blk_drew ?_ | refine blk_alloc ?_ _)); refine blk_far ?_ NB337_347.out _; (with_reducible repeat (first | refine blk_drewN ?_ _ | refine blk_drew ?_ | refine blk_alloc ?_ _)); refine blk_far ?_ NB337_347.out _; exact blkt BK337)) : gb337 ≠ gb348)); have NB348_337 := Aside0.mk ((by rw [hg]; exact Nat.ne_of_gt (blk_lt (g := gb337) (o := .cells #[.int .u64 a0_0, .int .i64 a0_1, .int .u64 a0_2, .int .u64 a0_3, .int .i64 a0_4] 33 (0, 0)) (by (with_reducible repeat (first | refine blk_drewN ?_ _ | refine blk_drew ?_ | refine blk_alloc ?_ _)); refine blk_far ?_ NB337_347.out _; (with_reducible repeat (first | refine blk_drewN ?_ _ | refine blk_drew ?_ | refine blk_alloc ?_ _)); refine blk_far ?_ NB337_347.out _; exact blkt BK337)) : gb348 ≠ gb337)); have NB338_348 := Aside0.mk ((by rw [hg]; exact Nat.ne_of_lt (blk_lt (g := gb338) (o := .cells #[.int .u64 a1_0, .int .u32 a1_1, .int .u32 a1_2] 28 (0, 0)) (by (with_reducible repeat (first | refine blk_drewN ?_ _ | refine blk_drew ?_ | refine blk_alloc ?_ _)); refine blk_far ?_ NB338_347.out _; (with_reducible repeat (first | refine blk_drewN ?_ _ | refine blk_drew ?_ | refine blk_alloc ?_ _)); refine blk_far ?_ NB338_347.out _; exact blkt BK338)) : gb338 ≠ gb348)); have NB348_338 := Aside0.mk ((by rw [hg]; exact Nat.ne_of_gt (blk_lt (g := gb338) (o := .cells #[.int .u64 a1_0, .int .u32 a1_1, .int .u32 a1_2] 28 (0, 0)) (by (with_reducible repeat (first | refine blk_drewN ?_ _ | refine blk_drew ?_ | refine blk_alloc ?_ _)); refine blk_far ?_ NB338_347.out _; (with_reducible repeat (first | refine blk_drewN ?_ _ | refine blk_drew ?_ | refine blk_alloc ?_ _)); refine blk_far ?_ NB338_347.out _; exact blkt BK338)) : gb348 ≠ gb338)); have NB339_348 := Aside0.mk ((by rw [hg]; exact Nat.ne_of_lt (blk_lt (g := gb339) (o := .cells #[.int .u64 0, .int .i64 0, .int .u64 0, .int .u64 0, .int .i64 0] 33 (0, 0)) (by (with_reducible repeat (first | refine blk_drewN ?_ _ | refine blk_drew ?_ | refine blk_alloc ?_ _)); refine blk_far ?_ NB339_347.out _; (with_reducible repeat (first | refine blk_drewN ?_ _ | refine blk_drew ?_ | refine blk_alloc ?_ _)); refine blk_far ?_ NB339_347.out _; exact blkt BK339)) : gb339 ≠ gb348)); have NB348_339 := Aside0.mk ((by rw [hg]; exact Nat.ne_of_gt (blk_lt (g := gb339) (o := .cells #[.int .u64 0, .int .i64 0, .int .u64 0, .int .u64 0, .int .i64 0] 33 (0, 0)) (by (with_reducible repeat (first | refine blk_drewN ?_ _ | refine blk_drew ?_ | refine blk_alloc ?_ _)); refine blk_far ?_ NB339_347.out _; (with_reducible repeat (first | refine blk_drewN ?_ _ | refine blk_drew ?_ | refine blk_alloc ?_ _)); refine blk_far ?_ NB339_347.out _; exact blkt BK339)) : gb348 ≠ gb339)); have NB347_348 := Aside0.mk ((by rw [hg]; exact Nat.ne_of_lt (blk_lt (g := gb347) (o := .cells #[.int .i64 t344, .int .u64 t345] 31 (0, 0)) (by (with_reducible repeat (first | refine blk_drewN ?_ _ | refine blk_drew ?_ | refine blk_alloc ?_ _)); refine blk_put (cs := #[.int .i64 t344, .int .u64 0]) ?_ 1 _ rfl; (with_reducible repeat (first | refine blk_drewN ?_ _ | refine blk_drew ?_ | refine blk_alloc ?_ _)); refine blk_put (cs := #[.int .i64 0, .int .u64 0]) ?_ 0 _ rfl; exact blkt BK347)) : gb347 ≠ gb348)); have NB348_347 := Aside0.mk ((by rw [hg]; exact Nat.ne_of_gt (blk_lt (g := gb347) (o := .cells #[.int .i64 t344, .int .u64 t345] 31 (0, 0)) (by (with_reducible repeat (first | refine blk_drewN ?_ _ | refine blk_drew ?_ | refine blk_alloc ?_ _)); refine blk_put (cs := #[.int .i64 t344, .int .u64 0]) ?_ 1 _ rfl; (with_reducible repeat (first | refine blk_drewN ?_ _ | refine blk_drew ?_ | refine blk_alloc ?_ _)); refine blk_put (cs := #[.int .i64 0, .int .u64 0]) ?_ 0 _ rfl; exact blkt BK347)) : gb348 ≠ gb347)); replace BK337 := Aside0.mk (blk_below (g := gb337) (o := .cells #[.int .u64 a0_0, .int .i64 a0_1, .int .u64 a0_2, .int .u64 a0_3, .int .i64 a0_4] 33 (0, 0)) (by (with_reducible repeat (first | refine blk_drewN ?_ _ | refine blk_drew ?_ | refine blk_alloc ?_ _)); refine blk_far ?_ NB337_347.out _; (with_reducible repeat (first | refine blk_drewN ?_ _ | refine blk_drew ?_ | refine blk_alloc ?_ _)); refine blk_far ?_ NB337_347.out _; exact blkt BK337) hb); replace BK338 := Aside0.mk (blk_below (g := gb338) (o := .cells #[.int .u64 a1_0, .int .u32 a1_1, .int .u32 a1_2] 28 (0, 0)) (by (with_reducible repeat (first | refine blk_drewN ?_ _ | refine blk_drew ?_ | refine blk_alloc ?_ _)); refine blk_far ?_ NB338_347.out _; (with_reducible repeat (first | refine blk_drewN ?_ _ | refine blk_drew ?_ | refine blk_alloc ?_ _)); refine blk_far ?_ NB338_347.out _; exact blkt BK338) hb); replace BK339 := Aside0.mk (blk_below (g := gb339) (o := .cells #[.int .u64 0, .int .i64 0, .int .u64 0, .int .u64 0, .int .i64 0] 33 (0, 0)) (by (with_reducible repeat (first | refine blk_drewN ?_ _ | refine blk_drew ?_ | refine blk_alloc ?_ _)); refine blk_far ?_ NB339_347.out _; (with_reducible repeat (first | refine blk_drewN ?_ _ | refine blk_drew ?_ | refine blk_alloc ?_ _)); refine blk_far ?_ NB339_347.out _; exact blkt BK339) hb); replace BK347 := Aside0.mk (blk_below (g := gb347) (o := .cells #[.int .i64 t344, .int .u64 t345] 31 (0, 0)) (by (with_reducible repeat (first | refine blk_drewN ?_ _ | refine blk_drew ?_ | refine blk_alloc ?_ _)); refine blk_put (cs := #[.int .i64 t344, .int .u64 0]) ?_ 1 _ rfl; (with_reducible repeat (first | refine blk_drewN ?_ _ | refine blk_drew ?_ | refine blk_alloc ?_ _)); refine blk_put (cs := #[.int .i64 0, .int .u64 0]) ?_ 0 _ rfl; exact blkt BK347) hb); replace HB := belb HB hb; clear hb hbox hg; have hnb115 := NB348_337.out; have hnc115 := NB337_348.out; have hnb116 := NB348_338.out; have hnc116 := NB338_348.out; have hnb117 := NB348_339.out; have hnc117 := NB339_348.out; have hnb118 := NB348_347.out; have hnc118 := NB347_348.out; have hcz119_0 : w114.cell? ⟨gb348, 0, none⟩ = some (.int .u64 0) := (blk_cell BK348.out 0).trans rfl; have hcz119_1 : w114.cell? ⟨gb348, 1, none⟩ = some (.int .i64 0) := (blk_cell BK348.out 1).trans rfl; have hcz119_2 : w114.cell? ⟨gb348, 2, none⟩ = some (.int .u64 0) := (blk_cell BK348.out 2).trans rfl; have hcz119_3 : w114.cell? ⟨gb348, 3, none⟩ = some (.int .u64 0) := (blk_cell BK348.out 3).trans rfl; have hcz119_4 : w114.cell? ⟨gb348, 4, none⟩ = some (.int .i64 0) := (blk_cell BK348.out 4).trans rfl; have hfz119_0 := blk_frozen BK348.out 0; have hfz119_1 := blk_frozen BK348.out 1; have hfz119_2 := blk_frozen BK348.out 2; have hfz119_3 := blk_frozen BK348.out 3; have hfz119_4 := blk_frozen BK348.out 4; have hcz120_0 : w114.cell? ⟨gb339, 0, none⟩ = some (.int .u64 0) := (blk_cell BK339.out 0).trans rfl; have hcz120_1 : w114.cell? ⟨gb339, 1, none⟩ = some (.int .i64 0) := (blk_cell BK339.out 1).trans rfl; have hcz120_2 : w114.cell? ⟨gb339, 2, none⟩ = some (.int .u64 0) := (blk_cell BK339.out 2).trans rfl; have hcz120_3 : w114.cell? ⟨gb339, 3, none⟩ = some (.int .u64 0) := (blk_cell BK339.out 3).trans rfl; have hcz120_4 : w114.cell? ⟨gb339, 4, none⟩ = some (.int .i64 0) := (blk_cell BK339.out 4).trans rfl; have hfz120_0 := blk_frozen BK339.out 0; have hfz120_1 := blk_frozen BK339.out 1; have hfz120_2 := blk_frozen BK339.out 2; have hfz120_3 := blk_frozen BK339.out 3; have hfz120_4 := blk_frozen BK339.out 4))
     refine bodyPost_ret (results_ct rfl _ _ gb339 33 #[.int .u64 0, .int .i64 0, .int .u64 0, .int .u64 0, .int .i64 0] (0, 0) _ rfl (by (with_reducible repeat (first | refine blk_drewN ?_ _ | refine blk_drew ?_ | refine blk_alloc ?_ _)); refine blk_put (cs := #[.int .u64 0, .int .i64 0, .int .u64 0, .int .u64 0, .int .i64 0]) ?_ 4 _ rfl; (with_reducible repeat (first | refine blk_drewN ?_ _ | refine blk_drew ?_ | refine blk_alloc ?_ _)); refine blk_put (cs := #[.int .u64 0, .int .i64 0, .int .u64 0, .int .u64 0, .int .i64 0]) ?_ 3 _ rfl; (with_reducible repeat (first | refine blk_drewN ?_ _ | refine blk_drew ?_ | refine blk_alloc ?_ _)); refine blk_put (cs := #[.int .u64 0, .int .i64 0, .int .u64 0, .int .u64 0, .int .i64 0]) ?_ 2 _ rfl; (with_reducible repeat (first | refine blk_drewN ?_ _ | refine blk_drew ?_ | refine blk_alloc ?_ _)); refine blk_put (cs := #[.int .u64 0, .int .i64 0, .int .u64 0, .int .u64 0, .int .i64 0]) ?_ 1 _ rfl; (with_reducible repeat (first | refine blk_drewN ?_ _ | refine blk_drew ?_ | refine blk_alloc ?_ _)); refine blk_put (cs := #[.int .u64 0, .int .i64 0, .int .u64 0, .int .u64 0, .int .i64 0]) ?_ 0 _ rfl; (with_reducible repeat (first | refine blk_drewN ?_ _ | refine blk_drew ?_ | refine blk_alloc ?_ _)); refine blk_far ?_ NB339_348.out _; (with_reducible repeat (first | refine blk_drewN ?_ _ | refine blk_drew ?_ | refine blk_alloc ?_ _)); refine blk_far ?_ NB339_348.out _; (with_reducible repeat (first | refine blk_drewN ?_ _ | refine blk_drew ?_ | refine blk_alloc ?_ _)); refine blk_far ?_ NB339_348.out _; (with_reducible repeat (first | refine blk_drewN ?_ _ | refine blk_drew ?_ | refine blk_alloc ?_ _)); refine blk_far ?_ NB339_348.out _; (with_reducible repeat (first | refine blk_drewN ?_ _ | refine blk_drew ?_ | refine blk_alloc ?_ _)); refine blk_far ?_ NB339_348.out _; exact blkt BK339) Tryz.underlying33 rfl (by kernel_rfl)) rfl ?_
     exact ⟨by first | rfl | (simp [errW_none, errW_some] <;> rfl) | (simp [*, errW_none, errW_some] <;> rfl), belt HB⟩

end Go.Proofs.YtfbkamgdkdnpoaaGreatDoor.Print
