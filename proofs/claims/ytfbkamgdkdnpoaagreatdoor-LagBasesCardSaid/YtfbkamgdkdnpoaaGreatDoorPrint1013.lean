/- What each Go function that is named below answers, as a Lean function, and that its walk comes to just that: for whatever arguments that function gives an answer for. Written by a program of this session (wip/mkpr.py, pr.sh). -/
import Derived.Test.YtfbkamgdkdnpoaaGreatDoorPrint1000
import Derived.Test.YtfbkamgdkdnpoaaGreatDoorPrint1012
import Derived.Test.YtfbkamgdkdnpoaaGreatDoorPrint1003
import Derived.Test.YtfbkamgdkdnpoaaGreatDoorPrint1006
import Derived.Test.YtfbkamgdkdnpoaaGreatDoorPrint1002
import Derived.Test.YtfbkamgdkdnpoaaGreatDoorPrint1008
import Derived.Test.YtfbkamgdkdnpoaaGreatDoorPrint1004
import Derived.Test.YtfbkamgdkdnpoaaGreatDoorPrint1018
namespace Go.Proofs.YtfbkamgdkdnpoaaGreatDoor.Print
open Go.RowKit Go.Proofs.YtfbkamgdkdnpoaaGreatDoorW.PrintWords Go.Proofs.YtfbkamgdkdnpoaaGreatDoorW.PrintLast Go.Proofs.YtfbkamgdkdnpoaaGreatDoorW.PrintMore
attribute [local go_sem] max2_int min2_int max_two min_two max_three min_three max_four min_four   -- for this text's walks alone
open Go.Proofs.YtfbkamgdkdnpoaaGreatDoor.Bits Go.Proofs.YtfbkamgdkdnpoaaGreatDoor.Short
attribute [local go_sem] add64_run0 sub64_run0 add64_run sub64_run
set_option linter.unusedVariables false
set_option linter.unusedSimpArgs false

/-! ### lag_Eligible: function 22 -/
def lag_Eligible.f (k : Nat) (a0_0 : Int) (a0_1 : Int) (a0_2 : Int) (a0_3 : Int) (a0_4 : Int) (a1_0 : Int) (a1_1 : Int) (a1_2 : Int) : Option (Bool) := (lag_Sign.f k a0_0 a0_1 a0_2 a0_3 a0_4 a1_0 a1_1 a1_2).bind fun bt242 => (if bt242.2 = true then (some (decide (bt242.1 ≥ 0))) else (some false))
theorem lag_Eligible.mono : ∀ a0 a1 a2 a3 a4 a5 a6 a7 k, LeO (lag_Eligible.f k a0 a1 a2 a3 a4 a5 a6 a7) (lag_Eligible.f (k + 1) a0 a1 a2 a3 a4 a5 a6 a7) := by
 intro a0 a1 a2 a3 a4 a5 a6 a7 k
 unfold lag_Eligible.f
 repeat' first
   | (with_reducible exact lag_Sign.mono _ _ _ _ _ _ _ _ _)
   | (with_reducible exact LeO.refl _)
   | (with_reducible exact LeO.none _)
   | (with_reducible refine LeO.ite ?_ ?_)
   | (with_reducible refine LeO.bind ?_ (fun _ => ?_))
   | exact lag_Sign.mono _ _ _ _ _ _ _ _ _
   | exact LeO.none _
   | refine LeO.ite ?_ ?_
   | refine LeO.bind ?_ (fun _ => ?_)
set_option maxHeartbeats 8000000 in
set_option maxRecDepth 100000 in
theorem lag_Eligible.calls (k : Nat) (a0_0 : Int) (a0_1 : Int) (a0_2 : Int) (a0_3 : Int) (a0_4 : Int) (a1_0 : Int) (a1_1 : Int) (a1_2 : Int) (r : Bool) (w : World) (h : lag_Eligible.f k a0_0 a0_1 a0_2 a0_3 a0_4 a1_0 a1_1 a1_2 = some r) :
  Calls Tryz.prog 22 #[.agg #[.int .u64 a0_0, .int .i64 a0_1, .int .u64 a0_2, .int .u64 a0_3, .int .i64 a0_4], .agg #[.int .u64 a1_0, .int .u32 a1_1, .int .u32 a1_2]] w fun e w' => e = .returned (.bool r) ∧ Below w.heap.size w w' := by
 have hu33 := Tryz.underlying33
 have hu28 := Tryz.underlying28
 have HB := Aside0.mk (Below.refl w.heap.size w)
 have H : ((lag_Sign.f k a0_0 a0_1 a0_2 a0_3 a0_4 a1_0 a1_1 a1_2).bind fun bt242 => (if bt242.2 = true then (some (decide (bt242.1 ≥ 0))) else (some false))) = some r := h
 clear h
 replace H := Option.bind_eq_some_iff.mp H
 obtain ⟨⟨t242, t243⟩, A30, H⟩ := H
 replace H : (if t243 = true then (some (decide (t242 ≥ 0))) else (some false)) = some r := H
 have A3 := Aside0.mk A30
 clear A30
 by_cases c4 : t243 = true
 ·subst c4
  have H1 : (some (decide (t242 ≥ 0))) = some r := by rw [if_pos rfl] at H; exact H
  clear H
  have H := H1
  clear H1
  obtain rfl := Option.some.inj H
  go_enter Tryz.func22, Tryz.ntmps22
  go_wp2_with (first | ((with_reducible refine gate_dst (N := 2) rfl ?_); refine box_event ?hg (N := 2) ?hd (cs := #[.int .u64 a0_0, .int .i64 a0_1, .int .u64 a0_2, .int .u64 a0_3, .int .i64 a0_4]) (t := 33) ?hr ?_; (case hd => rfl); (case hg => rfl); (case hr => first | (go_simp; done) | (go_simp; rfl)); intro gb240 hg w5 hbox hb; have BK240 := Aside0.mk (hbox); have GW240 := bels HB hg; have GE240 := bels HB hg; replace HB := belb HB hb; clear hb hbox hg) | ((with_reducible refine gate_dst (N := 3) rfl ?_); refine box_event ?hg (N := 3) ?hd (cs := #[.int .u64 a1_0, .int .u32 a1_1, .int .u32 a1_2]) (t := 28) ?hr ?_; (case hd => rfl); (case hg => rfl); (case hr => first | (go_simp; done) | (go_simp; rfl)); intro gb241 hg w6 hbox hb; have BK241 := Aside0.mk (hbox); have GW241 := bels HB hg; have GE241 := bels HB hg; have NB240_241 := blkl BK240 hg; have NB241_240 := blkg BK240 hg; replace BK240 := blkb BK240 hb; replace HB := belb HB hb; clear hb hbox hg; have hnb7 := NB240_241.out; have hnc7 := NB241_240.out; have hcz8_0 : w6.cell? ⟨gb240, 0, none⟩ = some (.int .u64 a0_0) := (blk_cell BK240.out 0).trans rfl; have hcz8_1 : w6.cell? ⟨gb240, 1, none⟩ = some (.int .i64 a0_1) := (blk_cell BK240.out 1).trans rfl; have hcz8_2 : w6.cell? ⟨gb240, 2, none⟩ = some (.int .u64 a0_2) := (blk_cell BK240.out 2).trans rfl; have hcz8_3 : w6.cell? ⟨gb240, 3, none⟩ = some (.int .u64 a0_3) := (blk_cell BK240.out 3).trans rfl; have hcz8_4 : w6.cell? ⟨gb240, 4, none⟩ = some (.int .i64 a0_4) := (blk_cell BK240.out 4).trans rfl; have hfz8_0 := blk_frozen BK240.out 0; have hfz8_1 := blk_frozen BK240.out 1; have hfz8_2 := blk_frozen BK240.out 2; have hfz8_3 := blk_frozen BK240.out 3; have hfz8_4 := blk_frozen BK240.out 4; have hcz9_0 : w6.cell? ⟨gb241, 0, none⟩ = some (.int .u64 a1_0) := (blk_cell BK241.out 0).trans rfl; have hcz9_1 : w6.cell? ⟨gb241, 1, none⟩ = some (.int .u32 a1_1) := (blk_cell BK241.out 1).trans rfl; have hcz9_2 : w6.cell? ⟨gb241, 2, none⟩ = some (.int .u32 a1_2) := (blk_cell BK241.out 2).trans rfl; have hfz9_0 := blk_frozen BK241.out 0; have hfz9_1 := blk_frozen BK241.out 1; have hfz9_2 := blk_frozen BK241.out 2) | ((with_reducible refine gate_callee (f := 37) rfl ?_); refine goesL_ (some 10) rfl rfl Tryz.func37 (by kernel_rfl) rfl #[.agg #[.int .u64 a0_0, .int .i64 a0_1, .int .u64 a0_2, .int .u64 a0_3, .int .i64 a0_4], .agg #[.int .u64 a1_0, .int .u32 a1_1, .int .u32 a1_2]] rfl argt ?_; (with_reducible refine (lag_Sign.calls k a0_0 a0_1 a0_2 a0_3 a0_4 a1_0 a1_1 a1_2 t242 true _ A3.out).mono ?_); rintro e w10 ⟨rfl, hb⟩; refine ⟨_, rfl, ?_⟩; replace BK240 := blkb BK240 hb; replace BK241 := blkb BK241 hb; replace HB := belb HB hb; (try clear hb); (try clear hb2); (try clear hk); (try clear hi)))
  go_ret
  exact ⟨by first | rfl | (simp [errW_none, errW_some] <;> rfl) | (simp [*, errW_none, errW_some] <;> rfl), belt HB⟩
 ·replace c4 := Bool.eq_false_iff.mpr c4
  subst c4
  have H1 : (some false) = some r := by rw [if_neg (show ¬ (false = true) by decide)] at H; exact H
  clear H
  have H := H1
  clear H1
  obtain rfl := Option.some.inj H
  go_enter Tryz.func22, Tryz.ntmps22
  go_wp2_with (first | ((with_reducible refine gate_dst (N := 2) rfl ?_); refine box_event ?hg (N := 2) ?hd (cs := #[.int .u64 a0_0, .int .i64 a0_1, .int .u64 a0_2, .int .u64 a0_3, .int .i64 a0_4]) (t := 33) ?hr ?_; (case hd => rfl); (case hg => rfl); (case hr => first | (go_simp; done) | (go_simp; rfl)); intro gb240 hg w11 hbox hb; have BK240 := Aside0.mk (hbox); have GW240 := bels HB hg; have GE240 := bels HB hg; replace HB := belb HB hb; clear hb hbox hg) | ((with_reducible refine gate_dst (N := 3) rfl ?_); refine box_event ?hg (N := 3) ?hd (cs := #[.int .u64 a1_0, .int .u32 a1_1, .int .u32 a1_2]) (t := 28) ?hr ?_; (case hd => rfl); (case hg => rfl); (case hr => first | (go_simp; done) | (go_simp; rfl)); intro gb241 hg w12 hbox hb; have BK241 := Aside0.mk (hbox); have GW241 := bels HB hg; have GE241 := bels HB hg; have NB240_241 := blkl BK240 hg; have NB241_240 := blkg BK240 hg; replace BK240 := blkb BK240 hb; replace HB := belb HB hb; clear hb hbox hg; have hnb13 := NB240_241.out; have hnc13 := NB241_240.out; have hcz14_0 : w12.cell? ⟨gb240, 0, none⟩ = some (.int .u64 a0_0) := (blk_cell BK240.out 0).trans rfl; have hcz14_1 : w12.cell? ⟨gb240, 1, none⟩ = some (.int .i64 a0_1) := (blk_cell BK240.out 1).trans rfl; have hcz14_2 : w12.cell? ⟨gb240, 2, none⟩ = some (.int .u64 a0_2) := (blk_cell BK240.out 2).trans rfl; have hcz14_3 : w12.cell? ⟨gb240, 3, none⟩ = some (.int .u64 a0_3) := (blk_cell BK240.out 3).trans rfl; have hcz14_4 : w12.cell? ⟨gb240, 4, none⟩ = some (.int .i64 a0_4) := (blk_cell BK240.out 4).trans rfl; have hfz14_0 := blk_frozen BK240.out 0; have hfz14_1 := blk_frozen BK240.out 1; have hfz14_2 := blk_frozen BK240.out 2; have hfz14_3 := blk_frozen BK240.out 3; have hfz14_4 := blk_frozen BK240.out 4; have hcz15_0 : w12.cell? ⟨gb241, 0, none⟩ = some (.int .u64 a1_0) := (blk_cell BK241.out 0).trans rfl; have hcz15_1 : w12.cell? ⟨gb241, 1, none⟩ = some (.int .u32 a1_1) := (blk_cell BK241.out 1).trans rfl; have hcz15_2 : w12.cell? ⟨gb241, 2, none⟩ = some (.int .u32 a1_2) := (blk_cell BK241.out 2).trans rfl; have hfz15_0 := blk_frozen BK241.out 0; have hfz15_1 := blk_frozen BK241.out 1; have hfz15_2 := blk_frozen BK241.out 2) | ((with_reducible refine gate_callee (f := 37) rfl ?_); refine goesL_ (some 10) rfl rfl Tryz.func37 (by kernel_rfl) rfl #[.agg #[.int .u64 a0_0, .int .i64 a0_1, .int .u64 a0_2, .int .u64 a0_3, .int .i64 a0_4], .agg #[.int .u64 a1_0, .int .u32 a1_1, .int .u32 a1_2]] rfl argt ?_; (with_reducible refine (lag_Sign.calls k a0_0 a0_1 a0_2 a0_3 a0_4 a1_0 a1_1 a1_2 t242 false _ A3.out).mono ?_); rintro e w16 ⟨rfl, hb⟩; refine ⟨_, rfl, ?_⟩; replace BK240 := blkb BK240 hb; replace BK241 := blkb BK241 hb; replace HB := belb HB hb; (try clear hb); (try clear hb2); (try clear hk); (try clear hi)))
  go_ret
  exact ⟨by first | rfl | (simp [errW_none, errW_some] <;> rfl) | (simp [*, errW_none, errW_some] <;> rfl), belt HB⟩


/-! ### mean_Mean_Rebase: function 19 -/
def mean_Mean_Rebase.f (k : Nat) (a0_0 : Int) (a0_1 : Int) (a0_2 : Int) (a0_3 : Int) (a0_4 : Int) (a1 : Int) : Option (Int × Int × Int × Int × Int × Bool) := (mean_Mean_Right.f a0_0 a0_1 a0_2 a0_3 a0_4).bind fun t293 => (if t293 = true then ((wide_OfU.f a0_3).bind fun bt294 => ((vtime_Time_Since.f a1 a0_0).bind fun t296 => ((wide_Int_Mul.f k bt294.1 bt294.2 t296).bind fun bt297 => ((wide_Int_Sub.f a0_1 a0_2 bt297.1 bt297.2.1).bind fun bt301 => (if bt301.2.2 = true then (some (a1, bt301.1, bt301.2.1, a0_3, a0_4, true)) else (some (0, 0, 0, 0, 0, false))))))) else (some (0, 0, 0, 0, 0, false)))
theorem mean_Mean_Rebase.mono : ∀ a0 a1 a2 a3 a4 a5 k, LeO (mean_Mean_Rebase.f k a0 a1 a2 a3 a4 a5) (mean_Mean_Rebase.f (k + 1) a0 a1 a2 a3 a4 a5) := by
 intro a0 a1 a2 a3 a4 a5 k
 unfold mean_Mean_Rebase.f
 repeat' first
   | (with_reducible exact wide_Int_Mul.mono _ _ _ _)
   | (with_reducible exact LeO.refl _)
   | (with_reducible exact LeO.none _)
   | (with_reducible refine LeO.ite ?_ ?_)
   | (with_reducible refine LeO.bind ?_ (fun _ => ?_))
   | exact wide_Int_Mul.mono _ _ _ _
   | exact LeO.none _
   | refine LeO.ite ?_ ?_
   | refine LeO.bind ?_ (fun _ => ?_)
def mean_Mean_Rebase.T3 : Bool × List (List Nat × List Nat) := (true, [([], []), ([0], [0]), ([1], [1]), ([], []), ([], []), ([4], [4]), ([3, 5, 2], [3, 5]), ([2, 6, 6], [2, 6]), ([7], [7]), ([8], [8]), ([8], [8]), ([], []), ([11, 9, 7, 0, 1, 2, 3, 4, 5, 6, 7, 8, 9, 11], [9, 11]), ([10, 12, 0, 1, 2, 3, 4, 5, 6, 7, 8, 9, 10, 11, 12], [10])])
def mean_Mean_Rebase.B3 : List Nat := [0, 1, 3, 0, 0, 16, 63, 127, 255, 511, 511, 0, 3071, 8191]
theorem mean_Mean_Rebase.tab3 : rtab .any (opsOf Tryz.f19 3) = mean_Mean_Rebase.T3 := by kernel_rfl
theorem mean_Mean_Rebase.bits3 : waitsOk mean_Mean_Rebase.T3.2 mean_Mean_Rebase.B3 = true := by kernel_rfl
set_option maxHeartbeats 8000000 in
set_option maxRecDepth 100000 in
theorem mean_Mean_Rebase.calls (k : Nat) (a0_0 : Int) (a0_1 : Int) (a0_2 : Int) (a0_3 : Int) (a0_4 : Int) (a1 : Int) (r1 : Int) (r2 : Int) (r3 : Int) (r4 : Int) (r5 : Int) (r6 : Bool) (w : World) (h : mean_Mean_Rebase.f k a0_0 a0_1 a0_2 a0_3 a0_4 a1 = some (r1, r2, r3, r4, r5, r6)) :
  Calls Tryz.prog 19 #[.agg #[.int .u64 a0_0, .int .i64 a0_1, .int .u64 a0_2, .int .u64 a0_3, .int .i64 a0_4], .int .u64 a1] w fun e w' => e = .returned (.tuple #[.agg #[.int .u64 r1, .int .i64 r2, .int .u64 r3, .int .u64 r4, .int .i64 r5], .bool r6]) ∧ Below w.heap.size w w' := by
 have hu33 := Tryz.underlying33
 have hu31 := Tryz.underlying31
 have HB := Aside0.mk (Below.refl w.heap.size w)
 have H : ((mean_Mean_Right.f a0_0 a0_1 a0_2 a0_3 a0_4).bind fun t293 => (if t293 = true then ((wide_OfU.f a0_3).bind fun bt294 => ((vtime_Time_Since.f a1 a0_0).bind fun t296 => ((wide_Int_Mul.f k bt294.1 bt294.2 t296).bind fun bt297 => ((wide_Int_Sub.f a0_1 a0_2 bt297.1 bt297.2.1).bind fun bt301 => (if bt301.2.2 = true then (some (a1, bt301.1, bt301.2.1, a0_3, a0_4, true)) else (some (0, 0, 0, 0, 0, false))))))) else (some (0, 0, 0, 0, 0, false)))) = some (r1, r2, r3, r4, r5, r6) := h
 clear h
 replace H := Option.bind_eq_some_iff.mp H
 obtain ⟨t293, A30, H⟩ := H
 replace H : (if t293 = true then ((wide_OfU.f a0_3).bind fun bt294 => ((vtime_Time_Since.f a1 a0_0).bind fun t296 => ((wide_Int_Mul.f k bt294.1 bt294.2 t296).bind fun bt297 => ((wide_Int_Sub.f a0_1 a0_2 bt297.1 bt297.2.1).bind fun bt301 => (if bt301.2.2 = true then (some (a1, bt301.1, bt301.2.1, a0_3, a0_4, true)) else (some (0, 0, 0, 0, 0, false))))))) else (some (0, 0, 0, 0, 0, false))) = some (r1, r2, r3, r4, r5, r6) := H
 have A3 := Aside0.mk A30
 clear A30
 by_cases c4 : t293 = true
 ·subst c4
  have H1 : ((wide_OfU.f a0_3).bind fun bt294 => ((vtime_Time_Since.f a1 a0_0).bind fun t296 => ((wide_Int_Mul.f k bt294.1 bt294.2 t296).bind fun bt297 => ((wide_Int_Sub.f a0_1 a0_2 bt297.1 bt297.2.1).bind fun bt301 => (if bt301.2.2 = true then (some (a1, bt301.1, bt301.2.1, a0_3, a0_4, true)) else (some (0, 0, 0, 0, 0, false))))))) = some (r1, r2, r3, r4, r5, r6) := by rw [if_pos rfl] at H; exact H
  clear H
  have H := H1
  clear H1
  replace H := Option.bind_eq_some_iff.mp H
  obtain ⟨⟨t294, t295⟩, A50, H⟩ := H
  replace H : ((vtime_Time_Since.f a1 a0_0).bind fun t296 => ((wide_Int_Mul.f k t294 t295 t296).bind fun bt297 => ((wide_Int_Sub.f a0_1 a0_2 bt297.1 bt297.2.1).bind fun bt301 => (if bt301.2.2 = true then (some (a1, bt301.1, bt301.2.1, a0_3, a0_4, true)) else (some (0, 0, 0, 0, 0, false)))))) = some (r1, r2, r3, r4, r5, r6) := H
  have A5 := Aside0.mk A50
  clear A50
  replace H := Option.bind_eq_some_iff.mp H
  obtain ⟨t296, A60, H⟩ := H
  replace H : ((wide_Int_Mul.f k t294 t295 t296).bind fun bt297 => ((wide_Int_Sub.f a0_1 a0_2 bt297.1 bt297.2.1).bind fun bt301 => (if bt301.2.2 = true then (some (a1, bt301.1, bt301.2.1, a0_3, a0_4, true)) else (some (0, 0, 0, 0, 0, false))))) = some (r1, r2, r3, r4, r5, r6) := H
  have A6 := Aside0.mk A60
  clear A60
  replace H := Option.bind_eq_some_iff.mp H
  obtain ⟨⟨t297, t298, t299⟩, A70, H⟩ := H
  replace H : ((wide_Int_Sub.f a0_1 a0_2 t297 t298).bind fun bt301 => (if bt301.2.2 = true then (some (a1, bt301.1, bt301.2.1, a0_3, a0_4, true)) else (some (0, 0, 0, 0, 0, false)))) = some (r1, r2, r3, r4, r5, r6) := H
  have A7 := Aside0.mk A70
  clear A70
  replace H := Option.bind_eq_some_iff.mp H
  obtain ⟨⟨t301, t302, t303⟩, A80, H⟩ := H
  replace H : (if t303 = true then (some (a1, t301, t302, a0_3, a0_4, true)) else (some (0, 0, 0, 0, 0, false))) = some (r1, r2, r3, r4, r5, r6) := H
  have A8 := Aside0.mk A80
  clear A80
  by_cases c9 : t303 = true
  ·subst c9
   have H1 : (some (a1, t301, t302, a0_3, a0_4, true)) = some (r1, r2, r3, r4, r5, r6) := by rw [if_pos rfl] at H; exact H
   clear H
   have H := H1
   clear H1
   simp only [Option.some.injEq, Prod.mk.injEq] at H
   obtain ⟨rfl, rfl, rfl, rfl, rfl, rfl⟩ := H
   go_enter Tryz.func19, Tryz.ntmps19
   try go_wp2_with (first | ((with_reducible refine gate_dst (N := 2) rfl ?_); refine box_event ?hg (N := 2) ?hd (cs := #[.int .u64 a0_0, .int .i64 a0_1, .int .u64 a0_2, .int .u64 a0_3, .int .i64 a0_4]) (t := 33) ?hr ?_; (case hd => rfl); (case hg => rfl); (case hr => first | (go_simp; done) | (go_simp; rfl)); intro gb291 hg w10 hbox hb; have BK291 := Aside0.mk (hbox); have GW291 := bels HB hg; have GE291 := bels HB hg; replace HB := belb HB hb; clear hb hbox hg) | ((with_reducible refine gate_dst (N := 4) rfl ?_); refine box_event ?hg (N := 4) ?hd (cs := #[.int .u64 0, .int .i64 0, .int .u64 0, .int .u64 0, .int .i64 0]) (t := 33) ?hr ?_; (case hd => rfl); (case hg => rfl); (case hr => first | (go_simp; done) | (go_simp; rfl)); intro gb292 hg w11 hbox hb; have BK292 := Aside0.mk (hbox); have GW292 := bels HB hg; have GE292 := bels HB hg; have NB291_292 := blkl BK291 hg; have NB292_291 := blkg BK291 hg; replace BK291 := blkb BK291 hb; replace HB := belb HB hb; clear hb hbox hg; have hnb12 := NB291_292.out; have hnc12 := NB292_291.out; have hcz13_0 : w11.cell? ⟨gb291, 0, none⟩ = some (.int .u64 a0_0) := (blk_cell BK291.out 0).trans rfl; have hcz13_1 : w11.cell? ⟨gb291, 1, none⟩ = some (.int .i64 a0_1) := (blk_cell BK291.out 1).trans rfl; have hcz13_2 : w11.cell? ⟨gb291, 2, none⟩ = some (.int .u64 a0_2) := (blk_cell BK291.out 2).trans rfl; have hcz13_3 : w11.cell? ⟨gb291, 3, none⟩ = some (.int .u64 a0_3) := (blk_cell BK291.out 3).trans rfl; have hcz13_4 : w11.cell? ⟨gb291, 4, none⟩ = some (.int .i64 a0_4) := (blk_cell BK291.out 4).trans rfl; have hfz13_0 := blk_frozen BK291.out 0; have hfz13_1 := blk_frozen BK291.out 1; have hfz13_2 := blk_frozen BK291.out 2; have hfz13_3 := blk_frozen BK291.out 3; have hfz13_4 := blk_frozen BK291.out 4) | ((with_reducible refine gate_callee (f := 52) rfl ?_); refine goesL_ (some 11) rfl rfl Tryz.func52 (by kernel_rfl) rfl #[.agg #[.int .u64 a0_0, .int .i64 a0_1, .int .u64 a0_2, .int .u64 a0_3, .int .i64 a0_4]] rfl argt ?_; (with_reducible refine (mean_Mean_Right.calls a0_0 a0_1 a0_2 a0_3 a0_4 true _ A3.out).mono ?_); rintro e w14 ⟨rfl, hb⟩; refine ⟨_, rfl, ?_⟩; replace BK291 := blkb BK291 hb; replace BK292 := blkb BK292 hb; replace HB := belb HB hb; (try clear hb); (try clear hb2); (try clear hk); (try clear hi)))
   replace BK291 := Aside0.mk (blk_drew BK291.out)
   replace BK292 := Aside0.mk (blk_drew BK292.out)
   replace HB := Aside0.mk (below_drew1 HB.out)
   refine start_ (n := 14) (S := fun w' => w'.cell? ⟨gb291, 0, none⟩ = some (.int .u64 a0_0) ∧ w'.cell? ⟨gb291, 1, none⟩ = some (.int .i64 a0_1) ∧ w'.cell? ⟨gb291, 2, none⟩ = some (.int .u64 a0_2) ∧ w'.cell? ⟨gb291, 3, none⟩ = some (.int .u64 a0_3) ∧ w'.cell? ⟨gb291, 4, none⟩ = some (.int .i64 a0_4)) (ds := []) #[false, false, false, false, false, false, false, false, false, false, false, false, false, false] (by kernel_rfl) rfl rfl ⟨(blk_cell BK291.out 0).trans rfl, (blk_cell BK291.out 1).trans rfl, (blk_cell BK291.out 2).trans rfl, (blk_cell BK291.out 3).trans rfl, (blk_cell BK291.out 4).trans rfl⟩ (fun hHeld => ?_); refine with_tabW mean_Mean_Rebase.tab3 mean_Mean_Rebase.bits3 (fun HT_ HW_ => ?_)
   generalize w14.drew = w15 at BK291 BK292 HB hHeld ⊢
   refine pure_ (i := 0) (N := some 15) (v := ?_) (a' := ?_) #[true, false, false, false, false, false, false, false, false, false, false, false, false, false] rfl rfl (any_of HT_.out (by kernel_rfl)) (fun _ _ _ h => h) (Or.inl ⟨by rfl, ?_⟩) ?_ ?_
   rotate_left
   ·intro w'
    go_simp
    with_reducible rfl
   rotate_left
   ·simp only [Act.put, List.setIfInBounds_toArray, List.set_cons_zero, List.set_cons_succ, i64_w, i32_w]
    rfl
   refine pure_ (i := 3) (N := some 18) (v := ?_) (a' := ?_) #[true, false, false, true, false, false, false, false, false, false, false, false, false, false] rfl rfl (any_of HT_.out (by kernel_rfl)) (fun _ _ _ h => h) (Or.inl ⟨by rfl, ?_⟩) ?_ ?_
   rotate_left
   ·intro w'
    go_simp
    with_reducible rfl
   rotate_left
   ·simp only [Act.put, List.setIfInBounds_toArray, List.set_cons_zero, List.set_cons_succ, i64_w, i32_w]
    rfl
   refine pure_ (i := 4) (N := some 19) (v := ?_) (a' := ?_) #[true, false, false, true, true, false, false, false, false, false, false, false, false, false] rfl rfl (any_of HT_.out (by kernel_rfl)) (fun _ _ _ h => h) (Or.inl ⟨by rfl, ?_⟩) ?_ ?_
   rotate_left
   ·intro w'
    go_simp
    with_reducible rfl
   rotate_left
   ·simp only [Act.put, List.setIfInBounds_toArray, List.set_cons_zero, List.set_cons_succ, i64_w, i32_w]
    rfl
   refine take_ (i := 1) (N := some 16) (v := ?_) (a' := ?_) #[true, true, false, true, true, false, false, false, false, false, false, false, false, false] rfl rfl (take_ofW HT_.out HW_.out (by kernel_rfl)) (fun _ _ _ h => h) (Or.inl ⟨by rfl, ?_⟩) hHeld ?_ ?_
   rotate_left
   ·rintro w' ⟨s0, s1, s2, s3, s4⟩
    go_simp
    with_reducible rfl
   rotate_left
   ·simp only [Act.put, List.setIfInBounds_toArray, List.set_cons_zero, List.set_cons_succ, i64_w, i32_w]
    rfl
   refine take_ (i := 5) (N := some 20) (v := ?_) (a' := ?_) #[true, true, false, true, true, true, false, false, false, false, false, false, false, false] rfl rfl (take_ofW HT_.out HW_.out (by kernel_rfl)) (fun _ _ _ h => h) (Or.inl ⟨by rfl, ?_⟩) hHeld ?_ ?_
   rotate_left
   ·rintro w' ⟨s0, s1, s2, s3, s4⟩
    go_simp
    with_reducible rfl
   rotate_left
   ·simp only [Act.put, List.setIfInBounds_toArray, List.set_cons_zero, List.set_cons_succ, i64_w, i32_w]
    rfl
   refine join_ (σ := Nat) 2 #[true, true, true, true, true, true, true, true, true, true, true, true, false, false] (fun s_ => [(17, .agg #[.int .i64 t294, .int .u64 t295]), (21, .int .i64 t296), (22, .tuple #[.agg #[.int .i64 t297, .int .u64 t298], .bool t299]), (6, .pointer (some ⟨s_, 0, none⟩)), (14, .tuple #[.agg #[.int .i64 t297, .int .u64 t298], .bool t299]), (23, .agg #[.int .i64 t297, .int .u64 t298]), (24, .bool t299)]) (fun s_ w' => (w'.cell? ⟨gb291, 0, none⟩ = some (.int .u64 a0_0) ∧ w'.cell? ⟨gb291, 1, none⟩ = some (.int .i64 a0_1) ∧ w'.cell? ⟨gb291, 2, none⟩ = some (.int .u64 a0_2) ∧ w'.cell? ⟨gb291, 3, none⟩ = some (.int .u64 a0_3) ∧ w'.cell? ⟨gb291, 4, none⟩ = some (.int .i64 a0_4)) ∧ (w'.heap[gb291]? = some (.cells #[.int .u64 a0_0, .int .i64 a0_1, .int .u64 a0_2, .int .u64 a0_3, .int .i64 a0_4] 33 (0, 0))) ∧ (w'.heap[gb292]? = some (.cells #[.int .u64 0, .int .i64 0, .int .u64 0, .int .u64 0, .int .i64 0] 33 (0, 0))) ∧ (w'.heap[s_]? = some (.cells #[.int .i64 0, .int .u64 0] 31 (0, 0))) ∧ (w.heap.size ≤ s_) ∧ (w.heap.size ≤ s_) ∧ (gb291 ≠ s_) ∧ (s_ ≠ gb291) ∧ (gb292 ≠ s_) ∧ (s_ ≠ gb292) ∧ (Below w.heap.size w w')) ?_ ?_
   rotate_left
   ·intro hCont
    refine two_ (i := 2) (j := 11) (Ni := some 17) (Nj := some 6) #[true, true, true, true, true, true, false, false, false, false, false, false, false, false] #[true, true, false, true, true, true, false, false, false, false, false, true, false, false] rfl rfl rfl rfl (two_of HT_.out (by kernel_rfl)) (by decide) (by decide) (fun K hK => ?_) (fun K hK => ?_)
    ·skip
     refine goes_ Tryz.func53 (by kernel_rfl) rfl #[.int .u64 a0_3] (by rfl) rfl rfl argt ?_
     with_reducible refine (wide_OfU.calls a0_3 t294 t295 _ A5.out).mono ?_
     rintro e w16 ⟨rfl, hb⟩
     refine ⟨_, rfl, ?_⟩
     replace BK291 := blkb BK291 hb
     replace BK292 := blkb BK292 hb
     replace HB := belb HB hb
     (try clear hb)
     (try clear hb2)
     (try clear hk)
     (try clear hi)
     refine hK.out _ _ ⟨(blk_cell BK291.out 0).trans rfl, (blk_cell BK291.out 1).trans rfl, (blk_cell BK291.out 2).trans rfl, (blk_cell BK291.out 3).trans rfl, (blk_cell BK291.out 4).trans rfl⟩ (fun hHeld => ?_)
     clear hK K
     refine norm_ (a' := ?_) ?_ ?_
     rotate_left
     ·show Act.put _ (some 17) _ = _
      simp only [Act.put, List.setIfInBounds_toArray, List.set_cons_zero, List.set_cons_succ, i64_w, i32_w]
      rfl
     refine two_ (i := 6) (j := 11) (Ni := some 21) (Nj := some 6) #[true, true, true, true, true, true, true, false, false, false, false, false, false, false] #[true, true, true, true, true, true, false, false, false, false, false, true, false, false] rfl rfl rfl rfl (two_of HT_.out (by kernel_rfl)) (by decide) (by decide) (fun K hK => ?_) (fun K hK => ?_)
     ·skip
      refine goes_ Tryz.func16 (by kernel_rfl) rfl #[.int .u64 a1, .int .u64 a0_0] (by rfl) rfl rfl argt ?_
      with_reducible refine (vtime_Time_Since.calls a1 a0_0 t296 _ A6.out).mono ?_
      rintro e w' ⟨rfl, ⟨nd, rfl⟩⟩
      refine ⟨_, rfl, ?_⟩
      refine hK.out _ _ ⟨(blk_cell BK291.out 0).trans rfl, (blk_cell BK291.out 1).trans rfl, (blk_cell BK291.out 2).trans rfl, (blk_cell BK291.out 3).trans rfl, (blk_cell BK291.out 4).trans rfl⟩ (fun hHeld => ?_)
      clear hK K
      refine norm_ (a' := ?_) ?_ ?_
      rotate_left
      ·show Act.put _ (some 21) _ = _
       simp only [Act.put, List.setIfInBounds_toArray, List.set_cons_zero, List.set_cons_succ, i64_w, i32_w]
       rfl
      refine two_ (i := 7) (j := 11) (Ni := some 22) (Nj := some 6) #[true, true, true, true, true, true, true, true, false, false, false, false, false, false] #[true, true, true, true, true, true, true, false, false, false, false, true, false, false] rfl rfl rfl rfl (two_of HT_.out (by kernel_rfl)) (by decide) (by decide) (fun K hK => ?_) (fun K hK => ?_)
      ·skip
       refine goes_ Tryz.func54 (by kernel_rfl) rfl #[.agg #[.int .i64 t294, .int .u64 t295], .int .i64 t296] (by rfl) rfl rfl argt ?_
       with_reducible refine (wide_Int_Mul.calls k t294 t295 t296 t297 t298 t299 _ A7.out).mono ?_
       rintro e w17 ⟨rfl, hb⟩
       refine ⟨_, rfl, ?_⟩
       replace BK291 := blkb BK291 hb
       replace BK292 := blkb BK292 hb
       replace HB := belb HB hb
       (try clear hb)
       (try clear hb2)
       (try clear hk)
       (try clear hi)
       refine hK.out _ _ ⟨(blk_cell BK291.out 0).trans rfl, (blk_cell BK291.out 1).trans rfl, (blk_cell BK291.out 2).trans rfl, (blk_cell BK291.out 3).trans rfl, (blk_cell BK291.out 4).trans rfl⟩ (fun hHeld => ?_)
       clear hK K
       refine norm_ (a' := ?_) ?_ ?_
       rotate_left
       ·show Act.put _ (some 22) _ = _
        simp only [Act.put, List.setIfInBounds_toArray, List.set_cons_zero, List.set_cons_succ, i64_w, i32_w]
        rfl
       refine pure_ (i := 8) (N := some 14) (v := ?_) (a' := ?_) #[true, true, true, true, true, true, true, true, true, false, false, false, false, false] rfl rfl (any_of HT_.out (by kernel_rfl)) (fun _ _ _ h => h) (Or.inl ⟨by rfl, ?_⟩) ?_ ?_
       rotate_left
       ·intro w'
        go_simp
        with_reducible rfl
       rotate_left
       ·simp only [Act.put, List.setIfInBounds_toArray, List.set_cons_zero, List.set_cons_succ, i64_w, i32_w]
        rfl
       refine pure_ (i := 9) (N := some 23) (v := ?_) (a' := ?_) #[true, true, true, true, true, true, true, true, true, true, false, false, false, false] rfl rfl (any_of HT_.out (by kernel_rfl)) (fun _ _ _ h => h) (Or.inl ⟨by rfl, ?_⟩) ?_ ?_
       rotate_left
       ·intro w'
        go_simp
        with_reducible rfl
       rotate_left
       ·simp only [Act.put, List.setIfInBounds_toArray, List.set_cons_zero, List.set_cons_succ, i64_w, i32_w]
        rfl
       refine pure_ (i := 10) (N := some 24) (v := ?_) (a' := ?_) #[true, true, true, true, true, true, true, true, true, true, true, false, false, false] rfl rfl (any_of HT_.out (by kernel_rfl)) (fun _ _ _ h => h) (Or.inl ⟨by rfl, ?_⟩) ?_ ?_
       rotate_left
       ·intro w'
        go_simp
        with_reducible rfl
       rotate_left
       ·simp only [Act.put, List.setIfInBounds_toArray, List.set_cons_zero, List.set_cons_succ, i64_w, i32_w]
        rfl
       refine one_ (i := 11) (N := some 6) #[true, true, true, true, true, true, true, true, true, true, true, true, false, false] rfl rfl (one_of HT_.out (by kernel_rfl)) (by decide) (fun K hK => ?_)
       refine box_step ?hg (N := 6) ?hd (cs := #[.int .i64 0, .int .u64 0]) (t := 31) ?hr ?_; (case hd => rfl); (case hg => rfl); (case hr => first | (go_simp; done) | (go_simp; rfl))
       intro gb300 hg w18 hbox hb
       have BK300 := Aside0.mk (hbox)
       have GW300 := bels HB hg
       have GE300 := bels HB hg
       have NB291_300 := blkl BK291 hg
       have NB300_291 := blkg BK291 hg
       have NB292_300 := blkl BK292 hg
       have NB300_292 := blkg BK292 hg
       replace BK291 := blkb BK291 hb
       replace BK292 := blkb BK292 hb
       replace HB := belb HB hb
       clear hb hbox hg
       refine hK.out _ _ ⟨(blk_cell BK291.out 0).trans rfl, (blk_cell BK291.out 1).trans rfl, (blk_cell BK291.out 2).trans rfl, (blk_cell BK291.out 3).trans rfl, (blk_cell BK291.out 4).trans rfl⟩ (fun hHeld => ?_)
       clear hK K
       refine norm_ (a' := ?_) ?_ ?_
       rotate_left
       ·show Act.put _ (some 6) _ = _
        simp only [Act.put, List.setIfInBounds_toArray, List.set_cons_zero, List.set_cons_succ, i64_w, i32_w]
        rfl
       exact norm_ (by simp only [putAll, Act.put, List.setIfInBounds_toArray, List.set_cons_zero, List.set_cons_succ]) (hCont (gb300) _ ⟨hHeld, (blkt BK291), (blkt BK292), (blkt BK300), GW300.out, GE300.out, NB291_300.out, NB300_291.out, NB292_300.out, NB300_292.out, (belt HB)⟩)
      ·skip
       refine box_step ?hg (N := 6) ?hd (cs := #[.int .i64 0, .int .u64 0]) (t := 31) ?hr ?_; (case hd => rfl); (case hg => rfl); (case hr => first | (go_simp; done) | (go_simp; rfl))
       intro gb300 hg w17 hbox hb
       have BK300 := Aside0.mk (hbox)
       have GW300 := bels HB hg
       have GE300 := bels HB hg
       have NB291_300 := blkl BK291 hg
       have NB300_291 := blkg BK291 hg
       have NB292_300 := blkl BK292 hg
       have NB300_292 := blkg BK292 hg
       replace BK291 := blkb BK291 hb
       replace BK292 := blkb BK292 hb
       replace HB := belb HB hb
       clear hb hbox hg
       refine hK.out _ _ ⟨(blk_cell BK291.out 0).trans rfl, (blk_cell BK291.out 1).trans rfl, (blk_cell BK291.out 2).trans rfl, (blk_cell BK291.out 3).trans rfl, (blk_cell BK291.out 4).trans rfl⟩ (fun hHeld => ?_)
       clear hK K
       refine norm_ (a' := ?_) ?_ ?_
       rotate_left
       ·show Act.put _ (some 6) _ = _
        simp only [Act.put, List.setIfInBounds_toArray, List.set_cons_zero, List.set_cons_succ, i64_w, i32_w]
        rfl
       refine one_ (i := 7) (N := some 22) #[true, true, true, true, true, true, true, true, false, false, false, true, false, false] rfl rfl (one_of HT_.out (by kernel_rfl)) (by decide) (fun K hK => ?_)
       refine goes_ Tryz.func54 (by kernel_rfl) rfl #[.agg #[.int .i64 t294, .int .u64 t295], .int .i64 t296] (by rfl) rfl rfl argt ?_
       with_reducible refine (wide_Int_Mul.calls k t294 t295 t296 t297 t298 t299 _ A7.out).mono ?_
       rintro e w18 ⟨rfl, hb⟩
       refine ⟨_, rfl, ?_⟩
       replace BK291 := blkb BK291 hb
       replace BK292 := blkb BK292 hb
       replace BK300 := blkb BK300 hb
       replace HB := belb HB hb
       (try clear hb)
       (try clear hb2)
       (try clear hk)
       (try clear hi)
       refine hK.out _ _ ⟨(blk_cell BK291.out 0).trans rfl, (blk_cell BK291.out 1).trans rfl, (blk_cell BK291.out 2).trans rfl, (blk_cell BK291.out 3).trans rfl, (blk_cell BK291.out 4).trans rfl⟩ (fun hHeld => ?_)
       clear hK K
       refine norm_ (a' := ?_) ?_ ?_
       rotate_left
       ·show Act.put _ (some 22) _ = _
        simp only [Act.put, List.setIfInBounds_toArray, List.set_cons_zero, List.set_cons_succ, i64_w, i32_w]
        rfl
       refine pure_ (i := 8) (N := some 14) (v := ?_) (a' := ?_) #[true, true, true, true, true, true, true, true, true, false, false, true, false, false] rfl rfl (any_of HT_.out (by kernel_rfl)) (fun _ _ _ h => h) (Or.inl ⟨by rfl, ?_⟩) ?_ ?_
       rotate_left
       ·intro w'
        go_simp
        with_reducible rfl
       rotate_left
       ·simp only [Act.put, List.setIfInBounds_toArray, List.set_cons_zero, List.set_cons_succ, i64_w, i32_w]
        rfl
       refine pure_ (i := 9) (N := some 23) (v := ?_) (a' := ?_) #[true, true, true, true, true, true, true, true, true, true, false, true, false, false] rfl rfl (any_of HT_.out (by kernel_rfl)) (fun _ _ _ h => h) (Or.inl ⟨by rfl, ?_⟩) ?_ ?_
       rotate_left
       ·intro w'
        go_simp
        with_reducible rfl
       rotate_left
       ·simp only [Act.put, List.setIfInBounds_toArray, List.set_cons_zero, List.set_cons_succ, i64_w, i32_w]
        rfl
       refine pure_ (i := 10) (N := some 24) (v := ?_) (a' := ?_) #[true, true, true, true, true, true, true, true, true, true, true, true, false, false] rfl rfl (any_of HT_.out (by kernel_rfl)) (fun _ _ _ h => h) (Or.inl ⟨by rfl, ?_⟩) ?_ ?_
       rotate_left
       ·intro w'
        go_simp
        with_reducible rfl
       rotate_left
       ·simp only [Act.put, List.setIfInBounds_toArray, List.set_cons_zero, List.set_cons_succ, i64_w, i32_w]
        rfl
       exact norm_ (by simp only [putAll, Act.put, List.setIfInBounds_toArray, List.set_cons_zero, List.set_cons_succ]) (hCont (gb300) _ ⟨hHeld, (blkt BK291), (blkt BK292), (blkt BK300), GW300.out, GE300.out, NB291_300.out, NB300_291.out, NB292_300.out, NB300_292.out, (belt HB)⟩)
     ·skip
      refine box_step ?hg (N := 6) ?hd (cs := #[.int .i64 0, .int .u64 0]) (t := 31) ?hr ?_; (case hd => rfl); (case hg => rfl); (case hr => first | (go_simp; done) | (go_simp; rfl))
      intro gb300 hg w17 hbox hb
      have BK300 := Aside0.mk (hbox)
      have GW300 := bels HB hg
      have GE300 := bels HB hg
      have NB291_300 := blkl BK291 hg
      have NB300_291 := blkg BK291 hg
      have NB292_300 := blkl BK292 hg
      have NB300_292 := blkg BK292 hg
      replace BK291 := blkb BK291 hb
      replace BK292 := blkb BK292 hb
      replace HB := belb HB hb
      clear hb hbox hg
      refine hK.out _ _ ⟨(blk_cell BK291.out 0).trans rfl, (blk_cell BK291.out 1).trans rfl, (blk_cell BK291.out 2).trans rfl, (blk_cell BK291.out 3).trans rfl, (blk_cell BK291.out 4).trans rfl⟩ (fun hHeld => ?_)
      clear hK K
      refine norm_ (a' := ?_) ?_ ?_
      rotate_left
      ·show Act.put _ (some 6) _ = _
       simp only [Act.put, List.setIfInBounds_toArray, List.set_cons_zero, List.set_cons_succ, i64_w, i32_w]
       rfl
      refine one_ (i := 6) (N := some 21) #[true, true, true, true, true, true, true, false, false, false, false, true, false, false] rfl rfl (one_of HT_.out (by kernel_rfl)) (by decide) (fun K hK => ?_)
      refine goes_ Tryz.func16 (by kernel_rfl) rfl #[.int .u64 a1, .int .u64 a0_0] (by rfl) rfl rfl argt ?_
      with_reducible refine (vtime_Time_Since.calls a1 a0_0 t296 _ A6.out).mono ?_
      rintro e w' ⟨rfl, ⟨nd, rfl⟩⟩
      refine ⟨_, rfl, ?_⟩
      refine hK.out _ _ ⟨(blk_cell BK291.out 0).trans rfl, (blk_cell BK291.out 1).trans rfl, (blk_cell BK291.out 2).trans rfl, (blk_cell BK291.out 3).trans rfl, (blk_cell BK291.out 4).trans rfl⟩ (fun hHeld => ?_)
      clear hK K
      refine norm_ (a' := ?_) ?_ ?_
      rotate_left
      ·show Act.put _ (some 21) _ = _
       simp only [Act.put, List.setIfInBounds_toArray, List.set_cons_zero, List.set_cons_succ, i64_w, i32_w]
       rfl
      refine one_ (i := 7) (N := some 22) #[true, true, true, true, true, true, true, true, false, false, false, true, false, false] rfl rfl (one_of HT_.out (by kernel_rfl)) (by decide) (fun K hK => ?_)
      refine goes_ Tryz.func54 (by kernel_rfl) rfl #[.agg #[.int .i64 t294, .int .u64 t295], .int .i64 t296] (by rfl) rfl rfl argt ?_
      with_reducible refine (wide_Int_Mul.calls k t294 t295 t296 t297 t298 t299 _ A7.out).mono ?_
      rintro e w18 ⟨rfl, hb⟩
      refine ⟨_, rfl, ?_⟩
      replace BK291 := blkb BK291 hb
      replace BK292 := blkb BK292 hb
      replace BK300 := blkb BK300 hb
      replace HB := belb HB hb
      (try clear hb)
      (try clear hb2)
      (try clear hk)
      (try clear hi)
      refine hK.out _ _ ⟨(blk_cell BK291.out 0).trans rfl, (blk_cell BK291.out 1).trans rfl, (blk_cell BK291.out 2).trans rfl, (blk_cell BK291.out 3).trans rfl, (blk_cell BK291.out 4).trans rfl⟩ (fun hHeld => ?_)
      clear hK K
      refine norm_ (a' := ?_) ?_ ?_
      rotate_left
      ·show Act.put _ (some 22) _ = _
       simp only [Act.put, List.setIfInBounds_toArray, List.set_cons_zero, List.set_cons_succ, i64_w, i32_w]
       rfl
      refine pure_ (i := 8) (N := some 14) (v := ?_) (a' := ?_) #[true, true, true, true, true, true, true, true, true, false, false, true, false, false] rfl rfl (any_of HT_.out (by kernel_rfl)) (fun _ _ _ h => h) (Or.inl ⟨by rfl, ?_⟩) ?_ ?_
      rotate_left
      ·intro w'
       go_simp
       with_reducible rfl
      rotate_left
      ·simp only [Act.put, List.setIfInBounds_toArray, List.set_cons_zero, List.set_cons_succ, i64_w, i32_w]
       rfl
      refine pure_ (i := 9) (N := some 23) (v := ?_) (a' := ?_) #[true, true, true, true, true, true, true, true, true, true, false, true, false, false] rfl rfl (any_of HT_.out (by kernel_rfl)) (fun _ _ _ h => h) (Or.inl ⟨by rfl, ?_⟩) ?_ ?_
      rotate_left
      ·intro w'
       go_simp
       with_reducible rfl
      rotate_left
      ·simp only [Act.put, List.setIfInBounds_toArray, List.set_cons_zero, List.set_cons_succ, i64_w, i32_w]
       rfl
      refine pure_ (i := 10) (N := some 24) (v := ?_) (a' := ?_) #[true, true, true, true, true, true, true, true, true, true, true, true, false, false] rfl rfl (any_of HT_.out (by kernel_rfl)) (fun _ _ _ h => h) (Or.inl ⟨by rfl, ?_⟩) ?_ ?_
      rotate_left
      ·intro w'
       go_simp
       with_reducible rfl
      rotate_left
      ·simp only [Act.put, List.setIfInBounds_toArray, List.set_cons_zero, List.set_cons_succ, i64_w, i32_w]
       rfl
      exact norm_ (by simp only [putAll, Act.put, List.setIfInBounds_toArray, List.set_cons_zero, List.set_cons_succ]) (hCont (gb300) _ ⟨hHeld, (blkt BK291), (blkt BK292), (blkt BK300), GW300.out, GE300.out, NB291_300.out, NB300_291.out, NB292_300.out, NB300_292.out, (belt HB)⟩)
    ·skip
     refine box_step ?hg (N := 6) ?hd (cs := #[.int .i64 0, .int .u64 0]) (t := 31) ?hr ?_; (case hd => rfl); (case hg => rfl); (case hr => first | (go_simp; done) | (go_simp; rfl))
     intro gb300 hg w16 hbox hb
     have BK300 := Aside0.mk (hbox)
     have GW300 := bels HB hg
     have GE300 := bels HB hg
     have NB291_300 := blkl BK291 hg
     have NB300_291 := blkg BK291 hg
     have NB292_300 := blkl BK292 hg
     have NB300_292 := blkg BK292 hg
     replace BK291 := blkb BK291 hb
     replace BK292 := blkb BK292 hb
     replace HB := belb HB hb
     clear hb hbox hg
     refine hK.out _ _ ⟨(blk_cell BK291.out 0).trans rfl, (blk_cell BK291.out 1).trans rfl, (blk_cell BK291.out 2).trans rfl, (blk_cell BK291.out 3).trans rfl, (blk_cell BK291.out 4).trans rfl⟩ (fun hHeld => ?_)
     clear hK K
     refine norm_ (a' := ?_) ?_ ?_
     rotate_left
     ·show Act.put _ (some 6) _ = _
      simp only [Act.put, List.setIfInBounds_toArray, List.set_cons_zero, List.set_cons_succ, i64_w, i32_w]
      rfl
     refine one_ (i := 2) (N := some 17) #[true, true, true, true, true, true, false, false, false, false, false, true, false, false] rfl rfl (one_of HT_.out (by kernel_rfl)) (by decide) (fun K hK => ?_)
     refine goes_ Tryz.func53 (by kernel_rfl) rfl #[.int .u64 a0_3] (by rfl) rfl rfl argt ?_
     with_reducible refine (wide_OfU.calls a0_3 t294 t295 _ A5.out).mono ?_
     rintro e w17 ⟨rfl, hb⟩
     refine ⟨_, rfl, ?_⟩
     replace BK291 := blkb BK291 hb
     replace BK292 := blkb BK292 hb
     replace BK300 := blkb BK300 hb
     replace HB := belb HB hb
     (try clear hb)
     (try clear hb2)
     (try clear hk)
     (try clear hi)
     refine hK.out _ _ ⟨(blk_cell BK291.out 0).trans rfl, (blk_cell BK291.out 1).trans rfl, (blk_cell BK291.out 2).trans rfl, (blk_cell BK291.out 3).trans rfl, (blk_cell BK291.out 4).trans rfl⟩ (fun hHeld => ?_)
     clear hK K
     refine norm_ (a' := ?_) ?_ ?_
     rotate_left
     ·show Act.put _ (some 17) _ = _
      simp only [Act.put, List.setIfInBounds_toArray, List.set_cons_zero, List.set_cons_succ, i64_w, i32_w]
      rfl
     refine one_ (i := 6) (N := some 21) #[true, true, true, true, true, true, true, false, false, false, false, true, false, false] rfl rfl (one_of HT_.out (by kernel_rfl)) (by decide) (fun K hK => ?_)
     refine goes_ Tryz.func16 (by kernel_rfl) rfl #[.int .u64 a1, .int .u64 a0_0] (by rfl) rfl rfl argt ?_
     with_reducible refine (vtime_Time_Since.calls a1 a0_0 t296 _ A6.out).mono ?_
     rintro e w' ⟨rfl, ⟨nd, rfl⟩⟩
     refine ⟨_, rfl, ?_⟩
     refine hK.out _ _ ⟨(blk_cell BK291.out 0).trans rfl, (blk_cell BK291.out 1).trans rfl, (blk_cell BK291.out 2).trans rfl, (blk_cell BK291.out 3).trans rfl, (blk_cell BK291.out 4).trans rfl⟩ (fun hHeld => ?_)
     clear hK K
     refine norm_ (a' := ?_) ?_ ?_
     rotate_left
     ·show Act.put _ (some 21) _ = _
      simp only [Act.put, List.setIfInBounds_toArray, List.set_cons_zero, List.set_cons_succ, i64_w, i32_w]
      rfl
     refine one_ (i := 7) (N := some 22) #[true, true, true, true, true, true, true, true, false, false, false, true, false, false] rfl rfl (one_of HT_.out (by kernel_rfl)) (by decide) (fun K hK => ?_)
     refine goes_ Tryz.func54 (by kernel_rfl) rfl #[.agg #[.int .i64 t294, .int .u64 t295], .int .i64 t296] (by rfl) rfl rfl argt ?_
     with_reducible refine (wide_Int_Mul.calls k t294 t295 t296 t297 t298 t299 _ A7.out).mono ?_
     rintro e w18 ⟨rfl, hb⟩
     refine ⟨_, rfl, ?_⟩
     replace BK291 := blkb BK291 hb
     replace BK292 := blkb BK292 hb
     replace BK300 := blkb BK300 hb
     replace HB := belb HB hb
     (try clear hb)
     (try clear hb2)
     (try clear hk)
     (try clear hi)
     refine hK.out _ _ ⟨(blk_cell BK291.out 0).trans rfl, (blk_cell BK291.out 1).trans rfl, (blk_cell BK291.out 2).trans rfl, (blk_cell BK291.out 3).trans rfl, (blk_cell BK291.out 4).trans rfl⟩ (fun hHeld => ?_)
     clear hK K
     refine norm_ (a' := ?_) ?_ ?_
     rotate_left
     ·show Act.put _ (some 22) _ = _
      simp only [Act.put, List.setIfInBounds_toArray, List.set_cons_zero, List.set_cons_succ, i64_w, i32_w]
      rfl
     refine pure_ (i := 8) (N := some 14) (v := ?_) (a' := ?_) #[true, true, true, true, true, true, true, true, true, false, false, true, false, false] rfl rfl (any_of HT_.out (by kernel_rfl)) (fun _ _ _ h => h) (Or.inl ⟨by rfl, ?_⟩) ?_ ?_
     rotate_left
     ·intro w'
      go_simp
      with_reducible rfl
     rotate_left
     ·simp only [Act.put, List.setIfInBounds_toArray, List.set_cons_zero, List.set_cons_succ, i64_w, i32_w]
      rfl
     refine pure_ (i := 9) (N := some 23) (v := ?_) (a' := ?_) #[true, true, true, true, true, true, true, true, true, true, false, true, false, false] rfl rfl (any_of HT_.out (by kernel_rfl)) (fun _ _ _ h => h) (Or.inl ⟨by rfl, ?_⟩) ?_ ?_
     rotate_left
     ·intro w'
      go_simp
      with_reducible rfl
     rotate_left
     ·simp only [Act.put, List.setIfInBounds_toArray, List.set_cons_zero, List.set_cons_succ, i64_w, i32_w]
      rfl
     refine pure_ (i := 10) (N := some 24) (v := ?_) (a' := ?_) #[true, true, true, true, true, true, true, true, true, true, true, true, false, false] rfl rfl (any_of HT_.out (by kernel_rfl)) (fun _ _ _ h => h) (Or.inl ⟨by rfl, ?_⟩) ?_ ?_
     rotate_left
     ·intro w'
      go_simp
      with_reducible rfl
     rotate_left
     ·simp only [Act.put, List.setIfInBounds_toArray, List.set_cons_zero, List.set_cons_succ, i64_w, i32_w]
      rfl
     exact norm_ (by simp only [putAll, Act.put, List.setIfInBounds_toArray, List.set_cons_zero, List.set_cons_succ]) (hCont (gb300) _ ⟨hHeld, (blkt BK291), (blkt BK292), (blkt BK300), GW300.out, GE300.out, NB291_300.out, NB300_291.out, NB292_300.out, NB300_292.out, (belt HB)⟩)
   rintro gb300 w19 ⟨hS_, h0_, h1_, h2_, h3_, h4_, h5_, h6_, h7_, h8_, h9_⟩
   replace BK291 : Aside0 (w19.heap[gb291]? = some (.cells #[.int .u64 a0_0, .int .i64 a0_1, .int .u64 a0_2, .int .u64 a0_3, .int .i64 a0_4] 33 (0, 0))) := ⟨h0_⟩
   replace BK292 : Aside0 (w19.heap[gb292]? = some (.cells #[.int .u64 0, .int .i64 0, .int .u64 0, .int .u64 0, .int .i64 0] 33 (0, 0))) := ⟨h1_⟩
   have BK300 : Aside0 (w19.heap[gb300]? = some (.cells #[.int .i64 0, .int .u64 0] 31 (0, 0))) := ⟨h2_⟩
   have GW300 : Aside0 (w.heap.size ≤ gb300) := ⟨h3_⟩
   have GE300 : Aside0 (w.heap.size ≤ gb300) := ⟨h4_⟩
   have NB291_300 : Aside0 (gb291 ≠ gb300) := ⟨h5_⟩
   have NB300_291 : Aside0 (gb300 ≠ gb291) := ⟨h6_⟩
   have NB292_300 : Aside0 (gb292 ≠ gb300) := ⟨h7_⟩
   have NB300_292 : Aside0 (gb300 ≠ gb292) := ⟨h8_⟩
   replace HB : Aside0 (Below w.heap.size w w19) := ⟨h9_⟩
   clear h0_ h1_ h2_ h3_ h4_ h5_ h6_ h7_ h8_ h9_
   have hHeld : w19.cell? ⟨gb291, 0, none⟩ = some (.int .u64 a0_0) ∧ w19.cell? ⟨gb291, 1, none⟩ = some (.int .i64 a0_1) ∧ w19.cell? ⟨gb291, 2, none⟩ = some (.int .u64 a0_2) ∧ w19.cell? ⟨gb291, 3, none⟩ = some (.int .u64 a0_3) ∧ w19.cell? ⟨gb291, 4, none⟩ = some (.int .i64 a0_4) := hS_
   refine norm_ (a' := ?_) ?_ ?_
   rotate_left
   ·simp only [putAll, Act.put, List.setIfInBounds_toArray, List.set_cons_zero, List.set_cons_succ]
    rfl
   refine one_ (i := 12) (N := none) #[true, true, true, true, true, true, true, true, true, true, true, true, true, false] rfl rfl (one_of HT_.out (by kernel_rfl)) (by decide) (fun K hK => ?_)
   have hs20 : w19.cell? ⟨gb300, 0, none⟩ = some (.int .i64 0) := (blk_cell BK300.out 0).trans rfl
   have hfs20 := blk_frozen BK300.out 0
   have hns20_0 := NB291_300.out
   have hns20_1 := NB292_300.out
   have hms20_0 := NB300_291.out
   have hms20_1 := NB300_292.out
   have hs21 : w19.cell? ⟨gb300, 1, none⟩ = some (.int .u64 0) := (blk_cell BK300.out 1).trans rfl
   have hfs21 := blk_frozen BK300.out 1
   have hns21_0 := NB291_300.out
   have hns21_1 := NB292_300.out
   have hms21_0 := NB300_291.out
   have hms21_1 := NB300_292.out
   refine skip_ (w1 := ?_) (by rfl) rfl ?_ ?_
   rotate_left
   ·go_simp
    rfl
   refine hK.out _ _ ⟨((cell_far (p := ⟨gb300, _, none⟩) NB291_300.out _).trans (((cell_far (p := ⟨gb300, _, none⟩) NB291_300.out _).trans (hHeld.1)))), ((cell_far (p := ⟨gb300, _, none⟩) NB291_300.out _).trans (((cell_far (p := ⟨gb300, _, none⟩) NB291_300.out _).trans (hHeld.2.1)))), ((cell_far (p := ⟨gb300, _, none⟩) NB291_300.out _).trans (((cell_far (p := ⟨gb300, _, none⟩) NB291_300.out _).trans (hHeld.2.2.1)))), ((cell_far (p := ⟨gb300, _, none⟩) NB291_300.out _).trans (((cell_far (p := ⟨gb300, _, none⟩) NB291_300.out _).trans (hHeld.2.2.2.1)))), ((cell_far (p := ⟨gb300, _, none⟩) NB291_300.out _).trans (((cell_far (p := ⟨gb300, _, none⟩) NB291_300.out _).trans (hHeld.2.2.2.2))))⟩ (fun hHeld => ?_)
   clear hK K
   refine pure_ (i := 13) (N := some 7) (v := ?_) (a' := ?_) #[true, true, true, true, true, true, true, true, true, true, true, true, true, true] rfl rfl (any_of HT_.out (by kernel_rfl)) (fun _ _ _ h => h) (Or.inl ⟨by rfl, ?_⟩) ?_ ?_
   rotate_left
   ·intro w'
    go_simp
    with_reducible rfl
   rotate_left
   ·simp only [Act.put, List.setIfInBounds_toArray, List.set_cons_zero, List.set_cons_succ, i64_w, i32_w]
    rfl
   refine done_ (done_of HT_.out (by kernel_rfl)) ?_
   have hnb22 := NB291_300.out
   have hnc22 := NB300_291.out
   have hcz23_0 : w19.cell? ⟨gb291, 0, none⟩ = some (.int .u64 a0_0) := (blk_cell BK291.out 0).trans rfl
   have hcz23_1 : w19.cell? ⟨gb291, 1, none⟩ = some (.int .i64 a0_1) := (blk_cell BK291.out 1).trans rfl
   have hcz23_2 : w19.cell? ⟨gb291, 2, none⟩ = some (.int .u64 a0_2) := (blk_cell BK291.out 2).trans rfl
   have hcz23_3 : w19.cell? ⟨gb291, 3, none⟩ = some (.int .u64 a0_3) := (blk_cell BK291.out 3).trans rfl
   have hcz23_4 : w19.cell? ⟨gb291, 4, none⟩ = some (.int .i64 a0_4) := (blk_cell BK291.out 4).trans rfl
   have hfz23_0 := blk_frozen BK291.out 0
   have hfz23_1 := blk_frozen BK291.out 1
   have hfz23_2 := blk_frozen BK291.out 2
   have hfz23_3 := blk_frozen BK291.out 3
   have hfz23_4 := blk_frozen BK291.out 4
   have hnb24 := NB300_292.out
   have hnc24 := NB292_300.out
   have hcz25_0 : w19.cell? ⟨gb300, 0, none⟩ = some (.int .i64 0) := (blk_cell BK300.out 0).trans rfl
   have hcz25_1 : w19.cell? ⟨gb300, 1, none⟩ = some (.int .u64 0) := (blk_cell BK300.out 1).trans rfl
   have hfz25_0 := blk_frozen BK300.out 0
   have hfz25_1 := blk_frozen BK300.out 1
   try go_wp2_with (first | ((with_reducible refine gate_callee (f := 26) rfl ?_); refine goesL_ (some 29) rfl rfl Tryz.func26 (by kernel_rfl) rfl #[.agg #[.int .i64 a0_1, .int .u64 a0_2], .agg #[.int .i64 t297, .int .u64 t298]] rfl argt ?_; (with_reducible refine (wide_Int_Sub.calls a0_1 a0_2 t297 t298 t301 t302 true _ A8.out).mono ?_); rintro e w26 ⟨rfl, hb⟩; refine ⟨_, rfl, ?_⟩; replace BK291 := Aside0.mk (blk_below (g := gb291) (o := .cells #[.int .u64 a0_0, .int .i64 a0_1, .int .u64 a0_2, .int .u64 a0_3, .int .i64 a0_4] 33 (0, 0)) (by (with_reducible repeat (first | refine blk_drewN ?_ _ | refine blk_drew ?_ | refine blk_alloc ?_ _)); refine blk_far ?_ NB291_300.out _; (with_reducible repeat (first | refine blk_drewN ?_ _ | refine blk_drew ?_ | refine blk_alloc ?_ _)); refine blk_far ?_ NB291_300.out _; exact blkt BK291) hb); replace BK292 := Aside0.mk (blk_below (g := gb292) (o := .cells #[.int .u64 0, .int .i64 0, .int .u64 0, .int .u64 0, .int .i64 0] 33 (0, 0)) (by (with_reducible repeat (first | refine blk_drewN ?_ _ | refine blk_drew ?_ | refine blk_alloc ?_ _)); refine blk_far ?_ NB292_300.out _; (with_reducible repeat (first | refine blk_drewN ?_ _ | refine blk_drew ?_ | refine blk_alloc ?_ _)); refine blk_far ?_ NB292_300.out _; exact blkt BK292) hb); replace BK300 := Aside0.mk (blk_below (g := gb300) (o := .cells #[.int .i64 t297, .int .u64 t298] 31 (0, 0)) (by (with_reducible repeat (first | refine blk_drewN ?_ _ | refine blk_drew ?_ | refine blk_alloc ?_ _)); refine blk_put (cs := #[.int .i64 t297, .int .u64 0]) ?_ 1 _ rfl; (with_reducible repeat (first | refine blk_drewN ?_ _ | refine blk_drew ?_ | refine blk_alloc ?_ _)); refine blk_put (cs := #[.int .i64 0, .int .u64 0]) ?_ 0 _ rfl; exact blkt BK300) hb); replace HB := belb HB hb; (try clear hb); (try clear hb2); (try clear hk); (try clear hi)) | ((with_reducible refine gate_dst (N := 8) rfl ?_); refine box_event ?hg (N := 8) ?hd (cs := #[.int .i64 0, .int .u64 0]) (t := 31) ?hr ?_; (case hd => rfl); (case hg => rfl); (case hr => first | (go_simp; done) | (go_simp; rfl)); intro gb304 hg w27 hbox hb; have BK304 := Aside0.mk (hbox); have GW304 := bels HB hg; have GE304 := bels HB hg; have NB291_304 := blkl BK291 hg; have NB304_291 := blkg BK291 hg; have NB292_304 := blkl BK292 hg; have NB304_292 := blkg BK292 hg; have NB300_304 := blkl BK300 hg; have NB304_300 := blkg BK300 hg; replace BK291 := blkb BK291 hb; replace BK292 := blkb BK292 hb; replace BK300 := blkb BK300 hb; replace HB := belb HB hb; clear hb hbox hg; have hnb28 := NB304_291.out; have hnc28 := NB291_304.out; have hnb29 := NB304_292.out; have hnc29 := NB292_304.out; have hnb30 := NB304_300.out; have hnc30 := NB300_304.out; have hcz31_0 : w27.cell? ⟨gb304, 0, none⟩ = some (.int .i64 0) := (blk_cell BK304.out 0).trans rfl; have hcz31_1 : w27.cell? ⟨gb304, 1, none⟩ = some (.int .u64 0) := (blk_cell BK304.out 1).trans rfl; have hfz31_0 := blk_frozen BK304.out 0; have hfz31_1 := blk_frozen BK304.out 1; have hcz32_0 : w27.cell? ⟨gb291, 0, none⟩ = some (.int .u64 a0_0) := (blk_cell BK291.out 0).trans rfl; have hcz32_1 : w27.cell? ⟨gb291, 1, none⟩ = some (.int .i64 a0_1) := (blk_cell BK291.out 1).trans rfl; have hcz32_2 : w27.cell? ⟨gb291, 2, none⟩ = some (.int .u64 a0_2) := (blk_cell BK291.out 2).trans rfl; have hcz32_3 : w27.cell? ⟨gb291, 3, none⟩ = some (.int .u64 a0_3) := (blk_cell BK291.out 3).trans rfl; have hcz32_4 : w27.cell? ⟨gb291, 4, none⟩ = some (.int .i64 a0_4) := (blk_cell BK291.out 4).trans rfl; have hfz32_0 := blk_frozen BK291.out 0; have hfz32_1 := blk_frozen BK291.out 1; have hfz32_2 := blk_frozen BK291.out 2; have hfz32_3 := blk_frozen BK291.out 3; have hfz32_4 := blk_frozen BK291.out 4; have hcz33_0 : w27.cell? ⟨gb292, 0, none⟩ = some (.int .u64 0) := (blk_cell BK292.out 0).trans rfl; have hcz33_1 : w27.cell? ⟨gb292, 1, none⟩ = some (.int .i64 0) := (blk_cell BK292.out 1).trans rfl; have hcz33_2 : w27.cell? ⟨gb292, 2, none⟩ = some (.int .u64 0) := (blk_cell BK292.out 2).trans rfl; have hcz33_3 : w27.cell? ⟨gb292, 3, none⟩ = some (.int .u64 0) := (blk_cell BK292.out 3).trans rfl; have hcz33_4 : w27.cell? ⟨gb292, 4, none⟩ = some (.int .i64 0) := (blk_cell BK292.out 4).trans rfl; have hfz33_0 := blk_frozen BK292.out 0; have hfz33_1 := blk_frozen BK292.out 1; have hfz33_2 := blk_frozen BK292.out 2; have hfz33_3 := blk_frozen BK292.out 3; have hfz33_4 := blk_frozen BK292.out 4))
   refine bodyPost_ret (results_ct rfl _ _ gb292 33 #[.int .u64 a1, .int .i64 t301, .int .u64 t302, .int .u64 a0_3, .int .i64 a0_4] (0, 0) _ rfl (by (with_reducible repeat (first | refine blk_drewN ?_ _ | refine blk_drew ?_ | refine blk_alloc ?_ _)); refine blk_put (cs := #[.int .u64 a1, .int .i64 t301, .int .u64 t302, .int .u64 a0_3, .int .i64 0]) ?_ 4 _ rfl; (with_reducible repeat (first | refine blk_drewN ?_ _ | refine blk_drew ?_ | refine blk_alloc ?_ _)); refine blk_put (cs := #[.int .u64 a1, .int .i64 t301, .int .u64 t302, .int .u64 0, .int .i64 0]) ?_ 3 _ rfl; (with_reducible repeat (first | refine blk_drewN ?_ _ | refine blk_drew ?_ | refine blk_alloc ?_ _)); refine blk_put (cs := #[.int .u64 a1, .int .i64 t301, .int .u64 0, .int .u64 0, .int .i64 0]) ?_ 2 _ rfl; (with_reducible repeat (first | refine blk_drewN ?_ _ | refine blk_drew ?_ | refine blk_alloc ?_ _)); refine blk_put (cs := #[.int .u64 a1, .int .i64 0, .int .u64 0, .int .u64 0, .int .i64 0]) ?_ 1 _ rfl; (with_reducible repeat (first | refine blk_drewN ?_ _ | refine blk_drew ?_ | refine blk_alloc ?_ _)); refine blk_put (cs := #[.int .u64 0, .int .i64 0, .int .u64 0, .int .u64 0, .int .i64 0]) ?_ 0 _ rfl; (with_reducible repeat (first | refine blk_drewN ?_ _ | refine blk_drew ?_ | refine blk_alloc ?_ _)); refine blk_far ?_ NB292_304.out _; (with_reducible repeat (first | refine blk_drewN ?_ _ | refine blk_drew ?_ | refine blk_alloc ?_ _)); refine blk_far ?_ NB292_304.out _; exact blkt BK292) Tryz.underlying33 rfl (by kernel_rfl)) rfl ?_
   exact ⟨by first | rfl | (simp [errW_none, errW_some] <;> rfl) | (simp [*, errW_none, errW_some] <;> rfl), belt HB⟩
  ·replace c9 := Bool.eq_false_iff.mpr c9
   subst c9
   have H1 : (some (0, 0, 0, 0, 0, false)) = some (r1, r2, r3, r4, r5, r6) := by rw [if_neg (show ¬ (false = true) by decide)] at H; exact H
   clear H
   have H := H1
   clear H1
   simp only [Option.some.injEq, Prod.mk.injEq] at H
   obtain ⟨rfl, rfl, rfl, rfl, rfl, rfl⟩ := H
   go_enter Tryz.func19, Tryz.ntmps19
   try go_wp2_with (first | ((with_reducible refine gate_dst (N := 2) rfl ?_); refine box_event ?hg (N := 2) ?hd (cs := #[.int .u64 a0_0, .int .i64 a0_1, .int .u64 a0_2, .int .u64 a0_3, .int .i64 a0_4]) (t := 33) ?hr ?_; (case hd => rfl); (case hg => rfl); (case hr => first | (go_simp; done) | (go_simp; rfl)); intro gb291 hg w34 hbox hb; have BK291 := Aside0.mk (hbox); have GW291 := bels HB hg; have GE291 := bels HB hg; replace HB := belb HB hb; clear hb hbox hg) | ((with_reducible refine gate_dst (N := 4) rfl ?_); refine box_event ?hg (N := 4) ?hd (cs := #[.int .u64 0, .int .i64 0, .int .u64 0, .int .u64 0, .int .i64 0]) (t := 33) ?hr ?_; (case hd => rfl); (case hg => rfl); (case hr => first | (go_simp; done) | (go_simp; rfl)); intro gb292 hg w35 hbox hb; have BK292 := Aside0.mk (hbox); have GW292 := bels HB hg; have GE292 := bels HB hg; have NB291_292 := blkl BK291 hg; have NB292_291 := blkg BK291 hg; replace BK291 := blkb BK291 hb; replace HB := belb HB hb; clear hb hbox hg; have hnb36 := NB291_292.out; have hnc36 := NB292_291.out; have hcz37_0 : w35.cell? ⟨gb291, 0, none⟩ = some (.int .u64 a0_0) := (blk_cell BK291.out 0).trans rfl; have hcz37_1 : w35.cell? ⟨gb291, 1, none⟩ = some (.int .i64 a0_1) := (blk_cell BK291.out 1).trans rfl; have hcz37_2 : w35.cell? ⟨gb291, 2, none⟩ = some (.int .u64 a0_2) := (blk_cell BK291.out 2).trans rfl; have hcz37_3 : w35.cell? ⟨gb291, 3, none⟩ = some (.int .u64 a0_3) := (blk_cell BK291.out 3).trans rfl; have hcz37_4 : w35.cell? ⟨gb291, 4, none⟩ = some (.int .i64 a0_4) := (blk_cell BK291.out 4).trans rfl; have hfz37_0 := blk_frozen BK291.out 0; have hfz37_1 := blk_frozen BK291.out 1; have hfz37_2 := blk_frozen BK291.out 2; have hfz37_3 := blk_frozen BK291.out 3; have hfz37_4 := blk_frozen BK291.out 4) | ((with_reducible refine gate_callee (f := 52) rfl ?_); refine goesL_ (some 11) rfl rfl Tryz.func52 (by kernel_rfl) rfl #[.agg #[.int .u64 a0_0, .int .i64 a0_1, .int .u64 a0_2, .int .u64 a0_3, .int .i64 a0_4]] rfl argt ?_; (with_reducible refine (mean_Mean_Right.calls a0_0 a0_1 a0_2 a0_3 a0_4 true _ A3.out).mono ?_); rintro e w38 ⟨rfl, hb⟩; refine ⟨_, rfl, ?_⟩; replace BK291 := blkb BK291 hb; replace BK292 := blkb BK292 hb; replace HB := belb HB hb; (try clear hb); (try clear hb2); (try clear hk); (try clear hi)))
   replace BK291 := Aside0.mk (blk_drew BK291.out)
   replace BK292 := Aside0.mk (blk_drew BK292.out)
   replace HB := Aside0.mk (below_drew1 HB.out)
   refine start_ (n := 14) (S := fun w' => w'.cell? ⟨gb291, 0, none⟩ = some (.int .u64 a0_0) ∧ w'.cell? ⟨gb291, 1, none⟩ = some (.int .i64 a0_1) ∧ w'.cell? ⟨gb291, 2, none⟩ = some (.int .u64 a0_2) ∧ w'.cell? ⟨gb291, 3, none⟩ = some (.int .u64 a0_3) ∧ w'.cell? ⟨gb291, 4, none⟩ = some (.int .i64 a0_4)) (ds := []) #[false, false, false, false, false, false, false, false, false, false, false, false, false, false] (by kernel_rfl) rfl rfl ⟨(blk_cell BK291.out 0).trans rfl, (blk_cell BK291.out 1).trans rfl, (blk_cell BK291.out 2).trans rfl, (blk_cell BK291.out 3).trans rfl, (blk_cell BK291.out 4).trans rfl⟩ (fun hHeld => ?_); refine with_tabW mean_Mean_Rebase.tab3 mean_Mean_Rebase.bits3 (fun HT_ HW_ => ?_)
   generalize w38.drew = w39 at BK291 BK292 HB hHeld ⊢
   refine pure_ (i := 0) (N := some 15) (v := ?_) (a' := ?_) #[true, false, false, false, false, false, false, false, false, false, false, false, false, false] rfl rfl (any_of HT_.out (by kernel_rfl)) (fun _ _ _ h => h) (Or.inl ⟨by rfl, ?_⟩) ?_ ?_
   rotate_left
   ·intro w'
    go_simp
    with_reducible rfl
   rotate_left
   ·simp only [Act.put, List.setIfInBounds_toArray, List.set_cons_zero, List.set_cons_succ, i64_w, i32_w]
    rfl
   refine pure_ (i := 3) (N := some 18) (v := ?_) (a' := ?_) #[true, false, false, true, false, false, false, false, false, false, false, false, false, false] rfl rfl (any_of HT_.out (by kernel_rfl)) (fun _ _ _ h => h) (Or.inl ⟨by rfl, ?_⟩) ?_ ?_
   rotate_left
   ·intro w'
    go_simp
    with_reducible rfl
   rotate_left
   ·simp only [Act.put, List.setIfInBounds_toArray, List.set_cons_zero, List.set_cons_succ, i64_w, i32_w]
    rfl
   refine pure_ (i := 4) (N := some 19) (v := ?_) (a' := ?_) #[true, false, false, true, true, false, false, false, false, false, false, false, false, false] rfl rfl (any_of HT_.out (by kernel_rfl)) (fun _ _ _ h => h) (Or.inl ⟨by rfl, ?_⟩) ?_ ?_
   rotate_left
   ·intro w'
    go_simp
    with_reducible rfl
   rotate_left
   ·simp only [Act.put, List.setIfInBounds_toArray, List.set_cons_zero, List.set_cons_succ, i64_w, i32_w]
    rfl
   refine take_ (i := 1) (N := some 16) (v := ?_) (a' := ?_) #[true, true, false, true, true, false, false, false, false, false, false, false, false, false] rfl rfl (take_ofW HT_.out HW_.out (by kernel_rfl)) (fun _ _ _ h => h) (Or.inl ⟨by rfl, ?_⟩) hHeld ?_ ?_
   rotate_left
   ·rintro w' ⟨s0, s1, s2, s3, s4⟩
    go_simp
    with_reducible rfl
   rotate_left
   ·simp only [Act.put, List.setIfInBounds_toArray, List.set_cons_zero, List.set_cons_succ, i64_w, i32_w]
    rfl
   refine take_ (i := 5) (N := some 20) (v := ?_) (a' := ?_) #[true, true, false, true, true, true, false, false, false, false, false, false, false, false] rfl rfl (take_ofW HT_.out HW_.out (by kernel_rfl)) (fun _ _ _ h => h) (Or.inl ⟨by rfl, ?_⟩) hHeld ?_ ?_
   rotate_left
   ·rintro w' ⟨s0, s1, s2, s3, s4⟩
    go_simp
    with_reducible rfl
   rotate_left
   ·simp only [Act.put, List.setIfInBounds_toArray, List.set_cons_zero, List.set_cons_succ, i64_w, i32_w]
    rfl
   refine join_ (σ := Nat) 2 #[true, true, true, true, true, true, true, true, true, true, true, true, false, false] (fun s_ => [(17, .agg #[.int .i64 t294, .int .u64 t295]), (21, .int .i64 t296), (22, .tuple #[.agg #[.int .i64 t297, .int .u64 t298], .bool t299]), (6, .pointer (some ⟨s_, 0, none⟩)), (14, .tuple #[.agg #[.int .i64 t297, .int .u64 t298], .bool t299]), (23, .agg #[.int .i64 t297, .int .u64 t298]), (24, .bool t299)]) (fun s_ w' => (w'.cell? ⟨gb291, 0, none⟩ = some (.int .u64 a0_0) ∧ w'.cell? ⟨gb291, 1, none⟩ = some (.int .i64 a0_1) ∧ w'.cell? ⟨gb291, 2, none⟩ = some (.int .u64 a0_2) ∧ w'.cell? ⟨gb291, 3, none⟩ = some (.int .u64 a0_3) ∧ w'.cell? ⟨gb291, 4, none⟩ = some (.int .i64 a0_4)) ∧ (w'.heap[gb291]? = some (.cells #[.int .u64 a0_0, .int .i64 a0_1, .int .u64 a0_2, .int .u64 a0_3, .int .i64 a0_4] 33 (0, 0))) ∧ (w'.heap[gb292]? = some (.cells #[.int .u64 0, .int .i64 0, .int .u64 0, .int .u64 0, .int .i64 0] 33 (0, 0))) ∧ (w'.heap[s_]? = some (.cells #[.int .i64 0, .int .u64 0] 31 (0, 0))) ∧ (w.heap.size ≤ s_) ∧ (w.heap.size ≤ s_) ∧ (gb291 ≠ s_) ∧ (s_ ≠ gb291) ∧ (gb292 ≠ s_) ∧ (s_ ≠ gb292) ∧ (Below w.heap.size w w')) ?_ ?_
   rotate_left
   ·intro hCont
    refine two_ (i := 2) (j := 11) (Ni := some 17) (Nj := some 6) #[true, true, true, true, true, true, false, false, false, false, false, false, false, false] #[true, true, false, true, true, true, false, false, false, false, false, true, false, false] rfl rfl rfl rfl (two_of HT_.out (by kernel_rfl)) (by decide) (by decide) (fun K hK => ?_) (fun K hK => ?_)
    ·skip
     refine goes_ Tryz.func53 (by kernel_rfl) rfl #[.int .u64 a0_3] (by rfl) rfl rfl argt ?_
     with_reducible refine (wide_OfU.calls a0_3 t294 t295 _ A5.out).mono ?_
     rintro e w40 ⟨rfl, hb⟩
     refine ⟨_, rfl, ?_⟩
     replace BK291 := blkb BK291 hb
     replace BK292 := blkb BK292 hb
     replace HB := belb HB hb
     (try clear hb)
     (try clear hb2)
     (try clear hk)
     (try clear hi)
     refine hK.out _ _ ⟨(blk_cell BK291.out 0).trans rfl, (blk_cell BK291.out 1).trans rfl, (blk_cell BK291.out 2).trans rfl, (blk_cell BK291.out 3).trans rfl, (blk_cell BK291.out 4).trans rfl⟩ (fun hHeld => ?_)
     clear hK K
     refine norm_ (a' := ?_) ?_ ?_
     rotate_left
     ·show Act.put _ (some 17) _ = _
      simp only [Act.put, List.setIfInBounds_toArray, List.set_cons_zero, List.set_cons_succ, i64_w, i32_w]
      rfl
     refine two_ (i := 6) (j := 11) (Ni := some 21) (Nj := some 6) #[true, true, true, true, true, true, true, false, false, false, false, false, false, false] #[true, true, true, true, true, true, false, false, false, false, false, true, false, false] rfl rfl rfl rfl (two_of HT_.out (by kernel_rfl)) (by decide) (by decide) (fun K hK => ?_) (fun K hK => ?_)
     ·skip
      refine goes_ Tryz.func16 (by kernel_rfl) rfl #[.int .u64 a1, .int .u64 a0_0] (by rfl) rfl rfl argt ?_
      with_reducible refine (vtime_Time_Since.calls a1 a0_0 t296 _ A6.out).mono ?_
      rintro e w' ⟨rfl, ⟨nd, rfl⟩⟩
      refine ⟨_, rfl, ?_⟩
      refine hK.out _ _ ⟨(blk_cell BK291.out 0).trans rfl, (blk_cell BK291.out 1).trans rfl, (blk_cell BK291.out 2).trans rfl, (blk_cell BK291.out 3).trans rfl, (blk_cell BK291.out 4).trans rfl⟩ (fun hHeld => ?_)
      clear hK K
      refine norm_ (a' := ?_) ?_ ?_
      rotate_left
      ·show Act.put _ (some 21) _ = _
       simp only [Act.put, List.setIfInBounds_toArray, List.set_cons_zero, List.set_cons_succ, i64_w, i32_w]
       rfl
      refine two_ (i := 7) (j := 11) (Ni := some 22) (Nj := some 6) #[true, true, true, true, true, true, true, true, false, false, false, false, false, false] #[true, true, true, true, true, true, true, false, false, false, false, true, false, false] rfl rfl rfl rfl (two_of HT_.out (by kernel_rfl)) (by decide) (by decide) (fun K hK => ?_) (fun K hK => ?_)
      ·skip
       refine goes_ Tryz.func54 (by kernel_rfl) rfl #[.agg #[.int .i64 t294, .int .u64 t295], .int .i64 t296] (by rfl) rfl rfl argt ?_
       with_reducible refine (wide_Int_Mul.calls k t294 t295 t296 t297 t298 t299 _ A7.out).mono ?_
       rintro e w41 ⟨rfl, hb⟩
       refine ⟨_, rfl, ?_⟩
       replace BK291 := blkb BK291 hb
       replace BK292 := blkb BK292 hb
       replace HB := belb HB hb
       (try clear hb)
       (try clear hb2)
       (try clear hk)
       (try clear hi)
       refine hK.out _ _ ⟨(blk_cell BK291.out 0).trans rfl, (blk_cell BK291.out 1).trans rfl, (blk_cell BK291.out 2).trans rfl, (blk_cell BK291.out 3).trans rfl, (blk_cell BK291.out 4).trans rfl⟩ (fun hHeld => ?_)
       clear hK K
       refine norm_ (a' := ?_) ?_ ?_
       rotate_left
       ·show Act.put _ (some 22) _ = _
        simp only [Act.put, List.setIfInBounds_toArray, List.set_cons_zero, List.set_cons_succ, i64_w, i32_w]
        rfl
       refine pure_ (i := 8) (N := some 14) (v := ?_) (a' := ?_) #[true, true, true, true, true, true, true, true, true, false, false, false, false, false] rfl rfl (any_of HT_.out (by kernel_rfl)) (fun _ _ _ h => h) (Or.inl ⟨by rfl, ?_⟩) ?_ ?_
       rotate_left
       ·intro w'
        go_simp
        with_reducible rfl
       rotate_left
       ·simp only [Act.put, List.setIfInBounds_toArray, List.set_cons_zero, List.set_cons_succ, i64_w, i32_w]
        rfl
       refine pure_ (i := 9) (N := some 23) (v := ?_) (a' := ?_) #[true, true, true, true, true, true, true, true, true, true, false, false, false, false] rfl rfl (any_of HT_.out (by kernel_rfl)) (fun _ _ _ h => h) (Or.inl ⟨by rfl, ?_⟩) ?_ ?_
       rotate_left
       ·intro w'
        go_simp
        with_reducible rfl
       rotate_left
       ·simp only [Act.put, List.setIfInBounds_toArray, List.set_cons_zero, List.set_cons_succ, i64_w, i32_w]
        rfl
       refine pure_ (i := 10) (N := some 24) (v := ?_) (a' := ?_) #[true, true, true, true, true, true, true, true, true, true, true, false, false, false] rfl rfl (any_of HT_.out (by kernel_rfl)) (fun _ _ _ h => h) (Or.inl ⟨by rfl, ?_⟩) ?_ ?_
       rotate_left
       ·intro w'
        go_simp
        with_reducible rfl
       rotate_left
       ·simp only [Act.put, List.setIfInBounds_toArray, List.set_cons_zero, List.set_cons_succ, i64_w, i32_w]
        rfl
       refine one_ (i := 11) (N := some 6) #[true, true, true, true, true, true, true, true, true, true, true, true, false, false] rfl rfl (one_of HT_.out (by kernel_rfl)) (by decide) (fun K hK => ?_)
       refine box_step ?hg (N := 6) ?hd (cs := #[.int .i64 0, .int .u64 0]) (t := 31) ?hr ?_; (case hd => rfl); (case hg => rfl); (case hr => first | (go_simp; done) | (go_simp; rfl))
       intro gb300 hg w42 hbox hb
       have BK300 := Aside0.mk (hbox)
       have GW300 := bels HB hg
       have GE300 := bels HB hg
       have NB291_300 := blkl BK291 hg
       have NB300_291 := blkg BK291 hg
       have NB292_300 := blkl BK292 hg
       have NB300_292 := blkg BK292 hg
       replace BK291 := blkb BK291 hb
       replace BK292 := blkb BK292 hb
       replace HB := belb HB hb
       clear hb hbox hg
       refine hK.out _ _ ⟨(blk_cell BK291.out 0).trans rfl, (blk_cell BK291.out 1).trans rfl, (blk_cell BK291.out 2).trans rfl, (blk_cell BK291.out 3).trans rfl, (blk_cell BK291.out 4).trans rfl⟩ (fun hHeld => ?_)
       clear hK K
       refine norm_ (a' := ?_) ?_ ?_
       rotate_left
       ·show Act.put _ (some 6) _ = _
        simp only [Act.put, List.setIfInBounds_toArray, List.set_cons_zero, List.set_cons_succ, i64_w, i32_w]
        rfl
       exact norm_ (by simp only [putAll, Act.put, List.setIfInBounds_toArray, List.set_cons_zero, List.set_cons_succ]) (hCont (gb300) _ ⟨hHeld, (blkt BK291), (blkt BK292), (blkt BK300), GW300.out, GE300.out, NB291_300.out, NB300_291.out, NB292_300.out, NB300_292.out, (belt HB)⟩)
      ·skip
       refine box_step ?hg (N := 6) ?hd (cs := #[.int .i64 0, .int .u64 0]) (t := 31) ?hr ?_; (case hd => rfl); (case hg => rfl); (case hr => first | (go_simp; done) | (go_simp; rfl))
       intro gb300 hg w41 hbox hb
       have BK300 := Aside0.mk (hbox)
       have GW300 := bels HB hg
       have GE300 := bels HB hg
       have NB291_300 := blkl BK291 hg
       have NB300_291 := blkg BK291 hg
       have NB292_300 := blkl BK292 hg
       have NB300_292 := blkg BK292 hg
       replace BK291 := blkb BK291 hb
       replace BK292 := blkb BK292 hb
       replace HB := belb HB hb
       clear hb hbox hg
       refine hK.out _ _ ⟨(blk_cell BK291.out 0).trans rfl, (blk_cell BK291.out 1).trans rfl, (blk_cell BK291.out 2).trans rfl, (blk_cell BK291.out 3).trans rfl, (blk_cell BK291.out 4).trans rfl⟩ (fun hHeld => ?_)
       clear hK K
       refine norm_ (a' := ?_) ?_ ?_
       rotate_left
       ·show Act.put _ (some 6) _ = _
        simp only [Act.put, List.setIfInBounds_toArray, List.set_cons_zero, List.set_cons_succ, i64_w, i32_w]
        rfl
       refine one_ (i := 7) (N := some 22) #[true, true, true, true, true, true, true, true, false, false, false, true, false, false] rfl rfl (one_of HT_.out (by kernel_rfl)) (by decide) (fun K hK => ?_)
       refine goes_ Tryz.func54 (by kernel_rfl) rfl #[.agg #[.int .i64 t294, .int .u64 t295], .int .i64 t296] (by rfl) rfl rfl argt ?_
       with_reducible refine (wide_Int_Mul.calls k t294 t295 t296 t297 t298 t299 _ A7.out).mono ?_
       rintro e w42 ⟨rfl, hb⟩
       refine ⟨_, rfl, ?_⟩
       replace BK291 := blkb BK291 hb
       replace BK292 := blkb BK292 hb
       replace BK300 := blkb BK300 hb
       replace HB := belb HB hb
       (try clear hb)
       (try clear hb2)
       (try clear hk)
       (try clear hi)
       refine hK.out _ _ ⟨(blk_cell BK291.out 0).trans rfl, (blk_cell BK291.out 1).trans rfl, (blk_cell BK291.out 2).trans rfl, (blk_cell BK291.out 3).trans rfl, (blk_cell BK291.out 4).trans rfl⟩ (fun hHeld => ?_)
       clear hK K
       refine norm_ (a' := ?_) ?_ ?_
       rotate_left
       ·show Act.put _ (some 22) _ = _
        simp only [Act.put, List.setIfInBounds_toArray, List.set_cons_zero, List.set_cons_succ, i64_w, i32_w]
        rfl
       refine pure_ (i := 8) (N := some 14) (v := ?_) (a' := ?_) #[true, true, true, true, true, true, true, true, true, false, false, true, false, false] rfl rfl (any_of HT_.out (by kernel_rfl)) (fun _ _ _ h => h) (Or.inl ⟨by rfl, ?_⟩) ?_ ?_
       rotate_left
       ·intro w'
        go_simp
        with_reducible rfl
       rotate_left
       ·simp only [Act.put, List.setIfInBounds_toArray, List.set_cons_zero, List.set_cons_succ, i64_w, i32_w]
        rfl
       refine pure_ (i := 9) (N := some 23) (v := ?_) (a' := ?_) #[true, true, true, true, true, true, true, true, true, true, false, true, false, false] rfl rfl (any_of HT_.out (by kernel_rfl)) (fun _ _ _ h => h) (Or.inl ⟨by rfl, ?_⟩) ?_ ?_
       rotate_left
       ·intro w'
        go_simp
        with_reducible rfl
       rotate_left
       ·simp only [Act.put, List.setIfInBounds_toArray, List.set_cons_zero, List.set_cons_succ, i64_w, i32_w]
        rfl
       refine pure_ (i := 10) (N := some 24) (v := ?_) (a' := ?_) #[true, true, true, true, true, true, true, true, true, true, true, true, false, false] rfl rfl (any_of HT_.out (by kernel_rfl)) (fun _ _ _ h => h) (Or.inl ⟨by rfl, ?_⟩) ?_ ?_
       rotate_left
       ·intro w'
        go_simp
        with_reducible rfl
       rotate_left
       ·simp only [Act.put, List.setIfInBounds_toArray, List.set_cons_zero, List.set_cons_succ, i64_w, i32_w]
        rfl
       exact norm_ (by simp only [putAll, Act.put, List.setIfInBounds_toArray, List.set_cons_zero, List.set_cons_succ]) (hCont (gb300) _ ⟨hHeld, (blkt BK291), (blkt BK292), (blkt BK300), GW300.out, GE300.out, NB291_300.out, NB300_291.out, NB292_300.out, NB300_292.out, (belt HB)⟩)
     ·skip
      refine box_step ?hg (N := 6) ?hd (cs := #[.int .i64 0, .int .u64 0]) (t := 31) ?hr ?_; (case hd => rfl); (case hg => rfl); (case hr => first | (go_simp; done) | (go_simp; rfl))
      intro gb300 hg w41 hbox hb
      have BK300 := Aside0.mk (hbox)
      have GW300 := bels HB hg
      have GE300 := bels HB hg
      have NB291_300 := blkl BK291 hg
      have NB300_291 := blkg BK291 hg
      have NB292_300 := blkl BK292 hg
      have NB300_292 := blkg BK292 hg
      replace BK291 := blkb BK291 hb
      replace BK292 := blkb BK292 hb
      replace HB := belb HB hb
      clear hb hbox hg
      refine hK.out _ _ ⟨(blk_cell BK291.out 0).trans rfl, (blk_cell BK291.out 1).trans rfl, (blk_cell BK291.out 2).trans rfl, (blk_cell BK291.out 3).trans rfl, (blk_cell BK291.out 4).trans rfl⟩ (fun hHeld => ?_)
      clear hK K
      refine norm_ (a' := ?_) ?_ ?_
      rotate_left
      ·show Act.put _ (some 6) _ = _
       simp only [Act.put, List.setIfInBounds_toArray, List.set_cons_zero, List.set_cons_succ, i64_w, i32_w]
       rfl
      refine one_ (i := 6) (N := some 21) #[true, true, true, true, true, true, true, false, false, false, false, true, false, false] rfl rfl (one_of HT_.out (by kernel_rfl)) (by decide) (fun K hK => ?_)
      refine goes_ Tryz.func16 (by kernel_rfl) rfl #[.int .u64 a1, .int .u64 a0_0] (by rfl) rfl rfl argt ?_
      with_reducible refine (vtime_Time_Since.calls a1 a0_0 t296 _ A6.out).mono ?_
      rintro e w' ⟨rfl, ⟨nd, rfl⟩⟩
      refine ⟨_, rfl, ?_⟩
      refine hK.out _ _ ⟨(blk_cell BK291.out 0).trans rfl, (blk_cell BK291.out 1).trans rfl, (blk_cell BK291.out 2).trans rfl, (blk_cell BK291.out 3).trans rfl, (blk_cell BK291.out 4).trans rfl⟩ (fun hHeld => ?_)
      clear hK K
      refine norm_ (a' := ?_) ?_ ?_
      rotate_left
      ·show Act.put _ (some 21) _ = _
       simp only [Act.put, List.setIfInBounds_toArray, List.set_cons_zero, List.set_cons_succ, i64_w, i32_w]
       rfl
      refine one_ (i := 7) (N := some 22) #[true, true, true, true, true, true, true, true, false, false, false, true, false, false] rfl rfl (one_of HT_.out (by kernel_rfl)) (by decide) (fun K hK => ?_)
      refine goes_ Tryz.func54 (by kernel_rfl) rfl #[.agg #[.int .i64 t294, .int .u64 t295], .int .i64 t296] (by rfl) rfl rfl argt ?_
      with_reducible refine (wide_Int_Mul.calls k t294 t295 t296 t297 t298 t299 _ A7.out).mono ?_
      rintro e w42 ⟨rfl, hb⟩
      refine ⟨_, rfl, ?_⟩
      replace BK291 := blkb BK291 hb
      replace BK292 := blkb BK292 hb
      replace BK300 := blkb BK300 hb
      replace HB := belb HB hb
      (try clear hb)
      (try clear hb2)
      (try clear hk)
      (try clear hi)
      refine hK.out _ _ ⟨(blk_cell BK291.out 0).trans rfl, (blk_cell BK291.out 1).trans rfl, (blk_cell BK291.out 2).trans rfl, (blk_cell BK291.out 3).trans rfl, (blk_cell BK291.out 4).trans rfl⟩ (fun hHeld => ?_)
      clear hK K
      refine norm_ (a' := ?_) ?_ ?_
      rotate_left
      ·show Act.put _ (some 22) _ = _
       simp only [Act.put, List.setIfInBounds_toArray, List.set_cons_zero, List.set_cons_succ, i64_w, i32_w]
       rfl
      refine pure_ (i := 8) (N := some 14) (v := ?_) (a' := ?_) #[true, true, true, true, true, true, true, true, true, false, false, true, false, false] rfl rfl (any_of HT_.out (by kernel_rfl)) (fun _ _ _ h => h) (Or.inl ⟨by rfl, ?_⟩) ?_ ?_
      rotate_left
      ·intro w'
       go_simp
       with_reducible rfl
      rotate_left
      ·simp only [Act.put, List.setIfInBounds_toArray, List.set_cons_zero, List.set_cons_succ, i64_w, i32_w]
       rfl
      refine pure_ (i := 9) (N := some 23) (v := ?_) (a' := ?_) #[true, true, true, true, true, true, true, true, true, true, false, true, false, false] rfl rfl (any_of HT_.out (by kernel_rfl)) (fun _ _ _ h => h) (Or.inl ⟨by rfl, ?_⟩) ?_ ?_
      rotate_left
      ·intro w'
       go_simp
       with_reducible rfl
      rotate_left
      ·simp only [Act.put, List.setIfInBounds_toArray, List.set_cons_zero, List.set_cons_succ, i64_w, i32_w]
       rfl
      refine pure_ (i := 10) (N := some 24) (v := ?_) (a' := ?_) #[true, true, true, true, true, true, true, true, true, true, true, true, false, false] rfl rfl (any_of HT_.out (by kernel_rfl)) (fun _ _ _ h => h) (Or.inl ⟨by rfl, ?_⟩) ?_ ?_
      rotate_left
      ·intro w'
       go_simp
       with_reducible rfl
      rotate_left
      ·simp only [Act.put, List.setIfInBounds_toArray, List.set_cons_zero, List.set_cons_succ, i64_w, i32_w]
       rfl
      exact norm_ (by simp only [putAll, Act.put, List.setIfInBounds_toArray, List.set_cons_zero, List.set_cons_succ]) (hCont (gb300) _ ⟨hHeld, (blkt BK291), (blkt BK292), (blkt BK300), GW300.out, GE300.out, NB291_300.out, NB300_291.out, NB292_300.out, NB300_292.out, (belt HB)⟩)
    ·skip
     refine box_step ?hg (N := 6) ?hd (cs := #[.int .i64 0, .int .u64 0]) (t := 31) ?hr ?_; (case hd => rfl); (case hg => rfl); (case hr => first | (go_simp; done) | (go_simp; rfl))
     intro gb300 hg w40 hbox hb
     have BK300 := Aside0.mk (hbox)
     have GW300 := bels HB hg
     have GE300 := bels HB hg
     have NB291_300 := blkl BK291 hg
     have NB300_291 := blkg BK291 hg
     have NB292_300 := blkl BK292 hg
     have NB300_292 := blkg BK292 hg
     replace BK291 := blkb BK291 hb
     replace BK292 := blkb BK292 hb
     replace HB := belb HB hb
     clear hb hbox hg
     refine hK.out _ _ ⟨(blk_cell BK291.out 0).trans rfl, (blk_cell BK291.out 1).trans rfl, (blk_cell BK291.out 2).trans rfl, (blk_cell BK291.out 3).trans rfl, (blk_cell BK291.out 4).trans rfl⟩ (fun hHeld => ?_)
     clear hK K
     refine norm_ (a' := ?_) ?_ ?_
     rotate_left
     ·show Act.put _ (some 6) _ = _
      simp only [Act.put, List.setIfInBounds_toArray, List.set_cons_zero, List.set_cons_succ, i64_w, i32_w]
      rfl
     refine one_ (i := 2) (N := some 17) #[true, true, true, true, true, true, false, false, false, false, false, true, false, false] rfl rfl (one_of HT_.out (by kernel_rfl)) (by decide) (fun K hK => ?_)
     refine goes_ Tryz.func53 (by kernel_rfl) rfl #[.int .u64 a0_3] (by rfl) rfl rfl argt ?_
     with_reducible refine (wide_OfU.calls a0_3 t294 t295 _ A5.out).mono ?_
     rintro e w41 ⟨rfl, hb⟩
     refine ⟨_, rfl, ?_⟩
     replace BK291 := blkb BK291 hb
     replace BK292 := blkb BK292 hb
     replace BK300 := blkb BK300 hb
     replace HB := belb HB hb
     (try clear hb)
     (try clear hb2)
     (try clear hk)
     (try clear hi)
     refine hK.out _ _ ⟨(blk_cell BK291.out 0).trans rfl, (blk_cell BK291.out 1).trans rfl, (blk_cell BK291.out 2).trans rfl, (blk_cell BK291.out 3).trans rfl, (blk_cell BK291.out 4).trans rfl⟩ (fun hHeld => ?_)
     clear hK K
     refine norm_ (a' := ?_) ?_ ?_
     rotate_left
     ·show Act.put _ (some 17) _ = _
      simp only [Act.put, List.setIfInBounds_toArray, List.set_cons_zero, List.set_cons_succ, i64_w, i32_w]
      rfl
     refine one_ (i := 6) (N := some 21) #[true, true, true, true, true, true, true, false, false, false, false, true, false, false] rfl rfl (one_of HT_.out (by kernel_rfl)) (by decide) (fun K hK => ?_)
     refine goes_ Tryz.func16 (by kernel_rfl) rfl #[.int .u64 a1, .int .u64 a0_0] (by rfl) rfl rfl argt ?_
     with_reducible refine (vtime_Time_Since.calls a1 a0_0 t296 _ A6.out).mono ?_
     rintro e w' ⟨rfl, ⟨nd, rfl⟩⟩
     refine ⟨_, rfl, ?_⟩
     refine hK.out _ _ ⟨(blk_cell BK291.out 0).trans rfl, (blk_cell BK291.out 1).trans rfl, (blk_cell BK291.out 2).trans rfl, (blk_cell BK291.out 3).trans rfl, (blk_cell BK291.out 4).trans rfl⟩ (fun hHeld => ?_)
     clear hK K
     refine norm_ (a' := ?_) ?_ ?_
     rotate_left
     ·show Act.put _ (some 21) _ = _
      simp only [Act.put, List.setIfInBounds_toArray, List.set_cons_zero, List.set_cons_succ, i64_w, i32_w]
      rfl
     refine one_ (i := 7) (N := some 22) #[true, true, true, true, true, true, true, true, false, false, false, true, false, false] rfl rfl (one_of HT_.out (by kernel_rfl)) (by decide) (fun K hK => ?_)
     refine goes_ Tryz.func54 (by kernel_rfl) rfl #[.agg #[.int .i64 t294, .int .u64 t295], .int .i64 t296] (by rfl) rfl rfl argt ?_
     with_reducible refine (wide_Int_Mul.calls k t294 t295 t296 t297 t298 t299 _ A7.out).mono ?_
     rintro e w42 ⟨rfl, hb⟩
     refine ⟨_, rfl, ?_⟩
     replace BK291 := blkb BK291 hb
     replace BK292 := blkb BK292 hb
     replace BK300 := blkb BK300 hb
     replace HB := belb HB hb
     (try clear hb)
     (try clear hb2)
     (try clear hk)
     (try clear hi)
     refine hK.out _ _ ⟨(blk_cell BK291.out 0).trans rfl, (blk_cell BK291.out 1).trans rfl, (blk_cell BK291.out 2).trans rfl, (blk_cell BK291.out 3).trans rfl, (blk_cell BK291.out 4).trans rfl⟩ (fun hHeld => ?_)
     clear hK K
     refine norm_ (a' := ?_) ?_ ?_
     rotate_left
     ·show Act.put _ (some 22) _ = _
      simp only [Act.put, List.setIfInBounds_toArray, List.set_cons_zero, List.set_cons_succ, i64_w, i32_w]
      rfl
     refine pure_ (i := 8) (N := some 14) (v := ?_) (a' := ?_) #[true, true, true, true, true, true, true, true, true, false, false, true, false, false] rfl rfl (any_of HT_.out (by kernel_rfl)) (fun _ _ _ h => h) (Or.inl ⟨by rfl, ?_⟩) ?_ ?_
     rotate_left
     ·intro w'
      go_simp
      with_reducible rfl
     rotate_left
     ·simp only [Act.put, List.setIfInBounds_toArray, List.set_cons_zero, List.set_cons_succ, i64_w, i32_w]
      rfl
     refine pure_ (i := 9) (N := some 23) (v := ?_) (a' := ?_) #[true, true, true, true, true, true, true, true, true, true, false, true, false, false] rfl rfl (any_of HT_.out (by kernel_rfl)) (fun _ _ _ h => h) (Or.inl ⟨by rfl, ?_⟩) ?_ ?_
     rotate_left
     ·intro w'
      go_simp
      with_reducible rfl
     rotate_left
     ·simp only [Act.put, List.setIfInBounds_toArray, List.set_cons_zero, List.set_cons_succ, i64_w, i32_w]
      rfl
     refine pure_ (i := 10) (N := some 24) (v := ?_) (a' := ?_) #[true, true, true, true, true, true, true, true, true, true, true, true, false, false] rfl rfl (any_of HT_.out (by kernel_rfl)) (fun _ _ _ h => h) (Or.inl ⟨by rfl, ?_⟩) ?_ ?_
     rotate_left
     ·intro w'
      go_simp
      with_reducible rfl
     rotate_left
     ·simp only [Act.put, List.setIfInBounds_toArray, List.set_cons_zero, List.set_cons_succ, i64_w, i32_w]
      rfl
     exact norm_ (by simp only [putAll, Act.put, List.setIfInBounds_toArray, List.set_cons_zero, List.set_cons_succ]) (hCont (gb300) _ ⟨hHeld, (blkt BK291), (blkt BK292), (blkt BK300), GW300.out, GE300.out, NB291_300.out, NB300_291.out, NB292_300.out, NB300_292.out, (belt HB)⟩)
   rintro gb300 w43 ⟨hS_, h0_, h1_, h2_, h3_, h4_, h5_, h6_, h7_, h8_, h9_⟩
   replace BK291 : Aside0 (w43.heap[gb291]? = some (.cells #[.int .u64 a0_0, .int .i64 a0_1, .int .u64 a0_2, .int .u64 a0_3, .int .i64 a0_4] 33 (0, 0))) := ⟨h0_⟩
   replace BK292 : Aside0 (w43.heap[gb292]? = some (.cells #[.int .u64 0, .int .i64 0, .int .u64 0, .int .u64 0, .int .i64 0] 33 (0, 0))) := ⟨h1_⟩
   have BK300 : Aside0 (w43.heap[gb300]? = some (.cells #[.int .i64 0, .int .u64 0] 31 (0, 0))) := ⟨h2_⟩
   have GW300 : Aside0 (w.heap.size ≤ gb300) := ⟨h3_⟩
   have GE300 : Aside0 (w.heap.size ≤ gb300) := ⟨h4_⟩
   have NB291_300 : Aside0 (gb291 ≠ gb300) := ⟨h5_⟩
   have NB300_291 : Aside0 (gb300 ≠ gb291) := ⟨h6_⟩
   have NB292_300 : Aside0 (gb292 ≠ gb300) := ⟨h7_⟩
   have NB300_292 : Aside0 (gb300 ≠ gb292) := ⟨h8_⟩
   replace HB : Aside0 (Below w.heap.size w w43) := ⟨h9_⟩
   clear h0_ h1_ h2_ h3_ h4_ h5_ h6_ h7_ h8_ h9_
   have hHeld : w43.cell? ⟨gb291, 0, none⟩ = some (.int .u64 a0_0) ∧ w43.cell? ⟨gb291, 1, none⟩ = some (.int .i64 a0_1) ∧ w43.cell? ⟨gb291, 2, none⟩ = some (.int .u64 a0_2) ∧ w43.cell? ⟨gb291, 3, none⟩ = some (.int .u64 a0_3) ∧ w43.cell? ⟨gb291, 4, none⟩ = some (.int .i64 a0_4) := hS_
   refine norm_ (a' := ?_) ?_ ?_
   rotate_left
   ·simp only [putAll, Act.put, List.setIfInBounds_toArray, List.set_cons_zero, List.set_cons_succ]
    rfl
   refine one_ (i := 12) (N := none) #[true, true, true, true, true, true, true, true, true, true, true, true, true, false] rfl rfl (one_of HT_.out (by kernel_rfl)) (by decide) (fun K hK => ?_)
   have hs44 : w43.cell? ⟨gb300, 0, none⟩ = some (.int .i64 0) := (blk_cell BK300.out 0).trans rfl
   have hfs44 := blk_frozen BK300.out 0
   have hns44_0 := NB291_300.out
   have hns44_1 := NB292_300.out
   have hms44_0 := NB300_291.out
   have hms44_1 := NB300_292.out
   have hs45 : w43.cell? ⟨gb300, 1, none⟩ = some (.int .u64 0) := (blk_cell BK300.out 1).trans rfl
   have hfs45 := blk_frozen BK300.out 1
   have hns45_0 := NB291_300.out
   have hns45_1 := NB292_300.out
   have hms45_0 := NB300_291.out
   have hms45_1 := NB300_292.out
   refine skip_ (w1 := ?_) (by rfl) rfl ?_ ?_
   rotate_left
   ·go_simp
    rfl
   refine hK.out _ _ ⟨((cell_far (p := ⟨gb300, _, none⟩) NB291_300.out _).trans (((cell_far (p := ⟨gb300, _, none⟩) NB291_300.out _).trans (hHeld.1)))), ((cell_far (p := ⟨gb300, _, none⟩) NB291_300.out _).trans (((cell_far (p := ⟨gb300, _, none⟩) NB291_300.out _).trans (hHeld.2.1)))), ((cell_far (p := ⟨gb300, _, none⟩) NB291_300.out _).trans (((cell_far (p := ⟨gb300, _, none⟩) NB291_300.out _).trans (hHeld.2.2.1)))), ((cell_far (p := ⟨gb300, _, none⟩) NB291_300.out _).trans (((cell_far (p := ⟨gb300, _, none⟩) NB291_300.out _).trans (hHeld.2.2.2.1)))), ((cell_far (p := ⟨gb300, _, none⟩) NB291_300.out _).trans (((cell_far (p := ⟨gb300, _, none⟩) NB291_300.out _).trans (hHeld.2.2.2.2))))⟩ (fun hHeld => ?_)
   clear hK K
   refine pure_ (i := 13) (N := some 7) (v := ?_) (a' := ?_) #[true, true, true, true, true, true, true, true, true, true, true, true, true, true] rfl rfl (any_of HT_.out (by kernel_rfl)) (fun _ _ _ h => h) (Or.inl ⟨by rfl, ?_⟩) ?_ ?_
   rotate_left
   ·intro w'
    go_simp
    with_reducible rfl
   rotate_left
   ·simp only [Act.put, List.setIfInBounds_toArray, List.set_cons_zero, List.set_cons_succ, i64_w, i32_w]
    rfl
   refine done_ (done_of HT_.out (by kernel_rfl)) ?_
   have hnb46 := NB291_300.out
   have hnc46 := NB300_291.out
   have hcz47_0 : w43.cell? ⟨gb291, 0, none⟩ = some (.int .u64 a0_0) := (blk_cell BK291.out 0).trans rfl
   have hcz47_1 : w43.cell? ⟨gb291, 1, none⟩ = some (.int .i64 a0_1) := (blk_cell BK291.out 1).trans rfl
   have hcz47_2 : w43.cell? ⟨gb291, 2, none⟩ = some (.int .u64 a0_2) := (blk_cell BK291.out 2).trans rfl
   have hcz47_3 : w43.cell? ⟨gb291, 3, none⟩ = some (.int .u64 a0_3) := (blk_cell BK291.out 3).trans rfl
   have hcz47_4 : w43.cell? ⟨gb291, 4, none⟩ = some (.int .i64 a0_4) := (blk_cell BK291.out 4).trans rfl
   have hfz47_0 := blk_frozen BK291.out 0
   have hfz47_1 := blk_frozen BK291.out 1
   have hfz47_2 := blk_frozen BK291.out 2
   have hfz47_3 := blk_frozen BK291.out 3
   have hfz47_4 := blk_frozen BK291.out 4
   have hnb48 := NB300_292.out
   have hnc48 := NB292_300.out
   have hcz49_0 : w43.cell? ⟨gb300, 0, none⟩ = some (.int .i64 0) := (blk_cell BK300.out 0).trans rfl
   have hcz49_1 : w43.cell? ⟨gb300, 1, none⟩ = some (.int .u64 0) := (blk_cell BK300.out 1).trans rfl
   have hfz49_0 := blk_frozen BK300.out 0
   have hfz49_1 := blk_frozen BK300.out 1
   try go_wp2_with (first | ((with_reducible refine gate_callee (f := 26) rfl ?_); refine goesL_ (some 29) rfl rfl Tryz.func26 (by kernel_rfl) rfl #[.agg #[.int .i64 a0_1, .int .u64 a0_2], .agg #[.int .i64 t297, .int .u64 t298]] rfl argt ?_; (with_reducible refine (wide_Int_Sub.calls a0_1 a0_2 t297 t298 t301 t302 false _ A8.out).mono ?_); rintro e w50 ⟨rfl, hb⟩; refine ⟨_, rfl, ?_⟩; replace BK291 := Aside0.mk (blk_below (g := gb291) (o := .cells #[.int .u64 a0_0, .int .i64 a0_1, .int .u64 a0_2, .int .u64 a0_3, .int .i64 a0_4] 33 (0, 0)) (by (with_reducible repeat (first | refine blk_drewN ?_ _ | refine blk_drew ?_ | refine blk_alloc ?_ _)); refine blk_far ?_ NB291_300.out _; (with_reducible repeat (first | refine blk_drewN ?_ _ | refine blk_drew ?_ | refine blk_alloc ?_ _)); refine blk_far ?_ NB291_300.out _; exact blkt BK291) hb); replace BK292 := Aside0.mk (blk_below (g := gb292) (o := .cells #[.int .u64 0, .int .i64 0, .int .u64 0, .int .u64 0, .int .i64 0] 33 (0, 0)) (by (with_reducible repeat (first | refine blk_drewN ?_ _ | refine blk_drew ?_ | refine blk_alloc ?_ _)); refine blk_far ?_ NB292_300.out _; (with_reducible repeat (first | refine blk_drewN ?_ _ | refine blk_drew ?_ | refine blk_alloc ?_ _)); refine blk_far ?_ NB292_300.out _; exact blkt BK292) hb); replace BK300 := Aside0.mk (blk_below (g := gb300) (o := .cells #[.int .i64 t297, .int .u64 t298] 31 (0, 0)) (by (with_reducible repeat (first | refine blk_drewN ?_ _ | refine blk_drew ?_ | refine blk_alloc ?_ _)); refine blk_put (cs := #[.int .i64 t297, .int .u64 0]) ?_ 1 _ rfl; (with_reducible repeat (first | refine blk_drewN ?_ _ | refine blk_drew ?_ | refine blk_alloc ?_ _)); refine blk_put (cs := #[.int .i64 0, .int .u64 0]) ?_ 0 _ rfl; exact blkt BK300) hb); replace HB := belb HB hb; (try clear hb); (try clear hb2); (try clear hk); (try clear hi)) | ((with_reducible refine gate_dst (N := 8) rfl ?_); refine box_event ?hg (N := 8) ?hd (cs := #[.int .i64 0, .int .u64 0]) (t := 31) ?hr ?_; (case hd => rfl); (case hg => rfl); (case hr => first | (go_simp; done) | (go_simp; rfl)); intro gb304 hg w51 hbox hb; have BK304 := Aside0.mk (hbox); have GW304 := bels HB hg; have GE304 := bels HB hg; have NB291_304 := blkl BK291 hg; have NB304_291 := blkg BK291 hg; have NB292_304 := blkl BK292 hg; have NB304_292 := blkg BK292 hg; have NB300_304 := blkl BK300 hg; have NB304_300 := blkg BK300 hg; replace BK291 := blkb BK291 hb; replace BK292 := blkb BK292 hb; replace BK300 := blkb BK300 hb; replace HB := belb HB hb; clear hb hbox hg; have hnb52 := NB304_291.out; have hnc52 := NB291_304.out; have hnb53 := NB304_292.out; have hnc53 := NB292_304.out; have hnb54 := NB304_300.out; have hnc54 := NB300_304.out; have hcz55_0 : w51.cell? ⟨gb304, 0, none⟩ = some (.int .i64 0) := (blk_cell BK304.out 0).trans rfl; have hcz55_1 : w51.cell? ⟨gb304, 1, none⟩ = some (.int .u64 0) := (blk_cell BK304.out 1).trans rfl; have hfz55_0 := blk_frozen BK304.out 0; have hfz55_1 := blk_frozen BK304.out 1; have hcz56_0 : w51.cell? ⟨gb292, 0, none⟩ = some (.int .u64 0) := (blk_cell BK292.out 0).trans rfl; have hcz56_1 : w51.cell? ⟨gb292, 1, none⟩ = some (.int .i64 0) := (blk_cell BK292.out 1).trans rfl; have hcz56_2 : w51.cell? ⟨gb292, 2, none⟩ = some (.int .u64 0) := (blk_cell BK292.out 2).trans rfl; have hcz56_3 : w51.cell? ⟨gb292, 3, none⟩ = some (.int .u64 0) := (blk_cell BK292.out 3).trans rfl; have hcz56_4 : w51.cell? ⟨gb292, 4, none⟩ = some (.int .i64 0) := (blk_cell BK292.out 4).trans rfl; have hfz56_0 := blk_frozen BK292.out 0; have hfz56_1 := blk_frozen BK292.out 1; have hfz56_2 := blk_frozen BK292.out 2; have hfz56_3 := blk_frozen BK292.out 3; have hfz56_4 := blk_frozen BK292.out 4))
   refine bodyPost_ret (results_ct rfl _ _ gb292 33 #[.int .u64 0, .int .i64 0, .int .u64 0, .int .u64 0, .int .i64 0] (0, 0) _ rfl (by (with_reducible repeat (first | refine blk_drewN ?_ _ | refine blk_drew ?_ | refine blk_alloc ?_ _)); refine blk_put (cs := #[.int .u64 0, .int .i64 0, .int .u64 0, .int .u64 0, .int .i64 0]) ?_ 4 _ rfl; (with_reducible repeat (first | refine blk_drewN ?_ _ | refine blk_drew ?_ | refine blk_alloc ?_ _)); refine blk_put (cs := #[.int .u64 0, .int .i64 0, .int .u64 0, .int .u64 0, .int .i64 0]) ?_ 3 _ rfl; (with_reducible repeat (first | refine blk_drewN ?_ _ | refine blk_drew ?_ | refine blk_alloc ?_ _)); refine blk_put (cs := #[.int .u64 0, .int .i64 0, .int .u64 0, .int .u64 0, .int .i64 0]) ?_ 2 _ rfl; (with_reducible repeat (first | refine blk_drewN ?_ _ | refine blk_drew ?_ | refine blk_alloc ?_ _)); refine blk_put (cs := #[.int .u64 0, .int .i64 0, .int .u64 0, .int .u64 0, .int .i64 0]) ?_ 1 _ rfl; (with_reducible repeat (first | refine blk_drewN ?_ _ | refine blk_drew ?_ | refine blk_alloc ?_ _)); refine blk_put (cs := #[.int .u64 0, .int .i64 0, .int .u64 0, .int .u64 0, .int .i64 0]) ?_ 0 _ rfl; (with_reducible repeat (first | refine blk_drewN ?_ _ | refine blk_drew ?_ | refine blk_alloc ?_ _)); refine blk_far ?_ NB292_304.out _; (with_reducible repeat (first | refine blk_drewN ?_ _ | refine blk_drew ?_ | refine blk_alloc ?_ _)); refine blk_far ?_ NB292_304.out _; exact blkt BK292) Tryz.underlying33 rfl (by kernel_rfl)) rfl ?_
   exact ⟨by first | rfl | (simp [errW_none, errW_some] <;> rfl) | (simp [*, errW_none, errW_some] <;> rfl), belt HB⟩
 ·replace c4 := Bool.eq_false_iff.mpr c4
  subst c4
  have H1 : (some (0, 0, 0, 0, 0, false)) = some (r1, r2, r3, r4, r5, r6) := by rw [if_neg (show ¬ (false = true) by decide)] at H; exact H
  clear H
  have H := H1
  clear H1
  simp only [Option.some.injEq, Prod.mk.injEq] at H
  obtain ⟨rfl, rfl, rfl, rfl, rfl, rfl⟩ := H
  go_enter Tryz.func19, Tryz.ntmps19
  go_wp2_with (first | ((with_reducible refine gate_dst (N := 2) rfl ?_); refine box_event ?hg (N := 2) ?hd (cs := #[.int .u64 a0_0, .int .i64 a0_1, .int .u64 a0_2, .int .u64 a0_3, .int .i64 a0_4]) (t := 33) ?hr ?_; (case hd => rfl); (case hg => rfl); (case hr => first | (go_simp; done) | (go_simp; rfl)); intro gb291 hg w57 hbox hb; have BK291 := Aside0.mk (hbox); have GW291 := bels HB hg; have GE291 := bels HB hg; replace HB := belb HB hb; clear hb hbox hg) | ((with_reducible refine gate_dst (N := 4) rfl ?_); refine box_event ?hg (N := 4) ?hd (cs := #[.int .u64 0, .int .i64 0, .int .u64 0, .int .u64 0, .int .i64 0]) (t := 33) ?hr ?_; (case hd => rfl); (case hg => rfl); (case hr => first | (go_simp; done) | (go_simp; rfl)); intro gb292 hg w58 hbox hb; have BK292 := Aside0.mk (hbox); have GW292 := bels HB hg; have GE292 := bels HB hg; have NB291_292 := blkl BK291 hg; have NB292_291 := blkg BK291 hg; replace BK291 := blkb BK291 hb; replace HB := belb HB hb; clear hb hbox hg; have hnb59 := NB291_292.out; have hnc59 := NB292_291.out; have hcz60_0 : w58.cell? ⟨gb291, 0, none⟩ = some (.int .u64 a0_0) := (blk_cell BK291.out 0).trans rfl; have hcz60_1 : w58.cell? ⟨gb291, 1, none⟩ = some (.int .i64 a0_1) := (blk_cell BK291.out 1).trans rfl; have hcz60_2 : w58.cell? ⟨gb291, 2, none⟩ = some (.int .u64 a0_2) := (blk_cell BK291.out 2).trans rfl; have hcz60_3 : w58.cell? ⟨gb291, 3, none⟩ = some (.int .u64 a0_3) := (blk_cell BK291.out 3).trans rfl; have hcz60_4 : w58.cell? ⟨gb291, 4, none⟩ = some (.int .i64 a0_4) := (blk_cell BK291.out 4).trans rfl; have hfz60_0 := blk_frozen BK291.out 0; have hfz60_1 := blk_frozen BK291.out 1; have hfz60_2 := blk_frozen BK291.out 2; have hfz60_3 := blk_frozen BK291.out 3; have hfz60_4 := blk_frozen BK291.out 4) | ((with_reducible refine gate_callee (f := 52) rfl ?_); refine goesL_ (some 11) rfl rfl Tryz.func52 (by kernel_rfl) rfl #[.agg #[.int .u64 a0_0, .int .i64 a0_1, .int .u64 a0_2, .int .u64 a0_3, .int .i64 a0_4]] rfl argt ?_; (with_reducible refine (mean_Mean_Right.calls a0_0 a0_1 a0_2 a0_3 a0_4 false _ A3.out).mono ?_); rintro e w61 ⟨rfl, hb⟩; refine ⟨_, rfl, ?_⟩; replace BK291 := blkb BK291 hb; replace BK292 := blkb BK292 hb; replace HB := belb HB hb; (try clear hb); (try clear hb2); (try clear hk); (try clear hi); have hcz62_0 : w61.cell? ⟨gb292, 0, none⟩ = some (.int .u64 0) := (blk_cell BK292.out 0).trans rfl; have hcz62_1 : w61.cell? ⟨gb292, 1, none⟩ = some (.int .i64 0) := (blk_cell BK292.out 1).trans rfl; have hcz62_2 : w61.cell? ⟨gb292, 2, none⟩ = some (.int .u64 0) := (blk_cell BK292.out 2).trans rfl; have hcz62_3 : w61.cell? ⟨gb292, 3, none⟩ = some (.int .u64 0) := (blk_cell BK292.out 3).trans rfl; have hcz62_4 : w61.cell? ⟨gb292, 4, none⟩ = some (.int .i64 0) := (blk_cell BK292.out 4).trans rfl; have hfz62_0 := blk_frozen BK292.out 0; have hfz62_1 := blk_frozen BK292.out 1; have hfz62_2 := blk_frozen BK292.out 2; have hfz62_3 := blk_frozen BK292.out 3; have hfz62_4 := blk_frozen BK292.out 4))
  refine bodyPost_ret (results_ct rfl _ _ gb292 33 #[.int .u64 0, .int .i64 0, .int .u64 0, .int .u64 0, .int .i64 0] (0, 0) _ rfl (by (with_reducible repeat (first | refine blk_drewN ?_ _ | refine blk_drew ?_ | refine blk_alloc ?_ _)); refine blk_put (cs := #[.int .u64 0, .int .i64 0, .int .u64 0, .int .u64 0, .int .i64 0]) ?_ 4 _ rfl; (with_reducible repeat (first | refine blk_drewN ?_ _ | refine blk_drew ?_ | refine blk_alloc ?_ _)); refine blk_put (cs := #[.int .u64 0, .int .i64 0, .int .u64 0, .int .u64 0, .int .i64 0]) ?_ 3 _ rfl; (with_reducible repeat (first | refine blk_drewN ?_ _ | refine blk_drew ?_ | refine blk_alloc ?_ _)); refine blk_put (cs := #[.int .u64 0, .int .i64 0, .int .u64 0, .int .u64 0, .int .i64 0]) ?_ 2 _ rfl; (with_reducible repeat (first | refine blk_drewN ?_ _ | refine blk_drew ?_ | refine blk_alloc ?_ _)); refine blk_put (cs := #[.int .u64 0, .int .i64 0, .int .u64 0, .int .u64 0, .int .i64 0]) ?_ 1 _ rfl; (with_reducible repeat (first | refine blk_drewN ?_ _ | refine blk_drew ?_ | refine blk_alloc ?_ _)); refine blk_put (cs := #[.int .u64 0, .int .i64 0, .int .u64 0, .int .u64 0, .int .i64 0]) ?_ 0 _ rfl; exact blkt BK292) Tryz.underlying33 rfl (by kernel_rfl)) rfl ?_
  exact ⟨by first | rfl | (simp [errW_none, errW_some] <;> rfl) | (simp [*, errW_none, errW_some] <;> rfl), belt HB⟩


attribute [local go_sem high] eqA31
/-! ### turnstonelaw09_LagBases: function 3 -/
mutual
def turnstonelaw09_LagBases.j0 : Nat → Int → List (S28) → Int → Bool → Option (Bool)
 | 0, _, _, _, _ => none
 | k + 1, x0, x1, x2, x32 => if x32 = true then (some true) else (turnstonelaw09_LagBases.l0 k x0 x1 x2 x1 (x1.length : Int) 0)
def turnstonelaw09_LagBases.l0 : Nat → Int → List (S28) → Int → List (S28) → Int → Int → Option (Bool)
 | 0, _, _, _, _, _, _ => none
 | k + 1, x0, x1, x2, x33, x34, x35 => if x35 < x34 then (if 0 ≤ x35 then (if x35 < (x33.length : Int) then ((vtime_Time_Since.f ((rd_T28 x33 x35).f0) x0).bind fun t308 => ((pos_Pos_Right.f ((rd_T28 x33 x35).f0) ((rd_T28 x33 x35).f1) ((rd_T28 x33 x35).f2)).bind fun t309 => (if t309 = true then (if t308 ≤ (-1152921504606846976) then (some true) else (if t308 ≥ 1152921504606846976 then (some true) else (turnstonelaw09_LagBases.l0 k x0 x1 x2 x33 x34 (wrap64 (x35 + 1))))) else (some true)))) else (none)) else (none)) else ((mean_Of.f k x0 x1).bind fun bt310 => ((vtime_Time_Add.f x0 x2).bind fun t317 => ((mean_Mean_Rebase.f k bt310.1 bt310.2.1 bt310.2.2.1 bt310.2.2.2.1 bt310.2.2.2.2.1 t317).bind fun bt318 => (turnstonelaw09_LagBases.l1 k bt310.2.2.2.2.2 bt318.2.2.2.2.2 x1 (x1.length : Int) 0 bt310.1 bt310.2.1 bt310.2.2.1 bt310.2.2.2.1 bt310.2.2.2.2.1 bt318.1 bt318.2.1 bt318.2.2.1 bt318.2.2.2.1 bt318.2.2.2.2.1))))
def turnstonelaw09_LagBases.l1 : Nat → Bool → Bool → List (S28) → Int → Int → Int → Int → Int → Int → Int → Int → Int → Int → Int → Int → Option (Bool)
 | 0, _, _, _, _, _, _, _, _, _, _, _, _, _, _, _ => none
 | k + 1, x11, x13, x69, x70, x71, x317000, x317001, x317002, x317003, x317004, x325000, x325001, x325002, x325003, x325004 => if x71 < x70 then (if 0 ≤ x71 then (if x71 < (x69.length : Int) then ((lag_Read.f k x317000 x317001 x317002 x317003 x317004 ((rd_T28 x69 x71).f0) ((rd_T28 x69 x71).f1) ((rd_T28 x69 x71).f2)).bind fun bt327 => ((lag_Read.f k x325000 x325001 x325002 x325003 x325004 ((rd_T28 x69 x71).f0) ((rd_T28 x69 x71).f1) ((rd_T28 x69 x71).f2)).bind fun bt331 => (if bt327.2.2 = true then (if bt331.2.2 = true then (if (!(bt327.1 == bt331.1) || (!(bt327.2.1 == bt331.2.1))) = true then (none) else ((lag_Eligible.f k x317000 x317001 x317002 x317003 x317004 ((rd_T28 x69 x71).f0) ((rd_T28 x69 x71).f1) ((rd_T28 x69 x71).f2)).bind fun t335 => ((lag_Eligible.f k x325000 x325001 x325002 x325003 x325004 ((rd_T28 x69 x71).f0) ((rd_T28 x69 x71).f1) ((rd_T28 x69 x71).f2)).bind fun t336 => (if (t335 != t336) = true then (none) else (turnstonelaw09_LagBases.l1 k x11 x13 x69 x70 (wrap64 (x71 + 1)) x317000 x317001 x317002 x317003 x317004 x325000 x325001 x325002 x325003 x325004))))) else (none)) else (none)))) else (none)) else (none)) else (if x11 = true then (some x13) else (none))
end
def turnstonelaw09_LagBases.f (k : Nat) (a0 : Int) (l1 : List (S28)) (a2 : Int) : Option (Bool) := (turnstonelaw09_awake.f).bind fun t305 => (if t305 = true then (if (l1.length : Int) > 32 then (turnstonelaw09_LagBases.j0 k a0 l1 a2 true) else (if a2 ≤ (-1152921504606846976) then (turnstonelaw09_LagBases.j0 k a0 l1 a2 true) else (turnstonelaw09_LagBases.j0 k a0 l1 a2 (decide (a2 ≥ 1152921504606846976))))) else (none))
theorem turnstonelaw09_LagBases.mono_l : ∀ k, (∀ y0 y1 y2 y3, LeO (turnstonelaw09_LagBases.j0 k y0 y1 y2 y3) (turnstonelaw09_LagBases.j0 (k + 1) y0 y1 y2 y3)) ∧ (∀ y0 y1 y2 y3 y4 y5, LeO (turnstonelaw09_LagBases.l0 k y0 y1 y2 y3 y4 y5) (turnstonelaw09_LagBases.l0 (k + 1) y0 y1 y2 y3 y4 y5)) ∧ (∀ y0 y1 y2 y3 y4 y5 y6 y7 y8 y9 y10 y11 y12 y13 y14, LeO (turnstonelaw09_LagBases.l1 k y0 y1 y2 y3 y4 y5 y6 y7 y8 y9 y10 y11 y12 y13 y14) (turnstonelaw09_LagBases.l1 (k + 1) y0 y1 y2 y3 y4 y5 y6 y7 y8 y9 y10 y11 y12 y13 y14))
 | 0 => ⟨fun _ _ _ _ r h => by simp [turnstonelaw09_LagBases.j0] at h, fun _ _ _ _ _ _ r h => by simp [turnstonelaw09_LagBases.l0] at h, fun _ _ _ _ _ _ _ _ _ _ _ _ _ _ _ r h => by simp [turnstonelaw09_LagBases.l1] at h⟩
 | k + 1 => by
  obtain ⟨ih0, ih1, ih2⟩ := turnstonelaw09_LagBases.mono_l k
  refine ⟨?_, ?_, ?_⟩
  ·intro y0 y1 y2 y3
   unfold turnstonelaw09_LagBases.j0
   repeat' first
   | (with_reducible exact ih0 _ _ _ _)
   | (with_reducible exact ih1 _ _ _ _ _ _)
   | (with_reducible exact ih2 _ _ _ _ _ _ _ _ _ _ _ _ _ _ _)
   | (with_reducible exact lag_Eligible.mono _ _ _ _ _ _ _ _ _)
   | (with_reducible exact lag_Read.mono _ _ _ _ _ _ _ _ _)
   | (with_reducible exact mean_Mean_Rebase.mono _ _ _ _ _ _ _)
   | (with_reducible exact mean_Of.mono _ _ _)
   | (with_reducible exact LeO.refl _)
   | (with_reducible exact LeO.none _)
   | (with_reducible refine LeO.ite ?_ ?_)
   | (with_reducible refine LeO.bind ?_ (fun _ => ?_))
   | exact ih0 _ _ _ _
   | exact ih1 _ _ _ _ _ _
   | exact ih2 _ _ _ _ _ _ _ _ _ _ _ _ _ _ _
   | exact lag_Eligible.mono _ _ _ _ _ _ _ _ _
   | exact lag_Read.mono _ _ _ _ _ _ _ _ _
   | exact mean_Mean_Rebase.mono _ _ _ _ _ _ _
   | exact mean_Of.mono _ _ _
   | exact LeO.none _
   | refine LeO.ite ?_ ?_
   | refine LeO.bind ?_ (fun _ => ?_)
  ·intro y0 y1 y2 y3 y4 y5
   unfold turnstonelaw09_LagBases.l0
   repeat' first
   | (with_reducible exact ih0 _ _ _ _)
   | (with_reducible exact ih1 _ _ _ _ _ _)
   | (with_reducible exact ih2 _ _ _ _ _ _ _ _ _ _ _ _ _ _ _)
   | (with_reducible exact lag_Eligible.mono _ _ _ _ _ _ _ _ _)
   | (with_reducible exact lag_Read.mono _ _ _ _ _ _ _ _ _)
   | (with_reducible exact mean_Mean_Rebase.mono _ _ _ _ _ _ _)
   | (with_reducible exact mean_Of.mono _ _ _)
   | (with_reducible exact LeO.refl _)
   | (with_reducible exact LeO.none _)
   | (with_reducible refine LeO.ite ?_ ?_)
   | (with_reducible refine LeO.bind ?_ (fun _ => ?_))
   | exact ih0 _ _ _ _
   | exact ih1 _ _ _ _ _ _
   | exact ih2 _ _ _ _ _ _ _ _ _ _ _ _ _ _ _
   | exact lag_Eligible.mono _ _ _ _ _ _ _ _ _
   | exact lag_Read.mono _ _ _ _ _ _ _ _ _
   | exact mean_Mean_Rebase.mono _ _ _ _ _ _ _
   | exact mean_Of.mono _ _ _
   | exact LeO.none _
   | refine LeO.ite ?_ ?_
   | refine LeO.bind ?_ (fun _ => ?_)
  ·intro y0 y1 y2 y3 y4 y5 y6 y7 y8 y9 y10 y11 y12 y13 y14
   unfold turnstonelaw09_LagBases.l1
   repeat' first
   | (with_reducible exact ih0 _ _ _ _)
   | (with_reducible exact ih1 _ _ _ _ _ _)
   | (with_reducible exact ih2 _ _ _ _ _ _ _ _ _ _ _ _ _ _ _)
   | (with_reducible exact lag_Eligible.mono _ _ _ _ _ _ _ _ _)
   | (with_reducible exact lag_Read.mono _ _ _ _ _ _ _ _ _)
   | (with_reducible exact mean_Mean_Rebase.mono _ _ _ _ _ _ _)
   | (with_reducible exact mean_Of.mono _ _ _)
   | (with_reducible exact LeO.refl _)
   | (with_reducible exact LeO.none _)
   | (with_reducible refine LeO.ite ?_ ?_)
   | (with_reducible refine LeO.bind ?_ (fun _ => ?_))
   | exact ih0 _ _ _ _
   | exact ih1 _ _ _ _ _ _
   | exact ih2 _ _ _ _ _ _ _ _ _ _ _ _ _ _ _
   | exact lag_Eligible.mono _ _ _ _ _ _ _ _ _
   | exact lag_Read.mono _ _ _ _ _ _ _ _ _
   | exact mean_Mean_Rebase.mono _ _ _ _ _ _ _
   | exact mean_Of.mono _ _ _
   | exact LeO.none _
   | refine LeO.ite ?_ ?_
   | refine LeO.bind ?_ (fun _ => ?_)
theorem turnstonelaw09_LagBases.mono : ∀ a0 a1 a2 k, LeO (turnstonelaw09_LagBases.f k a0 a1 a2) (turnstonelaw09_LagBases.f (k + 1) a0 a1 a2) := by
 intro a0 a1 a2 k
 obtain ⟨ih0, ih1, ih2⟩ := turnstonelaw09_LagBases.mono_l k
 unfold turnstonelaw09_LagBases.f
 repeat' first
   | (with_reducible exact ih0 _ _ _ _)
   | (with_reducible exact ih1 _ _ _ _ _ _)
   | (with_reducible exact ih2 _ _ _ _ _ _ _ _ _ _ _ _ _ _ _)
   | (with_reducible exact lag_Eligible.mono _ _ _ _ _ _ _ _ _)
   | (with_reducible exact lag_Read.mono _ _ _ _ _ _ _ _ _)
   | (with_reducible exact mean_Mean_Rebase.mono _ _ _ _ _ _ _)
   | (with_reducible exact mean_Of.mono _ _ _)
   | (with_reducible exact LeO.refl _)
   | (with_reducible exact LeO.none _)
   | (with_reducible refine LeO.ite ?_ ?_)
   | (with_reducible refine LeO.bind ?_ (fun _ => ?_))
   | exact ih0 _ _ _ _
   | exact ih1 _ _ _ _ _ _
   | exact ih2 _ _ _ _ _ _ _ _ _ _ _ _ _ _ _
   | exact lag_Eligible.mono _ _ _ _ _ _ _ _ _
   | exact lag_Read.mono _ _ _ _ _ _ _ _ _
   | exact mean_Mean_Rebase.mono _ _ _ _ _ _ _
   | exact mean_Of.mono _ _ _
   | exact LeO.none _
   | refine LeO.ite ?_ ?_
   | refine LeO.bind ?_ (fun _ => ?_)
def turnstonelaw09_LagBases.T13 : Bool × List (List Nat × List Nat) := (true, [([], []), ([], []), ([], []), ([1, 2], [1, 2]), ([0, 3, 3], [0, 3]), ([4], [4]), ([5], [5]), ([5], [5]), ([], []), ([8, 6, 4, 0, 1, 2, 3, 4, 5, 6, 8], [6, 8]), ([7, 9, 0, 1, 2, 3, 4, 5, 6, 7, 8, 9], [7])])
def turnstonelaw09_LagBases.B13 : List Nat := [0, 0, 0, 6, 15, 31, 63, 63, 0, 383, 1023]
theorem turnstonelaw09_LagBases.tab13 : rtab .any (opsOf Tryz.f3 13) = turnstonelaw09_LagBases.T13 := by kernel_rfl
theorem turnstonelaw09_LagBases.bits13 : waitsOk turnstonelaw09_LagBases.T13.2 turnstonelaw09_LagBases.B13 = true := by kernel_rfl
def turnstonelaw09_LagBases.T19 : Bool × List (List Nat × List Nat) := (true, [([], []), ([0], [0]), ([1], [1]), ([2], [2]), ([3, 2], [2, 3]), ([2, 4], [2, 4]), ([5, 2], [5]), ([6], [6]), ([6], [6]), ([7, 8, 6], [6, 7, 8]), ([6, 9], [6, 9]), ([10, 6], [10]), ([11], [11]), ([11], [11]), ([12, 13, 11, 11], [11, 12, 13]), ([11], [11]), ([11], [11]), ([15, 16, 14, 11], [11, 15, 16]), ([14, 17, 11], [11, 14, 17]), ([11, 18], [11, 18])])
def turnstonelaw09_LagBases.B19 : List Nat := [0, 1, 3, 7, 15, 31, 63, 127, 127, 511, 1023, 2047, 4095, 4095, 16383, 4095, 4095, 131071, 262143, 524287]
theorem turnstonelaw09_LagBases.tab19 : rtab .any (opsOf Tryz.f3 19) = turnstonelaw09_LagBases.T19 := by kernel_rfl
theorem turnstonelaw09_LagBases.bits19 : waitsOk turnstonelaw09_LagBases.T19.2 turnstonelaw09_LagBases.B19 = true := by kernel_rfl
set_option maxHeartbeats 8000000 in
set_option maxRecDepth 100000 in
theorem turnstonelaw09_LagBases.calls (k : Nat) (a0 : Int) (A1 : Option Addr) (c1 : Nat) (l1 : List (S28)) (a2 : Int) (r : Bool) (w : World) (hr1 : Kd.C k28 w A1 l1.length l1) (hc1 : l1.length ≤ c1) (h : turnstonelaw09_LagBases.f k a0 l1 a2 = some r) :
  Calls Tryz.prog 3 #[.int .u64 a0, .slice A1 l1.length c1, .int .i64 a2] w fun e w' => e = .returned (.bool r) ∧ Below w.heap.size w w' := by
 have hu28 := Tryz.underlying28
 have hu33 := Tryz.underlying33
 have hu31 := Tryz.underlying31
 have HR1 := Aside0.mk hr1
 have HC1 := Aside0.mk hc1
 clear hr1 hc1
 have HB := Aside0.mk (Below.refl w.heap.size w)
 have H : ((turnstonelaw09_awake.f).bind fun t305 => (if t305 = true then (if (l1.length : Int) > 32 then (turnstonelaw09_LagBases.j0 k a0 l1 a2 true) else (if a2 ≤ (-1152921504606846976) then (turnstonelaw09_LagBases.j0 k a0 l1 a2 true) else (turnstonelaw09_LagBases.j0 k a0 l1 a2 (decide (a2 ≥ 1152921504606846976))))) else (none))) = some r := h
 clear h
 replace H := Option.bind_eq_some_iff.mp H
 obtain ⟨t305, A40, H⟩ := H
 replace H : (if t305 = true then (if (l1.length : Int) > 32 then (turnstonelaw09_LagBases.j0 k a0 l1 a2 true) else (if a2 ≤ (-1152921504606846976) then (turnstonelaw09_LagBases.j0 k a0 l1 a2 true) else (turnstonelaw09_LagBases.j0 k a0 l1 a2 (decide (a2 ≥ 1152921504606846976))))) else (none)) = some r := H
 have A4 := Aside0.mk A40
 clear A40
 by_cases c5 : t305 = true
 ·subst c5
  have H1 : (if (l1.length : Int) > 32 then (turnstonelaw09_LagBases.j0 k a0 l1 a2 true) else (if a2 ≤ (-1152921504606846976) then (turnstonelaw09_LagBases.j0 k a0 l1 a2 true) else (turnstonelaw09_LagBases.j0 k a0 l1 a2 (decide (a2 ≥ 1152921504606846976))))) = some r := by rw [if_pos rfl] at H; exact H
  clear H
  have H := H1
  clear H1
  have HC6 := Aside0.mk H
  clear H
  go_enter Tryz.func3, Tryz.ntmps3
  go_upto_region 3 with (first | ((with_reducible refine gate_callee (f := 15) rfl ?_); refine goesL_ (some 20) rfl rfl Tryz.func15 (by kernel_rfl) rfl #[] rfl argt ?_; (with_reducible refine (turnstonelaw09_awake.calls  true _ A4.out).mono ?_); rintro e w7 ⟨rfl, hb⟩; refine ⟨_, rfl, ?_⟩; replace HB := belb HB hb; (try clear hb); (try clear hb2); (try clear hk); (try clear hi)))
  (try simp only [Act.put, List.setIfInBounds_toArray, List.set_cons_zero, List.set_cons_succ])
  go_cut [32] (fun v32 wc => ∃ (kq : Nat) (x32_5 : Bool), v32 = .bool x32_5 ∧ Aside0 (turnstonelaw09_LagBases.j0 kq a0 l1 a2 x32_5 = some r) ∧ Aside0 (kq ≤ k) ∧ Aside0 (Below w.heap.size w wc))
  case first =>
   have H := HC6.out
   clear HC6
   by_cases c8 : (l1.length : Int) > 32
   ·rw [if_pos c8] at H
    have c8b0 : decide (32 < (l1.length : Int)) = true := decide_eq_true c8
    have c8b1 : decide (32 < l1.length) = true := decide_eq_true (by omega)
    clear c8
    (first | rw [c8b0] | (simp only [i64_w, i32_w]; rw [c8b0]) | skip)
    have H' := Aside0.mk H
    clear H
    go_wp2
    go_meet
    case rel => exact ⟨_, (true), (by first | rfl | (simp; done) | (simp [*]; done)), H', ⟨by first | omega | exact Nat.le_refl _⟩, ⟨belt HB⟩⟩
   ·rw [if_neg c8] at H
    have c8b0 : decide (32 < (l1.length : Int)) = false := decide_eq_false c8
    have c8b1 : decide (32 < l1.length) = false := decide_eq_false (by omega)
    clear c8
    (first | rw [c8b0] | (simp only [i64_w, i32_w]; rw [c8b0]) | skip)
    by_cases c9 : a2 ≤ (-1152921504606846976)
    ·rw [if_pos c9] at H
     have c9b0 : decide (a2 ≤ (-1152921504606846976)) = true := decide_eq_true c9
     clear c9
     have H' := Aside0.mk H
     clear H
     go_wp2
     go_meet
     case rel => exact ⟨_, (true), (by first | rfl | (simp; done) | (simp [*]; done)), H', ⟨by first | omega | exact Nat.le_refl _⟩, ⟨belt HB⟩⟩
    ·rw [if_neg c9] at H
     have c9b0 : decide (a2 ≤ (-1152921504606846976)) = false := decide_eq_false c9
     clear c9
     have H' := Aside0.mk H
     clear H
     go_wp2
     go_meet
     case rel => exact ⟨_, (decide (a2 ≥ 1152921504606846976)), (by first | rfl | (simp; done) | (simp [*]; done)), H', ⟨by first | omega | exact Nat.le_refl _⟩, ⟨belt HB⟩⟩
  case rest =>
   clear HC6
   try clear c1
   try clear p2
   try clear c3
   try clear c5
   try clear c8
   try clear c8b0
   try clear c8b1
   try clear c9
   try clear c9b0
   obtain ⟨kq, x32_5, rfl, HA, HJ5, HB⟩ := hcut
   cases kq with
   | zero => exact absurd HA.out (by simp [turnstonelaw09_LagBases.j0])
   | succ kj5 =>
    have H := HA.out
    clear HA
    simp only [turnstonelaw09_LagBases.j0] at H
    by_cases c10 : x32_5 = true
    ·subst c10
     have H1 : (some true) = some r := by rw [if_pos rfl] at H; exact H
     clear H
     have H := H1
     clear H1
     obtain rfl := Option.some.inj H
     go_wp2
     go_ret
     exact ⟨by first | rfl | (simp [errW_none, errW_some] <;> rfl) | (simp [*, errW_none, errW_some] <;> rfl), belt HB⟩
    ·replace c10 := Bool.eq_false_iff.mpr c10
     subst c10
     have H1 : (turnstonelaw09_LagBases.l0 kj5 a0 l1 a2 l1 (l1.length : Int) 0) = some r := by rw [if_neg (show ¬ (false = true) by decide)] at H; exact H
     clear H
     have H := H1
     clear H1
     have H' := Aside0.mk H
     clear H
     go_wp2
     (try simp only [Act.put, List.setIfInBounds_toArray, List.set_cons_zero, List.set_cons_succ])
     go_loopg [35] kj5 (fun kq v35 w' => ∃ (x35_2 : Int), v35 = .int .i64 x35_2 ∧ Aside0 (turnstonelaw09_LagBases.l0 kq a0 l1 a2 l1 (l1.length : Int) x35_2 = some r) ∧ Aside0 (kq ≤ kj5) ∧ Aside0 (Below w.heap.size w w'))
     case atStart => exact ⟨(0), (by first | rfl | (simp; done) | (simp [*]; done)), H', ⟨Nat.le_refl _⟩, ⟨belt HB⟩⟩
     case round =>
      clear H'
      try clear c1
      try clear p2
      try clear c3
      try clear c5
      try clear c8
      try clear c8b0
      try clear c8b1
      try clear c9
      try clear c9b0
      try clear c10
      try clear p2
      obtain ⟨x35_2, rfl, HA, HK2, HB⟩ := hrel
      cases gk with
      | zero => exact absurd HA.out (by simp [turnstonelaw09_LagBases.l0])
      | succ k2 =>
       have H := HA.out
       clear HA
       simp only [turnstonelaw09_LagBases.l0] at H
       by_cases c11 : x35_2 < (l1.length : Int)
       ·rw [if_pos c11] at H
        have c11b0 : decide (x35_2 < (l1.length : Int)) = true := decide_eq_true c11
        clear c11
        by_cases c12 : 0 ≤ x35_2
        ·rw [if_pos c12] at H
         have c12b0 : decide (0 ≤ x35_2) = true := decide_eq_true c12
         clear c12
         by_cases c13 : x35_2 < (l1.length : Int)
         ·rw [if_pos c13] at H
          have c13b0 : decide (x35_2 < (l1.length : Int)) = true := decide_eq_true c13
          clear c13
          replace H := Option.bind_eq_some_iff.mp H
          obtain ⟨t308, A140, H⟩ := H
          replace H : ((pos_Pos_Right.f ((rd_T28 l1 x35_2).f0) ((rd_T28 l1 x35_2).f1) ((rd_T28 l1 x35_2).f2)).bind fun t309 => (if t309 = true then (if t308 ≤ (-1152921504606846976) then (some true) else (if t308 ≥ 1152921504606846976 then (some true) else (turnstonelaw09_LagBases.l0 k2 a0 l1 a2 l1 (l1.length : Int) (wrap64 (x35_2 + 1))))) else (some true))) = some r := H
          have A14 := Aside0.mk A140
          clear A140
          replace H := Option.bind_eq_some_iff.mp H
          obtain ⟨t309, A150, H⟩ := H
          replace H : (if t309 = true then (if t308 ≤ (-1152921504606846976) then (some true) else (if t308 ≥ 1152921504606846976 then (some true) else (turnstonelaw09_LagBases.l0 k2 a0 l1 a2 l1 (l1.length : Int) (wrap64 (x35_2 + 1))))) else (some true)) = some r := H
          have A15 := Aside0.mk A150
          clear A150
          by_cases c16 : t309 = true
          ·subst c16
           have H1 : (if t308 ≤ (-1152921504606846976) then (some true) else (if t308 ≥ 1152921504606846976 then (some true) else (turnstonelaw09_LagBases.l0 k2 a0 l1 a2 l1 (l1.length : Int) (wrap64 (x35_2 + 1))))) = some r := by rw [if_pos rfl] at H; exact H
           clear H
           have H := H1
           clear H1
           by_cases c17 : t308 ≤ (-1152921504606846976)
           ·rw [if_pos c17] at H
            have c17b0 : decide (t308 ≤ (-1152921504606846976)) = true := decide_eq_true c17
            clear c17
            obtain rfl := Option.some.inj H
            have p306 : 0 ≤ (x35_2 : Int) := of_decide_eq_true (by first | (with_reducible assumption) | assumption)
            have q306 : x35_2 < (l1.length : Int) := of_decide_eq_true (by first | (with_reducible assumption) | assumption)
            obtain ⟨ad306, e306, hx306_0, hx306_1, hx306_2⟩ := at_T28 HR1.out x35_2 p306 q306
            cases e306
            replace hx306_0 := (HB.out.cell (World.block_lt_of_cell? w _ hx306_0)).trans hx306_0
            replace hx306_1 := (HB.out.cell (World.block_lt_of_cell? w _ hx306_1)).trans hx306_1
            replace hx306_2 := (HB.out.cell (World.block_lt_of_cell? w _ hx306_2)).trans hx306_2
            replace p306 := eq_true p306
            replace q306 := eq_true q306
            go_wp2_with (first | ((with_reducible refine gate_dst (N := 8) rfl ?_); refine box_event ?hg (N := 8) ?hd (cs := #[.int .u64 0, .int .u32 0, .int .u32 0]) (t := 28) ?hr ?_; (case hd => rfl); (case hg => rfl); (case hr => first | (go_simp; done) | (go_simp; rfl)); intro gb307 hg w18 hbox hb; have BK307 := Aside0.mk (hbox); have GW307 := bels HB hg; have GE307 := bels HB hg; replace HB := belb HB hb; clear hb hbox hg; have hcz19_0 : w18.cell? ⟨gb307, 0, none⟩ = some (.int .u64 0) := (blk_cell BK307.out 0).trans rfl; have hcz19_1 : w18.cell? ⟨gb307, 1, none⟩ = some (.int .u32 0) := (blk_cell BK307.out 1).trans rfl; have hcz19_2 : w18.cell? ⟨gb307, 2, none⟩ = some (.int .u32 0) := (blk_cell BK307.out 2).trans rfl; have hfz19_0 := blk_frozen BK307.out 0; have hfz19_1 := blk_frozen BK307.out 1; have hfz19_2 := blk_frozen BK307.out 2) | ((with_reducible refine gate_callee (f := 16) rfl ?_); refine goesL_ (some 42) rfl rfl Tryz.func16 (by kernel_rfl) rfl #[.int .u64 ((rd_T28 l1 x35_2).f0), .int .u64 a0] rfl argt ?_; (with_reducible refine (vtime_Time_Since.calls ((rd_T28 l1 x35_2).f0) a0 t308 _ A14.out).mono ?_); rintro e w' ⟨rfl, ⟨nd, rfl⟩⟩; refine ⟨_, rfl, ?_⟩) | ((with_reducible refine gate_callee (f := 17) rfl ?_); refine goesL_ (some 44) rfl rfl Tryz.func17 (by kernel_rfl) rfl #[.agg #[.int .u64 ((rd_T28 l1 x35_2).f0), .int .u32 ((rd_T28 l1 x35_2).f1), .int .u32 ((rd_T28 l1 x35_2).f2)]] rfl argt ?_; (with_reducible refine (pos_Pos_Right.calls ((rd_T28 l1 x35_2).f0) ((rd_T28 l1 x35_2).f1) ((rd_T28 l1 x35_2).f2) true _ A15.out).mono ?_); rintro e w20 ⟨rfl, hb⟩; refine ⟨_, rfl, ?_⟩; replace BK307 := Aside0.mk (blk_below (g := gb307) (o := .cells #[.int .u64 ((rd_T28 l1 x35_2).f0), .int .u32 ((rd_T28 l1 x35_2).f1), .int .u32 ((rd_T28 l1 x35_2).f2)] 28 (0, 0)) (by (with_reducible repeat (first | refine blk_drewN ?_ _ | refine blk_drew ?_ | refine blk_alloc ?_ _)); refine blk_put (cs := #[.int .u64 ((rd_T28 l1 x35_2).f0), .int .u32 ((rd_T28 l1 x35_2).f1), .int .u32 0]) ?_ 2 _ rfl; (with_reducible repeat (first | refine blk_drewN ?_ _ | refine blk_drew ?_ | refine blk_alloc ?_ _)); refine blk_put (cs := #[.int .u64 ((rd_T28 l1 x35_2).f0), .int .u32 0, .int .u32 0]) ?_ 1 _ rfl; (with_reducible repeat (first | refine blk_drewN ?_ _ | refine blk_drew ?_ | refine blk_alloc ?_ _)); refine blk_put (cs := #[.int .u64 0, .int .u32 0, .int .u32 0]) ?_ 0 _ rfl; exact blkt BK307) hb); replace HB := belb HB hb; (try clear hb); (try clear hb2); (try clear hk); (try clear hi)))
            go_ret
            exact ⟨by first | rfl | (simp [errW_none, errW_some] <;> rfl) | (simp [*, errW_none, errW_some] <;> rfl), belt HB⟩
           ·rw [if_neg c17] at H
            have c17b0 : decide (t308 ≤ (-1152921504606846976)) = false := decide_eq_false c17
            clear c17
            by_cases c21 : t308 ≥ 1152921504606846976
            ·rw [if_pos c21] at H
             have c21b0 : decide (1152921504606846976 ≤ t308) = true := decide_eq_true c21
             clear c21
             obtain rfl := Option.some.inj H
             have p306 : 0 ≤ (x35_2 : Int) := of_decide_eq_true (by first | (with_reducible assumption) | assumption)
             have q306 : x35_2 < (l1.length : Int) := of_decide_eq_true (by first | (with_reducible assumption) | assumption)
             obtain ⟨ad306, e306, hx306_0, hx306_1, hx306_2⟩ := at_T28 HR1.out x35_2 p306 q306
             cases e306
             replace hx306_0 := (HB.out.cell (World.block_lt_of_cell? w _ hx306_0)).trans hx306_0
             replace hx306_1 := (HB.out.cell (World.block_lt_of_cell? w _ hx306_1)).trans hx306_1
             replace hx306_2 := (HB.out.cell (World.block_lt_of_cell? w _ hx306_2)).trans hx306_2
             replace p306 := eq_true p306
             replace q306 := eq_true q306
             go_wp2_with (first | ((with_reducible refine gate_dst (N := 8) rfl ?_); refine box_event ?hg (N := 8) ?hd (cs := #[.int .u64 0, .int .u32 0, .int .u32 0]) (t := 28) ?hr ?_; (case hd => rfl); (case hg => rfl); (case hr => first | (go_simp; done) | (go_simp; rfl)); intro gb307 hg w22 hbox hb; have BK307 := Aside0.mk (hbox); have GW307 := bels HB hg; have GE307 := bels HB hg; replace HB := belb HB hb; clear hb hbox hg; have hcz23_0 : w22.cell? ⟨gb307, 0, none⟩ = some (.int .u64 0) := (blk_cell BK307.out 0).trans rfl; have hcz23_1 : w22.cell? ⟨gb307, 1, none⟩ = some (.int .u32 0) := (blk_cell BK307.out 1).trans rfl; have hcz23_2 : w22.cell? ⟨gb307, 2, none⟩ = some (.int .u32 0) := (blk_cell BK307.out 2).trans rfl; have hfz23_0 := blk_frozen BK307.out 0; have hfz23_1 := blk_frozen BK307.out 1; have hfz23_2 := blk_frozen BK307.out 2) | ((with_reducible refine gate_callee (f := 16) rfl ?_); refine goesL_ (some 42) rfl rfl Tryz.func16 (by kernel_rfl) rfl #[.int .u64 ((rd_T28 l1 x35_2).f0), .int .u64 a0] rfl argt ?_; (with_reducible refine (vtime_Time_Since.calls ((rd_T28 l1 x35_2).f0) a0 t308 _ A14.out).mono ?_); rintro e w' ⟨rfl, ⟨nd, rfl⟩⟩; refine ⟨_, rfl, ?_⟩) | ((with_reducible refine gate_callee (f := 17) rfl ?_); refine goesL_ (some 44) rfl rfl Tryz.func17 (by kernel_rfl) rfl #[.agg #[.int .u64 ((rd_T28 l1 x35_2).f0), .int .u32 ((rd_T28 l1 x35_2).f1), .int .u32 ((rd_T28 l1 x35_2).f2)]] rfl argt ?_; (with_reducible refine (pos_Pos_Right.calls ((rd_T28 l1 x35_2).f0) ((rd_T28 l1 x35_2).f1) ((rd_T28 l1 x35_2).f2) true _ A15.out).mono ?_); rintro e w24 ⟨rfl, hb⟩; refine ⟨_, rfl, ?_⟩; replace BK307 := Aside0.mk (blk_below (g := gb307) (o := .cells #[.int .u64 ((rd_T28 l1 x35_2).f0), .int .u32 ((rd_T28 l1 x35_2).f1), .int .u32 ((rd_T28 l1 x35_2).f2)] 28 (0, 0)) (by (with_reducible repeat (first | refine blk_drewN ?_ _ | refine blk_drew ?_ | refine blk_alloc ?_ _)); refine blk_put (cs := #[.int .u64 ((rd_T28 l1 x35_2).f0), .int .u32 ((rd_T28 l1 x35_2).f1), .int .u32 0]) ?_ 2 _ rfl; (with_reducible repeat (first | refine blk_drewN ?_ _ | refine blk_drew ?_ | refine blk_alloc ?_ _)); refine blk_put (cs := #[.int .u64 ((rd_T28 l1 x35_2).f0), .int .u32 0, .int .u32 0]) ?_ 1 _ rfl; (with_reducible repeat (first | refine blk_drewN ?_ _ | refine blk_drew ?_ | refine blk_alloc ?_ _)); refine blk_put (cs := #[.int .u64 0, .int .u32 0, .int .u32 0]) ?_ 0 _ rfl; exact blkt BK307) hb); replace HB := belb HB hb; (try clear hb); (try clear hb2); (try clear hk); (try clear hi)))
             go_ret
             exact ⟨by first | rfl | (simp [errW_none, errW_some] <;> rfl) | (simp [*, errW_none, errW_some] <;> rfl), belt HB⟩
            ·rw [if_neg c21] at H
             have c21b0 : decide (1152921504606846976 ≤ t308) = false := decide_eq_false c21
             clear c21
             have H' := Aside0.mk H
             clear H
             have p306 : 0 ≤ (x35_2 : Int) := of_decide_eq_true (by first | (with_reducible assumption) | assumption)
             have q306 : x35_2 < (l1.length : Int) := of_decide_eq_true (by first | (with_reducible assumption) | assumption)
             obtain ⟨ad306, e306, hx306_0, hx306_1, hx306_2⟩ := at_T28 HR1.out x35_2 p306 q306
             cases e306
             replace hx306_0 := (HB.out.cell (World.block_lt_of_cell? w _ hx306_0)).trans hx306_0
             replace hx306_1 := (HB.out.cell (World.block_lt_of_cell? w _ hx306_1)).trans hx306_1
             replace hx306_2 := (HB.out.cell (World.block_lt_of_cell? w _ hx306_2)).trans hx306_2
             replace p306 := eq_true p306
             replace q306 := eq_true q306
             go_wp2_with (first | ((with_reducible refine gate_dst (N := 8) rfl ?_); refine box_event ?hg (N := 8) ?hd (cs := #[.int .u64 0, .int .u32 0, .int .u32 0]) (t := 28) ?hr ?_; (case hd => rfl); (case hg => rfl); (case hr => first | (go_simp; done) | (go_simp; rfl)); intro gb307 hg w25 hbox hb; have BK307 := Aside0.mk (hbox); have GW307 := bels HB hg; have GE307 := bels HB hg; replace HB := belb HB hb; clear hb hbox hg; have hcz26_0 : w25.cell? ⟨gb307, 0, none⟩ = some (.int .u64 0) := (blk_cell BK307.out 0).trans rfl; have hcz26_1 : w25.cell? ⟨gb307, 1, none⟩ = some (.int .u32 0) := (blk_cell BK307.out 1).trans rfl; have hcz26_2 : w25.cell? ⟨gb307, 2, none⟩ = some (.int .u32 0) := (blk_cell BK307.out 2).trans rfl; have hfz26_0 := blk_frozen BK307.out 0; have hfz26_1 := blk_frozen BK307.out 1; have hfz26_2 := blk_frozen BK307.out 2) | ((with_reducible refine gate_callee (f := 16) rfl ?_); refine goesL_ (some 42) rfl rfl Tryz.func16 (by kernel_rfl) rfl #[.int .u64 ((rd_T28 l1 x35_2).f0), .int .u64 a0] rfl argt ?_; (with_reducible refine (vtime_Time_Since.calls ((rd_T28 l1 x35_2).f0) a0 t308 _ A14.out).mono ?_); rintro e w' ⟨rfl, ⟨nd, rfl⟩⟩; refine ⟨_, rfl, ?_⟩) | ((with_reducible refine gate_callee (f := 17) rfl ?_); refine goesL_ (some 44) rfl rfl Tryz.func17 (by kernel_rfl) rfl #[.agg #[.int .u64 ((rd_T28 l1 x35_2).f0), .int .u32 ((rd_T28 l1 x35_2).f1), .int .u32 ((rd_T28 l1 x35_2).f2)]] rfl argt ?_; (with_reducible refine (pos_Pos_Right.calls ((rd_T28 l1 x35_2).f0) ((rd_T28 l1 x35_2).f1) ((rd_T28 l1 x35_2).f2) true _ A15.out).mono ?_); rintro e w27 ⟨rfl, hb⟩; refine ⟨_, rfl, ?_⟩; replace BK307 := Aside0.mk (blk_below (g := gb307) (o := .cells #[.int .u64 ((rd_T28 l1 x35_2).f0), .int .u32 ((rd_T28 l1 x35_2).f1), .int .u32 ((rd_T28 l1 x35_2).f2)] 28 (0, 0)) (by (with_reducible repeat (first | refine blk_drewN ?_ _ | refine blk_drew ?_ | refine blk_alloc ?_ _)); refine blk_put (cs := #[.int .u64 ((rd_T28 l1 x35_2).f0), .int .u32 ((rd_T28 l1 x35_2).f1), .int .u32 0]) ?_ 2 _ rfl; (with_reducible repeat (first | refine blk_drewN ?_ _ | refine blk_drew ?_ | refine blk_alloc ?_ _)); refine blk_put (cs := #[.int .u64 ((rd_T28 l1 x35_2).f0), .int .u32 0, .int .u32 0]) ?_ 1 _ rfl; (with_reducible repeat (first | refine blk_drewN ?_ _ | refine blk_drew ?_ | refine blk_alloc ?_ _)); refine blk_put (cs := #[.int .u64 0, .int .u32 0, .int .u32 0]) ?_ 0 _ rfl; exact blkt BK307) hb); replace HB := belb HB hb; (try clear hb); (try clear hb2); (try clear hk); (try clear hi)))
             go_roundg k2
             case measure => have := HJ5.out; have := HK2.out; omega
             case rel => exact ⟨(wrap64 (x35_2 + 1)), (by first | rfl | (simp; done) | (simp [*]; done)), H', ⟨by have := HJ5.out; have := HK2.out; omega⟩, ⟨belt HB⟩⟩
          ·replace c16 := Bool.eq_false_iff.mpr c16
           subst c16
           have H1 : (some true) = some r := by rw [if_neg (show ¬ (false = true) by decide)] at H; exact H
           clear H
           have H := H1
           clear H1
           obtain rfl := Option.some.inj H
           have p306 : 0 ≤ (x35_2 : Int) := of_decide_eq_true (by first | (with_reducible assumption) | assumption)
           have q306 : x35_2 < (l1.length : Int) := of_decide_eq_true (by first | (with_reducible assumption) | assumption)
           obtain ⟨ad306, e306, hx306_0, hx306_1, hx306_2⟩ := at_T28 HR1.out x35_2 p306 q306
           cases e306
           replace hx306_0 := (HB.out.cell (World.block_lt_of_cell? w _ hx306_0)).trans hx306_0
           replace hx306_1 := (HB.out.cell (World.block_lt_of_cell? w _ hx306_1)).trans hx306_1
           replace hx306_2 := (HB.out.cell (World.block_lt_of_cell? w _ hx306_2)).trans hx306_2
           replace p306 := eq_true p306
           replace q306 := eq_true q306
           go_wp2_with (first | ((with_reducible refine gate_dst (N := 8) rfl ?_); refine box_event ?hg (N := 8) ?hd (cs := #[.int .u64 0, .int .u32 0, .int .u32 0]) (t := 28) ?hr ?_; (case hd => rfl); (case hg => rfl); (case hr => first | (go_simp; done) | (go_simp; rfl)); intro gb307 hg w28 hbox hb; have BK307 := Aside0.mk (hbox); have GW307 := bels HB hg; have GE307 := bels HB hg; replace HB := belb HB hb; clear hb hbox hg; have hcz29_0 : w28.cell? ⟨gb307, 0, none⟩ = some (.int .u64 0) := (blk_cell BK307.out 0).trans rfl; have hcz29_1 : w28.cell? ⟨gb307, 1, none⟩ = some (.int .u32 0) := (blk_cell BK307.out 1).trans rfl; have hcz29_2 : w28.cell? ⟨gb307, 2, none⟩ = some (.int .u32 0) := (blk_cell BK307.out 2).trans rfl; have hfz29_0 := blk_frozen BK307.out 0; have hfz29_1 := blk_frozen BK307.out 1; have hfz29_2 := blk_frozen BK307.out 2) | ((with_reducible refine gate_callee (f := 16) rfl ?_); refine goesL_ (some 42) rfl rfl Tryz.func16 (by kernel_rfl) rfl #[.int .u64 ((rd_T28 l1 x35_2).f0), .int .u64 a0] rfl argt ?_; (with_reducible refine (vtime_Time_Since.calls ((rd_T28 l1 x35_2).f0) a0 t308 _ A14.out).mono ?_); rintro e w' ⟨rfl, ⟨nd, rfl⟩⟩; refine ⟨_, rfl, ?_⟩) | ((with_reducible refine gate_callee (f := 17) rfl ?_); refine goesL_ (some 44) rfl rfl Tryz.func17 (by kernel_rfl) rfl #[.agg #[.int .u64 ((rd_T28 l1 x35_2).f0), .int .u32 ((rd_T28 l1 x35_2).f1), .int .u32 ((rd_T28 l1 x35_2).f2)]] rfl argt ?_; (with_reducible refine (pos_Pos_Right.calls ((rd_T28 l1 x35_2).f0) ((rd_T28 l1 x35_2).f1) ((rd_T28 l1 x35_2).f2) false _ A15.out).mono ?_); rintro e w30 ⟨rfl, hb⟩; refine ⟨_, rfl, ?_⟩; replace BK307 := Aside0.mk (blk_below (g := gb307) (o := .cells #[.int .u64 ((rd_T28 l1 x35_2).f0), .int .u32 ((rd_T28 l1 x35_2).f1), .int .u32 ((rd_T28 l1 x35_2).f2)] 28 (0, 0)) (by (with_reducible repeat (first | refine blk_drewN ?_ _ | refine blk_drew ?_ | refine blk_alloc ?_ _)); refine blk_put (cs := #[.int .u64 ((rd_T28 l1 x35_2).f0), .int .u32 ((rd_T28 l1 x35_2).f1), .int .u32 0]) ?_ 2 _ rfl; (with_reducible repeat (first | refine blk_drewN ?_ _ | refine blk_drew ?_ | refine blk_alloc ?_ _)); refine blk_put (cs := #[.int .u64 ((rd_T28 l1 x35_2).f0), .int .u32 0, .int .u32 0]) ?_ 1 _ rfl; (with_reducible repeat (first | refine blk_drewN ?_ _ | refine blk_drew ?_ | refine blk_alloc ?_ _)); refine blk_put (cs := #[.int .u64 0, .int .u32 0, .int .u32 0]) ?_ 0 _ rfl; exact blkt BK307) hb); replace HB := belb HB hb; (try clear hb); (try clear hb2); (try clear hk); (try clear hi)))
           go_ret
           exact ⟨by first | rfl | (simp [errW_none, errW_some] <;> rfl) | (simp [*, errW_none, errW_some] <;> rfl), belt HB⟩
         ·rw [if_neg c13] at H
          exact absurd H (by simp)
        ·rw [if_neg c12] at H
         exact absurd H (by simp)
       ·rw [if_neg c11] at H
        have c11b0 : decide (x35_2 < (l1.length : Int)) = false := decide_eq_false c11
        clear c11
        replace H := Option.bind_eq_some_iff.mp H
        obtain ⟨⟨t310, t311, t312, t313, t314, t315⟩, A310, H⟩ := H
        replace H : ((vtime_Time_Add.f a0 a2).bind fun t317 => ((mean_Mean_Rebase.f k2 t310 t311 t312 t313 t314 t317).bind fun bt318 => (turnstonelaw09_LagBases.l1 k2 t315 bt318.2.2.2.2.2 l1 (l1.length : Int) 0 t310 t311 t312 t313 t314 bt318.1 bt318.2.1 bt318.2.2.1 bt318.2.2.2.1 bt318.2.2.2.2.1))) = some r := H
        have A31 := Aside0.mk A310
        clear A310
        replace H := Option.bind_eq_some_iff.mp H
        obtain ⟨t317, A320, H⟩ := H
        replace H : ((mean_Mean_Rebase.f k2 t310 t311 t312 t313 t314 t317).bind fun bt318 => (turnstonelaw09_LagBases.l1 k2 t315 bt318.2.2.2.2.2 l1 (l1.length : Int) 0 t310 t311 t312 t313 t314 bt318.1 bt318.2.1 bt318.2.2.1 bt318.2.2.2.1 bt318.2.2.2.2.1)) = some r := H
        have A32 := Aside0.mk A320
        clear A320
        replace H := Option.bind_eq_some_iff.mp H
        obtain ⟨⟨t318, t319, t320, t321, t322, t323⟩, A330, H⟩ := H
        replace H : (turnstonelaw09_LagBases.l1 k2 t315 t323 l1 (l1.length : Int) 0 t310 t311 t312 t313 t314 t318 t319 t320 t321 t322) = some r := H
        have A33 := Aside0.mk A330
        clear A330
        have H' := Aside0.mk H
        clear H
        try go_wp2_with (first | ((with_reducible refine gate_callee (f := 18) rfl ?_); refine goesL_ (some 58) rfl rfl Tryz.func18 (by kernel_rfl) rfl #[.int .u64 a0, .slice A1 l1.length c1] rfl argt ?_; (with_reducible refine (mean_Of.calls k2 a0 _ _ l1 t310 t311 t312 t313 t314 t315 _ ?side1 ?side2 A31.out).mono ?_); (case side1 => exact (ct (Kd.C_below HR1.out HB.out))); (case side2 => exact HC1.out); rintro e w34 ⟨rfl, hb⟩; refine ⟨_, rfl, ?_⟩; replace HB := belb HB hb; (try clear hb); (try clear hb2); (try clear hk); (try clear hi)) | ((with_reducible refine gate_dst (N := 10) rfl ?_); refine box_event ?hg (N := 10) ?hd (cs := #[.int .u64 0, .int .i64 0, .int .u64 0, .int .u64 0, .int .i64 0]) (t := 33) ?hr ?_; (case hd => rfl); (case hg => rfl); (case hr => first | (go_simp; done) | (go_simp; rfl)); intro gb316 hg w35 hbox hb; have BK316 := Aside0.mk (hbox); have GW316 := bels HB hg; have GE316 := bels HB hg; replace HB := belb HB hb; clear hb hbox hg; have hcz36_0 : w35.cell? ⟨gb316, 0, none⟩ = some (.int .u64 0) := (blk_cell BK316.out 0).trans rfl; have hcz36_1 : w35.cell? ⟨gb316, 1, none⟩ = some (.int .i64 0) := (blk_cell BK316.out 1).trans rfl; have hcz36_2 : w35.cell? ⟨gb316, 2, none⟩ = some (.int .u64 0) := (blk_cell BK316.out 2).trans rfl; have hcz36_3 : w35.cell? ⟨gb316, 3, none⟩ = some (.int .u64 0) := (blk_cell BK316.out 3).trans rfl; have hcz36_4 : w35.cell? ⟨gb316, 4, none⟩ = some (.int .i64 0) := (blk_cell BK316.out 4).trans rfl; have hfz36_0 := blk_frozen BK316.out 0; have hfz36_1 := blk_frozen BK316.out 1; have hfz36_2 := blk_frozen BK316.out 2; have hfz36_3 := blk_frozen BK316.out 3; have hfz36_4 := blk_frozen BK316.out 4))
        have n0_ : Aside0 ((((((w35.setCell ⟨gb316, 0, none⟩ (.int .u64 t310)).setCell ⟨gb316, 1, none⟩ (.int .i64 t311)).setCell ⟨gb316, 2, none⟩ (.int .u64 t312)).setCell ⟨gb316, 3, none⟩ (.int .u64 t313)).setCell ⟨gb316, 4, none⟩ (.int .i64 t314)).heap[gb316]? = some (.cells #[.int .u64 t310, .int .i64 t311, .int .u64 t312, .int .u64 t313, .int .i64 t314] 33 (0, 0))) := ⟨by (with_reducible repeat (first | refine blk_drewN ?_ _ | refine blk_drew ?_ | refine blk_alloc ?_ _)); refine blk_put (cs := #[.int .u64 t310, .int .i64 t311, .int .u64 t312, .int .u64 t313, .int .i64 0]) ?_ 4 _ rfl; (with_reducible repeat (first | refine blk_drewN ?_ _ | refine blk_drew ?_ | refine blk_alloc ?_ _)); refine blk_put (cs := #[.int .u64 t310, .int .i64 t311, .int .u64 t312, .int .u64 0, .int .i64 0]) ?_ 3 _ rfl; (with_reducible repeat (first | refine blk_drewN ?_ _ | refine blk_drew ?_ | refine blk_alloc ?_ _)); refine blk_put (cs := #[.int .u64 t310, .int .i64 t311, .int .u64 0, .int .u64 0, .int .i64 0]) ?_ 2 _ rfl; (with_reducible repeat (first | refine blk_drewN ?_ _ | refine blk_drew ?_ | refine blk_alloc ?_ _)); refine blk_put (cs := #[.int .u64 t310, .int .i64 0, .int .u64 0, .int .u64 0, .int .i64 0]) ?_ 1 _ rfl; (with_reducible repeat (first | refine blk_drewN ?_ _ | refine blk_drew ?_ | refine blk_alloc ?_ _)); refine blk_put (cs := #[.int .u64 0, .int .i64 0, .int .u64 0, .int .u64 0, .int .i64 0]) ?_ 0 _ rfl; exact blkt BK316⟩
        have n1_ : Aside0 (Below w.heap.size w (((((w35.setCell ⟨gb316, 0, none⟩ (.int .u64 t310)).setCell ⟨gb316, 1, none⟩ (.int .i64 t311)).setCell ⟨gb316, 2, none⟩ (.int .u64 t312)).setCell ⟨gb316, 3, none⟩ (.int .u64 t313)).setCell ⟨gb316, 4, none⟩ (.int .i64 t314))) := ⟨belt HB⟩
        (try clear BK316)
        (try clear HB)
        generalize (((((w35.setCell ⟨gb316, 0, none⟩ (.int .u64 t310)).setCell ⟨gb316, 1, none⟩ (.int .i64 t311)).setCell ⟨gb316, 2, none⟩ (.int .u64 t312)).setCell ⟨gb316, 3, none⟩ (.int .u64 t313)).setCell ⟨gb316, 4, none⟩ (.int .i64 t314)) = w37 at n0_ n1_ ⊢
        have BK316 := n0_
        have HB := n1_
        clear n0_ n1_
        replace BK316 := Aside0.mk (blk_drew BK316.out)
        replace HB := Aside0.mk (below_drew1 HB.out)
        refine start_ (n := 11) (S := fun w' => w'.cell? ⟨gb316, 0, none⟩ = some (.int .u64 t310) ∧ w'.cell? ⟨gb316, 1, none⟩ = some (.int .i64 t311) ∧ w'.cell? ⟨gb316, 2, none⟩ = some (.int .u64 t312) ∧ w'.cell? ⟨gb316, 3, none⟩ = some (.int .u64 t313) ∧ w'.cell? ⟨gb316, 4, none⟩ = some (.int .i64 t314)) (ds := []) #[false, false, false, false, false, false, false, false, false, false, false] (by kernel_rfl) rfl rfl ⟨(blk_cell BK316.out 0).trans rfl, (blk_cell BK316.out 1).trans rfl, (blk_cell BK316.out 2).trans rfl, (blk_cell BK316.out 3).trans rfl, (blk_cell BK316.out 4).trans rfl⟩ (fun hHeld => ?_); refine with_tabW turnstonelaw09_LagBases.tab13 turnstonelaw09_LagBases.bits13 (fun HT_ HW_ => ?_)
        generalize w37.drew = w38 at BK316 HB hHeld ⊢
        refine pure_ (i := 1) (N := some 63) (v := ?_) (a' := ?_) #[false, true, false, false, false, false, false, false, false, false, false] rfl rfl (any_of HT_.out (by kernel_rfl)) (fun _ _ _ h => h) (Or.inl ⟨by rfl, ?_⟩) ?_ ?_
        rotate_left
        ·intro w'
         go_simp
         with_reducible rfl
        rotate_left
        ·simp only [Act.put, List.setIfInBounds_toArray, List.set_cons_zero, List.set_cons_succ, i64_w, i32_w]
         rfl
        refine pure_ (i := 2) (N := some 64) (v := ?_) (a' := ?_) #[false, true, true, false, false, false, false, false, false, false, false] rfl rfl (any_of HT_.out (by kernel_rfl)) (fun _ _ _ h => h) (Or.inl ⟨by rfl, ?_⟩) ?_ ?_
        rotate_left
        ·intro w'
         go_simp
         with_reducible rfl
        rotate_left
        ·simp only [Act.put, List.setIfInBounds_toArray, List.set_cons_zero, List.set_cons_succ, i64_w, i32_w]
         rfl
        refine take_ (i := 0) (N := some 62) (v := ?_) (a' := ?_) #[true, true, true, false, false, false, false, false, false, false, false] rfl rfl (take_ofW HT_.out HW_.out (by kernel_rfl)) (fun _ _ _ h => h) (Or.inl ⟨by rfl, ?_⟩) hHeld ?_ ?_
        rotate_left
        ·rintro w' ⟨s0, s1, s2, s3, s4⟩
         go_simp
         with_reducible rfl
        rotate_left
        ·simp only [Act.put, List.setIfInBounds_toArray, List.set_cons_zero, List.set_cons_succ, i64_w, i32_w]
         rfl
        refine join_ (σ := Nat) 2 #[true, true, true, true, true, true, true, true, true, false, false] (fun s_ => [(65, .int .u64 t317), (66, .tuple #[.agg #[.int .u64 t318, .int .i64 t319, .int .u64 t320, .int .u64 t321, .int .i64 t322], .bool t323]), (12, .pointer (some ⟨s_, 0, none⟩)), (61, .tuple #[.agg #[.int .u64 t318, .int .i64 t319, .int .u64 t320, .int .u64 t321, .int .i64 t322], .bool t323]), (67, .agg #[.int .u64 t318, .int .i64 t319, .int .u64 t320, .int .u64 t321, .int .i64 t322]), (68, .bool t323)]) (fun s_ w' => (w'.cell? ⟨gb316, 0, none⟩ = some (.int .u64 t310) ∧ w'.cell? ⟨gb316, 1, none⟩ = some (.int .i64 t311) ∧ w'.cell? ⟨gb316, 2, none⟩ = some (.int .u64 t312) ∧ w'.cell? ⟨gb316, 3, none⟩ = some (.int .u64 t313) ∧ w'.cell? ⟨gb316, 4, none⟩ = some (.int .i64 t314)) ∧ (w'.heap[gb316]? = some (.cells #[.int .u64 t310, .int .i64 t311, .int .u64 t312, .int .u64 t313, .int .i64 t314] 33 (0, 0))) ∧ (w'.heap[s_]? = some (.cells #[.int .u64 0, .int .i64 0, .int .u64 0, .int .u64 0, .int .i64 0] 33 (0, 0))) ∧ (w.heap.size ≤ s_) ∧ (w.heap.size ≤ s_) ∧ (gb316 ≠ s_) ∧ (s_ ≠ gb316) ∧ (Below w.heap.size w w')) ?_ ?_
        rotate_left
        ·intro hCont
         refine two_ (i := 3) (j := 8) (Ni := some 65) (Nj := some 12) #[true, true, true, true, false, false, false, false, false, false, false] #[true, true, true, false, false, false, false, false, true, false, false] rfl rfl rfl rfl (two_of HT_.out (by kernel_rfl)) (by decide) (by decide) (fun K hK => ?_) (fun K hK => ?_)
         ·skip
          refine goes_ Tryz.func20 (by kernel_rfl) rfl #[.int .u64 a0, .int .i64 a2] (by rfl) rfl rfl argt ?_
          with_reducible refine (vtime_Time_Add.calls a0 a2 t317 _ A32.out).mono ?_
          rintro e w' ⟨rfl, ⟨nd, rfl⟩⟩
          refine ⟨_, rfl, ?_⟩
          refine hK.out _ _ ⟨(blk_cell BK316.out 0).trans rfl, (blk_cell BK316.out 1).trans rfl, (blk_cell BK316.out 2).trans rfl, (blk_cell BK316.out 3).trans rfl, (blk_cell BK316.out 4).trans rfl⟩ (fun hHeld => ?_)
          clear hK K
          refine norm_ (a' := ?_) ?_ ?_
          rotate_left
          ·show Act.put _ (some 65) _ = _
           simp only [Act.put, List.setIfInBounds_toArray, List.set_cons_zero, List.set_cons_succ, i64_w, i32_w]
           rfl
          refine two_ (i := 4) (j := 8) (Ni := some 66) (Nj := some 12) #[true, true, true, true, true, false, false, false, false, false, false] #[true, true, true, true, false, false, false, false, true, false, false] rfl rfl rfl rfl (two_of HT_.out (by kernel_rfl)) (by decide) (by decide) (fun K hK => ?_) (fun K hK => ?_)
          ·skip
           refine goes_ Tryz.func19 (by kernel_rfl) rfl #[.agg #[.int .u64 t310, .int .i64 t311, .int .u64 t312, .int .u64 t313, .int .i64 t314], .int .u64 t317] (by rfl) rfl rfl argt ?_
           with_reducible refine (mean_Mean_Rebase.calls k2 t310 t311 t312 t313 t314 t317 t318 t319 t320 t321 t322 t323 _ A33.out).mono ?_
           rintro e w39 ⟨rfl, hb⟩
           refine ⟨_, rfl, ?_⟩
           replace BK316 := blkb BK316 hb
           replace HB := belb HB hb
           (try clear hb)
           (try clear hb2)
           (try clear hk)
           (try clear hi)
           refine hK.out _ _ ⟨(blk_cell BK316.out 0).trans rfl, (blk_cell BK316.out 1).trans rfl, (blk_cell BK316.out 2).trans rfl, (blk_cell BK316.out 3).trans rfl, (blk_cell BK316.out 4).trans rfl⟩ (fun hHeld => ?_)
           clear hK K
           refine norm_ (a' := ?_) ?_ ?_
           rotate_left
           ·show Act.put _ (some 66) _ = _
            simp only [Act.put, List.setIfInBounds_toArray, List.set_cons_zero, List.set_cons_succ, i64_w, i32_w]
            rfl
           refine pure_ (i := 5) (N := some 61) (v := ?_) (a' := ?_) #[true, true, true, true, true, true, false, false, false, false, false] rfl rfl (any_of HT_.out (by kernel_rfl)) (fun _ _ _ h => h) (Or.inl ⟨by rfl, ?_⟩) ?_ ?_
           rotate_left
           ·intro w'
            go_simp
            with_reducible rfl
           rotate_left
           ·simp only [Act.put, List.setIfInBounds_toArray, List.set_cons_zero, List.set_cons_succ, i64_w, i32_w]
            rfl
           refine pure_ (i := 6) (N := some 67) (v := ?_) (a' := ?_) #[true, true, true, true, true, true, true, false, false, false, false] rfl rfl (any_of HT_.out (by kernel_rfl)) (fun _ _ _ h => h) (Or.inl ⟨by rfl, ?_⟩) ?_ ?_
           rotate_left
           ·intro w'
            go_simp
            with_reducible rfl
           rotate_left
           ·simp only [Act.put, List.setIfInBounds_toArray, List.set_cons_zero, List.set_cons_succ, i64_w, i32_w]
            rfl
           refine pure_ (i := 7) (N := some 68) (v := ?_) (a' := ?_) #[true, true, true, true, true, true, true, true, false, false, false] rfl rfl (any_of HT_.out (by kernel_rfl)) (fun _ _ _ h => h) (Or.inl ⟨by rfl, ?_⟩) ?_ ?_
           rotate_left
           ·intro w'
            go_simp
            with_reducible rfl
           rotate_left
           ·simp only [Act.put, List.setIfInBounds_toArray, List.set_cons_zero, List.set_cons_succ, i64_w, i32_w]
            rfl
           refine one_ (i := 8) (N := some 12) #[true, true, true, true, true, true, true, true, true, false, false] rfl rfl (one_of HT_.out (by kernel_rfl)) (by decide) (fun K hK => ?_)
           refine box_step ?hg (N := 12) ?hd (cs := #[.int .u64 0, .int .i64 0, .int .u64 0, .int .u64 0, .int .i64 0]) (t := 33) ?hr ?_; (case hd => rfl); (case hg => rfl); (case hr => first | (go_simp; done) | (go_simp; rfl))
           intro gb324 hg w40 hbox hb
           have BK324 := Aside0.mk (hbox)
           have GW324 := bels HB hg
           have GE324 := bels HB hg
           have NB316_324 := blkl BK316 hg
           have NB324_316 := blkg BK316 hg
           replace BK316 := blkb BK316 hb
           replace HB := belb HB hb
           clear hb hbox hg
           refine hK.out _ _ ⟨(blk_cell BK316.out 0).trans rfl, (blk_cell BK316.out 1).trans rfl, (blk_cell BK316.out 2).trans rfl, (blk_cell BK316.out 3).trans rfl, (blk_cell BK316.out 4).trans rfl⟩ (fun hHeld => ?_)
           clear hK K
           refine norm_ (a' := ?_) ?_ ?_
           rotate_left
           ·show Act.put _ (some 12) _ = _
            simp only [Act.put, List.setIfInBounds_toArray, List.set_cons_zero, List.set_cons_succ, i64_w, i32_w]
            rfl
           exact norm_ (by simp only [putAll, Act.put, List.setIfInBounds_toArray, List.set_cons_zero, List.set_cons_succ]) (hCont (gb324) _ ⟨hHeld, (blkt BK316), (blkt BK324), GW324.out, GE324.out, NB316_324.out, NB324_316.out, (belt HB)⟩)
          ·skip
           refine box_step ?hg (N := 12) ?hd (cs := #[.int .u64 0, .int .i64 0, .int .u64 0, .int .u64 0, .int .i64 0]) (t := 33) ?hr ?_; (case hd => rfl); (case hg => rfl); (case hr => first | (go_simp; done) | (go_simp; rfl))
           intro gb324 hg w39 hbox hb
           have BK324 := Aside0.mk (hbox)
           have GW324 := bels HB hg
           have GE324 := bels HB hg
           have NB316_324 := blkl BK316 hg
           have NB324_316 := blkg BK316 hg
           replace BK316 := blkb BK316 hb
           replace HB := belb HB hb
           clear hb hbox hg
           refine hK.out _ _ ⟨(blk_cell BK316.out 0).trans rfl, (blk_cell BK316.out 1).trans rfl, (blk_cell BK316.out 2).trans rfl, (blk_cell BK316.out 3).trans rfl, (blk_cell BK316.out 4).trans rfl⟩ (fun hHeld => ?_)
           clear hK K
           refine norm_ (a' := ?_) ?_ ?_
           rotate_left
           ·show Act.put _ (some 12) _ = _
            simp only [Act.put, List.setIfInBounds_toArray, List.set_cons_zero, List.set_cons_succ, i64_w, i32_w]
            rfl
           refine one_ (i := 4) (N := some 66) #[true, true, true, true, true, false, false, false, true, false, false] rfl rfl (one_of HT_.out (by kernel_rfl)) (by decide) (fun K hK => ?_)
           refine goes_ Tryz.func19 (by kernel_rfl) rfl #[.agg #[.int .u64 t310, .int .i64 t311, .int .u64 t312, .int .u64 t313, .int .i64 t314], .int .u64 t317] (by rfl) rfl rfl argt ?_
           with_reducible refine (mean_Mean_Rebase.calls k2 t310 t311 t312 t313 t314 t317 t318 t319 t320 t321 t322 t323 _ A33.out).mono ?_
           rintro e w40 ⟨rfl, hb⟩
           refine ⟨_, rfl, ?_⟩
           replace BK316 := blkb BK316 hb
           replace BK324 := blkb BK324 hb
           replace HB := belb HB hb
           (try clear hb)
           (try clear hb2)
           (try clear hk)
           (try clear hi)
           refine hK.out _ _ ⟨(blk_cell BK316.out 0).trans rfl, (blk_cell BK316.out 1).trans rfl, (blk_cell BK316.out 2).trans rfl, (blk_cell BK316.out 3).trans rfl, (blk_cell BK316.out 4).trans rfl⟩ (fun hHeld => ?_)
           clear hK K
           refine norm_ (a' := ?_) ?_ ?_
           rotate_left
           ·show Act.put _ (some 66) _ = _
            simp only [Act.put, List.setIfInBounds_toArray, List.set_cons_zero, List.set_cons_succ, i64_w, i32_w]
            rfl
           refine pure_ (i := 5) (N := some 61) (v := ?_) (a' := ?_) #[true, true, true, true, true, true, false, false, true, false, false] rfl rfl (any_of HT_.out (by kernel_rfl)) (fun _ _ _ h => h) (Or.inl ⟨by rfl, ?_⟩) ?_ ?_
           rotate_left
           ·intro w'
            go_simp
            with_reducible rfl
           rotate_left
           ·simp only [Act.put, List.setIfInBounds_toArray, List.set_cons_zero, List.set_cons_succ, i64_w, i32_w]
            rfl
           refine pure_ (i := 6) (N := some 67) (v := ?_) (a' := ?_) #[true, true, true, true, true, true, true, false, true, false, false] rfl rfl (any_of HT_.out (by kernel_rfl)) (fun _ _ _ h => h) (Or.inl ⟨by rfl, ?_⟩) ?_ ?_
           rotate_left
           ·intro w'
            go_simp
            with_reducible rfl
           rotate_left
           ·simp only [Act.put, List.setIfInBounds_toArray, List.set_cons_zero, List.set_cons_succ, i64_w, i32_w]
            rfl
           refine pure_ (i := 7) (N := some 68) (v := ?_) (a' := ?_) #[true, true, true, true, true, true, true, true, true, false, false] rfl rfl (any_of HT_.out (by kernel_rfl)) (fun _ _ _ h => h) (Or.inl ⟨by rfl, ?_⟩) ?_ ?_
           rotate_left
           ·intro w'
            go_simp
            with_reducible rfl
           rotate_left
           ·simp only [Act.put, List.setIfInBounds_toArray, List.set_cons_zero, List.set_cons_succ, i64_w, i32_w]
            rfl
           exact norm_ (by simp only [putAll, Act.put, List.setIfInBounds_toArray, List.set_cons_zero, List.set_cons_succ]) (hCont (gb324) _ ⟨hHeld, (blkt BK316), (blkt BK324), GW324.out, GE324.out, NB316_324.out, NB324_316.out, (belt HB)⟩)
         ·skip
          refine box_step ?hg (N := 12) ?hd (cs := #[.int .u64 0, .int .i64 0, .int .u64 0, .int .u64 0, .int .i64 0]) (t := 33) ?hr ?_; (case hd => rfl); (case hg => rfl); (case hr => first | (go_simp; done) | (go_simp; rfl))
          intro gb324 hg w39 hbox hb
          have BK324 := Aside0.mk (hbox)
          have GW324 := bels HB hg
          have GE324 := bels HB hg
          have NB316_324 := blkl BK316 hg
          have NB324_316 := blkg BK316 hg
          replace BK316 := blkb BK316 hb
          replace HB := belb HB hb
          clear hb hbox hg
          refine hK.out _ _ ⟨(blk_cell BK316.out 0).trans rfl, (blk_cell BK316.out 1).trans rfl, (blk_cell BK316.out 2).trans rfl, (blk_cell BK316.out 3).trans rfl, (blk_cell BK316.out 4).trans rfl⟩ (fun hHeld => ?_)
          clear hK K
          refine norm_ (a' := ?_) ?_ ?_
          rotate_left
          ·show Act.put _ (some 12) _ = _
           simp only [Act.put, List.setIfInBounds_toArray, List.set_cons_zero, List.set_cons_succ, i64_w, i32_w]
           rfl
          refine one_ (i := 3) (N := some 65) #[true, true, true, true, false, false, false, false, true, false, false] rfl rfl (one_of HT_.out (by kernel_rfl)) (by decide) (fun K hK => ?_)
          refine goes_ Tryz.func20 (by kernel_rfl) rfl #[.int .u64 a0, .int .i64 a2] (by rfl) rfl rfl argt ?_
          with_reducible refine (vtime_Time_Add.calls a0 a2 t317 _ A32.out).mono ?_
          rintro e w' ⟨rfl, ⟨nd, rfl⟩⟩
          refine ⟨_, rfl, ?_⟩
          refine hK.out _ _ ⟨(blk_cell BK316.out 0).trans rfl, (blk_cell BK316.out 1).trans rfl, (blk_cell BK316.out 2).trans rfl, (blk_cell BK316.out 3).trans rfl, (blk_cell BK316.out 4).trans rfl⟩ (fun hHeld => ?_)
          clear hK K
          refine norm_ (a' := ?_) ?_ ?_
          rotate_left
          ·show Act.put _ (some 65) _ = _
           simp only [Act.put, List.setIfInBounds_toArray, List.set_cons_zero, List.set_cons_succ, i64_w, i32_w]
           rfl
          refine one_ (i := 4) (N := some 66) #[true, true, true, true, true, false, false, false, true, false, false] rfl rfl (one_of HT_.out (by kernel_rfl)) (by decide) (fun K hK => ?_)
          refine goes_ Tryz.func19 (by kernel_rfl) rfl #[.agg #[.int .u64 t310, .int .i64 t311, .int .u64 t312, .int .u64 t313, .int .i64 t314], .int .u64 t317] (by rfl) rfl rfl argt ?_
          with_reducible refine (mean_Mean_Rebase.calls k2 t310 t311 t312 t313 t314 t317 t318 t319 t320 t321 t322 t323 _ A33.out).mono ?_
          rintro e w40 ⟨rfl, hb⟩
          refine ⟨_, rfl, ?_⟩
          replace BK316 := blkb BK316 hb
          replace BK324 := blkb BK324 hb
          replace HB := belb HB hb
          (try clear hb)
          (try clear hb2)
          (try clear hk)
          (try clear hi)
          refine hK.out _ _ ⟨(blk_cell BK316.out 0).trans rfl, (blk_cell BK316.out 1).trans rfl, (blk_cell BK316.out 2).trans rfl, (blk_cell BK316.out 3).trans rfl, (blk_cell BK316.out 4).trans rfl⟩ (fun hHeld => ?_)
          clear hK K
          refine norm_ (a' := ?_) ?_ ?_
          rotate_left
          ·show Act.put _ (some 66) _ = _
           simp only [Act.put, List.setIfInBounds_toArray, List.set_cons_zero, List.set_cons_succ, i64_w, i32_w]
           rfl
          refine pure_ (i := 5) (N := some 61) (v := ?_) (a' := ?_) #[true, true, true, true, true, true, false, false, true, false, false] rfl rfl (any_of HT_.out (by kernel_rfl)) (fun _ _ _ h => h) (Or.inl ⟨by rfl, ?_⟩) ?_ ?_
          rotate_left
          ·intro w'
           go_simp
           with_reducible rfl
          rotate_left
          ·simp only [Act.put, List.setIfInBounds_toArray, List.set_cons_zero, List.set_cons_succ, i64_w, i32_w]
           rfl
          refine pure_ (i := 6) (N := some 67) (v := ?_) (a' := ?_) #[true, true, true, true, true, true, true, false, true, false, false] rfl rfl (any_of HT_.out (by kernel_rfl)) (fun _ _ _ h => h) (Or.inl ⟨by rfl, ?_⟩) ?_ ?_
          rotate_left
          ·intro w'
           go_simp
           with_reducible rfl
          rotate_left
          ·simp only [Act.put, List.setIfInBounds_toArray, List.set_cons_zero, List.set_cons_succ, i64_w, i32_w]
           rfl
          refine pure_ (i := 7) (N := some 68) (v := ?_) (a' := ?_) #[true, true, true, true, true, true, true, true, true, false, false] rfl rfl (any_of HT_.out (by kernel_rfl)) (fun _ _ _ h => h) (Or.inl ⟨by rfl, ?_⟩) ?_ ?_
          rotate_left
          ·intro w'
           go_simp
           with_reducible rfl
          rotate_left
          ·simp only [Act.put, List.setIfInBounds_toArray, List.set_cons_zero, List.set_cons_succ, i64_w, i32_w]
           rfl
          exact norm_ (by simp only [putAll, Act.put, List.setIfInBounds_toArray, List.set_cons_zero, List.set_cons_succ]) (hCont (gb324) _ ⟨hHeld, (blkt BK316), (blkt BK324), GW324.out, GE324.out, NB316_324.out, NB324_316.out, (belt HB)⟩)
        rintro gb324 w41 ⟨hS_, h0_, h1_, h2_, h3_, h4_, h5_, h6_⟩
        replace BK316 : Aside0 (w41.heap[gb316]? = some (.cells #[.int .u64 t310, .int .i64 t311, .int .u64 t312, .int .u64 t313, .int .i64 t314] 33 (0, 0))) := ⟨h0_⟩
        have BK324 : Aside0 (w41.heap[gb324]? = some (.cells #[.int .u64 0, .int .i64 0, .int .u64 0, .int .u64 0, .int .i64 0] 33 (0, 0))) := ⟨h1_⟩
        have GW324 : Aside0 (w.heap.size ≤ gb324) := ⟨h2_⟩
        have GE324 : Aside0 (w.heap.size ≤ gb324) := ⟨h3_⟩
        have NB316_324 : Aside0 (gb316 ≠ gb324) := ⟨h4_⟩
        have NB324_316 : Aside0 (gb324 ≠ gb316) := ⟨h5_⟩
        replace HB : Aside0 (Below w.heap.size w w41) := ⟨h6_⟩
        clear h0_ h1_ h2_ h3_ h4_ h5_ h6_
        have hHeld : w41.cell? ⟨gb316, 0, none⟩ = some (.int .u64 t310) ∧ w41.cell? ⟨gb316, 1, none⟩ = some (.int .i64 t311) ∧ w41.cell? ⟨gb316, 2, none⟩ = some (.int .u64 t312) ∧ w41.cell? ⟨gb316, 3, none⟩ = some (.int .u64 t313) ∧ w41.cell? ⟨gb316, 4, none⟩ = some (.int .i64 t314) := hS_
        refine norm_ (a' := ?_) ?_ ?_
        rotate_left
        ·simp only [putAll, Act.put, List.setIfInBounds_toArray, List.set_cons_zero, List.set_cons_succ]
         rfl
        refine one_ (i := 9) (N := none) #[true, true, true, true, true, true, true, true, true, true, false] rfl rfl (one_of HT_.out (by kernel_rfl)) (by decide) (fun K hK => ?_)
        have hs42 : w41.cell? ⟨gb324, 0, none⟩ = some (.int .u64 0) := (blk_cell BK324.out 0).trans rfl
        have hfs42 := blk_frozen BK324.out 0
        have hns42_0 := NB316_324.out
        have hms42_0 := NB324_316.out
        have hs43 : w41.cell? ⟨gb324, 1, none⟩ = some (.int .i64 0) := (blk_cell BK324.out 1).trans rfl
        have hfs43 := blk_frozen BK324.out 1
        have hns43_0 := NB316_324.out
        have hms43_0 := NB324_316.out
        have hs44 : w41.cell? ⟨gb324, 2, none⟩ = some (.int .u64 0) := (blk_cell BK324.out 2).trans rfl
        have hfs44 := blk_frozen BK324.out 2
        have hns44_0 := NB316_324.out
        have hms44_0 := NB324_316.out
        have hs45 : w41.cell? ⟨gb324, 3, none⟩ = some (.int .u64 0) := (blk_cell BK324.out 3).trans rfl
        have hfs45 := blk_frozen BK324.out 3
        have hns45_0 := NB316_324.out
        have hms45_0 := NB324_316.out
        have hs46 : w41.cell? ⟨gb324, 4, none⟩ = some (.int .i64 0) := (blk_cell BK324.out 4).trans rfl
        have hfs46 := blk_frozen BK324.out 4
        have hns46_0 := NB316_324.out
        have hms46_0 := NB324_316.out
        refine skip_ (w1 := ?_) (by rfl) rfl ?_ ?_
        rotate_left
        ·go_simp
         rfl
        refine hK.out _ _ ⟨((cell_far (p := ⟨gb324, _, none⟩) NB316_324.out _).trans (((cell_far (p := ⟨gb324, _, none⟩) NB316_324.out _).trans (((cell_far (p := ⟨gb324, _, none⟩) NB316_324.out _).trans (((cell_far (p := ⟨gb324, _, none⟩) NB316_324.out _).trans (((cell_far (p := ⟨gb324, _, none⟩) NB316_324.out _).trans (hHeld.1)))))))))), ((cell_far (p := ⟨gb324, _, none⟩) NB316_324.out _).trans (((cell_far (p := ⟨gb324, _, none⟩) NB316_324.out _).trans (((cell_far (p := ⟨gb324, _, none⟩) NB316_324.out _).trans (((cell_far (p := ⟨gb324, _, none⟩) NB316_324.out _).trans (((cell_far (p := ⟨gb324, _, none⟩) NB316_324.out _).trans (hHeld.2.1)))))))))), ((cell_far (p := ⟨gb324, _, none⟩) NB316_324.out _).trans (((cell_far (p := ⟨gb324, _, none⟩) NB316_324.out _).trans (((cell_far (p := ⟨gb324, _, none⟩) NB316_324.out _).trans (((cell_far (p := ⟨gb324, _, none⟩) NB316_324.out _).trans (((cell_far (p := ⟨gb324, _, none⟩) NB316_324.out _).trans (hHeld.2.2.1)))))))))), ((cell_far (p := ⟨gb324, _, none⟩) NB316_324.out _).trans (((cell_far (p := ⟨gb324, _, none⟩) NB316_324.out _).trans (((cell_far (p := ⟨gb324, _, none⟩) NB316_324.out _).trans (((cell_far (p := ⟨gb324, _, none⟩) NB316_324.out _).trans (((cell_far (p := ⟨gb324, _, none⟩) NB316_324.out _).trans (hHeld.2.2.2.1)))))))))), ((cell_far (p := ⟨gb324, _, none⟩) NB316_324.out _).trans (((cell_far (p := ⟨gb324, _, none⟩) NB316_324.out _).trans (((cell_far (p := ⟨gb324, _, none⟩) NB316_324.out _).trans (((cell_far (p := ⟨gb324, _, none⟩) NB316_324.out _).trans (((cell_far (p := ⟨gb324, _, none⟩) NB316_324.out _).trans (hHeld.2.2.2.2))))))))))⟩ (fun hHeld => ?_)
        clear hK K
        refine pure_ (i := 10) (N := some 13) (v := ?_) (a' := ?_) #[true, true, true, true, true, true, true, true, true, true, true] rfl rfl (any_of HT_.out (by kernel_rfl)) (fun _ _ _ h => h) (Or.inl ⟨by rfl, ?_⟩) ?_ ?_
        rotate_left
        ·intro w'
         go_simp
         with_reducible rfl
        rotate_left
        ·simp only [Act.put, List.setIfInBounds_toArray, List.set_cons_zero, List.set_cons_succ, i64_w, i32_w]
         rfl
        refine done_ (done_of HT_.out (by kernel_rfl)) ?_
        try go_wp2
        (try simp only [Act.put, List.setIfInBounds_toArray, List.set_cons_zero, List.set_cons_succ])
        go_loopg [71] k2 (fun kq v71 w' => ∃ (x71_3 : Int), v71 = .int .i64 x71_3 ∧ Aside0 (turnstonelaw09_LagBases.l1 kq t315 t323 l1 (l1.length : Int) x71_3 t310 t311 t312 t313 t314 t318 t319 t320 t321 t322 = some r) ∧ Aside0 (kq ≤ k2) ∧ Aside0 (w'.heap[gb316]? = some (.cells #[.int .u64 t310, .int .i64 t311, .int .u64 t312, .int .u64 t313, .int .i64 t314] 33 (0, 0))) ∧ Aside0 (w'.heap[gb324]? = some (.cells #[.int .u64 t318, .int .i64 t319, .int .u64 t320, .int .u64 t321, .int .i64 t322] 33 (0, 0))) ∧ Aside0 (Below w.heap.size w w'))
        case atStart => exact ⟨(0), (by first | rfl | (simp; done) | (simp [*]; done)), H', ⟨Nat.le_refl _⟩, ⟨by (with_reducible repeat (first | refine blk_drewN ?_ _ | refine blk_drew ?_ | refine blk_alloc ?_ _)); refine blk_far ?_ NB316_324.out _; (with_reducible repeat (first | refine blk_drewN ?_ _ | refine blk_drew ?_ | refine blk_alloc ?_ _)); refine blk_far ?_ NB316_324.out _; (with_reducible repeat (first | refine blk_drewN ?_ _ | refine blk_drew ?_ | refine blk_alloc ?_ _)); refine blk_far ?_ NB316_324.out _; (with_reducible repeat (first | refine blk_drewN ?_ _ | refine blk_drew ?_ | refine blk_alloc ?_ _)); refine blk_far ?_ NB316_324.out _; (with_reducible repeat (first | refine blk_drewN ?_ _ | refine blk_drew ?_ | refine blk_alloc ?_ _)); refine blk_far ?_ NB316_324.out _; exact blkt BK316⟩, ⟨by (with_reducible repeat (first | refine blk_drewN ?_ _ | refine blk_drew ?_ | refine blk_alloc ?_ _)); refine blk_put (cs := #[.int .u64 t318, .int .i64 t319, .int .u64 t320, .int .u64 t321, .int .i64 0]) ?_ 4 _ rfl; (with_reducible repeat (first | refine blk_drewN ?_ _ | refine blk_drew ?_ | refine blk_alloc ?_ _)); refine blk_put (cs := #[.int .u64 t318, .int .i64 t319, .int .u64 t320, .int .u64 0, .int .i64 0]) ?_ 3 _ rfl; (with_reducible repeat (first | refine blk_drewN ?_ _ | refine blk_drew ?_ | refine blk_alloc ?_ _)); refine blk_put (cs := #[.int .u64 t318, .int .i64 t319, .int .u64 0, .int .u64 0, .int .i64 0]) ?_ 2 _ rfl; (with_reducible repeat (first | refine blk_drewN ?_ _ | refine blk_drew ?_ | refine blk_alloc ?_ _)); refine blk_put (cs := #[.int .u64 t318, .int .i64 0, .int .u64 0, .int .u64 0, .int .i64 0]) ?_ 1 _ rfl; (with_reducible repeat (first | refine blk_drewN ?_ _ | refine blk_drew ?_ | refine blk_alloc ?_ _)); refine blk_put (cs := #[.int .u64 0, .int .i64 0, .int .u64 0, .int .u64 0, .int .i64 0]) ?_ 0 _ rfl; exact blkt BK324⟩, ⟨belt HB⟩⟩
        case round =>
         clear H'
         try clear c1
         try clear c2
         try clear p2
         try clear c3
         try clear p3
         try clear q3
         try clear hx3
         try clear c5
         try clear p6
         try clear c8
         try clear c8b0
         try clear c8b1
         try clear c9
         try clear c9b0
         try clear c10
         try clear c11
         try clear c11b0
         try clear c12
         try clear c12b0
         try clear c13
         try clear c13b0
         try clear c15
         try clear c16
         try clear c17
         try clear c17b0
         try clear c18
         try clear c19
         try clear c20
         try clear c21
         try clear c21b0
         try clear p30
         try clear q30
         try clear hx30
         try clear hcz19_0
         try clear hcz19_1
         try clear hcz19_2
         try clear hcz23_0
         try clear hcz23_1
         try clear hcz23_2
         try clear hcz26_0
         try clear hcz26_1
         try clear hcz26_2
         try clear hcz29_0
         try clear hcz29_1
         try clear hcz29_2
         try clear hcz36_0
         try clear hcz36_1
         try clear hcz36_2
         try clear hcz36_3
         try clear hcz36_4
         try clear hfz19_0
         try clear hfz19_1
         try clear hfz19_2
         try clear hfz23_0
         try clear hfz23_1
         try clear hfz23_2
         try clear hfz26_0
         try clear hfz26_1
         try clear hfz26_2
         try clear hfz29_0
         try clear hfz29_1
         try clear hfz29_2
         try clear hfz36_0
         try clear hfz36_1
         try clear hfz36_2
         try clear hfz36_3
         try clear hfz36_4
         try clear hx306_0
         try clear hx306_1
         try clear hx306_2
         try clear p2
         try clear p306
         try clear q306
         obtain ⟨x71_3, rfl, HA, HK3, BK316, BK324, HB⟩ := hrel
         cases gk with
         | zero => exact absurd HA.out (by simp [turnstonelaw09_LagBases.l1])
         | succ k3 =>
          have H := HA.out
          clear HA
          simp only [turnstonelaw09_LagBases.l1] at H
          by_cases c47 : x71_3 < (l1.length : Int)
          ·rw [if_pos c47] at H
           have c47b0 : decide (x71_3 < (l1.length : Int)) = true := decide_eq_true c47
           clear c47
           by_cases c48 : 0 ≤ x71_3
           ·rw [if_pos c48] at H
            have c48b0 : decide (0 ≤ x71_3) = true := decide_eq_true c48
            clear c48
            by_cases c49 : x71_3 < (l1.length : Int)
            ·rw [if_pos c49] at H
             have c49b0 : decide (x71_3 < (l1.length : Int)) = true := decide_eq_true c49
             clear c49
             replace H := Option.bind_eq_some_iff.mp H
             obtain ⟨⟨t327, t328, t329⟩, A500, H⟩ := H
             replace H : ((lag_Read.f k3 t318 t319 t320 t321 t322 ((rd_T28 l1 x71_3).f0) ((rd_T28 l1 x71_3).f1) ((rd_T28 l1 x71_3).f2)).bind fun bt331 => (if t329 = true then (if bt331.2.2 = true then (if (!(t327 == bt331.1) || (!(t328 == bt331.2.1))) = true then (none) else ((lag_Eligible.f k3 t310 t311 t312 t313 t314 ((rd_T28 l1 x71_3).f0) ((rd_T28 l1 x71_3).f1) ((rd_T28 l1 x71_3).f2)).bind fun t335 => ((lag_Eligible.f k3 t318 t319 t320 t321 t322 ((rd_T28 l1 x71_3).f0) ((rd_T28 l1 x71_3).f1) ((rd_T28 l1 x71_3).f2)).bind fun t336 => (if (t335 != t336) = true then (none) else (turnstonelaw09_LagBases.l1 k3 t315 t323 l1 (l1.length : Int) (wrap64 (x71_3 + 1)) t310 t311 t312 t313 t314 t318 t319 t320 t321 t322))))) else (none)) else (none))) = some r := H
             have A50 := Aside0.mk A500
             clear A500
             replace H := Option.bind_eq_some_iff.mp H
             obtain ⟨⟨t331, t332, t333⟩, A510, H⟩ := H
             replace H : (if t329 = true then (if t333 = true then (if (!(t327 == t331) || (!(t328 == t332))) = true then (none) else ((lag_Eligible.f k3 t310 t311 t312 t313 t314 ((rd_T28 l1 x71_3).f0) ((rd_T28 l1 x71_3).f1) ((rd_T28 l1 x71_3).f2)).bind fun t335 => ((lag_Eligible.f k3 t318 t319 t320 t321 t322 ((rd_T28 l1 x71_3).f0) ((rd_T28 l1 x71_3).f1) ((rd_T28 l1 x71_3).f2)).bind fun t336 => (if (t335 != t336) = true then (none) else (turnstonelaw09_LagBases.l1 k3 t315 t323 l1 (l1.length : Int) (wrap64 (x71_3 + 1)) t310 t311 t312 t313 t314 t318 t319 t320 t321 t322))))) else (none)) else (none)) = some r := H
             have A51 := Aside0.mk A510
             clear A510
             by_cases c52 : t329 = true
             ·subst c52
              have H1 : (if t333 = true then (if (!(t327 == t331) || (!(t328 == t332))) = true then (none) else ((lag_Eligible.f k3 t310 t311 t312 t313 t314 ((rd_T28 l1 x71_3).f0) ((rd_T28 l1 x71_3).f1) ((rd_T28 l1 x71_3).f2)).bind fun t335 => ((lag_Eligible.f k3 t318 t319 t320 t321 t322 ((rd_T28 l1 x71_3).f0) ((rd_T28 l1 x71_3).f1) ((rd_T28 l1 x71_3).f2)).bind fun t336 => (if (t335 != t336) = true then (none) else (turnstonelaw09_LagBases.l1 k3 t315 t323 l1 (l1.length : Int) (wrap64 (x71_3 + 1)) t310 t311 t312 t313 t314 t318 t319 t320 t321 t322))))) else (none)) = some r := by rw [if_pos rfl] at H; exact H
              clear H
              have H := H1
              clear H1
              by_cases c53 : t333 = true
              ·subst c53
               have H1 : (if (!(t327 == t331) || (!(t328 == t332))) = true then (none) else ((lag_Eligible.f k3 t310 t311 t312 t313 t314 ((rd_T28 l1 x71_3).f0) ((rd_T28 l1 x71_3).f1) ((rd_T28 l1 x71_3).f2)).bind fun t335 => ((lag_Eligible.f k3 t318 t319 t320 t321 t322 ((rd_T28 l1 x71_3).f0) ((rd_T28 l1 x71_3).f1) ((rd_T28 l1 x71_3).f2)).bind fun t336 => (if (t335 != t336) = true then (none) else (turnstonelaw09_LagBases.l1 k3 t315 t323 l1 (l1.length : Int) (wrap64 (x71_3 + 1)) t310 t311 t312 t313 t314 t318 t319 t320 t321 t322))))) = some r := by rw [if_pos rfl] at H; exact H
               clear H
               have H := H1
               clear H1
               by_cases c54 : (!(t327 == t331) || (!(t328 == t332))) = true
               ·rw [if_pos c54] at H
                have c54b0 : (!(t327 == t331) || (!(t328 == t332))) = true := c54
                clear c54
                exact absurd H (by simp)
               ·rw [if_neg c54] at H
                have c54b0 : (!(t327 == t331) || (!(t328 == t332))) = false := by simpa using c54
                clear c54
                replace H := Option.bind_eq_some_iff.mp H
                obtain ⟨t335, A550, H⟩ := H
                replace H : ((lag_Eligible.f k3 t318 t319 t320 t321 t322 ((rd_T28 l1 x71_3).f0) ((rd_T28 l1 x71_3).f1) ((rd_T28 l1 x71_3).f2)).bind fun t336 => (if (t335 != t336) = true then (none) else (turnstonelaw09_LagBases.l1 k3 t315 t323 l1 (l1.length : Int) (wrap64 (x71_3 + 1)) t310 t311 t312 t313 t314 t318 t319 t320 t321 t322))) = some r := H
                have A55 := Aside0.mk A550
                clear A550
                replace H := Option.bind_eq_some_iff.mp H
                obtain ⟨t336, A560, H⟩ := H
                replace H : (if (t335 != t336) = true then (none) else (turnstonelaw09_LagBases.l1 k3 t315 t323 l1 (l1.length : Int) (wrap64 (x71_3 + 1)) t310 t311 t312 t313 t314 t318 t319 t320 t321 t322)) = some r := H
                have A56 := Aside0.mk A560
                clear A560
                by_cases c57 : (t335 != t336) = true
                ·rw [if_pos c57] at H
                 exact absurd H (by simp)
                ·rw [if_neg c57] at H
                 have c57b0 : (t335 != t336) = false := by simpa using c57
                 (try (have c57b1 : decide (t335 = t336) = true := by simpa using c57))
                 (try (have c57b2 : (t335 == t336) = true := by simpa using c57))
                 clear c57
                 have H' := Aside0.mk H
                 clear H
                 have p325 : 0 ≤ (x71_3 : Int) := of_decide_eq_true (by first | (with_reducible assumption) | assumption)
                 have q325 : x71_3 < (l1.length : Int) := of_decide_eq_true (by first | (with_reducible assumption) | assumption)
                 obtain ⟨ad325, e325, hx325_0, hx325_1, hx325_2⟩ := at_T28 HR1.out x71_3 p325 q325
                 cases e325
                 replace hx325_0 := (HB.out.cell (World.block_lt_of_cell? w _ hx325_0)).trans hx325_0
                 replace hx325_1 := (HB.out.cell (World.block_lt_of_cell? w _ hx325_1)).trans hx325_1
                 replace hx325_2 := (HB.out.cell (World.block_lt_of_cell? w _ hx325_2)).trans hx325_2
                 replace p325 := eq_true p325
                 replace q325 := eq_true q325
                 try go_wp2_with (first | ((with_reducible refine gate_dst (N := 15) rfl ?_); refine box_event ?hg (N := 15) ?hd (cs := #[.int .u64 0, .int .u32 0, .int .u32 0]) (t := 28) ?hr ?_; (case hd => rfl); (case hg => rfl); (case hr => first | (go_simp; done) | (go_simp; rfl)); intro gb326 hg w58 hbox hb; have BK326 := Aside0.mk (hbox); have GW326 := bels HB hg; have GE326 := bels HB hg; have NB316_326 := blkl BK316 hg; have NB326_316 := blkg BK316 hg; have NB324_326 := blkl BK324 hg; have NB326_324 := blkg BK324 hg; replace BK316 := blkb BK316 hb; replace BK324 := blkb BK324 hb; replace HB := belb HB hb; clear hb hbox hg; have hnb59 := NB326_316.out; have hnc59 := NB316_326.out; have hnb60 := NB326_324.out; have hnc60 := NB324_326.out; have hcz61_0 : w58.cell? ⟨gb326, 0, none⟩ = some (.int .u64 0) := (blk_cell BK326.out 0).trans rfl; have hcz61_1 : w58.cell? ⟨gb326, 1, none⟩ = some (.int .u32 0) := (blk_cell BK326.out 1).trans rfl; have hcz61_2 : w58.cell? ⟨gb326, 2, none⟩ = some (.int .u32 0) := (blk_cell BK326.out 2).trans rfl; have hfz61_0 := blk_frozen BK326.out 0; have hfz61_1 := blk_frozen BK326.out 1; have hfz61_2 := blk_frozen BK326.out 2; have hnb62 := NB316_324.out; have hnc62 := NB324_316.out; have hcz63_0 : w58.cell? ⟨gb316, 0, none⟩ = some (.int .u64 t310) := (blk_cell BK316.out 0).trans rfl; have hcz63_1 : w58.cell? ⟨gb316, 1, none⟩ = some (.int .i64 t311) := (blk_cell BK316.out 1).trans rfl; have hcz63_2 : w58.cell? ⟨gb316, 2, none⟩ = some (.int .u64 t312) := (blk_cell BK316.out 2).trans rfl; have hcz63_3 : w58.cell? ⟨gb316, 3, none⟩ = some (.int .u64 t313) := (blk_cell BK316.out 3).trans rfl; have hcz63_4 : w58.cell? ⟨gb316, 4, none⟩ = some (.int .i64 t314) := (blk_cell BK316.out 4).trans rfl; have hfz63_0 := blk_frozen BK316.out 0; have hfz63_1 := blk_frozen BK316.out 1; have hfz63_2 := blk_frozen BK316.out 2; have hfz63_3 := blk_frozen BK316.out 3; have hfz63_4 := blk_frozen BK316.out 4) | ((with_reducible refine gate_callee (f := 21) rfl ?_); refine goesL_ (some 78) rfl rfl Tryz.func21 (by kernel_rfl) rfl #[.agg #[.int .u64 t310, .int .i64 t311, .int .u64 t312, .int .u64 t313, .int .i64 t314], .agg #[.int .u64 ((rd_T28 l1 x71_3).f0), .int .u32 ((rd_T28 l1 x71_3).f1), .int .u32 ((rd_T28 l1 x71_3).f2)]] rfl argt ?_; (with_reducible refine (lag_Read.calls k3 t310 t311 t312 t313 t314 ((rd_T28 l1 x71_3).f0) ((rd_T28 l1 x71_3).f1) ((rd_T28 l1 x71_3).f2) t327 t328 true _ A50.out).mono ?_); rintro e w64 ⟨rfl, hb⟩; refine ⟨_, rfl, ?_⟩; replace BK316 := Aside0.mk (blk_below (g := gb316) (o := .cells #[.int .u64 t310, .int .i64 t311, .int .u64 t312, .int .u64 t313, .int .i64 t314] 33 (0, 0)) (by (with_reducible repeat (first | refine blk_drewN ?_ _ | refine blk_drew ?_ | refine blk_alloc ?_ _)); refine blk_far ?_ NB316_326.out _; (with_reducible repeat (first | refine blk_drewN ?_ _ | refine blk_drew ?_ | refine blk_alloc ?_ _)); refine blk_far ?_ NB316_326.out _; (with_reducible repeat (first | refine blk_drewN ?_ _ | refine blk_drew ?_ | refine blk_alloc ?_ _)); refine blk_far ?_ NB316_326.out _; exact blkt BK316) hb); replace BK324 := Aside0.mk (blk_below (g := gb324) (o := .cells #[.int .u64 t318, .int .i64 t319, .int .u64 t320, .int .u64 t321, .int .i64 t322] 33 (0, 0)) (by (with_reducible repeat (first | refine blk_drewN ?_ _ | refine blk_drew ?_ | refine blk_alloc ?_ _)); refine blk_far ?_ NB324_326.out _; (with_reducible repeat (first | refine blk_drewN ?_ _ | refine blk_drew ?_ | refine blk_alloc ?_ _)); refine blk_far ?_ NB324_326.out _; (with_reducible repeat (first | refine blk_drewN ?_ _ | refine blk_drew ?_ | refine blk_alloc ?_ _)); refine blk_far ?_ NB324_326.out _; exact blkt BK324) hb); replace BK326 := Aside0.mk (blk_below (g := gb326) (o := .cells #[.int .u64 ((rd_T28 l1 x71_3).f0), .int .u32 ((rd_T28 l1 x71_3).f1), .int .u32 ((rd_T28 l1 x71_3).f2)] 28 (0, 0)) (by (with_reducible repeat (first | refine blk_drewN ?_ _ | refine blk_drew ?_ | refine blk_alloc ?_ _)); refine blk_put (cs := #[.int .u64 ((rd_T28 l1 x71_3).f0), .int .u32 ((rd_T28 l1 x71_3).f1), .int .u32 0]) ?_ 2 _ rfl; (with_reducible repeat (first | refine blk_drewN ?_ _ | refine blk_drew ?_ | refine blk_alloc ?_ _)); refine blk_put (cs := #[.int .u64 ((rd_T28 l1 x71_3).f0), .int .u32 0, .int .u32 0]) ?_ 1 _ rfl; (with_reducible repeat (first | refine blk_drewN ?_ _ | refine blk_drew ?_ | refine blk_alloc ?_ _)); refine blk_put (cs := #[.int .u64 0, .int .u32 0, .int .u32 0]) ?_ 0 _ rfl; exact blkt BK326) hb); replace HB := belb HB hb; (try clear hb); (try clear hb2); (try clear hk); (try clear hi)) | ((with_reducible refine gate_dst (N := 16) rfl ?_); refine box_event ?hg (N := 16) ?hd (cs := #[.int .i64 0, .int .u64 0]) (t := 31) ?hr ?_; (case hd => rfl); (case hg => rfl); (case hr => first | (go_simp; done) | (go_simp; rfl)); intro gb330 hg w65 hbox hb; have BK330 := Aside0.mk (hbox); have GW330 := bels HB hg; have GE330 := bels HB hg; have NB316_330 := blkl BK316 hg; have NB330_316 := blkg BK316 hg; have NB324_330 := blkl BK324 hg; have NB330_324 := blkg BK324 hg; have NB326_330 := blkl BK326 hg; have NB330_326 := blkg BK326 hg; replace BK316 := blkb BK316 hb; replace BK324 := blkb BK324 hb; replace BK326 := blkb BK326 hb; replace HB := belb HB hb; clear hb hbox hg; have hnb66 := NB330_316.out; have hnc66 := NB316_330.out; have hnb67 := NB330_324.out; have hnc67 := NB324_330.out; have hnb68 := NB330_326.out; have hnc68 := NB326_330.out; have hcz69_0 : w65.cell? ⟨gb330, 0, none⟩ = some (.int .i64 0) := (blk_cell BK330.out 0).trans rfl; have hcz69_1 : w65.cell? ⟨gb330, 1, none⟩ = some (.int .u64 0) := (blk_cell BK330.out 1).trans rfl; have hfz69_0 := blk_frozen BK330.out 0; have hfz69_1 := blk_frozen BK330.out 1; have hcz70_0 : w65.cell? ⟨gb324, 0, none⟩ = some (.int .u64 t318) := (blk_cell BK324.out 0).trans rfl; have hcz70_1 : w65.cell? ⟨gb324, 1, none⟩ = some (.int .i64 t319) := (blk_cell BK324.out 1).trans rfl; have hcz70_2 : w65.cell? ⟨gb324, 2, none⟩ = some (.int .u64 t320) := (blk_cell BK324.out 2).trans rfl; have hcz70_3 : w65.cell? ⟨gb324, 3, none⟩ = some (.int .u64 t321) := (blk_cell BK324.out 3).trans rfl; have hcz70_4 : w65.cell? ⟨gb324, 4, none⟩ = some (.int .i64 t322) := (blk_cell BK324.out 4).trans rfl; have hfz70_0 := blk_frozen BK324.out 0; have hfz70_1 := blk_frozen BK324.out 1; have hfz70_2 := blk_frozen BK324.out 2; have hfz70_3 := blk_frozen BK324.out 3; have hfz70_4 := blk_frozen BK324.out 4; have hcz71_0 : w65.cell? ⟨gb326, 0, none⟩ = some (.int .u64 ((rd_T28 l1 x71_3).f0)) := (blk_cell BK326.out 0).trans rfl; have hcz71_1 : w65.cell? ⟨gb326, 1, none⟩ = some (.int .u32 ((rd_T28 l1 x71_3).f1)) := (blk_cell BK326.out 1).trans rfl; have hcz71_2 : w65.cell? ⟨gb326, 2, none⟩ = some (.int .u32 ((rd_T28 l1 x71_3).f2)) := (blk_cell BK326.out 2).trans rfl; have hfz71_0 := blk_frozen BK326.out 0; have hfz71_1 := blk_frozen BK326.out 1; have hfz71_2 := blk_frozen BK326.out 2) | ((with_reducible refine gate_callee (f := 21) rfl ?_); refine goesL_ (some 84) rfl rfl Tryz.func21 (by kernel_rfl) rfl #[.agg #[.int .u64 t318, .int .i64 t319, .int .u64 t320, .int .u64 t321, .int .i64 t322], .agg #[.int .u64 ((rd_T28 l1 x71_3).f0), .int .u32 ((rd_T28 l1 x71_3).f1), .int .u32 ((rd_T28 l1 x71_3).f2)]] rfl argt ?_; (with_reducible refine (lag_Read.calls k3 t318 t319 t320 t321 t322 ((rd_T28 l1 x71_3).f0) ((rd_T28 l1 x71_3).f1) ((rd_T28 l1 x71_3).f2) t331 t332 true _ A51.out).mono ?_); rintro e w72 ⟨rfl, hb⟩; refine ⟨_, rfl, ?_⟩; replace BK316 := Aside0.mk (blk_below (g := gb316) (o := .cells #[.int .u64 t310, .int .i64 t311, .int .u64 t312, .int .u64 t313, .int .i64 t314] 33 (0, 0)) (by (with_reducible repeat (first | refine blk_drewN ?_ _ | refine blk_drew ?_ | refine blk_alloc ?_ _)); refine blk_far ?_ NB316_330.out _; (with_reducible repeat (first | refine blk_drewN ?_ _ | refine blk_drew ?_ | refine blk_alloc ?_ _)); refine blk_far ?_ NB316_330.out _; exact blkt BK316) hb); replace BK324 := Aside0.mk (blk_below (g := gb324) (o := .cells #[.int .u64 t318, .int .i64 t319, .int .u64 t320, .int .u64 t321, .int .i64 t322] 33 (0, 0)) (by (with_reducible repeat (first | refine blk_drewN ?_ _ | refine blk_drew ?_ | refine blk_alloc ?_ _)); refine blk_far ?_ NB324_330.out _; (with_reducible repeat (first | refine blk_drewN ?_ _ | refine blk_drew ?_ | refine blk_alloc ?_ _)); refine blk_far ?_ NB324_330.out _; exact blkt BK324) hb); replace BK326 := Aside0.mk (blk_below (g := gb326) (o := .cells #[.int .u64 ((rd_T28 l1 x71_3).f0), .int .u32 ((rd_T28 l1 x71_3).f1), .int .u32 ((rd_T28 l1 x71_3).f2)] 28 (0, 0)) (by (with_reducible repeat (first | refine blk_drewN ?_ _ | refine blk_drew ?_ | refine blk_alloc ?_ _)); refine blk_far ?_ NB326_330.out _; (with_reducible repeat (first | refine blk_drewN ?_ _ | refine blk_drew ?_ | refine blk_alloc ?_ _)); refine blk_far ?_ NB326_330.out _; exact blkt BK326) hb); replace BK330 := Aside0.mk (blk_below (g := gb330) (o := .cells #[.int .i64 t327, .int .u64 t328] 31 (0, 0)) (by (with_reducible repeat (first | refine blk_drewN ?_ _ | refine blk_drew ?_ | refine blk_alloc ?_ _)); refine blk_put (cs := #[.int .i64 t327, .int .u64 0]) ?_ 1 _ rfl; (with_reducible repeat (first | refine blk_drewN ?_ _ | refine blk_drew ?_ | refine blk_alloc ?_ _)); refine blk_put (cs := #[.int .i64 0, .int .u64 0]) ?_ 0 _ rfl; exact blkt BK330) hb); replace HB := belb HB hb; (try clear hb); (try clear hb2); (try clear hk); (try clear hi)) | ((with_reducible refine gate_dst (N := 18) rfl ?_); refine box_event ?hg (N := 18) ?hd (cs := #[.int .i64 0, .int .u64 0]) (t := 31) ?hr ?_; (case hd => rfl); (case hg => rfl); (case hr => first | (go_simp; done) | (go_simp; rfl)); intro gb334 hg w73 hbox hb; have BK334 := Aside0.mk (hbox); have GW334 := bels HB hg; have GE334 := bels HB hg; have NB316_334 := blkl BK316 hg; have NB334_316 := blkg BK316 hg; have NB324_334 := blkl BK324 hg; have NB334_324 := blkg BK324 hg; have NB326_334 := blkl BK326 hg; have NB334_326 := blkg BK326 hg; have NB330_334 := blkl BK330 hg; have NB334_330 := blkg BK330 hg; replace BK316 := blkb BK316 hb; replace BK324 := blkb BK324 hb; replace BK326 := blkb BK326 hb; replace BK330 := blkb BK330 hb; replace HB := belb HB hb; clear hb hbox hg; have hnb74 := NB334_316.out; have hnc74 := NB316_334.out; have hnb75 := NB334_324.out; have hnc75 := NB324_334.out; have hnb76 := NB334_326.out; have hnc76 := NB326_334.out; have hnb77 := NB334_330.out; have hnc77 := NB330_334.out; have hcz78_0 : w73.cell? ⟨gb334, 0, none⟩ = some (.int .i64 0) := (blk_cell BK334.out 0).trans rfl; have hcz78_1 : w73.cell? ⟨gb334, 1, none⟩ = some (.int .u64 0) := (blk_cell BK334.out 1).trans rfl; have hfz78_0 := blk_frozen BK334.out 0; have hfz78_1 := blk_frozen BK334.out 1))
                 have n0_ : Aside0 (((w73.setCell ⟨gb334, 0, none⟩ (.int .i64 t331)).setCell ⟨gb334, 1, none⟩ (.int .u64 t332)).heap[gb316]? = some (.cells #[.int .u64 t310, .int .i64 t311, .int .u64 t312, .int .u64 t313, .int .i64 t314] 33 (0, 0))) := ⟨by (with_reducible repeat (first | refine blk_drewN ?_ _ | refine blk_drew ?_ | refine blk_alloc ?_ _)); refine blk_far ?_ NB316_334.out _; (with_reducible repeat (first | refine blk_drewN ?_ _ | refine blk_drew ?_ | refine blk_alloc ?_ _)); refine blk_far ?_ NB316_334.out _; exact blkt BK316⟩
                 have n1_ : Aside0 (((w73.setCell ⟨gb334, 0, none⟩ (.int .i64 t331)).setCell ⟨gb334, 1, none⟩ (.int .u64 t332)).heap[gb324]? = some (.cells #[.int .u64 t318, .int .i64 t319, .int .u64 t320, .int .u64 t321, .int .i64 t322] 33 (0, 0))) := ⟨by (with_reducible repeat (first | refine blk_drewN ?_ _ | refine blk_drew ?_ | refine blk_alloc ?_ _)); refine blk_far ?_ NB324_334.out _; (with_reducible repeat (first | refine blk_drewN ?_ _ | refine blk_drew ?_ | refine blk_alloc ?_ _)); refine blk_far ?_ NB324_334.out _; exact blkt BK324⟩
                 have n2_ : Aside0 (((w73.setCell ⟨gb334, 0, none⟩ (.int .i64 t331)).setCell ⟨gb334, 1, none⟩ (.int .u64 t332)).heap[gb326]? = some (.cells #[.int .u64 ((rd_T28 l1 x71_3).f0), .int .u32 ((rd_T28 l1 x71_3).f1), .int .u32 ((rd_T28 l1 x71_3).f2)] 28 (0, 0))) := ⟨by (with_reducible repeat (first | refine blk_drewN ?_ _ | refine blk_drew ?_ | refine blk_alloc ?_ _)); refine blk_far ?_ NB326_334.out _; (with_reducible repeat (first | refine blk_drewN ?_ _ | refine blk_drew ?_ | refine blk_alloc ?_ _)); refine blk_far ?_ NB326_334.out _; exact blkt BK326⟩
                 have n3_ : Aside0 (((w73.setCell ⟨gb334, 0, none⟩ (.int .i64 t331)).setCell ⟨gb334, 1, none⟩ (.int .u64 t332)).heap[gb330]? = some (.cells #[.int .i64 t327, .int .u64 t328] 31 (0, 0))) := ⟨by (with_reducible repeat (first | refine blk_drewN ?_ _ | refine blk_drew ?_ | refine blk_alloc ?_ _)); refine blk_far ?_ NB330_334.out _; (with_reducible repeat (first | refine blk_drewN ?_ _ | refine blk_drew ?_ | refine blk_alloc ?_ _)); refine blk_far ?_ NB330_334.out _; exact blkt BK330⟩
                 have n4_ : Aside0 (((w73.setCell ⟨gb334, 0, none⟩ (.int .i64 t331)).setCell ⟨gb334, 1, none⟩ (.int .u64 t332)).heap[gb334]? = some (.cells #[.int .i64 t331, .int .u64 t332] 31 (0, 0))) := ⟨by (with_reducible repeat (first | refine blk_drewN ?_ _ | refine blk_drew ?_ | refine blk_alloc ?_ _)); refine blk_put (cs := #[.int .i64 t331, .int .u64 0]) ?_ 1 _ rfl; (with_reducible repeat (first | refine blk_drewN ?_ _ | refine blk_drew ?_ | refine blk_alloc ?_ _)); refine blk_put (cs := #[.int .i64 0, .int .u64 0]) ?_ 0 _ rfl; exact blkt BK334⟩
                 have n5_ : Aside0 (Below w.heap.size w ((w73.setCell ⟨gb334, 0, none⟩ (.int .i64 t331)).setCell ⟨gb334, 1, none⟩ (.int .u64 t332))) := ⟨belt HB⟩
                 (try clear BK316)
                 (try clear BK324)
                 (try clear BK326)
                 (try clear BK330)
                 (try clear BK334)
                 (try clear HB)
                 generalize ((w73.setCell ⟨gb334, 0, none⟩ (.int .i64 t331)).setCell ⟨gb334, 1, none⟩ (.int .u64 t332)) = w79 at n0_ n1_ n2_ n3_ n4_ n5_ ⊢
                 have BK316 := n0_
                 have BK324 := n1_
                 have BK326 := n2_
                 have BK330 := n3_
                 have BK334 := n4_
                 have HB := n5_
                 clear n0_ n1_ n2_ n3_ n4_ n5_
                 replace BK316 := Aside0.mk (blk_drew BK316.out)
                 replace BK324 := Aside0.mk (blk_drew BK324.out)
                 replace BK326 := Aside0.mk (blk_drew BK326.out)
                 replace BK330 := Aside0.mk (blk_drew BK330.out)
                 replace BK334 := Aside0.mk (blk_drew BK334.out)
                 replace HB := Aside0.mk (below_drew1 HB.out)
                 refine start_ (n := 20) (S := fun w' => w'.cell? ⟨gb330, 0, none⟩ = some (.int .i64 t327) ∧ w'.cell? ⟨gb330, 1, none⟩ = some (.int .u64 t328) ∧ w'.cell? ⟨gb334, 0, none⟩ = some (.int .i64 t331) ∧ w'.cell? ⟨gb334, 1, none⟩ = some (.int .u64 t332) ∧ w'.cell? ⟨gb316, 0, none⟩ = some (.int .u64 t310) ∧ w'.cell? ⟨gb316, 1, none⟩ = some (.int .i64 t311) ∧ w'.cell? ⟨gb316, 2, none⟩ = some (.int .u64 t312) ∧ w'.cell? ⟨gb316, 3, none⟩ = some (.int .u64 t313) ∧ w'.cell? ⟨gb316, 4, none⟩ = some (.int .i64 t314) ∧ w'.cell? ⟨gb326, 0, none⟩ = some (.int .u64 ((rd_T28 l1 x71_3).f0)) ∧ w'.cell? ⟨gb326, 1, none⟩ = some (.int .u32 ((rd_T28 l1 x71_3).f1)) ∧ w'.cell? ⟨gb326, 2, none⟩ = some (.int .u32 ((rd_T28 l1 x71_3).f2)) ∧ w'.cell? ⟨gb324, 0, none⟩ = some (.int .u64 t318) ∧ w'.cell? ⟨gb324, 1, none⟩ = some (.int .i64 t319) ∧ w'.cell? ⟨gb324, 2, none⟩ = some (.int .u64 t320) ∧ w'.cell? ⟨gb324, 3, none⟩ = some (.int .u64 t321) ∧ w'.cell? ⟨gb324, 4, none⟩ = some (.int .i64 t322)) (ds := []) #[false, false, false, false, false, false, false, false, false, false, false, false, false, false, false, false, false, false, false, false] (by kernel_rfl) rfl rfl ⟨(blk_cell BK330.out 0).trans rfl, (blk_cell BK330.out 1).trans rfl, (blk_cell BK334.out 0).trans rfl, (blk_cell BK334.out 1).trans rfl, (blk_cell BK316.out 0).trans rfl, (blk_cell BK316.out 1).trans rfl, (blk_cell BK316.out 2).trans rfl, (blk_cell BK316.out 3).trans rfl, (blk_cell BK316.out 4).trans rfl, (blk_cell BK326.out 0).trans rfl, (blk_cell BK326.out 1).trans rfl, (blk_cell BK326.out 2).trans rfl, (blk_cell BK324.out 0).trans rfl, (blk_cell BK324.out 1).trans rfl, (blk_cell BK324.out 2).trans rfl, (blk_cell BK324.out 3).trans rfl, (blk_cell BK324.out 4).trans rfl⟩ (fun hHeld => ?_); refine with_tabW turnstonelaw09_LagBases.tab19 turnstonelaw09_LagBases.bits19 (fun HT_ HW_ => ?_)
                 generalize w79.drew = w80 at BK316 BK324 BK326 BK330 BK334 HB hHeld ⊢
                 refine pure_ (i := 0) (N := some 87) (v := ?_) (a' := ?_) #[true, false, false, false, false, false, false, false, false, false, false, false, false, false, false, false, false, false, false, false] rfl rfl (any_of HT_.out (by kernel_rfl)) (fun _ _ _ h => h) (Or.inl ⟨by rfl, ?_⟩) ?_ ?_
                 rotate_left
                 ·intro w'
                  go_simp
                  with_reducible rfl
                 rotate_left
                 ·simp only [Act.put, List.setIfInBounds_toArray, List.set_cons_zero, List.set_cons_succ, i64_w, i32_w]
                  rfl
                 refine pure_ (i := 1) (N := some 88) (v := ?_) (a' := ?_) #[true, true, false, false, false, false, false, false, false, false, false, false, false, false, false, false, false, false, false, false] rfl rfl (any_of HT_.out (by kernel_rfl)) (fun _ _ _ h => h) (Or.inl ⟨by rfl, ?_⟩) ?_ ?_
                 rotate_left
                 ·intro w'
                  go_simp
                  with_reducible rfl
                 rotate_left
                 ·simp only [Act.put, List.setIfInBounds_toArray, List.set_cons_zero, List.set_cons_succ, i64_w, i32_w]
                  rfl
                 refine pure_ (i := 2) (N := some 89) (v := ?_) (a' := ?_) #[true, true, true, false, false, false, false, false, false, false, false, false, false, false, false, false, false, false, false, false] rfl rfl (any_of HT_.out (by kernel_rfl)) (fun _ _ _ h => h) (Or.inl ⟨by rfl, ?_⟩) ?_ ?_
                 rotate_left
                 ·intro w'
                  go_simp
                  with_reducible rfl
                 rotate_left
                 ·simp only [Act.put, List.setIfInBounds_toArray, List.set_cons_zero, List.set_cons_succ, i64_w, i32_w]
                  rfl
                 refine pure_ (i := 3) (N := some 90) (v := ?_) (a' := ?_) #[true, true, true, true, false, false, false, false, false, false, false, false, false, false, false, false, false, false, false, false] rfl rfl (any_of HT_.out (by kernel_rfl)) (fun _ _ _ h => h) (Or.inl ⟨by rfl, ?_⟩) ?_ ?_
                 rotate_left
                 ·intro w'
                  go_simp
                  with_reducible rfl
                 rotate_left
                 ·simp only [Act.put, List.setIfInBounds_toArray, List.set_cons_zero, List.set_cons_succ, i64_w, i32_w]
                  rfl
                 refine pure_ (i := 4) (N := some 91) (v := ?_) (a' := ?_) #[true, true, true, true, true, false, false, false, false, false, false, false, false, false, false, false, false, false, false, false] rfl rfl (any_of HT_.out (by kernel_rfl)) (fun _ _ _ h => h) (Or.inl ⟨by rfl, ?_⟩) ?_ ?_
                 rotate_left
                 ·intro w'
                  go_simp
                  with_reducible rfl
                 rotate_left
                 ·simp only [Act.put, List.setIfInBounds_toArray, List.set_cons_zero, List.set_cons_succ, i64_w, i32_w]
                  rfl
                 refine pure_ (i := 5) (N := some 92) (v := ?_) (a' := ?_) #[true, true, true, true, true, true, false, false, false, false, false, false, false, false, false, false, false, false, false, false] rfl rfl (any_of HT_.out (by kernel_rfl)) (fun _ _ _ h => h) (Or.inl ⟨by rfl, ?_⟩) ?_ ?_
                 rotate_left
                 ·intro w'
                  go_simp
                  with_reducible rfl
                 rotate_left
                 ·simp only [Act.put, List.setIfInBounds_toArray, List.set_cons_zero, List.set_cons_succ, i64_w, i32_w]
                  rfl
                 refine pure_ (i := 6) (N := some 93) (v := ?_) (a' := ?_) #[true, true, true, true, true, true, true, false, false, false, false, false, false, false, false, false, false, false, false, false] rfl rfl (any_of HT_.out (by kernel_rfl)) (fun _ _ _ h => h) (Or.inl ⟨by rfl, ?_⟩) ?_ ?_
                 rotate_left
                 ·intro w'
                  go_simp
                  with_reducible rfl
                 rotate_left
                 ·simp only [Act.put, List.setIfInBounds_toArray, List.set_cons_zero, List.set_cons_succ, i64_w, i32_w]
                  rfl
                 refine take_ (i := 7) (N := some 94) (v := ?_) (a' := ?_) #[true, true, true, true, true, true, true, true, false, false, false, false, false, false, false, false, false, false, false, false] rfl rfl (take_ofW HT_.out HW_.out (by kernel_rfl)) (fun _ _ _ h => h) (Or.inl ⟨by rfl, ?_⟩) hHeld ?_ ?_
                 rotate_left
                 ·rintro w' ⟨s0, s1, s2, s3, s4, s5, s6, s7, s8, s9, s10, s11, s12, s13, s14, s15, s16⟩
                  go_simp
                  with_reducible rfl
                 rotate_left
                 ·simp only [Act.put, List.setIfInBounds_toArray, List.set_cons_zero, List.set_cons_succ, i64_w, i32_w]
                  rfl
                 refine take_ (i := 8) (N := some 95) (v := ?_) (a' := ?_) #[true, true, true, true, true, true, true, true, true, false, false, false, false, false, false, false, false, false, false, false] rfl rfl (take_ofW HT_.out HW_.out (by kernel_rfl)) (fun _ _ _ h => h) (Or.inl ⟨by rfl, ?_⟩) hHeld ?_ ?_
                 rotate_left
                 ·rintro w' ⟨s0, s1, s2, s3, s4, s5, s6, s7, s8, s9, s10, s11, s12, s13, s14, s15, s16⟩
                  go_simp
                  with_reducible rfl
                 rotate_left
                 ·simp only [Act.put, List.setIfInBounds_toArray, List.set_cons_zero, List.set_cons_succ, i64_w, i32_w]
                  rfl
                 refine pure_ (i := 9) (N := some 96) (v := ?_) (a' := ?_) #[true, true, true, true, true, true, true, true, true, true, false, false, false, false, false, false, false, false, false, false] rfl rfl (any_of HT_.out (by kernel_rfl)) (fun _ _ _ h => h) (Or.inl ⟨by rfl, ?_⟩) ?_ ?_
                 rotate_left
                 ·intro w'
                  go_simp
                  with_reducible rfl
                 rotate_left
                 ·simp only [Act.put, List.setIfInBounds_toArray, List.set_cons_zero, List.set_cons_succ, i64_w, i32_w]
                  rfl
                 refine pure_ (i := 10) (N := some 97) (v := ?_) (a' := ?_) #[true, true, true, true, true, true, true, true, true, true, true, false, false, false, false, false, false, false, false, false] rfl rfl (any_of HT_.out (by kernel_rfl)) (fun _ _ _ h => h) (Or.inl ⟨by rfl, ?_⟩) ?_ ?_
                 rotate_left
                 ·intro w'
                  go_simp
                  with_reducible rfl
                 rotate_left
                 ·simp only [Act.put, List.setIfInBounds_toArray, List.set_cons_zero, List.set_cons_succ, i64_w, i32_w]
                  rfl
                 refine pure_ (i := 11) (N := some 98) (v := ?_) (a' := ?_) #[true, true, true, true, true, true, true, true, true, true, true, true, false, false, false, false, false, false, false, false] rfl rfl (any_of HT_.out (by kernel_rfl)) (fun _ _ _ h => h) (Or.inl ⟨by rfl, ?_⟩) ?_ ?_
                 rotate_left
                 ·intro w'
                  go_simp
                  with_reducible rfl
                 rotate_left
                 ·simp only [Act.put, List.setIfInBounds_toArray, List.set_cons_zero, List.set_cons_succ, i64_w, i32_w]
                  rfl
                 refine take_ (i := 12) (N := some 99) (v := ?_) (a' := ?_) #[true, true, true, true, true, true, true, true, true, true, true, true, true, false, false, false, false, false, false, false] rfl rfl (take_ofW HT_.out HW_.out (by kernel_rfl)) (fun _ _ _ h => h) (Or.inl ⟨by rfl, ?_⟩) hHeld ?_ ?_
                 rotate_left
                 ·rintro w' ⟨s0, s1, s2, s3, s4, s5, s6, s7, s8, s9, s10, s11, s12, s13, s14, s15, s16⟩
                  go_simp
                  with_reducible rfl
                 rotate_left
                 ·simp only [Act.put, List.setIfInBounds_toArray, List.set_cons_zero, List.set_cons_succ, i64_w, i32_w]
                  rfl
                 refine take_ (i := 13) (N := some 100) (v := ?_) (a' := ?_) #[true, true, true, true, true, true, true, true, true, true, true, true, true, true, false, false, false, false, false, false] rfl rfl (take_ofW HT_.out HW_.out (by kernel_rfl)) (fun _ _ _ h => h) (Or.inl ⟨by rfl, ?_⟩) hHeld ?_ ?_
                 rotate_left
                 ·rintro w' ⟨s0, s1, s2, s3, s4, s5, s6, s7, s8, s9, s10, s11, s12, s13, s14, s15, s16⟩
                  go_simp
                  with_reducible rfl
                 rotate_left
                 ·simp only [Act.put, List.setIfInBounds_toArray, List.set_cons_zero, List.set_cons_succ, i64_w, i32_w]
                  rfl
                 refine take_ (i := 15) (N := some 102) (v := ?_) (a' := ?_) #[true, true, true, true, true, true, true, true, true, true, true, true, true, true, false, true, false, false, false, false] rfl rfl (take_ofW HT_.out HW_.out (by kernel_rfl)) (fun _ _ _ h => h) (Or.inl ⟨by rfl, ?_⟩) hHeld ?_ ?_
                 rotate_left
                 ·rintro w' ⟨s0, s1, s2, s3, s4, s5, s6, s7, s8, s9, s10, s11, s12, s13, s14, s15, s16⟩
                  go_simp
                  with_reducible rfl
                 rotate_left
                 ·simp only [Act.put, List.setIfInBounds_toArray, List.set_cons_zero, List.set_cons_succ, i64_w, i32_w]
                  rfl
                 refine take_ (i := 16) (N := some 103) (v := ?_) (a' := ?_) #[true, true, true, true, true, true, true, true, true, true, true, true, true, true, false, true, true, false, false, false] rfl rfl (take_ofW HT_.out HW_.out (by kernel_rfl)) (fun _ _ _ h => h) (Or.inl ⟨by rfl, ?_⟩) hHeld ?_ ?_
                 rotate_left
                 ·rintro w' ⟨s0, s1, s2, s3, s4, s5, s6, s7, s8, s9, s10, s11, s12, s13, s14, s15, s16⟩
                  go_simp
                  with_reducible rfl
                 rotate_left
                 ·simp only [Act.put, List.setIfInBounds_toArray, List.set_cons_zero, List.set_cons_succ, i64_w, i32_w]
                  rfl
                 refine one_ (i := 14) (N := some 101) #[true, true, true, true, true, true, true, true, true, true, true, true, true, true, true, true, true, false, false, false] rfl rfl (one_of HT_.out (by kernel_rfl)) (by decide) (fun K hK => ?_)
                 refine goes_ Tryz.func22 (by kernel_rfl) rfl #[.agg #[.int .u64 t310, .int .i64 t311, .int .u64 t312, .int .u64 t313, .int .i64 t314], .agg #[.int .u64 ((rd_T28 l1 x71_3).f0), .int .u32 ((rd_T28 l1 x71_3).f1), .int .u32 ((rd_T28 l1 x71_3).f2)]] (by rfl) rfl rfl argt ?_
                 with_reducible refine (lag_Eligible.calls k3 t310 t311 t312 t313 t314 ((rd_T28 l1 x71_3).f0) ((rd_T28 l1 x71_3).f1) ((rd_T28 l1 x71_3).f2) t335 _ A55.out).mono ?_
                 rintro e w81 ⟨rfl, hb⟩
                 refine ⟨_, rfl, ?_⟩
                 replace BK316 := blkb BK316 hb
                 replace BK324 := blkb BK324 hb
                 replace BK326 := blkb BK326 hb
                 replace BK330 := blkb BK330 hb
                 replace BK334 := blkb BK334 hb
                 replace HB := belb HB hb
                 (try clear hb)
                 (try clear hb2)
                 (try clear hk)
                 (try clear hi)
                 refine hK.out _ _ ⟨(blk_cell BK330.out 0).trans rfl, (blk_cell BK330.out 1).trans rfl, (blk_cell BK334.out 0).trans rfl, (blk_cell BK334.out 1).trans rfl, (blk_cell BK316.out 0).trans rfl, (blk_cell BK316.out 1).trans rfl, (blk_cell BK316.out 2).trans rfl, (blk_cell BK316.out 3).trans rfl, (blk_cell BK316.out 4).trans rfl, (blk_cell BK326.out 0).trans rfl, (blk_cell BK326.out 1).trans rfl, (blk_cell BK326.out 2).trans rfl, (blk_cell BK324.out 0).trans rfl, (blk_cell BK324.out 1).trans rfl, (blk_cell BK324.out 2).trans rfl, (blk_cell BK324.out 3).trans rfl, (blk_cell BK324.out 4).trans rfl⟩ (fun hHeld => ?_)
                 clear hK K
                 refine norm_ (a' := ?_) ?_ ?_
                 rotate_left
                 ·show Act.put _ (some 101) _ = _
                  simp only [Act.put, List.setIfInBounds_toArray, List.set_cons_zero, List.set_cons_succ, i64_w, i32_w]
                  rfl
                 refine one_ (i := 17) (N := some 104) #[true, true, true, true, true, true, true, true, true, true, true, true, true, true, true, true, true, true, false, false] rfl rfl (one_of HT_.out (by kernel_rfl)) (by decide) (fun K hK => ?_)
                 refine goes_ Tryz.func22 (by kernel_rfl) rfl #[.agg #[.int .u64 t318, .int .i64 t319, .int .u64 t320, .int .u64 t321, .int .i64 t322], .agg #[.int .u64 ((rd_T28 l1 x71_3).f0), .int .u32 ((rd_T28 l1 x71_3).f1), .int .u32 ((rd_T28 l1 x71_3).f2)]] (by rfl) rfl rfl argt ?_
                 with_reducible refine (lag_Eligible.calls k3 t318 t319 t320 t321 t322 ((rd_T28 l1 x71_3).f0) ((rd_T28 l1 x71_3).f1) ((rd_T28 l1 x71_3).f2) t336 _ A56.out).mono ?_
                 rintro e w82 ⟨rfl, hb⟩
                 refine ⟨_, rfl, ?_⟩
                 replace BK316 := blkb BK316 hb
                 replace BK324 := blkb BK324 hb
                 replace BK326 := blkb BK326 hb
                 replace BK330 := blkb BK330 hb
                 replace BK334 := blkb BK334 hb
                 replace HB := belb HB hb
                 (try clear hb)
                 (try clear hb2)
                 (try clear hk)
                 (try clear hi)
                 refine hK.out _ _ ⟨(blk_cell BK330.out 0).trans rfl, (blk_cell BK330.out 1).trans rfl, (blk_cell BK334.out 0).trans rfl, (blk_cell BK334.out 1).trans rfl, (blk_cell BK316.out 0).trans rfl, (blk_cell BK316.out 1).trans rfl, (blk_cell BK316.out 2).trans rfl, (blk_cell BK316.out 3).trans rfl, (blk_cell BK316.out 4).trans rfl, (blk_cell BK326.out 0).trans rfl, (blk_cell BK326.out 1).trans rfl, (blk_cell BK326.out 2).trans rfl, (blk_cell BK324.out 0).trans rfl, (blk_cell BK324.out 1).trans rfl, (blk_cell BK324.out 2).trans rfl, (blk_cell BK324.out 3).trans rfl, (blk_cell BK324.out 4).trans rfl⟩ (fun hHeld => ?_)
                 clear hK K
                 refine norm_ (a' := ?_) ?_ ?_
                 rotate_left
                 ·show Act.put _ (some 104) _ = _
                  simp only [Act.put, List.setIfInBounds_toArray, List.set_cons_zero, List.set_cons_succ, i64_w, i32_w]
                  rfl
                 refine pure_ (i := 18) (N := some 105) (v := ?_) (a' := ?_) #[true, true, true, true, true, true, true, true, true, true, true, true, true, true, true, true, true, true, true, false] rfl rfl (any_of HT_.out (by kernel_rfl)) (fun _ _ _ h => h) (Or.inl ⟨by rfl, ?_⟩) ?_ ?_
                 rotate_left
                 ·intro w'
                  go_simp
                  with_reducible rfl
                 rotate_left
                 ·simp only [Act.put, List.setIfInBounds_toArray, List.set_cons_zero, List.set_cons_succ, i64_w, i32_w]
                  rfl
                 refine pure_ (i := 19) (N := some 106) (v := ?_) (a' := ?_) #[true, true, true, true, true, true, true, true, true, true, true, true, true, true, true, true, true, true, true, true] rfl rfl (any_of HT_.out (by kernel_rfl)) (fun _ _ _ h => h) (Or.inl ⟨by rfl, ?_⟩) ?_ ?_
                 rotate_left
                 ·intro w'
                  go_simp
                  with_reducible rfl
                 rotate_left
                 ·simp only [Act.put, List.setIfInBounds_toArray, List.set_cons_zero, List.set_cons_succ, i64_w, i32_w]
                  rfl
                 refine done_ (done_of HT_.out (by kernel_rfl)) ?_
                 try go_wp2
                 go_roundg k3
                 case measure => have := HJ5.out; have := HK2.out; have := HK3.out; omega
                 case rel => exact ⟨(wrap64 (x71_3 + 1)), (by first | rfl | (simp; done) | (simp [*]; done)), H', ⟨by have := HJ5.out; have := HK2.out; have := HK3.out; omega⟩, ⟨blkt BK316⟩, ⟨blkt BK324⟩, ⟨belt HB⟩⟩
              ·replace c53 := Bool.eq_false_iff.mpr c53
               subst c53
               have H1 : (none) = some r := by rw [if_neg (show ¬ (false = true) by decide)] at H; exact H
               clear H
               have H := H1
               clear H1
               exact absurd H (by simp)
             ·replace c52 := Bool.eq_false_iff.mpr c52
              subst c52
              have H1 : (none) = some r := by rw [if_neg (show ¬ (false = true) by decide)] at H; exact H
              clear H
              have H := H1
              clear H1
              exact absurd H (by simp)
            ·rw [if_neg c49] at H
             exact absurd H (by simp)
           ·rw [if_neg c48] at H
            exact absurd H (by simp)
          ·rw [if_neg c47] at H
           have c47b0 : decide (x71_3 < (l1.length : Int)) = false := decide_eq_false c47
           clear c47
           by_cases c83 : t315 = true
           ·subst c83
            have H1 : (some t323) = some r := by rw [if_pos rfl] at H; exact H
            clear H
            have H := H1
            clear H1
            obtain rfl := Option.some.inj H
            go_wp2
            go_ret
            exact ⟨by first | rfl | (simp [errW_none, errW_some] <;> rfl) | (simp [*, errW_none, errW_some] <;> rfl), belt HB⟩
           ·replace c83 := Bool.eq_false_iff.mpr c83
            subst c83
            have H1 : (none) = some r := by rw [if_neg (show ¬ (false = true) by decide)] at H; exact H
            clear H
            have H := H1
            clear H1
            exact absurd H (by simp)
 ·replace c5 := Bool.eq_false_iff.mpr c5
  subst c5
  have H1 : (none) = some r := by rw [if_neg (show ¬ (false = true) by decide)] at H; exact H
  clear H
  have H := H1
  clear H1
  exact absurd H (by simp)

/-- THE ONE PURE STATEMENT of turnstonelaw09_LagBases. -/
def turnstonelaw09_LagBases.Pure : Prop := ∀ (a0 : Int) (l1 : List (S28)) (a2 : Int), (Lit.int .u64 a0).wf = true → l1.length ≤ maxLen → (∀ x ∈ l1, wfS28 x) → (Lit.int .i64 a2).wf = true → ∃ k, turnstonelaw09_LagBases.f k a0 l1 a2 = some true
theorem turnstonelaw09_LagBases.walk (P : turnstonelaw09_LagBases.Pure) (a0 : Int) (A1 : Option Addr) (c1 : Nat) (l1 : List (S28)) (a2 : Int) (w : World) (w0 : (Lit.int .u64 a0).wf = true) (hr1 : Kd.C k28 w A1 l1.length l1) (hc1 : l1.length ≤ c1) (hm1 : l1.length ≤ maxLen) (hw1 : ∀ x ∈ l1, wfS28 x) (w2 : (Lit.int .i64 a2).wf = true) :
  Calls Tryz.prog 3 #[.int .u64 a0, .slice A1 l1.length c1, .int .i64 a2] w fun e w' => e = .returned (.bool true) ∧ Below w.heap.size w w' := by
 obtain ⟨k, h⟩ := P a0 l1 a2 w0 hm1 hw1 w2
 refine (turnstonelaw09_LagBases.calls k a0 _ _ l1 a2 true w hr1 hc1 h).mono ?_
 rintro e w' ⟨rfl, hd⟩
 exact ⟨rfl, hd⟩

end Go.Proofs.YtfbkamgdkdnpoaaGreatDoor.Print
