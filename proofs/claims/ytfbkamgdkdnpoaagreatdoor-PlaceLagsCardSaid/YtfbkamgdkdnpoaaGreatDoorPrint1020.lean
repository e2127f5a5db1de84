/- What each Go function that is named below answers, as a Lean function, and that its walk comes to just that: for whatever arguments that function gives an answer for. Written by a program of this session (wip/mkpr.py, pr.sh). -/
import Derived.Test.YtfbkamgdkdnpoaaGreatDoorPrint1000
import Derived.Test.YtfbkamgdkdnpoaaGreatDoorPrint1003
import Derived.Test.YtfbkamgdkdnpoaaGreatDoorPrint1002
import Derived.Test.YtfbkamgdkdnpoaaGreatDoorPrint1006
import Derived.Test.YtfbkamgdkdnpoaaGreatDoorPrint1004
import Derived.Test.YtfbkamgdkdnpoaaGreatDoorPrint1016
namespace Go.Proofs.YtfbkamgdkdnpoaaGreatDoor.Print
open Go.RowKit Go.Proofs.YtfbkamgdkdnpoaaGreatDoorW.PrintWords Go.Proofs.YtfbkamgdkdnpoaaGreatDoorW.PrintLast Go.Proofs.YtfbkamgdkdnpoaaGreatDoorW.PrintMore
attribute [local go_sem] max2_int min2_int max_two min_two max_three min_three max_four min_four   -- for this text's walks alone
open Go.Proofs.YtfbkamgdkdnpoaaGreatDoor.Bits Go.Proofs.YtfbkamgdkdnpoaaGreatDoor.Short
attribute [local go_sem] add64_run0 sub64_run0 add64_run sub64_run
set_option linter.unusedVariables false
set_option linter.unusedSimpArgs false

/-! ### place_Place: function 30 -/
mutual
def place_Place.j0 : Nat → Int → Int → Int → Bool → Int → Int → Int → Int → Int → Option (Int × Int × Int × Bool)
 | 0, _, _, _, _, _, _, _, _, _ => none
 | k + 1, x1, x2, x3, x29, x401000, x401001, x401002, x401003, x401004 => if x29 = true then (some (0, 0, 0, false)) else (if x401004 = 0 then (some (x1, 0, x2, true)) else ((wide_Int_Mul.f k x401001 x401002 (wrap64 (x2))).bind fun bt403 => ((wide_Of.f x3).bind fun bt407 => ((wide_Int_Mul.f k bt407.1 bt407.2 (wrap64 ((wrap64 (x401003)) + (wrap64 (x2))))).bind fun bt409 => ((wide_Int_Sub.f bt403.1 bt403.2.1 bt409.1 bt409.2.1).bind fun bt413 => (if bt403.2.2 = true then (if bt409.2.2 = true then (place_Place.j1 k x2 (!bt413.2.2) x401000 x401001 x401002 x401003 x401004 bt413.1 bt413.2.1) else (place_Place.j1 k x2 true x401000 x401001 x401002 x401003 x401004 bt413.1 bt413.2.1)) else (place_Place.j1 k x2 true x401000 x401001 x401002 x401003 x401004 bt413.1 bt413.2.1)))))))
def place_Place.j1 : Nat → Int → Bool → Int → Int → Int → Int → Int → Int → Int → Option (Int × Int × Int × Bool)
 | 0, _, _, _, _, _, _, _, _, _ => none
 | k + 1, x2, x72, x401000, x401001, x401002, x401003, x401004, x417000, x417001 => if x72 = true then (some (0, 0, 0, false)) else ((wide_Int_Div.f k x417000 x417001 x401003).bind fun bt417 => ((pos_At.f k x401000 bt417.1 bt417.2.1 x2).bind fun bt422 => (some (bt422.1, bt422.2.1, bt422.2.2.1, bt422.2.2.2))))
end
def place_Place.f (k : Nat) (a0_0 : Int) (a0_1 : Int) (a0_2 : Int) (a0_3 : Int) (a0_4 : Int) (a1 : Int) (a2 : Int) (a3 : Int) : Option (Int × Int × Int × Bool) := (mean_Mean_Right.f a0_0 a0_1 a0_2 a0_3 a0_4).bind fun t402 => (if t402 = true then (if a2 < 1 then (place_Place.j0 k a1 a2 a3 true a0_0 a0_1 a0_2 a0_3 a0_4) else (place_Place.j0 k a1 a2 a3 (decide (a2 > 1048576)) a0_0 a0_1 a0_2 a0_3 a0_4)) else (place_Place.j0 k a1 a2 a3 true a0_0 a0_1 a0_2 a0_3 a0_4))
theorem place_Place.mono_l : ∀ k, (∀ y0 y1 y2 y3 y4 y5 y6 y7 y8, LeO (place_Place.j0 k y0 y1 y2 y3 y4 y5 y6 y7 y8) (place_Place.j0 (k + 1) y0 y1 y2 y3 y4 y5 y6 y7 y8)) ∧ (∀ y0 y1 y2 y3 y4 y5 y6 y7 y8, LeO (place_Place.j1 k y0 y1 y2 y3 y4 y5 y6 y7 y8) (place_Place.j1 (k + 1) y0 y1 y2 y3 y4 y5 y6 y7 y8))
 | 0 => ⟨fun _ _ _ _ _ _ _ _ _ r h => by simp [place_Place.j0] at h, fun _ _ _ _ _ _ _ _ _ r h => by simp [place_Place.j1] at h⟩
 | k + 1 => by
  obtain ⟨ih0, ih1⟩ := place_Place.mono_l k
  refine ⟨?_, ?_⟩
  ·intro y0 y1 y2 y3 y4 y5 y6 y7 y8
   unfold place_Place.j0
   repeat' first
   | (with_reducible exact ih0 _ _ _ _ _ _ _ _ _)
   | (with_reducible exact ih1 _ _ _ _ _ _ _ _ _)
   | (with_reducible exact pos_At.mono _ _ _ _ _)
   | (with_reducible exact wide_Int_Div.mono _ _ _ _)
   | (with_reducible exact wide_Int_Mul.mono _ _ _ _)
   | (with_reducible exact LeO.refl _)
   | (with_reducible exact LeO.none _)
   | (with_reducible refine LeO.ite ?_ ?_)
   | (with_reducible refine LeO.bind ?_ (fun _ => ?_))
   | exact ih0 _ _ _ _ _ _ _ _ _
   | exact ih1 _ _ _ _ _ _ _ _ _
   | exact pos_At.mono _ _ _ _ _
   | exact wide_Int_Div.mono _ _ _ _
   | exact wide_Int_Mul.mono _ _ _ _
   | exact LeO.none _
   | refine LeO.ite ?_ ?_
   | refine LeO.bind ?_ (fun _ => ?_)
  ·intro y0 y1 y2 y3 y4 y5 y6 y7 y8
   unfold place_Place.j1
   repeat' first
   | (with_reducible exact ih0 _ _ _ _ _ _ _ _ _)
   | (with_reducible exact ih1 _ _ _ _ _ _ _ _ _)
   | (with_reducible exact pos_At.mono _ _ _ _ _)
   | (with_reducible exact wide_Int_Div.mono _ _ _ _)
   | (with_reducible exact wide_Int_Mul.mono _ _ _ _)
   | (with_reducible exact LeO.refl _)
   | (with_reducible exact LeO.none _)
   | (with_reducible refine LeO.ite ?_ ?_)
   | (with_reducible refine LeO.bind ?_ (fun _ => ?_))
   | exact ih0 _ _ _ _ _ _ _ _ _
   | exact ih1 _ _ _ _ _ _ _ _ _
   | exact pos_At.mono _ _ _ _ _
   | exact wide_Int_Div.mono _ _ _ _
   | exact wide_Int_Mul.mono _ _ _ _
   | exact LeO.none _
   | refine LeO.ite ?_ ?_
   | refine LeO.bind ?_ (fun _ => ?_)
theorem place_Place.mono : ∀ a0 a1 a2 a3 a4 a5 a6 a7 k, LeO (place_Place.f k a0 a1 a2 a3 a4 a5 a6 a7) (place_Place.f (k + 1) a0 a1 a2 a3 a4 a5 a6 a7) := by
 intro a0 a1 a2 a3 a4 a5 a6 a7 k
 obtain ⟨ih0, ih1⟩ := place_Place.mono_l k
 unfold place_Place.f
 repeat' first
   | (with_reducible exact ih0 _ _ _ _ _ _ _ _ _)
   | (with_reducible exact ih1 _ _ _ _ _ _ _ _ _)
   | (with_reducible exact pos_At.mono _ _ _ _ _)
   | (with_reducible exact wide_Int_Div.mono _ _ _ _)
   | (with_reducible exact wide_Int_Mul.mono _ _ _ _)
   | (with_reducible exact LeO.refl _)
   | (with_reducible exact LeO.none _)
   | (with_reducible refine LeO.ite ?_ ?_)
   | (with_reducible refine LeO.bind ?_ (fun _ => ?_))
   | exact ih0 _ _ _ _ _ _ _ _ _
   | exact ih1 _ _ _ _ _ _ _ _ _
   | exact pos_At.mono _ _ _ _ _
   | exact wide_Int_Div.mono _ _ _ _
   | exact wide_Int_Mul.mono _ _ _ _
   | exact LeO.none _
   | refine LeO.ite ?_ ?_
   | refine LeO.bind ?_ (fun _ => ?_)
def place_Place.T6 : Bool × List (List Nat × List Nat) := (true, [([], []), ([0], [0]), ([], []), ([2], [2]), ([3], [3]), ([], []), ([5], [5]), ([4, 6], [4, 6]), ([1, 7, 1], [1, 7]), ([8], [8]), ([9], [9]), ([9], [9]), ([], []), ([12, 10, 8, 0, 1, 2, 3, 4, 5, 6, 7, 8, 9, 10, 12], [10, 12]), ([11, 13, 0, 1, 2, 3, 4, 5, 6, 7, 8, 9, 10, 11, 12, 13], [11])])
def place_Place.B6 : List Nat := [0, 1, 0, 4, 12, 0, 32, 124, 255, 511, 1023, 1023, 0, 6143, 16383]
theorem place_Place.tab6 : rtab .any (opsOf Tryz.f30 6) = place_Place.T6 := by kernel_rfl
theorem place_Place.bits6 : waitsOk place_Place.T6.2 place_Place.B6 = true := by kernel_rfl
set_option maxHeartbeats 8000000 in
set_option maxRecDepth 100000 in
theorem place_Place.calls (k : Nat) (a0_0 : Int) (a0_1 : Int) (a0_2 : Int) (a0_3 : Int) (a0_4 : Int) (a1 : Int) (a2 : Int) (a3 : Int) (r1 : Int) (r2 : Int) (r3 : Int) (r4 : Bool) (w : World) (h : place_Place.f k a0_0 a0_1 a0_2 a0_3 a0_4 a1 a2 a3 = some (r1, r2, r3, r4)) :
  Calls Tryz.prog 30 #[.agg #[.int .u64 a0_0, .int .i64 a0_1, .int .u64 a0_2, .int .u64 a0_3, .int .i64 a0_4], .int .u64 a1, .int .u32 a2, .int .i64 a3] w fun e w' => e = .returned (.tuple #[.agg #[.int .u64 r1, .int .u32 r2, .int .u32 r3], .bool r4]) ∧ Below w.heap.size w w' := by
 have hu33 := Tryz.underlying33
 have hu28 := Tryz.underlying28
 have hu31 := Tryz.underlying31
 have HB := Aside0.mk (Below.refl w.heap.size w)
 have H : ((mean_Mean_Right.f a0_0 a0_1 a0_2 a0_3 a0_4).bind fun t402 => (if t402 = true then (if a2 < 1 then (place_Place.j0 k a1 a2 a3 true a0_0 a0_1 a0_2 a0_3 a0_4) else (place_Place.j0 k a1 a2 a3 (decide (a2 > 1048576)) a0_0 a0_1 a0_2 a0_3 a0_4)) else (place_Place.j0 k a1 a2 a3 true a0_0 a0_1 a0_2 a0_3 a0_4))) = some (r1, r2, r3, r4) := h
 clear h
 have HC5 := Aside0.mk H
 clear H
 go_enter Tryz.func30, Tryz.ntmps30
 go_upto_region 1 with (first | ((with_reducible refine gate_dst (N := 4) rfl ?_); refine box_event ?hg (N := 4) ?hd (cs := #[.int .u64 a0_0, .int .i64 a0_1, .int .u64 a0_2, .int .u64 a0_3, .int .i64 a0_4]) (t := 33) ?hr ?_; (case hd => rfl); (case hg => rfl); (case hr => first | (go_simp; done) | (go_simp; rfl)); intro gb400 hg w6 hbox hb; have BK400 := Aside0.mk (hbox); have GW400 := bels HB hg; have GE400 := bels HB hg; replace HB := belb HB hb; clear hb hbox hg) | ((with_reducible refine gate_dst (N := 8) rfl ?_); refine box_event ?hg (N := 8) ?hd (cs := #[.int .u64 0, .int .u32 0, .int .u32 0]) (t := 28) ?hr ?_; (case hd => rfl); (case hg => rfl); (case hr => first | (go_simp; done) | (go_simp; rfl)); intro gb401 hg w7 hbox hb; have BK401 := Aside0.mk (hbox); have GW401 := bels HB hg; have GE401 := bels HB hg; have NB400_401 := blkl BK400 hg; have NB401_400 := blkg BK400 hg; replace BK400 := blkb BK400 hb; replace HB := belb HB hb; clear hb hbox hg))
 (try simp only [Act.put, List.setIfInBounds_toArray, List.set_cons_zero, List.set_cons_succ])
 go_cut [29] (fun v29 wc => ∃ (kq : Nat) (x29_4 : Bool), v29 = .bool x29_4 ∧ Aside0 (place_Place.j0 kq a1 a2 a3 x29_4 a0_0 a0_1 a0_2 a0_3 a0_4 = some (r1, r2, r3, r4)) ∧ Aside0 (kq ≤ k) ∧ Aside0 (wc.heap[gb400]? = some (.cells #[.int .u64 a0_0, .int .i64 a0_1, .int .u64 a0_2, .int .u64 a0_3, .int .i64 a0_4] 33 (0, 0))) ∧ Aside0 (wc.heap[gb401]? = some (.cells #[.int .u64 0, .int .u32 0, .int .u32 0] 28 (0, 0))) ∧ Aside0 (Below w.heap.size w wc))
 case first =>
  have H := HC5.out
  clear HC5
  replace H := Option.bind_eq_some_iff.mp H
  obtain ⟨t402, A80, H⟩ := H
  replace H : (if t402 = true then (if a2 < 1 then (place_Place.j0 k a1 a2 a3 true a0_0 a0_1 a0_2 a0_3 a0_4) else (place_Place.j0 k a1 a2 a3 (decide (a2 > 1048576)) a0_0 a0_1 a0_2 a0_3 a0_4)) else (place_Place.j0 k a1 a2 a3 true a0_0 a0_1 a0_2 a0_3 a0_4)) = some (r1, r2, r3, r4) := H
  have A8 := Aside0.mk A80
  clear A80
  by_cases c9 : t402 = true
  ·subst c9
   have H1 : (if a2 < 1 then (place_Place.j0 k a1 a2 a3 true a0_0 a0_1 a0_2 a0_3 a0_4) else (place_Place.j0 k a1 a2 a3 (decide (a2 > 1048576)) a0_0 a0_1 a0_2 a0_3 a0_4)) = some (r1, r2, r3, r4) := by rw [if_pos rfl] at H; exact H
   clear H
   have H := H1
   clear H1
   by_cases c10 : a2 < 1
   ·rw [if_pos c10] at H
    have c10b0 : decide (a2 < 1) = true := decide_eq_true c10
    clear c10
    (first | rw [c10b0] | (simp only [i64_w, i32_w]; rw [c10b0]) | skip)
    have H' := Aside0.mk H
    clear H
    have hnb11 := NB400_401.out
    have hnc11 := NB401_400.out
    have hcz12_0 : w7.cell? ⟨gb400, 0, none⟩ = some (.int .u64 a0_0) := (blk_cell BK400.out 0).trans rfl
    have hcz12_1 : w7.cell? ⟨gb400, 1, none⟩ = some (.int .i64 a0_1) := (blk_cell BK400.out 1).trans rfl
    have hcz12_2 : w7.cell? ⟨gb400, 2, none⟩ = some (.int .u64 a0_2) := (blk_cell BK400.out 2).trans rfl
    have hcz12_3 : w7.cell? ⟨gb400, 3, none⟩ = some (.int .u64 a0_3) := (blk_cell BK400.out 3).trans rfl
    have hcz12_4 : w7.cell? ⟨gb400, 4, none⟩ = some (.int .i64 a0_4) := (blk_cell BK400.out 4).trans rfl
    have hfz12_0 := blk_frozen BK400.out 0
    have hfz12_1 := blk_frozen BK400.out 1
    have hfz12_2 := blk_frozen BK400.out 2
    have hfz12_3 := blk_frozen BK400.out 3
    have hfz12_4 := blk_frozen BK400.out 4
    go_wp2_with (first | ((with_reducible refine gate_callee (f := 52) rfl ?_); refine goesL_ (some 20) rfl rfl Tryz.func52 (by kernel_rfl) rfl #[.agg #[.int .u64 a0_0, .int .i64 a0_1, .int .u64 a0_2, .int .u64 a0_3, .int .i64 a0_4]] rfl argt ?_; (with_reducible refine (mean_Mean_Right.calls a0_0 a0_1 a0_2 a0_3 a0_4 true _ A8.out).mono ?_); rintro e w13 ⟨rfl, hb⟩; refine ⟨_, rfl, ?_⟩; replace BK400 := blkb BK400 hb; replace BK401 := blkb BK401 hb; replace HB := belb HB hb; (try clear hb); (try clear hb2); (try clear hk); (try clear hi)))
    go_meet
    case rel => exact ⟨_, (true), (by first | rfl | (simp; done) | (simp [*]; done)), H', ⟨by first | omega | exact Nat.le_refl _⟩, ⟨blkt BK400⟩, ⟨blkt BK401⟩, ⟨belt HB⟩⟩
   ·rw [if_neg c10] at H
    have c10b0 : decide (a2 < 1) = false := decide_eq_false c10
    clear c10
    (first | rw [c10b0] | (simp only [i64_w, i32_w]; rw [c10b0]) | skip)
    have H' := Aside0.mk H
    clear H
    have hnb14 := NB400_401.out
    have hnc14 := NB401_400.out
    have hcz15_0 : w7.cell? ⟨gb400, 0, none⟩ = some (.int .u64 a0_0) := (blk_cell BK400.out 0).trans rfl
    have hcz15_1 : w7.cell? ⟨gb400, 1, none⟩ = some (.int .i64 a0_1) := (blk_cell BK400.out 1).trans rfl
    have hcz15_2 : w7.cell? ⟨gb400, 2, none⟩ = some (.int .u64 a0_2) := (blk_cell BK400.out 2).trans rfl
    have hcz15_3 : w7.cell? ⟨gb400, 3, none⟩ = some (.int .u64 a0_3) := (blk_cell BK400.out 3).trans rfl
    have hcz15_4 : w7.cell? ⟨gb400, 4, none⟩ = some (.int .i64 a0_4) := (blk_cell BK400.out 4).trans rfl
    have hfz15_0 := blk_frozen BK400.out 0
    have hfz15_1 := blk_frozen BK400.out 1
    have hfz15_2 := blk_frozen BK400.out 2
    have hfz15_3 := blk_frozen BK400.out 3
    have hfz15_4 := blk_frozen BK400.out 4
    go_wp2_with (first | ((with_reducible refine gate_callee (f := 52) rfl ?_); refine goesL_ (some 20) rfl rfl Tryz.func52 (by kernel_rfl) rfl #[.agg #[.int .u64 a0_0, .int .i64 a0_1, .int .u64 a0_2, .int .u64 a0_3, .int .i64 a0_4]] rfl argt ?_; (with_reducible refine (mean_Mean_Right.calls a0_0 a0_1 a0_2 a0_3 a0_4 true _ A8.out).mono ?_); rintro e w16 ⟨rfl, hb⟩; refine ⟨_, rfl, ?_⟩; replace BK400 := blkb BK400 hb; replace BK401 := blkb BK401 hb; replace HB := belb HB hb; (try clear hb); (try clear hb2); (try clear hk); (try clear hi)))
    go_meet
    case rel => exact ⟨_, (decide (a2 > 1048576)), (by first | rfl | (simp; done) | (simp [*]; done)), H', ⟨by first | omega | exact Nat.le_refl _⟩, ⟨blkt BK400⟩, ⟨blkt BK401⟩, ⟨belt HB⟩⟩
  ·replace c9 := Bool.eq_false_iff.mpr c9
   subst c9
   have H1 : (place_Place.j0 k a1 a2 a3 true a0_0 a0_1 a0_2 a0_3 a0_4) = some (r1, r2, r3, r4) := by rw [if_neg (show ¬ (false = true) by decide)] at H; exact H
   clear H
   have H := H1
   clear H1
   have H' := Aside0.mk H
   clear H
   have hnb17 := NB400_401.out
   have hnc17 := NB401_400.out
   have hcz18_0 : w7.cell? ⟨gb400, 0, none⟩ = some (.int .u64 a0_0) := (blk_cell BK400.out 0).trans rfl
   have hcz18_1 : w7.cell? ⟨gb400, 1, none⟩ = some (.int .i64 a0_1) := (blk_cell BK400.out 1).trans rfl
   have hcz18_2 : w7.cell? ⟨gb400, 2, none⟩ = some (.int .u64 a0_2) := (blk_cell BK400.out 2).trans rfl
   have hcz18_3 : w7.cell? ⟨gb400, 3, none⟩ = some (.int .u64 a0_3) := (blk_cell BK400.out 3).trans rfl
   have hcz18_4 : w7.cell? ⟨gb400, 4, none⟩ = some (.int .i64 a0_4) := (blk_cell BK400.out 4).trans rfl
   have hfz18_0 := blk_frozen BK400.out 0
   have hfz18_1 := blk_frozen BK400.out 1
   have hfz18_2 := blk_frozen BK400.out 2
   have hfz18_3 := blk_frozen BK400.out 3
   have hfz18_4 := blk_frozen BK400.out 4
   go_wp2_with (first | ((with_reducible refine gate_callee (f := 52) rfl ?_); refine goesL_ (some 20) rfl rfl Tryz.func52 (by kernel_rfl) rfl #[.agg #[.int .u64 a0_0, .int .i64 a0_1, .int .u64 a0_2, .int .u64 a0_3, .int .i64 a0_4]] rfl argt ?_; (with_reducible refine (mean_Mean_Right.calls a0_0 a0_1 a0_2 a0_3 a0_4 false _ A8.out).mono ?_); rintro e w19 ⟨rfl, hb⟩; refine ⟨_, rfl, ?_⟩; replace BK400 := blkb BK400 hb; replace BK401 := blkb BK401 hb; replace HB := belb HB hb; (try clear hb); (try clear hb2); (try clear hk); (try clear hi)))
   go_meet
   case rel => exact ⟨_, (true), (by first | rfl | (simp; done) | (simp [*]; done)), H', ⟨by first | omega | exact Nat.le_refl _⟩, ⟨blkt BK400⟩, ⟨blkt BK401⟩, ⟨belt HB⟩⟩
 case rest =>
  clear HC5
  try clear c1
  try clear p2
  try clear c3
  try clear c5
  try clear c9
  try clear c10
  try clear c10b0
  try clear c11
  try clear c14
  try clear c17
  try clear hcz12_0
  try clear hcz12_1
  try clear hcz12_2
  try clear hcz12_3
  try clear hcz12_4
  try clear hcz15_0
  try clear hcz15_1
  try clear hcz15_2
  try clear hcz15_3
  try clear hcz15_4
  try clear hcz18_0
  try clear hcz18_1
  try clear hcz18_2
  try clear hcz18_3
  try clear hcz18_4
  try clear hfz12_0
  try clear hfz12_1
  try clear hfz12_2
  try clear hfz12_3
  try clear hfz12_4
  try clear hfz15_0
  try clear hfz15_1
  try clear hfz15_2
  try clear hfz15_3
  try clear hfz15_4
  try clear hfz18_0
  try clear hfz18_1
  try clear hfz18_2
  try clear hfz18_3
  try clear hfz18_4
  obtain ⟨kq, x29_4, rfl, HA, HJ4, BK400, BK401, HB⟩ := hcut
  cases kq with
  | zero => exact absurd HA.out (by simp [place_Place.j0])
  | succ kj4 =>
   have H := HA.out
   clear HA
   simp only [place_Place.j0] at H
   by_cases c20 : x29_4 = true
   ·subst c20
    have H1 : (some (0, 0, 0, false)) = some (r1, r2, r3, r4) := by rw [if_pos rfl] at H; exact H
    clear H
    have H := H1
    clear H1
    simp only [Option.some.injEq, Prod.mk.injEq] at H
    obtain ⟨rfl, rfl, rfl, rfl⟩ := H
    have hnb21 := NB401_400.out
    have hnc21 := NB400_401.out
    have hcz22_0 : wc.cell? ⟨gb401, 0, none⟩ = some (.int .u64 0) := (blk_cell BK401.out 0).trans rfl
    have hcz22_1 : wc.cell? ⟨gb401, 1, none⟩ = some (.int .u32 0) := (blk_cell BK401.out 1).trans rfl
    have hcz22_2 : wc.cell? ⟨gb401, 2, none⟩ = some (.int .u32 0) := (blk_cell BK401.out 2).trans rfl
    have hfz22_0 := blk_frozen BK401.out 0
    have hfz22_1 := blk_frozen BK401.out 1
    have hfz22_2 := blk_frozen BK401.out 2
    go_wp2
    refine bodyPost_ret (results_ct rfl _ _ gb401 28 #[.int .u64 0, .int .u32 0, .int .u32 0] (0, 0) _ rfl (by (with_reducible repeat (first | refine blk_drewN ?_ _ | refine blk_drew ?_ | refine blk_alloc ?_ _)); refine blk_put (cs := #[.int .u64 0, .int .u32 0, .int .u32 0]) ?_ 2 _ rfl; (with_reducible repeat (first | refine blk_drewN ?_ _ | refine blk_drew ?_ | refine blk_alloc ?_ _)); refine blk_put (cs := #[.int .u64 0, .int .u32 0, .int .u32 0]) ?_ 1 _ rfl; (with_reducible repeat (first | refine blk_drewN ?_ _ | refine blk_drew ?_ | refine blk_alloc ?_ _)); refine blk_put (cs := #[.int .u64 0, .int .u32 0, .int .u32 0]) ?_ 0 _ rfl; exact blkt BK401) Tryz.underlying28 rfl (by kernel_rfl)) rfl ?_
    exact ⟨by first | rfl | (simp [errW_none, errW_some] <;> rfl) | (simp [*, errW_none, errW_some] <;> rfl), belt HB⟩
   ·replace c20 := Bool.eq_false_iff.mpr c20
    subst c20
    have H1 : (if a0_4 = 0 then (some (a1, 0, a2, true)) else ((wide_Int_Mul.f kj4 a0_1 a0_2 (wrap64 (a2))).bind fun bt403 => ((wide_Of.f a3).bind fun bt407 => ((wide_Int_Mul.f kj4 bt407.1 bt407.2 (wrap64 ((wrap64 (a0_3)) + (wrap64 (a2))))).bind fun bt409 => ((wide_Int_Sub.f bt403.1 bt403.2.1 bt409.1 bt409.2.1).bind fun bt413 => (if bt403.2.2 = true then (if bt409.2.2 = true then (place_Place.j1 kj4 a2 (!bt413.2.2) a0_0 a0_1 a0_2 a0_3 a0_4 bt413.1 bt413.2.1) else (place_Place.j1 kj4 a2 true a0_0 a0_1 a0_2 a0_3 a0_4 bt413.1 bt413.2.1)) else (place_Place.j1 kj4 a2 true a0_0 a0_1 a0_2 a0_3 a0_4 bt413.1 bt413.2.1))))))) = some (r1, r2, r3, r4) := by rw [if_neg (show ¬ (false = true) by decide)] at H; exact H
    clear H
    have H := H1
    clear H1
    by_cases c23 : a0_4 = 0
    ·rw [if_pos c23] at H
     have c23b0 : (a0_4 == 0) = true := beq_iff_eq.mpr c23
     have c23b1 : (a0_4 != 0) = false := bne_eq_false_iff_eq.mpr c23
     clear c23
     simp only [Option.some.injEq, Prod.mk.injEq] at H
     obtain ⟨rfl, rfl, rfl, rfl⟩ := H
     have hnb24 := NB400_401.out
     have hnc24 := NB401_400.out
     have hcz25_0 : wc.cell? ⟨gb400, 0, none⟩ = some (.int .u64 a0_0) := (blk_cell BK400.out 0).trans rfl
     have hcz25_1 : wc.cell? ⟨gb400, 1, none⟩ = some (.int .i64 a0_1) := (blk_cell BK400.out 1).trans rfl
     have hcz25_2 : wc.cell? ⟨gb400, 2, none⟩ = some (.int .u64 a0_2) := (blk_cell BK400.out 2).trans rfl
     have hcz25_3 : wc.cell? ⟨gb400, 3, none⟩ = some (.int .u64 a0_3) := (blk_cell BK400.out 3).trans rfl
     have hcz25_4 : wc.cell? ⟨gb400, 4, none⟩ = some (.int .i64 a0_4) := (blk_cell BK400.out 4).trans rfl
     have hfz25_0 := blk_frozen BK400.out 0
     have hfz25_1 := blk_frozen BK400.out 1
     have hfz25_2 := blk_frozen BK400.out 2
     have hfz25_3 := blk_frozen BK400.out 3
     have hfz25_4 := blk_frozen BK400.out 4
     have hcz26_0 : wc.cell? ⟨gb401, 0, none⟩ = some (.int .u64 0) := (blk_cell BK401.out 0).trans rfl
     have hcz26_1 : wc.cell? ⟨gb401, 1, none⟩ = some (.int .u32 0) := (blk_cell BK401.out 1).trans rfl
     have hcz26_2 : wc.cell? ⟨gb401, 2, none⟩ = some (.int .u32 0) := (blk_cell BK401.out 2).trans rfl
     have hfz26_0 := blk_frozen BK401.out 0
     have hfz26_1 := blk_frozen BK401.out 1
     have hfz26_2 := blk_frozen BK401.out 2
     go_wp2
     refine bodyPost_ret (results_ct rfl _ _ gb401 28 #[.int .u64 a1, .int .u32 0, .int .u32 a2] (0, 0) _ rfl (by (with_reducible repeat (first | refine blk_drewN ?_ _ | refine blk_drew ?_ | refine blk_alloc ?_ _)); refine blk_put (cs := #[.int .u64 a1, .int .u32 0, .int .u32 0]) ?_ 2 _ rfl; (with_reducible repeat (first | refine blk_drewN ?_ _ | refine blk_drew ?_ | refine blk_alloc ?_ _)); refine blk_put (cs := #[.int .u64 a1, .int .u32 0, .int .u32 0]) ?_ 1 _ rfl; (with_reducible repeat (first | refine blk_drewN ?_ _ | refine blk_drew ?_ | refine blk_alloc ?_ _)); refine blk_put (cs := #[.int .u64 0, .int .u32 0, .int .u32 0]) ?_ 0 _ rfl; exact blkt BK401) Tryz.underlying28 rfl (by kernel_rfl)) rfl ?_
     exact ⟨by first | rfl | (simp [errW_none, errW_some] <;> rfl) | (simp [*, errW_none, errW_some] <;> rfl), belt HB⟩
    ·rw [if_neg c23] at H
     have c23b0 : (a0_4 == 0) = false := beq_eq_false_iff_ne.mpr c23
     have c23b1 : (a0_4 != 0) = true := bne_iff_ne.mpr c23
     replace H := Option.bind_eq_some_iff.mp H
     obtain ⟨⟨t403, t404, t405⟩, A270, H⟩ := H
     replace H : ((wide_Of.f a3).bind fun bt407 => ((wide_Int_Mul.f kj4 bt407.1 bt407.2 (wrap64 ((wrap64 (a0_3)) + (wrap64 (a2))))).bind fun bt409 => ((wide_Int_Sub.f t403 t404 bt409.1 bt409.2.1).bind fun bt413 => (if t405 = true then (if bt409.2.2 = true then (place_Place.j1 kj4 a2 (!bt413.2.2) a0_0 a0_1 a0_2 a0_3 a0_4 bt413.1 bt413.2.1) else (place_Place.j1 kj4 a2 true a0_0 a0_1 a0_2 a0_3 a0_4 bt413.1 bt413.2.1)) else (place_Place.j1 kj4 a2 true a0_0 a0_1 a0_2 a0_3 a0_4 bt413.1 bt413.2.1))))) = some (r1, r2, r3, r4) := H
     have A27 := Aside0.mk A270
     clear A270
     replace H := Option.bind_eq_some_iff.mp H
     obtain ⟨⟨t407, t408⟩, A280, H⟩ := H
     replace H : ((wide_Int_Mul.f kj4 t407 t408 (wrap64 ((wrap64 (a0_3)) + (wrap64 (a2))))).bind fun bt409 => ((wide_Int_Sub.f t403 t404 bt409.1 bt409.2.1).bind fun bt413 => (if t405 = true then (if bt409.2.2 = true then (place_Place.j1 kj4 a2 (!bt413.2.2) a0_0 a0_1 a0_2 a0_3 a0_4 bt413.1 bt413.2.1) else (place_Place.j1 kj4 a2 true a0_0 a0_1 a0_2 a0_3 a0_4 bt413.1 bt413.2.1)) else (place_Place.j1 kj4 a2 true a0_0 a0_1 a0_2 a0_3 a0_4 bt413.1 bt413.2.1)))) = some (r1, r2, r3, r4) := H
     have A28 := Aside0.mk A280
     clear A280
     replace H := Option.bind_eq_some_iff.mp H
     obtain ⟨⟨t409, t410, t411⟩, A290, H⟩ := H
     replace H : ((wide_Int_Sub.f t403 t404 t409 t410).bind fun bt413 => (if t405 = true then (if t411 = true then (place_Place.j1 kj4 a2 (!bt413.2.2) a0_0 a0_1 a0_2 a0_3 a0_4 bt413.1 bt413.2.1) else (place_Place.j1 kj4 a2 true a0_0 a0_1 a0_2 a0_3 a0_4 bt413.1 bt413.2.1)) else (place_Place.j1 kj4 a2 true a0_0 a0_1 a0_2 a0_3 a0_4 bt413.1 bt413.2.1))) = some (r1, r2, r3, r4) := H
     have A29 := Aside0.mk A290
     clear A290
     replace H := Option.bind_eq_some_iff.mp H
     obtain ⟨⟨t413, t414, t415⟩, A300, H⟩ := H
     replace H : (if t405 = true then (if t411 = true then (place_Place.j1 kj4 a2 (!t415) a0_0 a0_1 a0_2 a0_3 a0_4 t413 t414) else (place_Place.j1 kj4 a2 true a0_0 a0_1 a0_2 a0_3 a0_4 t413 t414)) else (place_Place.j1 kj4 a2 true a0_0 a0_1 a0_2 a0_3 a0_4 t413 t414)) = some (r1, r2, r3, r4) := H
     have A30 := Aside0.mk A300
     clear A300
     have HC31 := Aside0.mk H
     clear H
     have hnb32 := NB400_401.out
     have hnc32 := NB401_400.out
     have hcz33_0 : wc.cell? ⟨gb400, 0, none⟩ = some (.int .u64 a0_0) := (blk_cell BK400.out 0).trans rfl
     have hcz33_1 : wc.cell? ⟨gb400, 1, none⟩ = some (.int .i64 a0_1) := (blk_cell BK400.out 1).trans rfl
     have hcz33_2 : wc.cell? ⟨gb400, 2, none⟩ = some (.int .u64 a0_2) := (blk_cell BK400.out 2).trans rfl
     have hcz33_3 : wc.cell? ⟨gb400, 3, none⟩ = some (.int .u64 a0_3) := (blk_cell BK400.out 3).trans rfl
     have hcz33_4 : wc.cell? ⟨gb400, 4, none⟩ = some (.int .i64 a0_4) := (blk_cell BK400.out 4).trans rfl
     have hfz33_0 := blk_frozen BK400.out 0
     have hfz33_1 := blk_frozen BK400.out 1
     have hfz33_2 := blk_frozen BK400.out 2
     have hfz33_3 := blk_frozen BK400.out 3
     have hfz33_4 := blk_frozen BK400.out 4
     try go_wp2_with (first | ((with_reducible refine gate_callee (f := 54) rfl ?_); refine goesL_ (some 42) rfl rfl Tryz.func54 (by kernel_rfl) rfl #[.agg #[.int .i64 a0_1, .int .u64 a0_2], .int .i64 (wrap64 (a2))] rfl argt ?_; (with_reducible refine (wide_Int_Mul.calls kj4 a0_1 a0_2 (wrap64 (a2)) t403 t404 t405 _ A27.out).mono ?_); rintro e w34 ⟨rfl, hb⟩; refine ⟨_, rfl, ?_⟩; replace BK400 := blkb BK400 hb; replace BK401 := blkb BK401 hb; replace HB := belb HB hb; (try clear hb); (try clear hb2); (try clear hk); (try clear hi)) | ((with_reducible refine gate_dst (N := 10) rfl ?_); refine box_event ?hg (N := 10) ?hd (cs := #[.int .i64 0, .int .u64 0]) (t := 31) ?hr ?_; (case hd => rfl); (case hg => rfl); (case hr => first | (go_simp; done) | (go_simp; rfl)); intro gb406 hg w35 hbox hb; have BK406 := Aside0.mk (hbox); have GW406 := bels HB hg; have GE406 := bels HB hg; have NB400_406 := blkl BK400 hg; have NB406_400 := blkg BK400 hg; have NB401_406 := blkl BK401 hg; have NB406_401 := blkg BK401 hg; replace BK400 := blkb BK400 hb; replace BK401 := blkb BK401 hb; replace HB := belb HB hb; clear hb hbox hg; have hnb36 := NB406_400.out; have hnc36 := NB400_406.out; have hnb37 := NB406_401.out; have hnc37 := NB401_406.out; have hcz38_0 : w35.cell? ⟨gb406, 0, none⟩ = some (.int .i64 0) := (blk_cell BK406.out 0).trans rfl; have hcz38_1 : w35.cell? ⟨gb406, 1, none⟩ = some (.int .u64 0) := (blk_cell BK406.out 1).trans rfl; have hfz38_0 := blk_frozen BK406.out 0; have hfz38_1 := blk_frozen BK406.out 1))
     have n0_ : Aside0 (((w35.setCell ⟨gb406, 0, none⟩ (.int .i64 t403)).setCell ⟨gb406, 1, none⟩ (.int .u64 t404)).heap[gb400]? = some (.cells #[.int .u64 a0_0, .int .i64 a0_1, .int .u64 a0_2, .int .u64 a0_3, .int .i64 a0_4] 33 (0, 0))) := ⟨by (with_reducible repeat (first | refine blk_drewN ?_ _ | refine blk_drew ?_ | refine blk_alloc ?_ _)); refine blk_far ?_ NB400_406.out _; (with_reducible repeat (first | refine blk_drewN ?_ _ | refine blk_drew ?_ | refine blk_alloc ?_ _)); refine blk_far ?_ NB400_406.out _; exact blkt BK400⟩
     have n1_ : Aside0 (((w35.setCell ⟨gb406, 0, none⟩ (.int .i64 t403)).setCell ⟨gb406, 1, none⟩ (.int .u64 t404)).heap[gb401]? = some (.cells #[.int .u64 0, .int .u32 0, .int .u32 0] 28 (0, 0))) := ⟨by (with_reducible repeat (first | refine blk_drewN ?_ _ | refine blk_drew ?_ | refine blk_alloc ?_ _)); refine blk_far ?_ NB401_406.out _; (with_reducible repeat (first | refine blk_drewN ?_ _ | refine blk_drew ?_ | refine blk_alloc ?_ _)); refine blk_far ?_ NB401_406.out _; exact blkt BK401⟩
     have n2_ : Aside0 (((w35.setCell ⟨gb406, 0, none⟩ (.int .i64 t403)).setCell ⟨gb406, 1, none⟩ (.int .u64 t404)).heap[gb406]? = some (.cells #[.int .i64 t403, .int .u64 t404] 31 (0, 0))) := ⟨by (with_reducible repeat (first | refine blk_drewN ?_ _ | refine blk_drew ?_ | refine blk_alloc ?_ _)); refine blk_put (cs := #[.int .i64 t403, .int .u64 0]) ?_ 1 _ rfl; (with_reducible repeat (first | refine blk_drewN ?_ _ | refine blk_drew ?_ | refine blk_alloc ?_ _)); refine blk_put (cs := #[.int .i64 0, .int .u64 0]) ?_ 0 _ rfl; exact blkt BK406⟩
     have n3_ : Aside0 (Below w.heap.size w ((w35.setCell ⟨gb406, 0, none⟩ (.int .i64 t403)).setCell ⟨gb406, 1, none⟩ (.int .u64 t404))) := ⟨belt HB⟩
     (try clear BK400)
     (try clear BK401)
     (try clear BK406)
     (try clear HB)
     generalize ((w35.setCell ⟨gb406, 0, none⟩ (.int .i64 t403)).setCell ⟨gb406, 1, none⟩ (.int .u64 t404)) = w39 at n0_ n1_ n2_ n3_ ⊢
     have BK400 := n0_
     have BK401 := n1_
     have BK406 := n2_
     have HB := n3_
     clear n0_ n1_ n2_ n3_
     replace BK400 := Aside0.mk (blk_drew BK400.out)
     replace BK401 := Aside0.mk (blk_drew BK401.out)
     replace BK406 := Aside0.mk (blk_drew BK406.out)
     replace HB := Aside0.mk (below_drew1 HB.out)
     refine start_ (n := 15) (S := fun w' => w'.cell? ⟨gb400, 0, none⟩ = some (.int .u64 a0_0) ∧ w'.cell? ⟨gb400, 1, none⟩ = some (.int .i64 a0_1) ∧ w'.cell? ⟨gb400, 2, none⟩ = some (.int .u64 a0_2) ∧ w'.cell? ⟨gb400, 3, none⟩ = some (.int .u64 a0_3) ∧ w'.cell? ⟨gb400, 4, none⟩ = some (.int .i64 a0_4)) (ds := []) #[false, false, false, false, false, false, false, false, false, false, false, false, false, false, false] (by kernel_rfl) rfl rfl ⟨(blk_cell BK400.out 0).trans rfl, (blk_cell BK400.out 1).trans rfl, (blk_cell BK400.out 2).trans rfl, (blk_cell BK400.out 3).trans rfl, (blk_cell BK400.out 4).trans rfl⟩ (fun hHeld => ?_); refine with_tabW place_Place.tab6 place_Place.bits6 (fun HT_ HW_ => ?_)
     generalize w39.drew = w40 at BK400 BK401 BK406 HB hHeld ⊢
     refine pure_ (i := 0) (N := some 46) (v := ?_) (a' := ?_) #[true, false, false, false, false, false, false, false, false, false, false, false, false, false, false] rfl rfl (any_of HT_.out (by kernel_rfl)) (fun _ _ _ h => h) (Or.inl ⟨by rfl, ?_⟩) ?_ ?_
     rotate_left
     ·intro w'
      go_simp
      with_reducible rfl
     rotate_left
     ·simp only [Act.put, List.setIfInBounds_toArray, List.set_cons_zero, List.set_cons_succ, i64_w, i32_w]
      rfl
     refine pure_ (i := 2) (N := some 48) (v := ?_) (a' := ?_) #[true, false, true, false, false, false, false, false, false, false, false, false, false, false, false] rfl rfl (any_of HT_.out (by kernel_rfl)) (fun _ _ _ h => h) (Or.inl ⟨by rfl, ?_⟩) ?_ ?_
     rotate_left
     ·intro w'
      go_simp
      with_reducible rfl
     rotate_left
     ·simp only [Act.put, List.setIfInBounds_toArray, List.set_cons_zero, List.set_cons_succ, i64_w, i32_w]
      rfl
     refine pure_ (i := 5) (N := some 51) (v := ?_) (a' := ?_) #[true, false, true, false, false, true, false, false, false, false, false, false, false, false, false] rfl rfl (any_of HT_.out (by kernel_rfl)) (fun _ _ _ h => h) (Or.inl ⟨by rfl, ?_⟩) ?_ ?_
     rotate_left
     ·intro w'
      go_simp
      with_reducible rfl
     rotate_left
     ·simp only [Act.put, List.setIfInBounds_toArray, List.set_cons_zero, List.set_cons_succ, i64_w, i32_w]
      rfl
     refine pure_ (i := 6) (N := some 52) (v := ?_) (a' := ?_) #[true, false, true, false, false, true, true, false, false, false, false, false, false, false, false] rfl rfl (any_of HT_.out (by kernel_rfl)) (fun _ _ _ h => h) (Or.inl ⟨by rfl, ?_⟩) ?_ ?_
     rotate_left
     ·intro w'
      go_simp
      with_reducible rfl
     rotate_left
     ·simp only [Act.put, List.setIfInBounds_toArray, List.set_cons_zero, List.set_cons_succ, i64_w, i32_w]
      rfl
     refine take_ (i := 3) (N := some 49) (v := ?_) (a' := ?_) #[true, false, true, true, false, true, true, false, false, false, false, false, false, false, false] rfl rfl (take_ofW HT_.out HW_.out (by kernel_rfl)) (fun _ _ _ h => h) (Or.inl ⟨by rfl, ?_⟩) hHeld ?_ ?_
     rotate_left
     ·rintro w' ⟨s0, s1, s2, s3, s4⟩
      go_simp
      with_reducible rfl
     rotate_left
     ·simp only [Act.put, List.setIfInBounds_toArray, List.set_cons_zero, List.set_cons_succ, i64_w, i32_w]
      rfl
     refine pure_ (i := 4) (N := some 50) (v := ?_) (a' := ?_) #[true, false, true, true, true, true, true, false, false, false, false, false, false, false, false] rfl rfl (any_of HT_.out (by kernel_rfl)) (fun _ _ _ h => h) (Or.inl ⟨by rfl, ?_⟩) ?_ ?_
     rotate_left
     ·intro w'
      go_simp
      with_reducible rfl
     rotate_left
     ·simp only [Act.put, List.setIfInBounds_toArray, List.set_cons_zero, List.set_cons_succ, i64_w, i32_w]
      rfl
     refine pure_ (i := 7) (N := some 53) (v := ?_) (a' := ?_) #[true, false, true, true, true, true, true, true, false, false, false, false, false, false, false] rfl rfl (any_of HT_.out (by kernel_rfl)) (fun _ _ _ h => h) (Or.inl ⟨by rfl, ?_⟩) ?_ ?_
     rotate_left
     ·intro w'
      go_simp
      with_reducible rfl
     rotate_left
     ·simp only [Act.put, List.setIfInBounds_toArray, List.set_cons_zero, List.set_cons_succ, i64_w, i32_w]
      rfl
     refine join_ (σ := Nat) 2 #[true, true, true, true, true, true, true, true, true, true, true, true, true, false, false] (fun s_ => [(47, .agg #[.int .i64 t407, .int .u64 t408]), (54, .tuple #[.agg #[.int .i64 t409, .int .u64 t410], .bool t411]), (12, .pointer (some ⟨s_, 0, none⟩)), (45, .tuple #[.agg #[.int .i64 t409, .int .u64 t410], .bool t411]), (55, .agg #[.int .i64 t409, .int .u64 t410]), (56, .bool t411)]) (fun s_ w' => (w'.cell? ⟨gb400, 0, none⟩ = some (.int .u64 a0_0) ∧ w'.cell? ⟨gb400, 1, none⟩ = some (.int .i64 a0_1) ∧ w'.cell? ⟨gb400, 2, none⟩ = some (.int .u64 a0_2) ∧ w'.cell? ⟨gb400, 3, none⟩ = some (.int .u64 a0_3) ∧ w'.cell? ⟨gb400, 4, none⟩ = some (.int .i64 a0_4)) ∧ (w'.heap[gb400]? = some (.cells #[.int .u64 a0_0, .int .i64 a0_1, .int .u64 a0_2, .int .u64 a0_3, .int .i64 a0_4] 33 (0, 0))) ∧ (w'.heap[gb401]? = some (.cells #[.int .u64 0, .int .u32 0, .int .u32 0] 28 (0, 0))) ∧ (w'.heap[gb406]? = some (.cells #[.int .i64 t403, .int .u64 t404] 31 (0, 0))) ∧ (w'.heap[s_]? = some (.cells #[.int .i64 0, .int .u64 0] 31 (0, 0))) ∧ (w.heap.size ≤ s_) ∧ (w.heap.size ≤ s_) ∧ (gb400 ≠ s_) ∧ (s_ ≠ gb400) ∧ (gb401 ≠ s_) ∧ (s_ ≠ gb401) ∧ (gb406 ≠ s_) ∧ (s_ ≠ gb406) ∧ (Below w.heap.size w w')) ?_ ?_
     rotate_left
     ·intro hCont
      refine two_ (i := 1) (j := 12) (Ni := some 47) (Nj := some 12) #[true, true, true, true, true, true, true, true, false, false, false, false, false, false, false] #[true, false, true, true, true, true, true, true, false, false, false, false, true, false, false] rfl rfl rfl rfl (two_of HT_.out (by kernel_rfl)) (by decide) (by decide) (fun K hK => ?_) (fun K hK => ?_)
      ·skip
       refine goes_ Tryz.func31 (by kernel_rfl) rfl #[.int .i64 a3] (by rfl) rfl rfl argt ?_
       with_reducible refine (wide_Of.calls a3 t407 t408 _ A28.out).mono ?_
       rintro e w41 ⟨rfl, hb⟩
       refine ⟨_, rfl, ?_⟩
       replace BK400 := blkb BK400 hb
       replace BK401 := blkb BK401 hb
       replace BK406 := blkb BK406 hb
       replace HB := belb HB hb
       (try clear hb)
       (try clear hb2)
       (try clear hk)
       (try clear hi)
       refine hK.out _ _ ⟨(blk_cell BK400.out 0).trans rfl, (blk_cell BK400.out 1).trans rfl, (blk_cell BK400.out 2).trans rfl, (blk_cell BK400.out 3).trans rfl, (blk_cell BK400.out 4).trans rfl⟩ (fun hHeld => ?_)
       clear hK K
       refine norm_ (a' := ?_) ?_ ?_
       rotate_left
       ·show Act.put _ (some 47) _ = _
        simp only [Act.put, List.setIfInBounds_toArray, List.set_cons_zero, List.set_cons_succ, i64_w, i32_w]
        rfl
       refine two_ (i := 8) (j := 12) (Ni := some 54) (Nj := some 12) #[true, true, true, true, true, true, true, true, true, false, false, false, false, false, false] #[true, true, true, true, true, true, true, true, false, false, false, false, true, false, false] rfl rfl rfl rfl (two_of HT_.out (by kernel_rfl)) (by decide) (by decide) (fun K hK => ?_) (fun K hK => ?_)
       ·skip
        refine goes_ Tryz.func54 (by kernel_rfl) rfl #[.agg #[.int .i64 t407, .int .u64 t408], .int .i64 (wrap64 ((wrap64 (a0_3)) + (wrap64 (a2))))] (by rfl) rfl rfl argt ?_
        with_reducible refine (wide_Int_Mul.calls kj4 t407 t408 (wrap64 ((wrap64 (a0_3)) + (wrap64 (a2)))) t409 t410 t411 _ A29.out).mono ?_
        rintro e w42 ⟨rfl, hb⟩
        refine ⟨_, rfl, ?_⟩
        replace BK400 := blkb BK400 hb
        replace BK401 := blkb BK401 hb
        replace BK406 := blkb BK406 hb
        replace HB := belb HB hb
        (try clear hb)
        (try clear hb2)
        (try clear hk)
        (try clear hi)
        refine hK.out _ _ ⟨(blk_cell BK400.out 0).trans rfl, (blk_cell BK400.out 1).trans rfl, (blk_cell BK400.out 2).trans rfl, (blk_cell BK400.out 3).trans rfl, (blk_cell BK400.out 4).trans rfl⟩ (fun hHeld => ?_)
        clear hK K
        refine norm_ (a' := ?_) ?_ ?_
        rotate_left
        ·show Act.put _ (some 54) _ = _
         simp only [Act.put, List.setIfInBounds_toArray, List.set_cons_zero, List.set_cons_succ, i64_w, i32_w]
         rfl
        refine pure_ (i := 9) (N := some 45) (v := ?_) (a' := ?_) #[true, true, true, true, true, true, true, true, true, true, false, false, false, false, false] rfl rfl (any_of HT_.out (by kernel_rfl)) (fun _ _ _ h => h) (Or.inl ⟨by rfl, ?_⟩) ?_ ?_
        rotate_left
        ·intro w'
         go_simp
         with_reducible rfl
        rotate_left
        ·simp only [Act.put, List.setIfInBounds_toArray, List.set_cons_zero, List.set_cons_succ, i64_w, i32_w]
         rfl
        refine pure_ (i := 10) (N := some 55) (v := ?_) (a' := ?_) #[true, true, true, true, true, true, true, true, true, true, true, false, false, false, false] rfl rfl (any_of HT_.out (by kernel_rfl)) (fun _ _ _ h => h) (Or.inl ⟨by rfl, ?_⟩) ?_ ?_
        rotate_left
        ·intro w'
         go_simp
         with_reducible rfl
        rotate_left
        ·simp only [Act.put, List.setIfInBounds_toArray, List.set_cons_zero, List.set_cons_succ, i64_w, i32_w]
         rfl
        refine pure_ (i := 11) (N := some 56) (v := ?_) (a' := ?_) #[true, true, true, true, true, true, true, true, true, true, true, true, false, false, false] rfl rfl (any_of HT_.out (by kernel_rfl)) (fun _ _ _ h => h) (Or.inl ⟨by rfl, ?_⟩) ?_ ?_
        rotate_left
        ·intro w'
         go_simp
         with_reducible rfl
        rotate_left
        ·simp only [Act.put, List.setIfInBounds_toArray, List.set_cons_zero, List.set_cons_succ, i64_w, i32_w]
         rfl
        refine one_ (i := 12) (N := some 12) #[true, true, true, true, true, true, true, true, true, true, true, true, true, false, false] rfl rfl (one_of HT_.out (by kernel_rfl)) (by decide) (fun K hK => ?_)
        refine box_step ?hg (N := 12) ?hd (cs := #[.int .i64 0, .int .u64 0]) (t := 31) ?hr ?_; (case hd => rfl); (case hg => rfl); (case hr => first | (go_simp; done) | (go_simp; rfl))
        intro gb412 hg w43 hbox hb
        have BK412 := Aside0.mk (hbox)
        have GW412 := bels HB hg
        have GE412 := bels HB hg
        have NB400_412 := blkl BK400 hg
        have NB412_400 := blkg BK400 hg
        have NB401_412 := blkl BK401 hg
        have NB412_401 := blkg BK401 hg
        have NB406_412 := blkl BK406 hg
        have NB412_406 := blkg BK406 hg
        replace BK400 := blkb BK400 hb
        replace BK401 := blkb BK401 hb
        replace BK406 := blkb BK406 hb
        replace HB := belb HB hb
        clear hb hbox hg
        refine hK.out _ _ ⟨(blk_cell BK400.out 0).trans rfl, (blk_cell BK400.out 1).trans rfl, (blk_cell BK400.out 2).trans rfl, (blk_cell BK400.out 3).trans rfl, (blk_cell BK400.out 4).trans rfl⟩ (fun hHeld => ?_)
        clear hK K
        refine norm_ (a' := ?_) ?_ ?_
        rotate_left
        ·show Act.put _ (some 12) _ = _
         simp only [Act.put, List.setIfInBounds_toArray, List.set_cons_zero, List.set_cons_succ, i64_w, i32_w]
         rfl
        exact norm_ (by simp only [putAll, Act.put, List.setIfInBounds_toArray, List.set_cons_zero, List.set_cons_succ]) (hCont (gb412) _ ⟨hHeld, (blkt BK400), (blkt BK401), (blkt BK406), (blkt BK412), GW412.out, GE412.out, NB400_412.out, NB412_400.out, NB401_412.out, NB412_401.out, NB406_412.out, NB412_406.out, (belt HB)⟩)
       ·skip
        refine box_step ?hg (N := 12) ?hd (cs := #[.int .i64 0, .int .u64 0]) (t := 31) ?hr ?_; (case hd => rfl); (case hg => rfl); (case hr => first | (go_simp; done) | (go_simp; rfl))
        intro gb412 hg w42 hbox hb
        have BK412 := Aside0.mk (hbox)
        have GW412 := bels HB hg
        have GE412 := bels HB hg
        have NB400_412 := blkl BK400 hg
        have NB412_400 := blkg BK400 hg
        have NB401_412 := blkl BK401 hg
        have NB412_401 := blkg BK401 hg
        have NB406_412 := blkl BK406 hg
        have NB412_406 := blkg BK406 hg
        replace BK400 := blkb BK400 hb
        replace BK401 := blkb BK401 hb
        replace BK406 := blkb BK406 hb
        replace HB := belb HB hb
        clear hb hbox hg
        refine hK.out _ _ ⟨(blk_cell BK400.out 0).trans rfl, (blk_cell BK400.out 1).trans rfl, (blk_cell BK400.out 2).trans rfl, (blk_cell BK400.out 3).trans rfl, (blk_cell BK400.out 4).trans rfl⟩ (fun hHeld => ?_)
        clear hK K
        refine norm_ (a' := ?_) ?_ ?_
        rotate_left
        ·show Act.put _ (some 12) _ = _
         simp only [Act.put, List.setIfInBounds_toArray, List.set_cons_zero, List.set_cons_succ, i64_w, i32_w]
         rfl
        refine one_ (i := 8) (N := some 54) #[true, true, true, true, true, true, true, true, true, false, false, false, true, false, false] rfl rfl (one_of HT_.out (by kernel_rfl)) (by decide) (fun K hK => ?_)
        refine goes_ Tryz.func54 (by kernel_rfl) rfl #[.agg #[.int .i64 t407, .int .u64 t408], .int .i64 (wrap64 ((wrap64 (a0_3)) + (wrap64 (a2))))] (by rfl) rfl rfl argt ?_
        with_reducible refine (wide_Int_Mul.calls kj4 t407 t408 (wrap64 ((wrap64 (a0_3)) + (wrap64 (a2)))) t409 t410 t411 _ A29.out).mono ?_
        rintro e w43 ⟨rfl, hb⟩
        refine ⟨_, rfl, ?_⟩
        replace BK400 := blkb BK400 hb
        replace BK401 := blkb BK401 hb
        replace BK406 := blkb BK406 hb
        replace BK412 := blkb BK412 hb
        replace HB := belb HB hb
        (try clear hb)
        (try clear hb2)
        (try clear hk)
        (try clear hi)
        refine hK.out _ _ ⟨(blk_cell BK400.out 0).trans rfl, (blk_cell BK400.out 1).trans rfl, (blk_cell BK400.out 2).trans rfl, (blk_cell BK400.out 3).trans rfl, (blk_cell BK400.out 4).trans rfl⟩ (fun hHeld => ?_)
        clear hK K
        refine norm_ (a' := ?_) ?_ ?_
        rotate_left
        ·show Act.put _ (some 54) _ = _
         simp only [Act.put, List.setIfInBounds_toArray, List.set_cons_zero, List.set_cons_succ, i64_w, i32_w]
         rfl
        refine pure_ (i := 9) (N := some 45) (v := ?_) (a' := ?_) #[true, true, true, true, true, true, true, true, true, true, false, false, true, false, false] rfl rfl (any_of HT_.out (by kernel_rfl)) (fun _ _ _ h => h) (Or.inl ⟨by rfl, ?_⟩) ?_ ?_
        rotate_left
        ·intro w'
         go_simp
         with_reducible rfl
        rotate_left
        ·simp only [Act.put, List.setIfInBounds_toArray, List.set_cons_zero, List.set_cons_succ, i64_w, i32_w]
         rfl
        refine pure_ (i := 10) (N := some 55) (v := ?_) (a' := ?_) #[true, true, true, true, true, true, true, true, true, true, true, false, true, false, false] rfl rfl (any_of HT_.out (by kernel_rfl)) (fun _ _ _ h => h) (Or.inl ⟨by rfl, ?_⟩) ?_ ?_
        rotate_left
        ·intro w'
         go_simp
         with_reducible rfl
        rotate_left
        ·simp only [Act.put, List.setIfInBounds_toArray, List.set_cons_zero, List.set_cons_succ, i64_w, i32_w]
         rfl
        refine pure_ (i := 11) (N := some 56) (v := ?_) (a' := ?_) #[true, true, true, true, true, true, true, true, true, true, true, true, true, false, false] rfl rfl (any_of HT_.out (by kernel_rfl)) (fun _ _ _ h => h) (Or.inl ⟨by rfl, ?_⟩) ?_ ?_
        rotate_left
        ·intro w'
         go_simp
         with_reducible rfl
        rotate_left
        ·simp only [Act.put, List.setIfInBounds_toArray, List.set_cons_zero, List.set_cons_succ, i64_w, i32_w]
         rfl
        exact norm_ (by simp only [putAll, Act.put, List.setIfInBounds_toArray, List.set_cons_zero, List.set_cons_succ]) (hCont (gb412) _ ⟨hHeld, (blkt BK400), (blkt BK401), (blkt BK406), (blkt BK412), GW412.out, GE412.out, NB400_412.out, NB412_400.out, NB401_412.out, NB412_401.out, NB406_412.out, NB412_406.out, (belt HB)⟩)
      ·skip
       refine box_step ?hg (N := 12) ?hd (cs := #[.int .i64 0, .int .u64 0]) (t := 31) ?hr ?_; (case hd => rfl); (case hg => rfl); (case hr => first | (go_simp; done) | (go_simp; rfl))
       intro gb412 hg w41 hbox hb
       have BK412 := Aside0.mk (hbox)
       have GW412 := bels HB hg
       have GE412 := bels HB hg
       have NB400_412 := blkl BK400 hg
       have NB412_400 := blkg BK400 hg
       have NB401_412 := blkl BK401 hg
       have NB412_401 := blkg BK401 hg
       have NB406_412 := blkl BK406 hg
       have NB412_406 := blkg BK406 hg
       replace BK400 := blkb BK400 hb
       replace BK401 := blkb BK401 hb
       replace BK406 := blkb BK406 hb
       replace HB := belb HB hb
       clear hb hbox hg
       refine hK.out _ _ ⟨(blk_cell BK400.out 0).trans rfl, (blk_cell BK400.out 1).trans rfl, (blk_cell BK400.out 2).trans rfl, (blk_cell BK400.out 3).trans rfl, (blk_cell BK400.out 4).trans rfl⟩ (fun hHeld => ?_)
       clear hK K
       refine norm_ (a' := ?_) ?_ ?_
       rotate_left
       ·show Act.put _ (some 12) _ = _
        simp only [Act.put, List.setIfInBounds_toArray, List.set_cons_zero, List.set_cons_succ, i64_w, i32_w]
        rfl
       refine one_ (i := 1) (N := some 47) #[true, true, true, true, true, true, true, true, false, false, false, false, true, false, false] rfl rfl (one_of HT_.out (by kernel_rfl)) (by decide) (fun K hK => ?_)
       refine goes_ Tryz.func31 (by kernel_rfl) rfl #[.int .i64 a3] (by rfl) rfl rfl argt ?_
       with_reducible refine (wide_Of.calls a3 t407 t408 _ A28.out).mono ?_
       rintro e w42 ⟨rfl, hb⟩
       refine ⟨_, rfl, ?_⟩
       replace BK400 := blkb BK400 hb
       replace BK401 := blkb BK401 hb
       replace BK406 := blkb BK406 hb
       replace BK412 := blkb BK412 hb
       replace HB := belb HB hb
       (try clear hb)
       (try clear hb2)
       (try clear hk)
       (try clear hi)
       refine hK.out _ _ ⟨(blk_cell BK400.out 0).trans rfl, (blk_cell BK400.out 1).trans rfl, (blk_cell BK400.out 2).trans rfl, (blk_cell BK400.out 3).trans rfl, (blk_cell BK400.out 4).trans rfl⟩ (fun hHeld => ?_)
       clear hK K
       refine norm_ (a' := ?_) ?_ ?_
       rotate_left
       ·show Act.put _ (some 47) _ = _
        simp only [Act.put, List.setIfInBounds_toArray, List.set_cons_zero, List.set_cons_succ, i64_w, i32_w]
        rfl
       refine one_ (i := 8) (N := some 54) #[true, true, true, true, true, true, true, true, true, false, false, false, true, false, false] rfl rfl (one_of HT_.out (by kernel_rfl)) (by decide) (fun K hK => ?_)
       refine goes_ Tryz.func54 (by kernel_rfl) rfl #[.agg #[.int .i64 t407, .int .u64 t408], .int .i64 (wrap64 ((wrap64 (a0_3)) + (wrap64 (a2))))] (by rfl) rfl rfl argt ?_
       with_reducible refine (wide_Int_Mul.calls kj4 t407 t408 (wrap64 ((wrap64 (a0_3)) + (wrap64 (a2)))) t409 t410 t411 _ A29.out).mono ?_
       rintro e w43 ⟨rfl, hb⟩
       refine ⟨_, rfl, ?_⟩
       replace BK400 := blkb BK400 hb
       replace BK401 := blkb BK401 hb
       replace BK406 := blkb BK406 hb
       replace BK412 := blkb BK412 hb
       replace HB := belb HB hb
       (try clear hb)
       (try clear hb2)
       (try clear hk)
       (try clear hi)
       refine hK.out _ _ ⟨(blk_cell BK400.out 0).trans rfl, (blk_cell BK400.out 1).trans rfl, (blk_cell BK400.out 2).trans rfl, (blk_cell BK400.out 3).trans rfl, (blk_cell BK400.out 4).trans rfl⟩ (fun hHeld => ?_)
       clear hK K
       refine norm_ (a' := ?_) ?_ ?_
       rotate_left
       ·show Act.put _ (some 54) _ = _
        simp only [Act.put, List.setIfInBounds_toArray, List.set_cons_zero, List.set_cons_succ, i64_w, i32_w]
        rfl
       refine pure_ (i := 9) (N := some 45) (v := ?_) (a' := ?_) #[true, true, true, true, true, true, true, true, true, true, false, false, true, false, false] rfl rfl (any_of HT_.out (by kernel_rfl)) (fun _ _ _ h => h) (Or.inl ⟨by rfl, ?_⟩) ?_ ?_
       rotate_left
       ·intro w'
        go_simp
        with_reducible rfl
       rotate_left
       ·simp only [Act.put, List.setIfInBounds_toArray, List.set_cons_zero, List.set_cons_succ, i64_w, i32_w]
        rfl
       refine pure_ (i := 10) (N := some 55) (v := ?_) (a' := ?_) #[true, true, true, true, true, true, true, true, true, true, true, false, true, false, false] rfl rfl (any_of HT_.out (by kernel_rfl)) (fun _ _ _ h => h) (Or.inl ⟨by rfl, ?_⟩) ?_ ?_
       rotate_left
       ·intro w'
        go_simp
        with_reducible rfl
       rotate_left
       ·simp only [Act.put, List.setIfInBounds_toArray, List.set_cons_zero, List.set_cons_succ, i64_w, i32_w]
        rfl
       refine pure_ (i := 11) (N := some 56) (v := ?_) (a' := ?_) #[true, true, true, true, true, true, true, true, true, true, true, true, true, false, false] rfl rfl (any_of HT_.out (by kernel_rfl)) (fun _ _ _ h => h) (Or.inl ⟨by rfl, ?_⟩) ?_ ?_
       rotate_left
       ·intro w'
        go_simp
        with_reducible rfl
       rotate_left
       ·simp only [Act.put, List.setIfInBounds_toArray, List.set_cons_zero, List.set_cons_succ, i64_w, i32_w]
        rfl
       exact norm_ (by simp only [putAll, Act.put, List.setIfInBounds_toArray, List.set_cons_zero, List.set_cons_succ]) (hCont (gb412) _ ⟨hHeld, (blkt BK400), (blkt BK401), (blkt BK406), (blkt BK412), GW412.out, GE412.out, NB400_412.out, NB412_400.out, NB401_412.out, NB412_401.out, NB406_412.out, NB412_406.out, (belt HB)⟩)
     rintro gb412 w44 ⟨hS_, h0_, h1_, h2_, h3_, h4_, h5_, h6_, h7_, h8_, h9_, h10_, h11_, h12_⟩
     replace BK400 : Aside0 (w44.heap[gb400]? = some (.cells #[.int .u64 a0_0, .int .i64 a0_1, .int .u64 a0_2, .int .u64 a0_3, .int .i64 a0_4] 33 (0, 0))) := ⟨h0_⟩
     replace BK401 : Aside0 (w44.heap[gb401]? = some (.cells #[.int .u64 0, .int .u32 0, .int .u32 0] 28 (0, 0))) := ⟨h1_⟩
     replace BK406 : Aside0 (w44.heap[gb406]? = some (.cells #[.int .i64 t403, .int .u64 t404] 31 (0, 0))) := ⟨h2_⟩
     have BK412 : Aside0 (w44.heap[gb412]? = some (.cells #[.int .i64 0, .int .u64 0] 31 (0, 0))) := ⟨h3_⟩
     have GW412 : Aside0 (w.heap.size ≤ gb412) := ⟨h4_⟩
     have GE412 : Aside0 (w.heap.size ≤ gb412) := ⟨h5_⟩
     have NB400_412 : Aside0 (gb400 ≠ gb412) := ⟨h6_⟩
     have NB412_400 : Aside0 (gb412 ≠ gb400) := ⟨h7_⟩
     have NB401_412 : Aside0 (gb401 ≠ gb412) := ⟨h8_⟩
     have NB412_401 : Aside0 (gb412 ≠ gb401) := ⟨h9_⟩
     have NB406_412 : Aside0 (gb406 ≠ gb412) := ⟨h10_⟩
     have NB412_406 : Aside0 (gb412 ≠ gb406) := ⟨h11_⟩
     replace HB : Aside0 (Below w.heap.size w w44) := ⟨h12_⟩
     clear h0_ h1_ h2_ h3_ h4_ h5_ h6_ h7_ h8_ h9_ h10_ h11_ h12_
     have hHeld : w44.cell? ⟨gb400, 0, none⟩ = some (.int .u64 a0_0) ∧ w44.cell? ⟨gb400, 1, none⟩ = some (.int .i64 a0_1) ∧ w44.cell? ⟨gb400, 2, none⟩ = some (.int .u64 a0_2) ∧ w44.cell? ⟨gb400, 3, none⟩ = some (.int .u64 a0_3) ∧ w44.cell? ⟨gb400, 4, none⟩ = some (.int .i64 a0_4) := hS_
     refine norm_ (a' := ?_) ?_ ?_
     rotate_left
     ·simp only [putAll, Act.put, List.setIfInBounds_toArray, List.set_cons_zero, List.set_cons_succ]
      rfl
     refine one_ (i := 13) (N := none) #[true, true, true, true, true, true, true, true, true, true, true, true, true, true, false] rfl rfl (one_of HT_.out (by kernel_rfl)) (by decide) (fun K hK => ?_)
     have hs45 : w44.cell? ⟨gb412, 0, none⟩ = some (.int .i64 0) := (blk_cell BK412.out 0).trans rfl
     have hfs45 := blk_frozen BK412.out 0
     have hns45_0 := NB400_412.out
     have hns45_1 := NB401_412.out
     have hns45_2 := NB406_412.out
     have hms45_0 := NB412_400.out
     have hms45_1 := NB412_401.out
     have hms45_2 := NB412_406.out
     have hs46 : w44.cell? ⟨gb412, 1, none⟩ = some (.int .u64 0) := (blk_cell BK412.out 1).trans rfl
     have hfs46 := blk_frozen BK412.out 1
     have hns46_0 := NB400_412.out
     have hns46_1 := NB401_412.out
     have hns46_2 := NB406_412.out
     have hms46_0 := NB412_400.out
     have hms46_1 := NB412_401.out
     have hms46_2 := NB412_406.out
     refine skip_ (w1 := ?_) (by rfl) rfl ?_ ?_
     rotate_left
     ·go_simp
      rfl
     refine hK.out _ _ ⟨((cell_far (p := ⟨gb412, _, none⟩) NB400_412.out _).trans (((cell_far (p := ⟨gb412, _, none⟩) NB400_412.out _).trans (hHeld.1)))), ((cell_far (p := ⟨gb412, _, none⟩) NB400_412.out _).trans (((cell_far (p := ⟨gb412, _, none⟩) NB400_412.out _).trans (hHeld.2.1)))), ((cell_far (p := ⟨gb412, _, none⟩) NB400_412.out _).trans (((cell_far (p := ⟨gb412, _, none⟩) NB400_412.out _).trans (hHeld.2.2.1)))), ((cell_far (p := ⟨gb412, _, none⟩) NB400_412.out _).trans (((cell_far (p := ⟨gb412, _, none⟩) NB400_412.out _).trans (hHeld.2.2.2.1)))), ((cell_far (p := ⟨gb412, _, none⟩) NB400_412.out _).trans (((cell_far (p := ⟨gb412, _, none⟩) NB400_412.out _).trans (hHeld.2.2.2.2))))⟩ (fun hHeld => ?_)
     clear hK K
     refine pure_ (i := 14) (N := some 13) (v := ?_) (a' := ?_) #[true, true, true, true, true, true, true, true, true, true, true, true, true, true, true] rfl rfl (any_of HT_.out (by kernel_rfl)) (fun _ _ _ h => h) (Or.inl ⟨by rfl, ?_⟩) ?_ ?_
     rotate_left
     ·intro w'
      go_simp
      with_reducible rfl
     rotate_left
     ·simp only [Act.put, List.setIfInBounds_toArray, List.set_cons_zero, List.set_cons_succ, i64_w, i32_w]
      rfl
     refine done_ (done_of HT_.out (by kernel_rfl)) ?_
     have hnb47 := NB406_412.out
     have hnc47 := NB412_406.out
     have hcz48_0 : w44.cell? ⟨gb406, 0, none⟩ = some (.int .i64 t403) := (blk_cell BK406.out 0).trans rfl
     have hcz48_1 : w44.cell? ⟨gb406, 1, none⟩ = some (.int .u64 t404) := (blk_cell BK406.out 1).trans rfl
     have hfz48_0 := blk_frozen BK406.out 0
     have hfz48_1 := blk_frozen BK406.out 1
     have hnb49 := NB412_400.out
     have hnc49 := NB400_412.out
     have hnb50 := NB412_401.out
     have hnc50 := NB401_412.out
     have hcz51_0 : w44.cell? ⟨gb412, 0, none⟩ = some (.int .i64 0) := (blk_cell BK412.out 0).trans rfl
     have hcz51_1 : w44.cell? ⟨gb412, 1, none⟩ = some (.int .u64 0) := (blk_cell BK412.out 1).trans rfl
     have hfz51_0 := blk_frozen BK412.out 0
     have hfz51_1 := blk_frozen BK412.out 1
     go_upto_region 8 with (first | ((with_reducible refine gate_callee (f := 26) rfl ?_); refine goesL_ (some 60) rfl rfl Tryz.func26 (by kernel_rfl) rfl #[.agg #[.int .i64 t403, .int .u64 t404], .agg #[.int .i64 t409, .int .u64 t410]] rfl argt ?_; (with_reducible refine (wide_Int_Sub.calls t403 t404 t409 t410 t413 t414 t415 _ A30.out).mono ?_); rintro e w52 ⟨rfl, hb⟩; refine ⟨_, rfl, ?_⟩; replace BK400 := Aside0.mk (blk_below (g := gb400) (o := .cells #[.int .u64 a0_0, .int .i64 a0_1, .int .u64 a0_2, .int .u64 a0_3, .int .i64 a0_4] 33 (0, 0)) (by (with_reducible repeat (first | refine blk_drewN ?_ _ | refine blk_drew ?_ | refine blk_alloc ?_ _)); refine blk_far ?_ NB400_412.out _; (with_reducible repeat (first | refine blk_drewN ?_ _ | refine blk_drew ?_ | refine blk_alloc ?_ _)); refine blk_far ?_ NB400_412.out _; exact blkt BK400) hb); replace BK401 := Aside0.mk (blk_below (g := gb401) (o := .cells #[.int .u64 0, .int .u32 0, .int .u32 0] 28 (0, 0)) (by (with_reducible repeat (first | refine blk_drewN ?_ _ | refine blk_drew ?_ | refine blk_alloc ?_ _)); refine blk_far ?_ NB401_412.out _; (with_reducible repeat (first | refine blk_drewN ?_ _ | refine blk_drew ?_ | refine blk_alloc ?_ _)); refine blk_far ?_ NB401_412.out _; exact blkt BK401) hb); replace BK406 := Aside0.mk (blk_below (g := gb406) (o := .cells #[.int .i64 t403, .int .u64 t404] 31 (0, 0)) (by (with_reducible repeat (first | refine blk_drewN ?_ _ | refine blk_drew ?_ | refine blk_alloc ?_ _)); refine blk_far ?_ NB406_412.out _; (with_reducible repeat (first | refine blk_drewN ?_ _ | refine blk_drew ?_ | refine blk_alloc ?_ _)); refine blk_far ?_ NB406_412.out _; exact blkt BK406) hb); replace BK412 := Aside0.mk (blk_below (g := gb412) (o := .cells #[.int .i64 t409, .int .u64 t410] 31 (0, 0)) (by (with_reducible repeat (first | refine blk_drewN ?_ _ | refine blk_drew ?_ | refine blk_alloc ?_ _)); refine blk_put (cs := #[.int .i64 t409, .int .u64 0]) ?_ 1 _ rfl; (with_reducible repeat (first | refine blk_drewN ?_ _ | refine blk_drew ?_ | refine blk_alloc ?_ _)); refine blk_put (cs := #[.int .i64 0, .int .u64 0]) ?_ 0 _ rfl; exact blkt BK412) hb); replace HB := belb HB hb; (try clear hb); (try clear hb2); (try clear hk); (try clear hi)) | ((with_reducible refine gate_dst (N := 14) rfl ?_); refine box_event ?hg (N := 14) ?hd (cs := #[.int .i64 0, .int .u64 0]) (t := 31) ?hr ?_; (case hd => rfl); (case hg => rfl); (case hr => first | (go_simp; done) | (go_simp; rfl)); intro gb416 hg w53 hbox hb; have BK416 := Aside0.mk (hbox); have GW416 := bels HB hg; have GE416 := bels HB hg; have NB400_416 := blkl BK400 hg; have NB416_400 := blkg BK400 hg; have NB401_416 := blkl BK401 hg; have NB416_401 := blkg BK401 hg; have NB406_416 := blkl BK406 hg; have NB416_406 := blkg BK406 hg; have NB412_416 := blkl BK412 hg; have NB416_412 := blkg BK412 hg; replace BK400 := blkb BK400 hb; replace BK401 := blkb BK401 hb; replace BK406 := blkb BK406 hb; replace BK412 := blkb BK412 hb; replace HB := belb HB hb; clear hb hbox hg; have hnb54 := NB416_400.out; have hnc54 := NB400_416.out; have hnb55 := NB416_401.out; have hnc55 := NB401_416.out; have hnb56 := NB416_406.out; have hnc56 := NB406_416.out; have hnb57 := NB416_412.out; have hnc57 := NB412_416.out; have hcz58_0 : w53.cell? ⟨gb416, 0, none⟩ = some (.int .i64 0) := (blk_cell BK416.out 0).trans rfl; have hcz58_1 : w53.cell? ⟨gb416, 1, none⟩ = some (.int .u64 0) := (blk_cell BK416.out 1).trans rfl; have hfz58_0 := blk_frozen BK416.out 0; have hfz58_1 := blk_frozen BK416.out 1))
     (try simp only [Act.put, List.setIfInBounds_toArray, List.set_cons_zero, List.set_cons_succ])
     go_cut [72] (fun v72 wc => ∃ (kq : Nat) (x72_30 : Bool), v72 = .bool x72_30 ∧ Aside0 (place_Place.j1 kq a2 x72_30 a0_0 a0_1 a0_2 a0_3 a0_4 t413 t414 = some (r1, r2, r3, r4)) ∧ Aside0 (kq ≤ kj4) ∧ Aside0 (wc.heap[gb400]? = some (.cells #[.int .u64 a0_0, .int .i64 a0_1, .int .u64 a0_2, .int .u64 a0_3, .int .i64 a0_4] 33 (0, 0))) ∧ Aside0 (wc.heap[gb401]? = some (.cells #[.int .u64 0, .int .u32 0, .int .u32 0] 28 (0, 0))) ∧ Aside0 (wc.heap[gb406]? = some (.cells #[.int .i64 t403, .int .u64 t404] 31 (0, 0))) ∧ Aside0 (wc.heap[gb412]? = some (.cells #[.int .i64 t409, .int .u64 t410] 31 (0, 0))) ∧ Aside0 (wc.heap[gb416]? = some (.cells #[.int .i64 t413, .int .u64 t414] 31 (0, 0))) ∧ Aside0 (Below w.heap.size w wc))
     case first =>
      have H := HC31.out
      clear HC31
      by_cases c59 : t405 = true
      ·subst c59
       have H1 : (if t411 = true then (place_Place.j1 kj4 a2 (!t415) a0_0 a0_1 a0_2 a0_3 a0_4 t413 t414) else (place_Place.j1 kj4 a2 true a0_0 a0_1 a0_2 a0_3 a0_4 t413 t414)) = some (r1, r2, r3, r4) := by rw [if_pos rfl] at H; exact H
       clear H
       have H := H1
       clear H1
       by_cases c60 : t411 = true
       ·subst c60
        have H1 : (place_Place.j1 kj4 a2 (!t415) a0_0 a0_1 a0_2 a0_3 a0_4 t413 t414) = some (r1, r2, r3, r4) := by rw [if_pos rfl] at H; exact H
        clear H
        have H := H1
        clear H1
        have H' := Aside0.mk H
        clear H
        go_wp2
        go_meet
        case rel => exact ⟨_, (!t415), (by first | rfl | (simp; done) | (simp [*]; done)), H', ⟨by have := HJ4.out; first | omega | exact Nat.le_refl _⟩, ⟨by (with_reducible repeat (first | refine blk_drewN ?_ _ | refine blk_drew ?_ | refine blk_alloc ?_ _)); refine blk_far ?_ NB400_416.out _; (with_reducible repeat (first | refine blk_drewN ?_ _ | refine blk_drew ?_ | refine blk_alloc ?_ _)); refine blk_far ?_ NB400_416.out _; exact blkt BK400⟩, ⟨by (with_reducible repeat (first | refine blk_drewN ?_ _ | refine blk_drew ?_ | refine blk_alloc ?_ _)); refine blk_far ?_ NB401_416.out _; (with_reducible repeat (first | refine blk_drewN ?_ _ | refine blk_drew ?_ | refine blk_alloc ?_ _)); refine blk_far ?_ NB401_416.out _; exact blkt BK401⟩, ⟨by (with_reducible repeat (first | refine blk_drewN ?_ _ | refine blk_drew ?_ | refine blk_alloc ?_ _)); refine blk_far ?_ NB406_416.out _; (with_reducible repeat (first | refine blk_drewN ?_ _ | refine blk_drew ?_ | refine blk_alloc ?_ _)); refine blk_far ?_ NB406_416.out _; exact blkt BK406⟩, ⟨by (with_reducible repeat (first | refine blk_drewN ?_ _ | refine blk_drew ?_ | refine blk_alloc ?_ _)); refine blk_far ?_ NB412_416.out _; (with_reducible repeat (first | refine blk_drewN ?_ _ | refine blk_drew ?_ | refine blk_alloc ?_ _)); refine blk_far ?_ NB412_416.out _; exact blkt BK412⟩, ⟨by (with_reducible repeat (first | refine blk_drewN ?_ _ | refine blk_drew ?_ | refine blk_alloc ?_ _)); refine blk_put (cs := #[.int .i64 t413, .int .u64 0]) ?_ 1 _ rfl; (with_reducible repeat (first | refine blk_drewN ?_ _ | refine blk_drew ?_ | refine blk_alloc ?_ _)); refine blk_put (cs := #[.int .i64 0, .int .u64 0]) ?_ 0 _ rfl; exact blkt BK416⟩, ⟨belt HB⟩⟩
       ·replace c60 := Bool.eq_false_iff.mpr c60
        subst c60
        have H1 : (place_Place.j1 kj4 a2 true a0_0 a0_1 a0_2 a0_3 a0_4 t413 t414) = some (r1, r2, r3, r4) := by rw [if_neg (show ¬ (false = true) by decide)] at H; exact H
        clear H
        have H := H1
        clear H1
        have H' := Aside0.mk H
        clear H
        go_wp2
        go_meet
        case rel => exact ⟨_, (true), (by first | rfl | (simp; done) | (simp [*]; done)), H', ⟨by have := HJ4.out; first | omega | exact Nat.le_refl _⟩, ⟨by (with_reducible repeat (first | refine blk_drewN ?_ _ | refine blk_drew ?_ | refine blk_alloc ?_ _)); refine blk_far ?_ NB400_416.out _; (with_reducible repeat (first | refine blk_drewN ?_ _ | refine blk_drew ?_ | refine blk_alloc ?_ _)); refine blk_far ?_ NB400_416.out _; exact blkt BK400⟩, ⟨by (with_reducible repeat (first | refine blk_drewN ?_ _ | refine blk_drew ?_ | refine blk_alloc ?_ _)); refine blk_far ?_ NB401_416.out _; (with_reducible repeat (first | refine blk_drewN ?_ _ | refine blk_drew ?_ | refine blk_alloc ?_ _)); refine blk_far ?_ NB401_416.out _; exact blkt BK401⟩, ⟨by (with_reducible repeat (first | refine blk_drewN ?_ _ | refine blk_drew ?_ | refine blk_alloc ?_ _)); refine blk_far ?_ NB406_416.out _; (with_reducible repeat (first | refine blk_drewN ?_ _ | refine blk_drew ?_ | refine blk_alloc ?_ _)); refine blk_far ?_ NB406_416.out _; exact blkt BK406⟩, ⟨by (with_reducible repeat (first | refine blk_drewN ?_ _ | refine blk_drew ?_ | refine blk_alloc ?_ _)); refine blk_far ?_ NB412_416.out _; (with_reducible repeat (first | refine blk_drewN ?_ _ | refine blk_drew ?_ | refine blk_alloc ?_ _)); refine blk_far ?_ NB412_416.out _; exact blkt BK412⟩, ⟨by (with_reducible repeat (first | refine blk_drewN ?_ _ | refine blk_drew ?_ | refine blk_alloc ?_ _)); refine blk_put (cs := #[.int .i64 t413, .int .u64 0]) ?_ 1 _ rfl; (with_reducible repeat (first | refine blk_drewN ?_ _ | refine blk_drew ?_ | refine blk_alloc ?_ _)); refine blk_put (cs := #[.int .i64 0, .int .u64 0]) ?_ 0 _ rfl; exact blkt BK416⟩, ⟨belt HB⟩⟩
      ·replace c59 := Bool.eq_false_iff.mpr c59
       subst c59
       have H1 : (place_Place.j1 kj4 a2 true a0_0 a0_1 a0_2 a0_3 a0_4 t413 t414) = some (r1, r2, r3, r4) := by rw [if_neg (show ¬ (false = true) by decide)] at H; exact H
       clear H
       have H := H1
       clear H1
       have H' := Aside0.mk H
       clear H
       go_wp2
       go_meet
       case rel => exact ⟨_, (true), (by first | rfl | (simp; done) | (simp [*]; done)), H', ⟨by have := HJ4.out; first | omega | exact Nat.le_refl _⟩, ⟨by (with_reducible repeat (first | refine blk_drewN ?_ _ | refine blk_drew ?_ | refine blk_alloc ?_ _)); refine blk_far ?_ NB400_416.out _; (with_reducible repeat (first | refine blk_drewN ?_ _ | refine blk_drew ?_ | refine blk_alloc ?_ _)); refine blk_far ?_ NB400_416.out _; exact blkt BK400⟩, ⟨by (with_reducible repeat (first | refine blk_drewN ?_ _ | refine blk_drew ?_ | refine blk_alloc ?_ _)); refine blk_far ?_ NB401_416.out _; (with_reducible repeat (first | refine blk_drewN ?_ _ | refine blk_drew ?_ | refine blk_alloc ?_ _)); refine blk_far ?_ NB401_416.out _; exact blkt BK401⟩, ⟨by (with_reducible repeat (first | refine blk_drewN ?_ _ | refine blk_drew ?_ | refine blk_alloc ?_ _)); refine blk_far ?_ NB406_416.out _; (with_reducible repeat (first | refine blk_drewN ?_ _ | refine blk_drew ?_ | refine blk_alloc ?_ _)); refine blk_far ?_ NB406_416.out _; exact blkt BK406⟩, ⟨by (with_reducible repeat (first | refine blk_drewN ?_ _ | refine blk_drew ?_ | refine blk_alloc ?_ _)); refine blk_far ?_ NB412_416.out _; (with_reducible repeat (first | refine blk_drewN ?_ _ | refine blk_drew ?_ | refine blk_alloc ?_ _)); refine blk_far ?_ NB412_416.out _; exact blkt BK412⟩, ⟨by (with_reducible repeat (first | refine blk_drewN ?_ _ | refine blk_drew ?_ | refine blk_alloc ?_ _)); refine blk_put (cs := #[.int .i64 t413, .int .u64 0]) ?_ 1 _ rfl; (with_reducible repeat (first | refine blk_drewN ?_ _ | refine blk_drew ?_ | refine blk_alloc ?_ _)); refine blk_put (cs := #[.int .i64 0, .int .u64 0]) ?_ 0 _ rfl; exact blkt BK416⟩, ⟨belt HB⟩⟩
     case rest =>
      clear HC31
      try clear c2
      try clear p2
      try clear c3
      try clear c4
      try clear c5
      try clear c6
      try clear p6
      try clear c26
      try clear c31
      try clear c32
      try clear c36
      try clear c37
      try clear c47
      try clear c49
      try clear c50
      try clear c54
      try clear c55
      try clear c56
      try clear c57
      try clear c59
      try clear c60
      try clear hcz33_0
      try clear hcz33_1
      try clear hcz33_2
      try clear hcz33_3
      try clear hcz33_4
      try clear hcz38_0
      try clear hcz38_1
      try clear hcz48_0
      try clear hcz48_1
      try clear hcz51_0
      try clear hcz51_1
      try clear hcz58_0
      try clear hcz58_1
      try clear hfz33_0
      try clear hfz33_1
      try clear hfz33_2
      try clear hfz33_3
      try clear hfz33_4
      try clear hfz38_0
      try clear hfz38_1
      try clear hfz48_0
      try clear hfz48_1
      try clear hfz51_0
      try clear hfz51_1
      try clear hfz58_0
      try clear hfz58_1
      obtain ⟨kq, x72_30, rfl, HA, HJ30, BK400, BK401, BK406, BK412, BK416, HB⟩ := hcut
      cases kq with
      | zero => exact absurd HA.out (by simp [place_Place.j1])
      | succ kj30 =>
       have H := HA.out
       clear HA
       simp only [place_Place.j1] at H
       by_cases c61 : x72_30 = true
       ·subst c61
        have H1 : (some (0, 0, 0, false)) = some (r1, r2, r3, r4) := by rw [if_pos rfl] at H; exact H
        clear H
        have H := H1
        clear H1
        simp only [Option.some.injEq, Prod.mk.injEq] at H
        obtain ⟨rfl, rfl, rfl, rfl⟩ := H
        have hnb62 := NB401_400.out
        have hnc62 := NB400_401.out
        have hnb63 := NB401_406.out
        have hnc63 := NB406_401.out
        have hnb64 := NB401_412.out
        have hnc64 := NB412_401.out
        have hnb65 := NB401_416.out
        have hnc65 := NB416_401.out
        have hcz66_0 : wc.cell? ⟨gb401, 0, none⟩ = some (.int .u64 0) := (blk_cell BK401.out 0).trans rfl
        have hcz66_1 : wc.cell? ⟨gb401, 1, none⟩ = some (.int .u32 0) := (blk_cell BK401.out 1).trans rfl
        have hcz66_2 : wc.cell? ⟨gb401, 2, none⟩ = some (.int .u32 0) := (blk_cell BK401.out 2).trans rfl
        have hfz66_0 := blk_frozen BK401.out 0
        have hfz66_1 := blk_frozen BK401.out 1
        have hfz66_2 := blk_frozen BK401.out 2
        go_wp2
        refine bodyPost_ret (results_ct rfl _ _ gb401 28 #[.int .u64 0, .int .u32 0, .int .u32 0] (0, 0) _ rfl (by (with_reducible repeat (first | refine blk_drewN ?_ _ | refine blk_drew ?_ | refine blk_alloc ?_ _)); refine blk_put (cs := #[.int .u64 0, .int .u32 0, .int .u32 0]) ?_ 2 _ rfl; (with_reducible repeat (first | refine blk_drewN ?_ _ | refine blk_drew ?_ | refine blk_alloc ?_ _)); refine blk_put (cs := #[.int .u64 0, .int .u32 0, .int .u32 0]) ?_ 1 _ rfl; (with_reducible repeat (first | refine blk_drewN ?_ _ | refine blk_drew ?_ | refine blk_alloc ?_ _)); refine blk_put (cs := #[.int .u64 0, .int .u32 0, .int .u32 0]) ?_ 0 _ rfl; exact blkt BK401) Tryz.underlying28 rfl (by kernel_rfl)) rfl ?_
        exact ⟨by first | rfl | (simp [errW_none, errW_some] <;> rfl) | (simp [*, errW_none, errW_some] <;> rfl), belt HB⟩
       ·replace c61 := Bool.eq_false_iff.mpr c61
        subst c61
        have H1 : ((wide_Int_Div.f kj30 t413 t414 a0_3).bind fun bt417 => ((pos_At.f kj30 a0_0 bt417.1 bt417.2.1 a2).bind fun bt422 => (some (bt422.1, bt422.2.1, bt422.2.2.1, bt422.2.2.2)))) = some (r1, r2, r3, r4) := by rw [if_neg (show ¬ (false = true) by decide)] at H; exact H
        clear H
        have H := H1
        clear H1
        replace H := Option.bind_eq_some_iff.mp H
        obtain ⟨⟨t417, t418, t419, t420⟩, A670, H⟩ := H
        replace H : ((pos_At.f kj30 a0_0 t417 t418 a2).bind fun bt422 => (some (bt422.1, bt422.2.1, bt422.2.2.1, bt422.2.2.2))) = some (r1, r2, r3, r4) := H
        have A67 := Aside0.mk A670
        clear A670
        replace H := Option.bind_eq_some_iff.mp H
        obtain ⟨⟨t422, t423, t424, t425⟩, A680, H⟩ := H
        replace H : (some (t422, t423, t424, t425)) = some (r1, r2, r3, r4) := H
        have A68 := Aside0.mk A680
        clear A680
        simp only [Option.some.injEq, Prod.mk.injEq] at H
        obtain ⟨rfl, rfl, rfl, rfl⟩ := H
        have hnb69 := NB416_400.out
        have hnc69 := NB400_416.out
        have hnb70 := NB416_401.out
        have hnc70 := NB401_416.out
        have hnb71 := NB416_406.out
        have hnc71 := NB406_416.out
        have hnb72 := NB416_412.out
        have hnc72 := NB412_416.out
        have hcz73_0 : wc.cell? ⟨gb416, 0, none⟩ = some (.int .i64 t413) := (blk_cell BK416.out 0).trans rfl
        have hcz73_1 : wc.cell? ⟨gb416, 1, none⟩ = some (.int .u64 t414) := (blk_cell BK416.out 1).trans rfl
        have hfz73_0 := blk_frozen BK416.out 0
        have hfz73_1 := blk_frozen BK416.out 1
        have hnb74 := NB400_401.out
        have hnc74 := NB401_400.out
        have hnb75 := NB400_406.out
        have hnc75 := NB406_400.out
        have hnb76 := NB400_412.out
        have hnc76 := NB412_400.out
        have hcz77_0 : wc.cell? ⟨gb400, 0, none⟩ = some (.int .u64 a0_0) := (blk_cell BK400.out 0).trans rfl
        have hcz77_1 : wc.cell? ⟨gb400, 1, none⟩ = some (.int .i64 a0_1) := (blk_cell BK400.out 1).trans rfl
        have hcz77_2 : wc.cell? ⟨gb400, 2, none⟩ = some (.int .u64 a0_2) := (blk_cell BK400.out 2).trans rfl
        have hcz77_3 : wc.cell? ⟨gb400, 3, none⟩ = some (.int .u64 a0_3) := (blk_cell BK400.out 3).trans rfl
        have hcz77_4 : wc.cell? ⟨gb400, 4, none⟩ = some (.int .i64 a0_4) := (blk_cell BK400.out 4).trans rfl
        have hfz77_0 := blk_frozen BK400.out 0
        have hfz77_1 := blk_frozen BK400.out 1
        have hfz77_2 := blk_frozen BK400.out 2
        have hfz77_3 := blk_frozen BK400.out 3
        have hfz77_4 := blk_frozen BK400.out 4
        go_wp2_with (first | ((with_reducible refine gate_callee (f := 56) rfl ?_); refine goesL_ (some 78) rfl rfl Tryz.func56 (by kernel_rfl) rfl #[.agg #[.int .i64 t413, .int .u64 t414], .int .u64 a0_3] rfl argt ?_; (with_reducible refine (wide_Int_Div.calls kj30 t413 t414 a0_3 t417 t418 t419 t420 _ A67.out).mono ?_); rintro e w78 ⟨rfl, hb⟩; refine ⟨_, rfl, ?_⟩; replace BK400 := blkb BK400 hb; replace BK401 := blkb BK401 hb; replace BK406 := blkb BK406 hb; replace BK412 := blkb BK412 hb; replace BK416 := blkb BK416 hb; replace HB := belb HB hb; (try clear hb); (try clear hb2); (try clear hk); (try clear hi)) | ((with_reducible refine gate_dst (N := 16) rfl ?_); refine box_event ?hg (N := 16) ?hd (cs := #[.int .i64 0, .int .u64 0]) (t := 31) ?hr ?_; (case hd => rfl); (case hg => rfl); (case hr => first | (go_simp; done) | (go_simp; rfl)); intro gb421 hg w79 hbox hb; have BK421 := Aside0.mk (hbox); have GW421 := bels HB hg; have GE421 := bels HB hg; have NB400_421 := blkl BK400 hg; have NB421_400 := blkg BK400 hg; have NB401_421 := blkl BK401 hg; have NB421_401 := blkg BK401 hg; have NB406_421 := blkl BK406 hg; have NB421_406 := blkg BK406 hg; have NB412_421 := blkl BK412 hg; have NB421_412 := blkg BK412 hg; have NB416_421 := blkl BK416 hg; have NB421_416 := blkg BK416 hg; replace BK400 := blkb BK400 hb; replace BK401 := blkb BK401 hb; replace BK406 := blkb BK406 hb; replace BK412 := blkb BK412 hb; replace BK416 := blkb BK416 hb; replace HB := belb HB hb; clear hb hbox hg; have hnb80 := NB421_400.out; have hnc80 := NB400_421.out; have hnb81 := NB421_401.out; have hnc81 := NB401_421.out; have hnb82 := NB421_406.out; have hnc82 := NB406_421.out; have hnb83 := NB421_412.out; have hnc83 := NB412_421.out; have hnb84 := NB421_416.out; have hnc84 := NB416_421.out; have hcz85_0 : w79.cell? ⟨gb421, 0, none⟩ = some (.int .i64 0) := (blk_cell BK421.out 0).trans rfl; have hcz85_1 : w79.cell? ⟨gb421, 1, none⟩ = some (.int .u64 0) := (blk_cell BK421.out 1).trans rfl; have hfz85_0 := blk_frozen BK421.out 0; have hfz85_1 := blk_frozen BK421.out 1; have hcz86_0 : w79.cell? ⟨gb400, 0, none⟩ = some (.int .u64 a0_0) := (blk_cell BK400.out 0).trans rfl; have hcz86_1 : w79.cell? ⟨gb400, 1, none⟩ = some (.int .i64 a0_1) := (blk_cell BK400.out 1).trans rfl; have hcz86_2 : w79.cell? ⟨gb400, 2, none⟩ = some (.int .u64 a0_2) := (blk_cell BK400.out 2).trans rfl; have hcz86_3 : w79.cell? ⟨gb400, 3, none⟩ = some (.int .u64 a0_3) := (blk_cell BK400.out 3).trans rfl; have hcz86_4 : w79.cell? ⟨gb400, 4, none⟩ = some (.int .i64 a0_4) := (blk_cell BK400.out 4).trans rfl; have hfz86_0 := blk_frozen BK400.out 0; have hfz86_1 := blk_frozen BK400.out 1; have hfz86_2 := blk_frozen BK400.out 2; have hfz86_3 := blk_frozen BK400.out 3; have hfz86_4 := blk_frozen BK400.out 4) | ((with_reducible refine gate_callee (f := 58) rfl ?_); refine goesL_ (some 86) rfl rfl Tryz.func58 (by kernel_rfl) rfl #[.int .u64 a0_0, .agg #[.int .i64 t417, .int .u64 t418], .int .u32 a2] rfl argt ?_; (with_reducible refine (pos_At.calls kj30 a0_0 t417 t418 a2 t422 t423 t424 t425 _ A68.out).mono ?_); rintro e w87 ⟨rfl, hb⟩; refine ⟨_, rfl, ?_⟩; replace BK400 := Aside0.mk (blk_below (g := gb400) (o := .cells #[.int .u64 a0_0, .int .i64 a0_1, .int .u64 a0_2, .int .u64 a0_3, .int .i64 a0_4] 33 (0, 0)) (by (with_reducible repeat (first | refine blk_drewN ?_ _ | refine blk_drew ?_ | refine blk_alloc ?_ _)); refine blk_far ?_ NB400_421.out _; (with_reducible repeat (first | refine blk_drewN ?_ _ | refine blk_drew ?_ | refine blk_alloc ?_ _)); refine blk_far ?_ NB400_421.out _; exact blkt BK400) hb); replace BK401 := Aside0.mk (blk_below (g := gb401) (o := .cells #[.int .u64 0, .int .u32 0, .int .u32 0] 28 (0, 0)) (by (with_reducible repeat (first | refine blk_drewN ?_ _ | refine blk_drew ?_ | refine blk_alloc ?_ _)); refine blk_far ?_ NB401_421.out _; (with_reducible repeat (first | refine blk_drewN ?_ _ | refine blk_drew ?_ | refine blk_alloc ?_ _)); refine blk_far ?_ NB401_421.out _; exact blkt BK401) hb); replace BK406 := Aside0.mk (blk_below (g := gb406) (o := .cells #[.int .i64 t403, .int .u64 t404] 31 (0, 0)) (by (with_reducible repeat (first | refine blk_drewN ?_ _ | refine blk_drew ?_ | refine blk_alloc ?_ _)); refine blk_far ?_ NB406_421.out _; (with_reducible repeat (first | refine blk_drewN ?_ _ | refine blk_drew ?_ | refine blk_alloc ?_ _)); refine blk_far ?_ NB406_421.out _; exact blkt BK406) hb); replace BK412 := Aside0.mk (blk_below (g := gb412) (o := .cells #[.int .i64 t409, .int .u64 t410] 31 (0, 0)) (by (with_reducible repeat (first | refine blk_drewN ?_ _ | refine blk_drew ?_ | refine blk_alloc ?_ _)); refine blk_far ?_ NB412_421.out _; (with_reducible repeat (first | refine blk_drewN ?_ _ | refine blk_drew ?_ | refine blk_alloc ?_ _)); refine blk_far ?_ NB412_421.out _; exact blkt BK412) hb); replace BK416 := Aside0.mk (blk_below (g := gb416) (o := .cells #[.int .i64 t413, .int .u64 t414] 31 (0, 0)) (by (with_reducible repeat (first | refine blk_drewN ?_ _ | refine blk_drew ?_ | refine blk_alloc ?_ _)); refine blk_far ?_ NB416_421.out _; (with_reducible repeat (first | refine blk_drewN ?_ _ | refine blk_drew ?_ | refine blk_alloc ?_ _)); refine blk_far ?_ NB416_421.out _; exact blkt BK416) hb); replace BK421 := Aside0.mk (blk_below (g := gb421) (o := .cells #[.int .i64 t417, .int .u64 t418] 31 (0, 0)) (by (with_reducible repeat (first | refine blk_drewN ?_ _ | refine blk_drew ?_ | refine blk_alloc ?_ _)); refine blk_put (cs := #[.int .i64 t417, .int .u64 0]) ?_ 1 _ rfl; (with_reducible repeat (first | refine blk_drewN ?_ _ | refine blk_drew ?_ | refine blk_alloc ?_ _)); refine blk_put (cs := #[.int .i64 0, .int .u64 0]) ?_ 0 _ rfl; exact blkt BK421) hb); replace HB := belb HB hb; (try clear hb); (try clear hb2); (try clear hk); (try clear hi); have hnb88 := NB401_406.out; have hnc88 := NB406_401.out; have hnb89 := NB401_412.out; have hnc89 := NB412_401.out; have hcz90_0 : w87.cell? ⟨gb401, 0, none⟩ = some (.int .u64 0) := (blk_cell BK401.out 0).trans rfl; have hcz90_1 : w87.cell? ⟨gb401, 1, none⟩ = some (.int .u32 0) := (blk_cell BK401.out 1).trans rfl; have hcz90_2 : w87.cell? ⟨gb401, 2, none⟩ = some (.int .u32 0) := (blk_cell BK401.out 2).trans rfl; have hfz90_0 := blk_frozen BK401.out 0; have hfz90_1 := blk_frozen BK401.out 1; have hfz90_2 := blk_frozen BK401.out 2))
        refine bodyPost_ret (results_ct rfl _ _ gb401 28 #[.int .u64 t422, .int .u32 t423, .int .u32 t424] (0, 0) _ rfl (by (with_reducible repeat (first | refine blk_drewN ?_ _ | refine blk_drew ?_ | refine blk_alloc ?_ _)); refine blk_put (cs := #[.int .u64 t422, .int .u32 t423, .int .u32 0]) ?_ 2 _ rfl; (with_reducible repeat (first | refine blk_drewN ?_ _ | refine blk_drew ?_ | refine blk_alloc ?_ _)); refine blk_put (cs := #[.int .u64 t422, .int .u32 0, .int .u32 0]) ?_ 1 _ rfl; (with_reducible repeat (first | refine blk_drewN ?_ _ | refine blk_drew ?_ | refine blk_alloc ?_ _)); refine blk_put (cs := #[.int .u64 0, .int .u32 0, .int .u32 0]) ?_ 0 _ rfl; exact blkt BK401) Tryz.underlying28 rfl (by kernel_rfl)) rfl ?_
        exact ⟨by first | rfl | (simp [errW_none, errW_some] <;> rfl) | (simp [*, errW_none, errW_some] <;> rfl), belt HB⟩


/-! ### turnstonelaw10_awake: function 28 -/
def turnstonelaw10_awake.f : Option Bool := some true
theorem turnstonelaw10_awake.calls (r : Bool) (w : World) (h : turnstonelaw10_awake.f = some r) : Calls Tryz.prog 28 #[] w fun e w' => e = .returned (.bool r) ∧ Below w.heap.size w w' := by
 obtain rfl := Option.some.inj h
 exact Go.Proofs.YtfbkamgdkdnpoaaGreatDoor.Awake.at28 w


/-! ### turnstonelaw10_near: function 29 -/
mutual
def turnstonelaw10_near.j0 : Nat → Int → List (S28) → Bool → Option (Int × Int × Int × Int × Int × Bool)
 | 0, _, _, _ => none
 | k + 1, x0, x1, x16 => if x16 = true then (some (0, 0, 0, 0, 0, false)) else (turnstonelaw10_near.l0 k x0 x1 x1 (x1.length : Int) 0)
def turnstonelaw10_near.l0 : Nat → Int → List (S28) → List (S28) → Int → Int → Option (Int × Int × Int × Int × Int × Bool)
 | 0, _, _, _, _, _ => none
 | k + 1, x0, x1, x18, x19, x20 => if x20 < x19 then (if 0 ≤ x20 then (if x20 < (x18.length : Int) then ((vtime_Time_Since.f ((rd_T28 x18 x20).f0) x0).bind fun t435 => ((pos_Pos_Right.f ((rd_T28 x18 x20).f0) ((rd_T28 x18 x20).f1) ((rd_T28 x18 x20).f2)).bind fun t436 => (if t436 = true then (if t435 ≤ (-576460752303423488) then (some (0, 0, 0, 0, 0, false)) else (if t435 ≥ 576460752303423488 then (some (0, 0, 0, 0, 0, false)) else (turnstonelaw10_near.l0 k x0 x1 x18 x19 (wrap64 (x20 + 1))))) else (some (0, 0, 0, 0, 0, false))))) else (none)) else (none)) else ((mean_Of.f k x0 x1).bind fun bt427 => (some (bt427.1, bt427.2.1, bt427.2.2.1, bt427.2.2.2.1, bt427.2.2.2.2.1, bt427.2.2.2.2.2)))
end
def turnstonelaw10_near.f (k : Nat) (a0 : Int) (l1 : List (S28)) : Option (Int × Int × Int × Int × Int × Bool) := if (l1.length : Int) > 31 then (turnstonelaw10_near.j0 k a0 l1 true) else (turnstonelaw10_near.j0 k a0 l1 ((l1.length : Int) == 0))
theorem turnstonelaw10_near.mono_l : ∀ k, (∀ y0 y1 y2, LeO (turnstonelaw10_near.j0 k y0 y1 y2) (turnstonelaw10_near.j0 (k + 1) y0 y1 y2)) ∧ (∀ y0 y1 y2 y3 y4, LeO (turnstonelaw10_near.l0 k y0 y1 y2 y3 y4) (turnstonelaw10_near.l0 (k + 1) y0 y1 y2 y3 y4))
 | 0 => ⟨fun _ _ _ r h => by simp [turnstonelaw10_near.j0] at h, fun _ _ _ _ _ r h => by simp [turnstonelaw10_near.l0] at h⟩
 | k + 1 => by
  obtain ⟨ih0, ih1⟩ := turnstonelaw10_near.mono_l k
  refine ⟨?_, ?_⟩
  ·intro y0 y1 y2
   unfold turnstonelaw10_near.j0
   repeat' first
   | (with_reducible exact ih0 _ _ _)
   | (with_reducible exact ih1 _ _ _ _ _)
   | (with_reducible exact mean_Of.mono _ _ _)
   | (with_reducible exact LeO.refl _)
   | (with_reducible exact LeO.none _)
   | (with_reducible refine LeO.ite ?_ ?_)
   | (with_reducible refine LeO.bind ?_ (fun _ => ?_))
   | exact ih0 _ _ _
   | exact ih1 _ _ _ _ _
   | exact mean_Of.mono _ _ _
   | exact LeO.none _
   | refine LeO.ite ?_ ?_
   | refine LeO.bind ?_ (fun _ => ?_)
  ·intro y0 y1 y2 y3 y4
   unfold turnstonelaw10_near.l0
   repeat' first
   | (with_reducible exact ih0 _ _ _)
   | (with_reducible exact ih1 _ _ _ _ _)
   | (with_reducible exact mean_Of.mono _ _ _)
   | (with_reducible exact LeO.refl _)
   | (with_reducible exact LeO.none _)
   | (with_reducible refine LeO.ite ?_ ?_)
   | (with_reducible refine LeO.bind ?_ (fun _ => ?_))
   | exact ih0 _ _ _
   | exact ih1 _ _ _ _ _
   | exact mean_Of.mono _ _ _
   | exact LeO.none _
   | refine LeO.ite ?_ ?_
   | refine LeO.bind ?_ (fun _ => ?_)
theorem turnstonelaw10_near.mono : ∀ a0 a1 k, LeO (turnstonelaw10_near.f k a0 a1) (turnstonelaw10_near.f (k + 1) a0 a1) := by
 intro a0 a1 k
 obtain ⟨ih0, ih1⟩ := turnstonelaw10_near.mono_l k
 unfold turnstonelaw10_near.f
 repeat' first
   | (with_reducible exact ih0 _ _ _)
   | (with_reducible exact ih1 _ _ _ _ _)
   | (with_reducible exact mean_Of.mono _ _ _)
   | (with_reducible exact LeO.refl _)
   | (with_reducible exact LeO.none _)
   | (with_reducible refine LeO.ite ?_ ?_)
   | (with_reducible refine LeO.bind ?_ (fun _ => ?_))
   | exact ih0 _ _ _
   | exact ih1 _ _ _ _ _
   | exact mean_Of.mono _ _ _
   | exact LeO.none _
   | refine LeO.ite ?_ ?_
   | refine LeO.bind ?_ (fun _ => ?_)
set_option maxHeartbeats 8000000 in
set_option maxRecDepth 100000 in
theorem turnstonelaw10_near.calls (k : Nat) (a0 : Int) (A1 : Option Addr) (c1 : Nat) (l1 : List (S28)) (r1 : Int) (r2 : Int) (r3 : Int) (r4 : Int) (r5 : Int) (r6 : Bool) (w : World) (hr1 : Kd.C k28 w A1 l1.length l1) (hc1 : l1.length ≤ c1) (h : turnstonelaw10_near.f k a0 l1 = some (r1, r2, r3, r4, r5, r6)) :
  Calls Tryz.prog 29 #[.int .u64 a0, .slice A1 l1.length c1] w fun e w' => e = .returned (.tuple #[.agg #[.int .u64 r1, .int .i64 r2, .int .u64 r3, .int .u64 r4, .int .i64 r5], .bool r6]) ∧ Below w.heap.size w w' := by
 have hu33 := Tryz.underlying33
 have hu28 := Tryz.underlying28
 have HR1 := Aside0.mk hr1
 have HC1 := Aside0.mk hc1
 clear hr1 hc1
 have HB := Aside0.mk (Below.refl w.heap.size w)
 have H : (if (l1.length : Int) > 31 then (turnstonelaw10_near.j0 k a0 l1 true) else (turnstonelaw10_near.j0 k a0 l1 ((l1.length : Int) == 0))) = some (r1, r2, r3, r4, r5, r6) := h
 clear h
 have HC3 := Aside0.mk H
 clear H
 go_enter Tryz.func29, Tryz.ntmps29
 go_upto_region 1 with (first | ((with_reducible refine gate_dst (N := 4) rfl ?_); (try (refine gate_guard (by rfl) ?_; dsimp only)); refine box_event ?hg (N := 4) ?hd (cs := #[.int .u64 0, .int .i64 0, .int .u64 0, .int .u64 0, .int .i64 0]) (t := 33) ?hr ?_; (case hd => rfl); (case hg => rfl); (case hr => first | (go_simp; done) | (go_simp; rfl)); intro gb426 hg w4 hbox hb; have BK426 := Aside0.mk (hbox); have GW426 := bels HB hg; have GE426 := bels HB hg; replace HB := belb HB hb; clear hb hbox hg))
 (try simp only [Act.put, List.setIfInBounds_toArray, List.set_cons_zero, List.set_cons_succ])
 go_cut [16] (fun v16 wc => ∃ (kq : Nat) (x16_2 : Bool), v16 = .bool x16_2 ∧ Aside0 (turnstonelaw10_near.j0 kq a0 l1 x16_2 = some (r1, r2, r3, r4, r5, r6)) ∧ Aside0 (kq ≤ k) ∧ Aside0 (wc.heap[gb426]? = some (.cells #[.int .u64 0, .int .i64 0, .int .u64 0, .int .u64 0, .int .i64 0] 33 (0, 0))) ∧ Aside0 (Below w.heap.size w wc))
 case first =>
  have H := HC3.out
  clear HC3
  by_cases c5 : (l1.length : Int) > 31
  ·rw [if_pos c5] at H
   have c5b0 : decide (31 < (l1.length : Int)) = true := decide_eq_true c5
   have c5b1 : decide (31 < l1.length) = true := decide_eq_true (by omega)
   clear c5
   (first | rw [c5b0] | (simp only [i64_w, i32_w]; rw [c5b0]) | skip)
   have H' := Aside0.mk H
   clear H
   go_wp2
   go_meet
   case rel => exact ⟨_, (true), (by first | rfl | (simp; done) | (simp [*]; done)), H', ⟨by first | omega | exact Nat.le_refl _⟩, ⟨blkt BK426⟩, ⟨belt HB⟩⟩
  ·rw [if_neg c5] at H
   have c5b0 : decide (31 < (l1.length : Int)) = false := decide_eq_false c5
   have c5b1 : decide (31 < l1.length) = false := decide_eq_false (by omega)
   clear c5
   (first | rw [c5b0] | (simp only [i64_w, i32_w]; rw [c5b0]) | skip)
   have H' := Aside0.mk H
   clear H
   go_wp2
   go_meet
   case rel => exact ⟨_, (((l1.length : Int) == 0)), (by first | rfl | (simp; done) | (simp [*]; done)), H', ⟨by first | omega | exact Nat.le_refl _⟩, ⟨blkt BK426⟩, ⟨belt HB⟩⟩
 case rest =>
  clear HC3
  try clear c1
  try clear c2
  try clear p2
  try clear c5
  try clear c5b0
  try clear c5b1
  obtain ⟨kq, x16_2, rfl, HA, HJ2, BK426, HB⟩ := hcut
  cases kq with
  | zero => exact absurd HA.out (by simp [turnstonelaw10_near.j0])
  | succ kj2 =>
   have H := HA.out
   clear HA
   simp only [turnstonelaw10_near.j0] at H
   by_cases c6 : x16_2 = true
   ·subst c6
    have H1 : (some (0, 0, 0, 0, 0, false)) = some (r1, r2, r3, r4, r5, r6) := by rw [if_pos rfl] at H; exact H
    clear H
    have H := H1
    clear H1
    simp only [Option.some.injEq, Prod.mk.injEq] at H
    obtain ⟨rfl, rfl, rfl, rfl, rfl, rfl⟩ := H
    have hcz7_0 : wc.cell? ⟨gb426, 0, none⟩ = some (.int .u64 0) := (blk_cell BK426.out 0).trans rfl
    have hcz7_1 : wc.cell? ⟨gb426, 1, none⟩ = some (.int .i64 0) := (blk_cell BK426.out 1).trans rfl
    have hcz7_2 : wc.cell? ⟨gb426, 2, none⟩ = some (.int .u64 0) := (blk_cell BK426.out 2).trans rfl
    have hcz7_3 : wc.cell? ⟨gb426, 3, none⟩ = some (.int .u64 0) := (blk_cell BK426.out 3).trans rfl
    have hcz7_4 : wc.cell? ⟨gb426, 4, none⟩ = some (.int .i64 0) := (blk_cell BK426.out 4).trans rfl
    have hfz7_0 := blk_frozen BK426.out 0
    have hfz7_1 := blk_frozen BK426.out 1
    have hfz7_2 := blk_frozen BK426.out 2
    have hfz7_3 := blk_frozen BK426.out 3
    have hfz7_4 := blk_frozen BK426.out 4
    go_wp2
    refine bodyPost_ret (results_ct rfl _ _ gb426 33 #[.int .u64 0, .int .i64 0, .int .u64 0, .int .u64 0, .int .i64 0] (0, 0) _ rfl (by (with_reducible repeat (first | refine blk_drewN ?_ _ | refine blk_drew ?_ | refine blk_alloc ?_ _)); refine blk_put (cs := #[.int .u64 0, .int .i64 0, .int .u64 0, .int .u64 0, .int .i64 0]) ?_ 4 _ rfl; (with_reducible repeat (first | refine blk_drewN ?_ _ | refine blk_drew ?_ | refine blk_alloc ?_ _)); refine blk_put (cs := #[.int .u64 0, .int .i64 0, .int .u64 0, .int .u64 0, .int .i64 0]) ?_ 3 _ rfl; (with_reducible repeat (first | refine blk_drewN ?_ _ | refine blk_drew ?_ | refine blk_alloc ?_ _)); refine blk_put (cs := #[.int .u64 0, .int .i64 0, .int .u64 0, .int .u64 0, .int .i64 0]) ?_ 2 _ rfl; (with_reducible repeat (first | refine blk_drewN ?_ _ | refine blk_drew ?_ | refine blk_alloc ?_ _)); refine blk_put (cs := #[.int .u64 0, .int .i64 0, .int .u64 0, .int .u64 0, .int .i64 0]) ?_ 1 _ rfl; (with_reducible repeat (first | refine blk_drewN ?_ _ | refine blk_drew ?_ | refine blk_alloc ?_ _)); refine blk_put (cs := #[.int .u64 0, .int .i64 0, .int .u64 0, .int .u64 0, .int .i64 0]) ?_ 0 _ rfl; exact blkt BK426) Tryz.underlying33 rfl (by kernel_rfl)) rfl ?_
    exact ⟨by first | rfl | (simp [errW_none, errW_some] <;> rfl) | (simp [*, errW_none, errW_some] <;> rfl), belt HB⟩
   ·replace c6 := Bool.eq_false_iff.mpr c6
    subst c6
    have H1 : (turnstonelaw10_near.l0 kj2 a0 l1 l1 (l1.length : Int) 0) = some (r1, r2, r3, r4, r5, r6) := by rw [if_neg (show ¬ (false = true) by decide)] at H; exact H
    clear H
    have H := H1
    clear H1
    have H' := Aside0.mk H
    clear H
    go_wp2
    (try simp only [Act.put, List.setIfInBounds_toArray, List.set_cons_zero, List.set_cons_succ])
    go_loopg [20] kj2 (fun kq v20 w' => ∃ (x20_2 : Int) (x427000_2 : Int) (x427001_2 : Int) (x427002_2 : Int) (x427003_2 : Int) (x427004_2 : Int), v20 = .int .i64 x20_2 ∧ Aside0 (turnstonelaw10_near.l0 kq a0 l1 l1 (l1.length : Int) x20_2 = some (r1, r2, r3, r4, r5, r6)) ∧ Aside0 (kq ≤ kj2) ∧ Aside0 (w'.heap[gb426]? = some (.cells #[.int .u64 x427000_2, .int .i64 x427001_2, .int .u64 x427002_2, .int .u64 x427003_2, .int .i64 x427004_2] 33 (0, 0))) ∧ Aside0 (Below w.heap.size w w'))
    case atStart => exact ⟨(0), (0), (0), (0), (0), (0), (by first | rfl | (simp; done) | (simp [*]; done)), H', ⟨Nat.le_refl _⟩, ⟨blkt BK426⟩, ⟨belt HB⟩⟩
    case round =>
     clear H'
     try clear c1
     try clear c2
     try clear p2
     try clear c5
     try clear c5b0
     try clear c5b1
     try clear c6
     try clear hcz7_0
     try clear hcz7_1
     try clear hcz7_2
     try clear hcz7_3
     try clear hcz7_4
     try clear hfz7_0
     try clear hfz7_1
     try clear hfz7_2
     try clear hfz7_3
     try clear hfz7_4
     try clear p2
     obtain ⟨x20_2, x427000_2, x427001_2, x427002_2, x427003_2, x427004_2, rfl, HA, HK2, BK426, HB⟩ := hrel
     cases gk with
     | zero => exact absurd HA.out (by simp [turnstonelaw10_near.l0])
     | succ k2 =>
      have H := HA.out
      clear HA
      simp only [turnstonelaw10_near.l0] at H
      by_cases c8 : x20_2 < (l1.length : Int)
      ·rw [if_pos c8] at H
       have c8b0 : decide (x20_2 < (l1.length : Int)) = true := decide_eq_true c8
       clear c8
       by_cases c9 : 0 ≤ x20_2
       ·rw [if_pos c9] at H
        have c9b0 : decide (0 ≤ x20_2) = true := decide_eq_true c9
        clear c9
        by_cases c10 : x20_2 < (l1.length : Int)
        ·rw [if_pos c10] at H
         have c10b0 : decide (x20_2 < (l1.length : Int)) = true := decide_eq_true c10
         clear c10
         replace H := Option.bind_eq_some_iff.mp H
         obtain ⟨t435, A110, H⟩ := H
         replace H : ((pos_Pos_Right.f ((rd_T28 l1 x20_2).f0) ((rd_T28 l1 x20_2).f1) ((rd_T28 l1 x20_2).f2)).bind fun t436 => (if t436 = true then (if t435 ≤ (-576460752303423488) then (some (0, 0, 0, 0, 0, false)) else (if t435 ≥ 576460752303423488 then (some (0, 0, 0, 0, 0, false)) else (turnstonelaw10_near.l0 k2 a0 l1 l1 (l1.length : Int) (wrap64 (x20_2 + 1))))) else (some (0, 0, 0, 0, 0, false)))) = some (r1, r2, r3, r4, r5, r6) := H
         have A11 := Aside0.mk A110
         clear A110
         replace H := Option.bind_eq_some_iff.mp H
         obtain ⟨t436, A120, H⟩ := H
         replace H : (if t436 = true then (if t435 ≤ (-576460752303423488) then (some (0, 0, 0, 0, 0, false)) else (if t435 ≥ 576460752303423488 then (some (0, 0, 0, 0, 0, false)) else (turnstonelaw10_near.l0 k2 a0 l1 l1 (l1.length : Int) (wrap64 (x20_2 + 1))))) else (some (0, 0, 0, 0, 0, false))) = some (r1, r2, r3, r4, r5, r6) := H
         have A12 := Aside0.mk A120
         clear A120
         by_cases c13 : t436 = true
         ·subst c13
          have H1 : (if t435 ≤ (-576460752303423488) then (some (0, 0, 0, 0, 0, false)) else (if t435 ≥ 576460752303423488 then (some (0, 0, 0, 0, 0, false)) else (turnstonelaw10_near.l0 k2 a0 l1 l1 (l1.length : Int) (wrap64 (x20_2 + 1))))) = some (r1, r2, r3, r4, r5, r6) := by rw [if_pos rfl] at H; exact H
          clear H
          have H := H1
          clear H1
          by_cases c14 : t435 ≤ (-576460752303423488)
          ·rw [if_pos c14] at H
           have c14b0 : decide (t435 ≤ (-576460752303423488)) = true := decide_eq_true c14
           clear c14
           simp only [Option.some.injEq, Prod.mk.injEq] at H
           obtain ⟨rfl, rfl, rfl, rfl, rfl, rfl⟩ := H
           have p433 : 0 ≤ (x20_2 : Int) := of_decide_eq_true (by first | (with_reducible assumption) | assumption)
           have q433 : x20_2 < (l1.length : Int) := of_decide_eq_true (by first | (with_reducible assumption) | assumption)
           obtain ⟨ad433, e433, hx433_0, hx433_1, hx433_2⟩ := at_T28 HR1.out x20_2 p433 q433
           cases e433
           replace hx433_0 := (HB.out.cell (World.block_lt_of_cell? w _ hx433_0)).trans hx433_0
           replace hx433_1 := (HB.out.cell (World.block_lt_of_cell? w _ hx433_1)).trans hx433_1
           replace hx433_2 := (HB.out.cell (World.block_lt_of_cell? w _ hx433_2)).trans hx433_2
           replace p433 := eq_true p433
           replace q433 := eq_true q433
           go_wp2_with (first | ((with_reducible refine gate_dst (N := 7) rfl ?_); (try (refine gate_guard (by rfl) ?_; dsimp only)); refine box_event ?hg (N := 7) ?hd (cs := #[.int .u64 0, .int .u32 0, .int .u32 0]) (t := 28) ?hr ?_; (case hd => rfl); (case hg => rfl); (case hr => first | (go_simp; done) | (go_simp; rfl)); intro gb434 hg w15 hbox hb; have BK434 := Aside0.mk (hbox); have GW434 := bels HB hg; have GE434 := bels HB hg; have NB426_434 := blkl BK426 hg; have NB434_426 := blkg BK426 hg; replace BK426 := blkb BK426 hb; replace HB := belb HB hb; clear hb hbox hg; have hnb16 := NB434_426.out; have hnc16 := NB426_434.out; have hcz17_0 : w15.cell? ⟨gb434, 0, none⟩ = some (.int .u64 0) := (blk_cell BK434.out 0).trans rfl; have hcz17_1 : w15.cell? ⟨gb434, 1, none⟩ = some (.int .u32 0) := (blk_cell BK434.out 1).trans rfl; have hcz17_2 : w15.cell? ⟨gb434, 2, none⟩ = some (.int .u32 0) := (blk_cell BK434.out 2).trans rfl; have hfz17_0 := blk_frozen BK434.out 0; have hfz17_1 := blk_frozen BK434.out 1; have hfz17_2 := blk_frozen BK434.out 2) | ((with_reducible refine gate_callee (f := 16) rfl ?_); refine goesL_ (some 27) rfl rfl Tryz.func16 (by kernel_rfl) rfl #[.int .u64 ((rd_T28 l1 x20_2).f0), .int .u64 a0] rfl argt ?_; (with_reducible refine (vtime_Time_Since.calls ((rd_T28 l1 x20_2).f0) a0 t435 _ A11.out).mono ?_); rintro e w' ⟨rfl, ⟨nd, rfl⟩⟩; refine ⟨_, rfl, ?_⟩) | ((with_reducible refine gate_callee (f := 17) rfl ?_); refine goesL_ (some 29) rfl rfl Tryz.func17 (by kernel_rfl) rfl #[.agg #[.int .u64 ((rd_T28 l1 x20_2).f0), .int .u32 ((rd_T28 l1 x20_2).f1), .int .u32 ((rd_T28 l1 x20_2).f2)]] rfl argt ?_; (with_reducible refine (pos_Pos_Right.calls ((rd_T28 l1 x20_2).f0) ((rd_T28 l1 x20_2).f1) ((rd_T28 l1 x20_2).f2) true _ A12.out).mono ?_); rintro e w18 ⟨rfl, hb⟩; refine ⟨_, rfl, ?_⟩; replace BK426 := Aside0.mk (blk_below (g := gb426) (o := .cells #[.int .u64 x427000_2, .int .i64 x427001_2, .int .u64 x427002_2, .int .u64 x427003_2, .int .i64 x427004_2] 33 (0, 0)) (by (with_reducible repeat (first | refine blk_drewN ?_ _ | refine blk_drew ?_ | refine blk_alloc ?_ _)); refine blk_far ?_ NB426_434.out _; (with_reducible repeat (first | refine blk_drewN ?_ _ | refine blk_drew ?_ | refine blk_alloc ?_ _)); refine blk_far ?_ NB426_434.out _; (with_reducible repeat (first | refine blk_drewN ?_ _ | refine blk_drew ?_ | refine blk_alloc ?_ _)); refine blk_far ?_ NB426_434.out _; exact blkt BK426) hb); replace BK434 := Aside0.mk (blk_below (g := gb434) (o := .cells #[.int .u64 ((rd_T28 l1 x20_2).f0), .int .u32 ((rd_T28 l1 x20_2).f1), .int .u32 ((rd_T28 l1 x20_2).f2)] 28 (0, 0)) (by (with_reducible repeat (first | refine blk_drewN ?_ _ | refine blk_drew ?_ | refine blk_alloc ?_ _)); refine blk_put (cs := #[.int .u64 ((rd_T28 l1 x20_2).f0), .int .u32 ((rd_T28 l1 x20_2).f1), .int .u32 0]) ?_ 2 _ rfl; (with_reducible repeat (first | refine blk_drewN ?_ _ | refine blk_drew ?_ | refine blk_alloc ?_ _)); refine blk_put (cs := #[.int .u64 ((rd_T28 l1 x20_2).f0), .int .u32 0, .int .u32 0]) ?_ 1 _ rfl; (with_reducible repeat (first | refine blk_drewN ?_ _ | refine blk_drew ?_ | refine blk_alloc ?_ _)); refine blk_put (cs := #[.int .u64 0, .int .u32 0, .int .u32 0]) ?_ 0 _ rfl; exact blkt BK434) hb); replace HB := belb HB hb; (try clear hb); (try clear hb2); (try clear hk); (try clear hi); have hcz19_0 : w18.cell? ⟨gb426, 0, none⟩ = some (.int .u64 x427000_2) := (blk_cell BK426.out 0).trans rfl; have hcz19_1 : w18.cell? ⟨gb426, 1, none⟩ = some (.int .i64 x427001_2) := (blk_cell BK426.out 1).trans rfl; have hcz19_2 : w18.cell? ⟨gb426, 2, none⟩ = some (.int .u64 x427002_2) := (blk_cell BK426.out 2).trans rfl; have hcz19_3 : w18.cell? ⟨gb426, 3, none⟩ = some (.int .u64 x427003_2) := (blk_cell BK426.out 3).trans rfl; have hcz19_4 : w18.cell? ⟨gb426, 4, none⟩ = some (.int .i64 x427004_2) := (blk_cell BK426.out 4).trans rfl; have hfz19_0 := blk_frozen BK426.out 0; have hfz19_1 := blk_frozen BK426.out 1; have hfz19_2 := blk_frozen BK426.out 2; have hfz19_3 := blk_frozen BK426.out 3; have hfz19_4 := blk_frozen BK426.out 4))
           refine bodyPost_ret (results_ct rfl _ _ gb426 33 #[.int .u64 0, .int .i64 0, .int .u64 0, .int .u64 0, .int .i64 0] (0, 0) _ rfl (by (with_reducible repeat (first | refine blk_drewN ?_ _ | refine blk_drew ?_ | refine blk_alloc ?_ _)); refine blk_put (cs := #[.int .u64 0, .int .i64 0, .int .u64 0, .int .u64 0, .int .i64 x427004_2]) ?_ 4 _ rfl; (with_reducible repeat (first | refine blk_drewN ?_ _ | refine blk_drew ?_ | refine blk_alloc ?_ _)); refine blk_put (cs := #[.int .u64 0, .int .i64 0, .int .u64 0, .int .u64 x427003_2, .int .i64 x427004_2]) ?_ 3 _ rfl; (with_reducible repeat (first | refine blk_drewN ?_ _ | refine blk_drew ?_ | refine blk_alloc ?_ _)); refine blk_put (cs := #[.int .u64 0, .int .i64 0, .int .u64 x427002_2, .int .u64 x427003_2, .int .i64 x427004_2]) ?_ 2 _ rfl; (with_reducible repeat (first | refine blk_drewN ?_ _ | refine blk_drew ?_ | refine blk_alloc ?_ _)); refine blk_put (cs := #[.int .u64 0, .int .i64 x427001_2, .int .u64 x427002_2, .int .u64 x427003_2, .int .i64 x427004_2]) ?_ 1 _ rfl; (with_reducible repeat (first | refine blk_drewN ?_ _ | refine blk_drew ?_ | refine blk_alloc ?_ _)); refine blk_put (cs := #[.int .u64 x427000_2, .int .i64 x427001_2, .int .u64 x427002_2, .int .u64 x427003_2, .int .i64 x427004_2]) ?_ 0 _ rfl; exact blkt BK426) Tryz.underlying33 rfl (by kernel_rfl)) rfl ?_
           exact ⟨by first | rfl | (simp [errW_none, errW_some] <;> rfl) | (simp [*, errW_none, errW_some] <;> rfl), belt HB⟩
          ·rw [if_neg c14] at H
           have c14b0 : decide (t435 ≤ (-576460752303423488)) = false := decide_eq_false c14
           clear c14
           by_cases c20 : t435 ≥ 576460752303423488
           ·rw [if_pos c20] at H
            have c20b0 : decide (576460752303423488 ≤ t435) = true := decide_eq_true c20
            clear c20
            simp only [Option.some.injEq, Prod.mk.injEq] at H
            obtain ⟨rfl, rfl, rfl, rfl, rfl, rfl⟩ := H
            have p433 : 0 ≤ (x20_2 : Int) := of_decide_eq_true (by first | (with_reducible assumption) | assumption)
            have q433 : x20_2 < (l1.length : Int) := of_decide_eq_true (by first | (with_reducible assumption) | assumption)
            obtain ⟨ad433, e433, hx433_0, hx433_1, hx433_2⟩ := at_T28 HR1.out x20_2 p433 q433
            cases e433
            replace hx433_0 := (HB.out.cell (World.block_lt_of_cell? w _ hx433_0)).trans hx433_0
            replace hx433_1 := (HB.out.cell (World.block_lt_of_cell? w _ hx433_1)).trans hx433_1
            replace hx433_2 := (HB.out.cell (World.block_lt_of_cell? w _ hx433_2)).trans hx433_2
            replace p433 := eq_true p433
            replace q433 := eq_true q433
            go_wp2_with (first | ((with_reducible refine gate_dst (N := 7) rfl ?_); (try (refine gate_guard (by rfl) ?_; dsimp only)); refine box_event ?hg (N := 7) ?hd (cs := #[.int .u64 0, .int .u32 0, .int .u32 0]) (t := 28) ?hr ?_; (case hd => rfl); (case hg => rfl); (case hr => first | (go_simp; done) | (go_simp; rfl)); intro gb434 hg w21 hbox hb; have BK434 := Aside0.mk (hbox); have GW434 := bels HB hg; have GE434 := bels HB hg; have NB426_434 := blkl BK426 hg; have NB434_426 := blkg BK426 hg; replace BK426 := blkb BK426 hb; replace HB := belb HB hb; clear hb hbox hg; have hnb22 := NB434_426.out; have hnc22 := NB426_434.out; have hcz23_0 : w21.cell? ⟨gb434, 0, none⟩ = some (.int .u64 0) := (blk_cell BK434.out 0).trans rfl; have hcz23_1 : w21.cell? ⟨gb434, 1, none⟩ = some (.int .u32 0) := (blk_cell BK434.out 1).trans rfl; have hcz23_2 : w21.cell? ⟨gb434, 2, none⟩ = some (.int .u32 0) := (blk_cell BK434.out 2).trans rfl; have hfz23_0 := blk_frozen BK434.out 0; have hfz23_1 := blk_frozen BK434.out 1; have hfz23_2 := blk_frozen BK434.out 2) | ((with_reducible refine gate_callee (f := 16) rfl ?_); refine goesL_ (some 27) rfl rfl Tryz.func16 (by kernel_rfl) rfl #[.int .u64 ((rd_T28 l1 x20_2).f0), .int .u64 a0] rfl argt ?_; (with_reducible refine (vtime_Time_Since.calls ((rd_T28 l1 x20_2).f0) a0 t435 _ A11.out).mono ?_); rintro e w' ⟨rfl, ⟨nd, rfl⟩⟩; refine ⟨_, rfl, ?_⟩) | ((with_reducible refine gate_callee (f := 17) rfl ?_); refine goesL_ (some 29) rfl rfl Tryz.func17 (by kernel_rfl) rfl #[.agg #[.int .u64 ((rd_T28 l1 x20_2).f0), .int .u32 ((rd_T28 l1 x20_2).f1), .int .u32 ((rd_T28 l1 x20_2).f2)]] rfl argt ?_; (with_reducible refine (pos_Pos_Right.calls ((rd_T28 l1 x20_2).f0) ((rd_T28 l1 x20_2).f1) ((rd_T28 l1 x20_2).f2) true _ A12.out).mono ?_); rintro e w24 ⟨rfl, hb⟩; refine ⟨_, rfl, ?_⟩; replace BK426 := Aside0.mk (blk_below (g := gb426) (o := .cells #[.int .u64 x427000_2, .int .i64 x427001_2, .int .u64 x427002_2, .int .u64 x427003_2, .int .i64 x427004_2] 33 (0, 0)) (by (with_reducible repeat (first | refine blk_drewN ?_ _ | refine blk_drew ?_ | refine blk_alloc ?_ _)); refine blk_far ?_ NB426_434.out _; (with_reducible repeat (first | refine blk_drewN ?_ _ | refine blk_drew ?_ | refine blk_alloc ?_ _)); refine blk_far ?_ NB426_434.out _; (with_reducible repeat (first | refine blk_drewN ?_ _ | refine blk_drew ?_ | refine blk_alloc ?_ _)); refine blk_far ?_ NB426_434.out _; exact blkt BK426) hb); replace BK434 := Aside0.mk (blk_below (g := gb434) (o := .cells #[.int .u64 ((rd_T28 l1 x20_2).f0), .int .u32 ((rd_T28 l1 x20_2).f1), .int .u32 ((rd_T28 l1 x20_2).f2)] 28 (0, 0)) (by (with_reducible repeat (first | refine blk_drewN ?_ _ | refine blk_drew ?_ | refine blk_alloc ?_ _)); refine blk_put (cs := #[.int .u64 ((rd_T28 l1 x20_2).f0), .int .u32 ((rd_T28 l1 x20_2).f1), .int .u32 0]) ?_ 2 _ rfl; (with_reducible repeat (first | refine blk_drewN ?_ _ | refine blk_drew ?_ | refine blk_alloc ?_ _)); refine blk_put (cs := #[.int .u64 ((rd_T28 l1 x20_2).f0), .int .u32 0, .int .u32 0]) ?_ 1 _ rfl; (with_reducible repeat (first | refine blk_drewN ?_ _ | refine blk_drew ?_ | refine blk_alloc ?_ _)); refine blk_put (cs := #[.int .u64 0, .int .u32 0, .int .u32 0]) ?_ 0 _ rfl; exact blkt BK434) hb); replace HB := belb HB hb; (try clear hb); (try clear hb2); (try clear hk); (try clear hi); have hcz25_0 : w24.cell? ⟨gb426, 0, none⟩ = some (.int .u64 x427000_2) := (blk_cell BK426.out 0).trans rfl; have hcz25_1 : w24.cell? ⟨gb426, 1, none⟩ = some (.int .i64 x427001_2) := (blk_cell BK426.out 1).trans rfl; have hcz25_2 : w24.cell? ⟨gb426, 2, none⟩ = some (.int .u64 x427002_2) := (blk_cell BK426.out 2).trans rfl; have hcz25_3 : w24.cell? ⟨gb426, 3, none⟩ = some (.int .u64 x427003_2) := (blk_cell BK426.out 3).trans rfl; have hcz25_4 : w24.cell? ⟨gb426, 4, none⟩ = some (.int .i64 x427004_2) := (blk_cell BK426.out 4).trans rfl; have hfz25_0 := blk_frozen BK426.out 0; have hfz25_1 := blk_frozen BK426.out 1; have hfz25_2 := blk_frozen BK426.out 2; have hfz25_3 := blk_frozen BK426.out 3; have hfz25_4 := blk_frozen BK426.out 4))
            refine bodyPost_ret (results_ct rfl _ _ gb426 33 #[.int .u64 0, .int .i64 0, .int .u64 0, .int .u64 0, .int .i64 0] (0, 0) _ rfl (by (with_reducible repeat (first | refine blk_drewN ?_ _ | refine blk_drew ?_ | refine blk_alloc ?_ _)); refine blk_put (cs := #[.int .u64 0, .int .i64 0, .int .u64 0, .int .u64 0, .int .i64 x427004_2]) ?_ 4 _ rfl; (with_reducible repeat (first | refine blk_drewN ?_ _ | refine blk_drew ?_ | refine blk_alloc ?_ _)); refine blk_put (cs := #[.int .u64 0, .int .i64 0, .int .u64 0, .int .u64 x427003_2, .int .i64 x427004_2]) ?_ 3 _ rfl; (with_reducible repeat (first | refine blk_drewN ?_ _ | refine blk_drew ?_ | refine blk_alloc ?_ _)); refine blk_put (cs := #[.int .u64 0, .int .i64 0, .int .u64 x427002_2, .int .u64 x427003_2, .int .i64 x427004_2]) ?_ 2 _ rfl; (with_reducible repeat (first | refine blk_drewN ?_ _ | refine blk_drew ?_ | refine blk_alloc ?_ _)); refine blk_put (cs := #[.int .u64 0, .int .i64 x427001_2, .int .u64 x427002_2, .int .u64 x427003_2, .int .i64 x427004_2]) ?_ 1 _ rfl; (with_reducible repeat (first | refine blk_drewN ?_ _ | refine blk_drew ?_ | refine blk_alloc ?_ _)); refine blk_put (cs := #[.int .u64 x427000_2, .int .i64 x427001_2, .int .u64 x427002_2, .int .u64 x427003_2, .int .i64 x427004_2]) ?_ 0 _ rfl; exact blkt BK426) Tryz.underlying33 rfl (by kernel_rfl)) rfl ?_
            exact ⟨by first | rfl | (simp [errW_none, errW_some] <;> rfl) | (simp [*, errW_none, errW_some] <;> rfl), belt HB⟩
           ·rw [if_neg c20] at H
            have c20b0 : decide (576460752303423488 ≤ t435) = false := decide_eq_false c20
            clear c20
            have H' := Aside0.mk H
            clear H
            have p433 : 0 ≤ (x20_2 : Int) := of_decide_eq_true (by first | (with_reducible assumption) | assumption)
            have q433 : x20_2 < (l1.length : Int) := of_decide_eq_true (by first | (with_reducible assumption) | assumption)
            obtain ⟨ad433, e433, hx433_0, hx433_1, hx433_2⟩ := at_T28 HR1.out x20_2 p433 q433
            cases e433
            replace hx433_0 := (HB.out.cell (World.block_lt_of_cell? w _ hx433_0)).trans hx433_0
            replace hx433_1 := (HB.out.cell (World.block_lt_of_cell? w _ hx433_1)).trans hx433_1
            replace hx433_2 := (HB.out.cell (World.block_lt_of_cell? w _ hx433_2)).trans hx433_2
            replace p433 := eq_true p433
            replace q433 := eq_true q433
            go_wp2_with (first | ((with_reducible refine gate_dst (N := 7) rfl ?_); (try (refine gate_guard (by rfl) ?_; dsimp only)); refine box_event ?hg (N := 7) ?hd (cs := #[.int .u64 0, .int .u32 0, .int .u32 0]) (t := 28) ?hr ?_; (case hd => rfl); (case hg => rfl); (case hr => first | (go_simp; done) | (go_simp; rfl)); intro gb434 hg w26 hbox hb; have BK434 := Aside0.mk (hbox); have GW434 := bels HB hg; have GE434 := bels HB hg; have NB426_434 := blkl BK426 hg; have NB434_426 := blkg BK426 hg; replace BK426 := blkb BK426 hb; replace HB := belb HB hb; clear hb hbox hg; have hnb27 := NB434_426.out; have hnc27 := NB426_434.out; have hcz28_0 : w26.cell? ⟨gb434, 0, none⟩ = some (.int .u64 0) := (blk_cell BK434.out 0).trans rfl; have hcz28_1 : w26.cell? ⟨gb434, 1, none⟩ = some (.int .u32 0) := (blk_cell BK434.out 1).trans rfl; have hcz28_2 : w26.cell? ⟨gb434, 2, none⟩ = some (.int .u32 0) := (blk_cell BK434.out 2).trans rfl; have hfz28_0 := blk_frozen BK434.out 0; have hfz28_1 := blk_frozen BK434.out 1; have hfz28_2 := blk_frozen BK434.out 2) | ((with_reducible refine gate_callee (f := 16) rfl ?_); refine goesL_ (some 27) rfl rfl Tryz.func16 (by kernel_rfl) rfl #[.int .u64 ((rd_T28 l1 x20_2).f0), .int .u64 a0] rfl argt ?_; (with_reducible refine (vtime_Time_Since.calls ((rd_T28 l1 x20_2).f0) a0 t435 _ A11.out).mono ?_); rintro e w' ⟨rfl, ⟨nd, rfl⟩⟩; refine ⟨_, rfl, ?_⟩) | ((with_reducible refine gate_callee (f := 17) rfl ?_); refine goesL_ (some 29) rfl rfl Tryz.func17 (by kernel_rfl) rfl #[.agg #[.int .u64 ((rd_T28 l1 x20_2).f0), .int .u32 ((rd_T28 l1 x20_2).f1), .int .u32 ((rd_T28 l1 x20_2).f2)]] rfl argt ?_; (with_reducible refine (pos_Pos_Right.calls ((rd_T28 l1 x20_2).f0) ((rd_T28 l1 x20_2).f1) ((rd_T28 l1 x20_2).f2) true _ A12.out).mono ?_); rintro e w29 ⟨rfl, hb⟩; refine ⟨_, rfl, ?_⟩; replace BK426 := Aside0.mk (blk_below (g := gb426) (o := .cells #[.int .u64 x427000_2, .int .i64 x427001_2, .int .u64 x427002_2, .int .u64 x427003_2, .int .i64 x427004_2] 33 (0, 0)) (by (with_reducible repeat (first | refine blk_drewN ?_ _ | refine blk_drew ?_ | refine blk_alloc ?_ _)); refine blk_far ?_ NB426_434.out _; (with_reducible repeat (first | refine blk_drewN ?_ _ | refine blk_drew ?_ | refine blk_alloc ?_ _)); refine blk_far ?_ NB426_434.out _; (with_reducible repeat (first | refine blk_drewN ?_ _ | refine blk_drew ?_ | refine blk_alloc ?_ _)); refine blk_far ?_ NB426_434.out _; exact blkt BK426) hb); replace BK434 := Aside0.mk (blk_below (g := gb434) (o := .cells #[.int .u64 ((rd_T28 l1 x20_2).f0), .int .u32 ((rd_T28 l1 x20_2).f1), .int .u32 ((rd_T28 l1 x20_2).f2)] 28 (0, 0)) (by (with_reducible repeat (first | refine blk_drewN ?_ _ | refine blk_drew ?_ | refine blk_alloc ?_ _)); refine blk_put (cs := #[.int .u64 ((rd_T28 l1 x20_2).f0), .int .u32 ((rd_T28 l1 x20_2).f1), .int .u32 0]) ?_ 2 _ rfl; (with_reducible repeat (first | refine blk_drewN ?_ _ | refine blk_drew ?_ | refine blk_alloc ?_ _)); refine blk_put (cs := #[.int .u64 ((rd_T28 l1 x20_2).f0), .int .u32 0, .int .u32 0]) ?_ 1 _ rfl; (with_reducible repeat (first | refine blk_drewN ?_ _ | refine blk_drew ?_ | refine blk_alloc ?_ _)); refine blk_put (cs := #[.int .u64 0, .int .u32 0, .int .u32 0]) ?_ 0 _ rfl; exact blkt BK434) hb); replace HB := belb HB hb; (try clear hb); (try clear hb2); (try clear hk); (try clear hi)))
            go_roundg k2
            case measure => have := HJ2.out; have := HK2.out; omega
            case rel => exact ⟨(wrap64 (x20_2 + 1)), (x427000_2), (x427001_2), (x427002_2), (x427003_2), (x427004_2), (by first | rfl | (simp; done) | (simp [*]; done)), H', ⟨by have := HJ2.out; have := HK2.out; omega⟩, ⟨blkt BK426⟩, ⟨belt HB⟩⟩
         ·replace c13 := Bool.eq_false_iff.mpr c13
          subst c13
          have H1 : (some (0, 0, 0, 0, 0, false)) = some (r1, r2, r3, r4, r5, r6) := by rw [if_neg (show ¬ (false = true) by decide)] at H; exact H
          clear H
          have H := H1
          clear H1
          simp only [Option.some.injEq, Prod.mk.injEq] at H
          obtain ⟨rfl, rfl, rfl, rfl, rfl, rfl⟩ := H
          have p433 : 0 ≤ (x20_2 : Int) := of_decide_eq_true (by first | (with_reducible assumption) | assumption)
          have q433 : x20_2 < (l1.length : Int) := of_decide_eq_true (by first | (with_reducible assumption) | assumption)
          obtain ⟨ad433, e433, hx433_0, hx433_1, hx433_2⟩ := at_T28 HR1.out x20_2 p433 q433
          cases e433
          replace hx433_0 := (HB.out.cell (World.block_lt_of_cell? w _ hx433_0)).trans hx433_0
          replace hx433_1 := (HB.out.cell (World.block_lt_of_cell? w _ hx433_1)).trans hx433_1
          replace hx433_2 := (HB.out.cell (World.block_lt_of_cell? w _ hx433_2)).trans hx433_2
          replace p433 := eq_true p433
          replace q433 := eq_true q433
          go_wp2_with (first | ((with_reducible refine gate_dst (N := 7) rfl ?_); (try (refine gate_guard (by rfl) ?_; dsimp only)); refine box_event ?hg (N := 7) ?hd (cs := #[.int .u64 0, .int .u32 0, .int .u32 0]) (t := 28) ?hr ?_; (case hd => rfl); (case hg => rfl); (case hr => first | (go_simp; done) | (go_simp; rfl)); intro gb434 hg w30 hbox hb; have BK434 := Aside0.mk (hbox); have GW434 := bels HB hg; have GE434 := bels HB hg; have NB426_434 := blkl BK426 hg; have NB434_426 := blkg BK426 hg; replace BK426 := blkb BK426 hb; replace HB := belb HB hb; clear hb hbox hg; have hnb31 := NB434_426.out; have hnc31 := NB426_434.out; have hcz32_0 : w30.cell? ⟨gb434, 0, none⟩ = some (.int .u64 0) := (blk_cell BK434.out 0).trans rfl; have hcz32_1 : w30.cell? ⟨gb434, 1, none⟩ = some (.int .u32 0) := (blk_cell BK434.out 1).trans rfl; have hcz32_2 : w30.cell? ⟨gb434, 2, none⟩ = some (.int .u32 0) := (blk_cell BK434.out 2).trans rfl; have hfz32_0 := blk_frozen BK434.out 0; have hfz32_1 := blk_frozen BK434.out 1; have hfz32_2 := blk_frozen BK434.out 2) | ((with_reducible refine gate_callee (f := 16) rfl ?_); refine goesL_ (some 27) rfl rfl Tryz.func16 (by kernel_rfl) rfl #[.int .u64 ((rd_T28 l1 x20_2).f0), .int .u64 a0] rfl argt ?_; (with_reducible refine (vtime_Time_Since.calls ((rd_T28 l1 x20_2).f0) a0 t435 _ A11.out).mono ?_); rintro e w' ⟨rfl, ⟨nd, rfl⟩⟩; refine ⟨_, rfl, ?_⟩) | ((with_reducible refine gate_callee (f := 17) rfl ?_); refine goesL_ (some 29) rfl rfl Tryz.func17 (by kernel_rfl) rfl #[.agg #[.int .u64 ((rd_T28 l1 x20_2).f0), .int .u32 ((rd_T28 l1 x20_2).f1), .int .u32 ((rd_T28 l1 x20_2).f2)]] rfl argt ?_; (with_reducible refine (pos_Pos_Right.calls ((rd_T28 l1 x20_2).f0) ((rd_T28 l1 x20_2).f1) ((rd_T28 l1 x20_2).f2) false _ A12.out).mono ?_); rintro e w33 ⟨rfl, hb⟩; refine ⟨_, rfl, ?_⟩; replace BK426 := Aside0.mk (blk_below (g := gb426) (o := .cells #[.int .u64 x427000_2, .int .i64 x427001_2, .int .u64 x427002_2, .int .u64 x427003_2, .int .i64 x427004_2] 33 (0, 0)) (by (with_reducible repeat (first | refine blk_drewN ?_ _ | refine blk_drew ?_ | refine blk_alloc ?_ _)); refine blk_far ?_ NB426_434.out _; (with_reducible repeat (first | refine blk_drewN ?_ _ | refine blk_drew ?_ | refine blk_alloc ?_ _)); refine blk_far ?_ NB426_434.out _; (with_reducible repeat (first | refine blk_drewN ?_ _ | refine blk_drew ?_ | refine blk_alloc ?_ _)); refine blk_far ?_ NB426_434.out _; exact blkt BK426) hb); replace BK434 := Aside0.mk (blk_below (g := gb434) (o := .cells #[.int .u64 ((rd_T28 l1 x20_2).f0), .int .u32 ((rd_T28 l1 x20_2).f1), .int .u32 ((rd_T28 l1 x20_2).f2)] 28 (0, 0)) (by (with_reducible repeat (first | refine blk_drewN ?_ _ | refine blk_drew ?_ | refine blk_alloc ?_ _)); refine blk_put (cs := #[.int .u64 ((rd_T28 l1 x20_2).f0), .int .u32 ((rd_T28 l1 x20_2).f1), .int .u32 0]) ?_ 2 _ rfl; (with_reducible repeat (first | refine blk_drewN ?_ _ | refine blk_drew ?_ | refine blk_alloc ?_ _)); refine blk_put (cs := #[.int .u64 ((rd_T28 l1 x20_2).f0), .int .u32 0, .int .u32 0]) ?_ 1 _ rfl; (with_reducible repeat (first | refine blk_drewN ?_ _ | refine blk_drew ?_ | refine blk_alloc ?_ _)); refine blk_put (cs := #[.int .u64 0, .int .u32 0, .int .u32 0]) ?_ 0 _ rfl; exact blkt BK434) hb); replace HB := belb HB hb; (try clear hb); (try clear hb2); (try clear hk); (try clear hi); have hcz34_0 : w33.cell? ⟨gb426, 0, none⟩ = some (.int .u64 x427000_2) := (blk_cell BK426.out 0).trans rfl; have hcz34_1 : w33.cell? ⟨gb426, 1, none⟩ = some (.int .i64 x427001_2) := (blk_cell BK426.out 1).trans rfl; have hcz34_2 : w33.cell? ⟨gb426, 2, none⟩ = some (.int .u64 x427002_2) := (blk_cell BK426.out 2).trans rfl; have hcz34_3 : w33.cell? ⟨gb426, 3, none⟩ = some (.int .u64 x427003_2) := (blk_cell BK426.out 3).trans rfl; have hcz34_4 : w33.cell? ⟨gb426, 4, none⟩ = some (.int .i64 x427004_2) := (blk_cell BK426.out 4).trans rfl; have hfz34_0 := blk_frozen BK426.out 0; have hfz34_1 := blk_frozen BK426.out 1; have hfz34_2 := blk_frozen BK426.out 2; have hfz34_3 := blk_frozen BK426.out 3; have hfz34_4 := blk_frozen BK426.out 4))
          refine bodyPost_ret (results_ct rfl _ _ gb426 33 #[.int .u64 0, .int .i64 0, .int .u64 0, .int .u64 0, .int .i64 0] (0, 0) _ rfl (by (with_reducible repeat (first | refine blk_drewN ?_ _ | refine blk_drew ?_ | refine blk_alloc ?_ _)); refine blk_put (cs := #[.int .u64 0, .int .i64 0, .int .u64 0, .int .u64 0, .int .i64 x427004_2]) ?_ 4 _ rfl; (with_reducible repeat (first | refine blk_drewN ?_ _ | refine blk_drew ?_ | refine blk_alloc ?_ _)); refine blk_put (cs := #[.int .u64 0, .int .i64 0, .int .u64 0, .int .u64 x427003_2, .int .i64 x427004_2]) ?_ 3 _ rfl; (with_reducible repeat (first | refine blk_drewN ?_ _ | refine blk_drew ?_ | refine blk_alloc ?_ _)); refine blk_put (cs := #[.int .u64 0, .int .i64 0, .int .u64 x427002_2, .int .u64 x427003_2, .int .i64 x427004_2]) ?_ 2 _ rfl; (with_reducible repeat (first | refine blk_drewN ?_ _ | refine blk_drew ?_ | refine blk_alloc ?_ _)); refine blk_put (cs := #[.int .u64 0, .int .i64 x427001_2, .int .u64 x427002_2, .int .u64 x427003_2, .int .i64 x427004_2]) ?_ 1 _ rfl; (with_reducible repeat (first | refine blk_drewN ?_ _ | refine blk_drew ?_ | refine blk_alloc ?_ _)); refine blk_put (cs := #[.int .u64 x427000_2, .int .i64 x427001_2, .int .u64 x427002_2, .int .u64 x427003_2, .int .i64 x427004_2]) ?_ 0 _ rfl; exact blkt BK426) Tryz.underlying33 rfl (by kernel_rfl)) rfl ?_
          exact ⟨by first | rfl | (simp [errW_none, errW_some] <;> rfl) | (simp [*, errW_none, errW_some] <;> rfl), belt HB⟩
        ·rw [if_neg c10] at H
         exact absurd H (by simp)
       ·rw [if_neg c9] at H
        exact absurd H (by simp)
      ·rw [if_neg c8] at H
       have c8b0 : decide (x20_2 < (l1.length : Int)) = false := decide_eq_false c8
       clear c8
       replace H := Option.bind_eq_some_iff.mp H
       obtain ⟨⟨t427, t428, t429, t430, t431, t432⟩, A350, H⟩ := H
       replace H : (some (t427, t428, t429, t430, t431, t432)) = some (r1, r2, r3, r4, r5, r6) := H
       have A35 := Aside0.mk A350
       clear A350
       simp only [Option.some.injEq, Prod.mk.injEq] at H
       obtain ⟨rfl, rfl, rfl, rfl, rfl, rfl⟩ := H
       go_wp2_with (first | ((with_reducible refine gate_callee (f := 18) rfl ?_); refine goesL_ (some 43) rfl rfl Tryz.func18 (by kernel_rfl) rfl #[.int .u64 a0, .slice A1 l1.length c1] rfl argt ?_; (with_reducible refine (mean_Of.calls k2 a0 _ _ l1 t427 t428 t429 t430 t431 t432 _ ?side1 ?side2 A35.out).mono ?_); (case side1 => exact (ct (Kd.C_below HR1.out HB.out))); (case side2 => exact HC1.out); rintro e w36 ⟨rfl, hb⟩; refine ⟨_, rfl, ?_⟩; replace BK426 := blkb BK426 hb; replace HB := belb HB hb; (try clear hb); (try clear hb2); (try clear hk); (try clear hi); have hcz37_0 : w36.cell? ⟨gb426, 0, none⟩ = some (.int .u64 x427000_2) := (blk_cell BK426.out 0).trans rfl; have hcz37_1 : w36.cell? ⟨gb426, 1, none⟩ = some (.int .i64 x427001_2) := (blk_cell BK426.out 1).trans rfl; have hcz37_2 : w36.cell? ⟨gb426, 2, none⟩ = some (.int .u64 x427002_2) := (blk_cell BK426.out 2).trans rfl; have hcz37_3 : w36.cell? ⟨gb426, 3, none⟩ = some (.int .u64 x427003_2) := (blk_cell BK426.out 3).trans rfl; have hcz37_4 : w36.cell? ⟨gb426, 4, none⟩ = some (.int .i64 x427004_2) := (blk_cell BK426.out 4).trans rfl; have hfz37_0 := blk_frozen BK426.out 0; have hfz37_1 := blk_frozen BK426.out 1; have hfz37_2 := blk_frozen BK426.out 2; have hfz37_3 := blk_frozen BK426.out 3; have hfz37_4 := blk_frozen BK426.out 4))
       refine bodyPost_ret (results_ct rfl _ _ gb426 33 #[.int .u64 t427, .int .i64 t428, .int .u64 t429, .int .u64 t430, .int .i64 t431] (0, 0) _ rfl (by (with_reducible repeat (first | refine blk_drewN ?_ _ | refine blk_drew ?_ | refine blk_alloc ?_ _)); refine blk_put (cs := #[.int .u64 t427, .int .i64 t428, .int .u64 t429, .int .u64 t430, .int .i64 x427004_2]) ?_ 4 _ rfl; (with_reducible repeat (first | refine blk_drewN ?_ _ | refine blk_drew ?_ | refine blk_alloc ?_ _)); refine blk_put (cs := #[.int .u64 t427, .int .i64 t428, .int .u64 t429, .int .u64 x427003_2, .int .i64 x427004_2]) ?_ 3 _ rfl; (with_reducible repeat (first | refine blk_drewN ?_ _ | refine blk_drew ?_ | refine blk_alloc ?_ _)); refine blk_put (cs := #[.int .u64 t427, .int .i64 t428, .int .u64 x427002_2, .int .u64 x427003_2, .int .i64 x427004_2]) ?_ 2 _ rfl; (with_reducible repeat (first | refine blk_drewN ?_ _ | refine blk_drew ?_ | refine blk_alloc ?_ _)); refine blk_put (cs := #[.int .u64 t427, .int .i64 x427001_2, .int .u64 x427002_2, .int .u64 x427003_2, .int .i64 x427004_2]) ?_ 1 _ rfl; (with_reducible repeat (first | refine blk_drewN ?_ _ | refine blk_drew ?_ | refine blk_alloc ?_ _)); refine blk_put (cs := #[.int .u64 x427000_2, .int .i64 x427001_2, .int .u64 x427002_2, .int .u64 x427003_2, .int .i64 x427004_2]) ?_ 0 _ rfl; exact blkt BK426) Tryz.underlying33 rfl (by kernel_rfl)) rfl ?_
       exact ⟨by first | rfl | (simp [errW_none, errW_some] <;> rfl) | (simp [*, errW_none, errW_some] <;> rfl), belt HB⟩

end Go.Proofs.YtfbkamgdkdnpoaaGreatDoor.Print
