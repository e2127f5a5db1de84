/- What each Go function that is named below answers, as a Lean function, and that its walk comes to just that: for whatever arguments that function gives an answer for. Written by a program of this session (wip/mkpr.py, pr.sh). -/
import Derived.Test.YtfbkamgdkdnpoaaGreatDoorPrint1000
import Derived.Test.YtfbkamgdkdnpoaaGreatDoorPrint1001
namespace Go.Proofs.YtfbkamgdkdnpoaaGreatDoor.Print
open Go.RowKit Go.Proofs.YtfbkamgdkdnpoaaGreatDoorW.PrintWords Go.Proofs.YtfbkamgdkdnpoaaGreatDoorW.PrintLast Go.Proofs.YtfbkamgdkdnpoaaGreatDoorW.PrintMore
attribute [local go_sem] max2_int min2_int max_two min_two max_three min_three max_four min_four   -- for this text's walks alone
open Go.Proofs.YtfbkamgdkdnpoaaGreatDoor.Bits Go.Proofs.YtfbkamgdkdnpoaaGreatDoor.Short
attribute [local go_sem] add64_run0 sub64_run0 add64_run sub64_run
set_option linter.unusedVariables false
set_option linter.unusedSimpArgs false

/-! ### lag_over: function 55 -/
def lag_over.j0 : Nat → Bool → Int → Int → Int → Int → Int → Int → Int → Int → Option (Int × Int × Bool)
 | 0, _, _, _, _, _, _, _, _, _ => none
 | k + 1, x24, x176000, x176001, x176002, x176003, x176004, x177000, x177001, x177002 => if x24 = true then (some (0, 0, false)) else ((wide_Int_Mul.f k x176001 x176002 (wrap64 (x177002))).bind fun bt180 => ((pos_Pos_Distance.f k x177000 x177001 x177002 x176000).bind fun bt184 => ((wide_Int_Mul.f k bt184.1 bt184.2 (wrap64 (x176003))).bind fun bt186 => ((wide_Int_Sub.f bt180.1 bt180.2.1 bt186.1 bt186.2.1).bind fun bt190 => (if bt180.2.2 = true then (if bt186.2.2 = true then (if bt190.2.2 = true then (some (bt190.1, bt190.2.1, true)) else (some (0, 0, false))) else (some (0, 0, false))) else (some (0, 0, false)))))))
def lag_over.f (k : Nat) (a0_0 : Int) (a0_1 : Int) (a0_2 : Int) (a0_3 : Int) (a0_4 : Int) (a1_0 : Int) (a1_1 : Int) (a1_2 : Int) : Option (Int × Int × Bool) := (mean_Mean_Right.f a0_0 a0_1 a0_2 a0_3 a0_4).bind fun t178 => (if t178 = true then (if a0_4 = 0 then (lag_over.j0 k true a0_0 a0_1 a0_2 a0_3 a0_4 a1_0 a1_1 a1_2) else ((pos_Pos_Right.f a1_0 a1_1 a1_2).bind fun t179 => (lag_over.j0 k (!t179) a0_0 a0_1 a0_2 a0_3 a0_4 a1_0 a1_1 a1_2))) else (lag_over.j0 k true a0_0 a0_1 a0_2 a0_3 a0_4 a1_0 a1_1 a1_2))
theorem lag_over.mono_l : ∀ k, (∀ y0 y1 y2 y3 y4 y5 y6 y7 y8, LeO (lag_over.j0 k y0 y1 y2 y3 y4 y5 y6 y7 y8) (lag_over.j0 (k + 1) y0 y1 y2 y3 y4 y5 y6 y7 y8))
 | 0 => fun _ _ _ _ _ _ _ _ _ r h => by simp [lag_over.j0] at h
 | k + 1 => by
  have ih0 := lag_over.mono_l k
  ·intro y0 y1 y2 y3 y4 y5 y6 y7 y8
   unfold lag_over.j0
   repeat' first
   | (with_reducible exact ih0 _ _ _ _ _ _ _ _ _)
   | (with_reducible exact pos_Pos_Distance.mono _ _ _ _ _)
   | (with_reducible exact wide_Int_Mul.mono _ _ _ _)
   | (with_reducible exact LeO.refl _)
   | (with_reducible exact LeO.none _)
   | (with_reducible refine LeO.ite ?_ ?_)
   | (with_reducible refine LeO.bind ?_ (fun _ => ?_))
   | exact ih0 _ _ _ _ _ _ _ _ _
   | exact pos_Pos_Distance.mono _ _ _ _ _
   | exact wide_Int_Mul.mono _ _ _ _
   | exact LeO.none _
   | refine LeO.ite ?_ ?_
   | refine LeO.bind ?_ (fun _ => ?_)
theorem lag_over.mono : ∀ a0 a1 a2 a3 a4 a5 a6 a7 k, LeO (lag_over.f k a0 a1 a2 a3 a4 a5 a6 a7) (lag_over.f (k + 1) a0 a1 a2 a3 a4 a5 a6 a7) := by
 intro a0 a1 a2 a3 a4 a5 a6 a7 k
 have ih0 := lag_over.mono_l k
 unfold lag_over.f
 repeat' first
   | (with_reducible exact ih0 _ _ _ _ _ _ _ _ _)
   | (with_reducible exact pos_Pos_Distance.mono _ _ _ _ _)
   | (with_reducible exact wide_Int_Mul.mono _ _ _ _)
   | (with_reducible exact LeO.refl _)
   | (with_reducible exact LeO.none _)
   | (with_reducible refine LeO.ite ?_ ?_)
   | (with_reducible refine LeO.bind ?_ (fun _ => ?_))
   | exact ih0 _ _ _ _ _ _ _ _ _
   | exact pos_Pos_Distance.mono _ _ _ _ _
   | exact wide_Int_Mul.mono _ _ _ _
   | exact LeO.none _
   | refine LeO.ite ?_ ?_
   | refine LeO.bind ?_ (fun _ => ?_)
def lag_over.T4 : Bool × List (List Nat × List Nat) := (true, [([], []), ([], []), ([1], [1]), ([0, 2], [0, 2]), ([], []), ([4], [4]), ([5], [5]), ([3, 6, 3], [3, 6]), ([7], [7]), ([8], [8]), ([8], [8]), ([], []), ([11, 9, 7, 0, 1, 2, 3, 4, 5, 6, 7, 8, 9, 11], [9, 11]), ([10, 12, 0, 1, 2, 3, 4, 5, 6, 7, 8, 9, 10, 11, 12], [10])])
def lag_over.B4 : List Nat := [0, 0, 2, 7, 0, 16, 48, 127, 255, 511, 511, 0, 3071, 8191]
theorem lag_over.tab4 : rtab .any (opsOf Tryz.f55 4) = lag_over.T4 := by kernel_rfl
theorem lag_over.bits4 : waitsOk lag_over.T4.2 lag_over.B4 = true := by kernel_rfl
set_option maxHeartbeats 8000000 in
set_option maxRecDepth 100000 in
theorem lag_over.calls (k : Nat) (a0_0 : Int) (a0_1 : Int) (a0_2 : Int) (a0_3 : Int) (a0_4 : Int) (a1_0 : Int) (a1_1 : Int) (a1_2 : Int) (r1 : Int) (r2 : Int) (r3 : Bool) (w : World) (h : lag_over.f k a0_0 a0_1 a0_2 a0_3 a0_4 a1_0 a1_1 a1_2 = some (r1, r2, r3)) :
  Calls Tryz.prog 55 #[.agg #[.int .u64 a0_0, .int .i64 a0_1, .int .u64 a0_2, .int .u64 a0_3, .int .i64 a0_4], .agg #[.int .u64 a1_0, .int .u32 a1_1, .int .u32 a1_2]] w fun e w' => e = .returned (.tuple #[.agg #[.int .i64 r1, .int .u64 r2], .bool r3]) ∧ Below w.heap.size w w' := by
 have hu33 := Tryz.underlying33
 have hu28 := Tryz.underlying28
 have hu31 := Tryz.underlying31
 have HB := Aside0.mk (Below.refl w.heap.size w)
 have H : ((mean_Mean_Right.f a0_0 a0_1 a0_2 a0_3 a0_4).bind fun t178 => (if t178 = true then (if a0_4 = 0 then (lag_over.j0 k true a0_0 a0_1 a0_2 a0_3 a0_4 a1_0 a1_1 a1_2) else ((pos_Pos_Right.f a1_0 a1_1 a1_2).bind fun t179 => (lag_over.j0 k (!t179) a0_0 a0_1 a0_2 a0_3 a0_4 a1_0 a1_1 a1_2))) else (lag_over.j0 k true a0_0 a0_1 a0_2 a0_3 a0_4 a1_0 a1_1 a1_2))) = some (r1, r2, r3) := h
 clear h
 have HC3 := Aside0.mk H
 clear H
 go_enter Tryz.func55, Tryz.ntmps55
 go_upto_region 1 with (first | ((with_reducible refine gate_dst (N := 2) rfl ?_); refine box_event ?hg (N := 2) ?hd (cs := #[.int .u64 a0_0, .int .i64 a0_1, .int .u64 a0_2, .int .u64 a0_3, .int .i64 a0_4]) (t := 33) ?hr ?_; (case hd => rfl); (case hg => rfl); (case hr => first | (go_simp; done) | (go_simp; rfl)); intro gb175 hg w4 hbox hb; have BK175 := Aside0.mk (hbox); have GW175 := bels HB hg; have GE175 := bels HB hg; replace HB := belb HB hb; clear hb hbox hg) | ((with_reducible refine gate_dst (N := 3) rfl ?_); refine box_event ?hg (N := 3) ?hd (cs := #[.int .u64 a1_0, .int .u32 a1_1, .int .u32 a1_2]) (t := 28) ?hr ?_; (case hd => rfl); (case hg => rfl); (case hr => first | (go_simp; done) | (go_simp; rfl)); intro gb176 hg w5 hbox hb; have BK176 := Aside0.mk (hbox); have GW176 := bels HB hg; have GE176 := bels HB hg; have NB175_176 := blkl BK175 hg; have NB176_175 := blkg BK175 hg; replace BK175 := blkb BK175 hb; replace HB := belb HB hb; clear hb hbox hg) | ((with_reducible refine gate_dst (N := 4) rfl ?_); refine box_event ?hg (N := 4) ?hd (cs := #[.int .i64 0, .int .u64 0]) (t := 31) ?hr ?_; (case hd => rfl); (case hg => rfl); (case hr => first | (go_simp; done) | (go_simp; rfl)); intro gb177 hg w6 hbox hb; have BK177 := Aside0.mk (hbox); have GW177 := bels HB hg; have GE177 := bels HB hg; have NB175_177 := blkl BK175 hg; have NB177_175 := blkg BK175 hg; have NB176_177 := blkl BK176 hg; have NB177_176 := blkg BK176 hg; replace BK175 := blkb BK175 hb; replace BK176 := blkb BK176 hb; replace HB := belb HB hb; clear hb hbox hg))
 (try simp only [Act.put, List.setIfInBounds_toArray, List.set_cons_zero, List.set_cons_succ])
 go_cut [24] (fun v24 wc => ∃ (kq : Nat) (x24_2 : Bool), v24 = .bool x24_2 ∧ Aside0 (lag_over.j0 kq x24_2 a0_0 a0_1 a0_2 a0_3 a0_4 a1_0 a1_1 a1_2 = some (r1, r2, r3)) ∧ Aside0 (kq ≤ k) ∧ Aside0 (wc.heap[gb175]? = some (.cells #[.int .u64 a0_0, .int .i64 a0_1, .int .u64 a0_2, .int .u64 a0_3, .int .i64 a0_4] 33 (0, 0))) ∧ Aside0 (wc.heap[gb176]? = some (.cells #[.int .u64 a1_0, .int .u32 a1_1, .int .u32 a1_2] 28 (0, 0))) ∧ Aside0 (wc.heap[gb177]? = some (.cells #[.int .i64 0, .int .u64 0] 31 (0, 0))) ∧ Aside0 (Below w.heap.size w wc))
 case first =>
  have H := HC3.out
  clear HC3
  replace H := Option.bind_eq_some_iff.mp H
  obtain ⟨t178, A70, H⟩ := H
  replace H : (if t178 = true then (if a0_4 = 0 then (lag_over.j0 k true a0_0 a0_1 a0_2 a0_3 a0_4 a1_0 a1_1 a1_2) else ((pos_Pos_Right.f a1_0 a1_1 a1_2).bind fun t179 => (lag_over.j0 k (!t179) a0_0 a0_1 a0_2 a0_3 a0_4 a1_0 a1_1 a1_2))) else (lag_over.j0 k true a0_0 a0_1 a0_2 a0_3 a0_4 a1_0 a1_1 a1_2)) = some (r1, r2, r3) := H
  have A7 := Aside0.mk A70
  clear A70
  by_cases c8 : t178 = true
  ·subst c8
   have H1 : (if a0_4 = 0 then (lag_over.j0 k true a0_0 a0_1 a0_2 a0_3 a0_4 a1_0 a1_1 a1_2) else ((pos_Pos_Right.f a1_0 a1_1 a1_2).bind fun t179 => (lag_over.j0 k (!t179) a0_0 a0_1 a0_2 a0_3 a0_4 a1_0 a1_1 a1_2))) = some (r1, r2, r3) := by rw [if_pos rfl] at H; exact H
   clear H
   have H := H1
   clear H1
   by_cases c9 : a0_4 = 0
   ·rw [if_pos c9] at H
    have c9b0 : (a0_4 == 0) = true := beq_iff_eq.mpr c9
    have c9b1 : (a0_4 != 0) = false := bne_eq_false_iff_eq.mpr c9
    clear c9
    (first | rw [c9b0] | (simp only [i64_w, i32_w]; rw [c9b0]) | skip)
    have H' := Aside0.mk H
    clear H
    have hnb10 := NB175_176.out
    have hnc10 := NB176_175.out
    have hnb11 := NB175_177.out
    have hnc11 := NB177_175.out
    have hcz12_0 : w6.cell? ⟨gb175, 0, none⟩ = some (.int .u64 a0_0) := bc BK175 0
    have hcz12_1 : w6.cell? ⟨gb175, 1, none⟩ = some (.int .i64 a0_1) := bc BK175 1
    have hcz12_2 : w6.cell? ⟨gb175, 2, none⟩ = some (.int .u64 a0_2) := bc BK175 2
    have hcz12_3 : w6.cell? ⟨gb175, 3, none⟩ = some (.int .u64 a0_3) := bc BK175 3
    have hcz12_4 : w6.cell? ⟨gb175, 4, none⟩ = some (.int .i64 a0_4) := bc BK175 4
    have hfz12_0 := blk_frozen BK175.out 0
    have hfz12_1 := blk_frozen BK175.out 1
    have hfz12_2 := blk_frozen BK175.out 2
    have hfz12_3 := blk_frozen BK175.out 3
    have hfz12_4 := blk_frozen BK175.out 4
    go_wp2_with (first | ((with_reducible refine gate_callee (f := 52) rfl ?_); refine goesL_ (some 13) rfl rfl Tryz.func52 (by kernel_rfl) rfl #[.agg #[.int .u64 a0_0, .int .i64 a0_1, .int .u64 a0_2, .int .u64 a0_3, .int .i64 a0_4]] rfl argt ?_; (with_reducible refine (mean_Mean_Right.calls a0_0 a0_1 a0_2 a0_3 a0_4 true _ A7.out).mono ?_); rintro e w13 ⟨rfl, hb⟩; refine ⟨_, rfl, ?_⟩; replace BK175 := blkb BK175 hb; replace BK176 := blkb BK176 hb; replace BK177 := blkb BK177 hb; replace HB := belb HB hb; (try clear hb); (try clear hb2); (try clear hk); (try clear hi); have hcz14_0 : w13.cell? ⟨gb175, 0, none⟩ = some (.int .u64 a0_0) := bc BK175 0; have hcz14_1 : w13.cell? ⟨gb175, 1, none⟩ = some (.int .i64 a0_1) := bc BK175 1; have hcz14_2 : w13.cell? ⟨gb175, 2, none⟩ = some (.int .u64 a0_2) := bc BK175 2; have hcz14_3 : w13.cell? ⟨gb175, 3, none⟩ = some (.int .u64 a0_3) := bc BK175 3; have hcz14_4 : w13.cell? ⟨gb175, 4, none⟩ = some (.int .i64 a0_4) := bc BK175 4; have hfz14_0 := blk_frozen BK175.out 0; have hfz14_1 := blk_frozen BK175.out 1; have hfz14_2 := blk_frozen BK175.out 2; have hfz14_3 := blk_frozen BK175.out 3; have hfz14_4 := blk_frozen BK175.out 4))
    go_meet
    case rel => exact ⟨_, (true), (by first | rfl | (simp; done) | (simp [*]; done)), H', ⟨by first | omega | exact Nat.le_refl _⟩, ⟨blkt BK175⟩, ⟨blkt BK176⟩, ⟨blkt BK177⟩, ⟨belt HB⟩⟩
   rw [if_neg c9] at H
   have c9b0 : (a0_4 == 0) = false := beq_eq_false_iff_ne.mpr c9
   have c9b1 : (a0_4 != 0) = true := bne_iff_ne.mpr c9
   (first | rw [c9b0] | (simp only [i64_w, i32_w]; rw [c9b0]) | skip)
   replace H := Option.bind_eq_some_iff.mp H
   obtain ⟨t179, A150, H⟩ := H
   replace H : (lag_over.j0 k (!t179) a0_0 a0_1 a0_2 a0_3 a0_4 a1_0 a1_1 a1_2) = some (r1, r2, r3) := H
   have A15 := Aside0.mk A150
   clear A150
   have H' := Aside0.mk H
   clear H
   have hnb16 := NB175_176.out
   have hnc16 := NB176_175.out
   have hnb17 := NB175_177.out
   have hnc17 := NB177_175.out
   have hcz18_0 : w6.cell? ⟨gb175, 0, none⟩ = some (.int .u64 a0_0) := bc BK175 0
   have hcz18_1 : w6.cell? ⟨gb175, 1, none⟩ = some (.int .i64 a0_1) := bc BK175 1
   have hcz18_2 : w6.cell? ⟨gb175, 2, none⟩ = some (.int .u64 a0_2) := bc BK175 2
   have hcz18_3 : w6.cell? ⟨gb175, 3, none⟩ = some (.int .u64 a0_3) := bc BK175 3
   have hcz18_4 : w6.cell? ⟨gb175, 4, none⟩ = some (.int .i64 a0_4) := bc BK175 4
   have hfz18_0 := blk_frozen BK175.out 0
   have hfz18_1 := blk_frozen BK175.out 1
   have hfz18_2 := blk_frozen BK175.out 2
   have hfz18_3 := blk_frozen BK175.out 3
   have hfz18_4 := blk_frozen BK175.out 4
   go_wp2_with (first | ((with_reducible refine gate_callee (f := 52) rfl ?_); refine goesL_ (some 13) rfl rfl Tryz.func52 (by kernel_rfl) rfl #[.agg #[.int .u64 a0_0, .int .i64 a0_1, .int .u64 a0_2, .int .u64 a0_3, .int .i64 a0_4]] rfl argt ?_; (with_reducible refine (mean_Mean_Right.calls a0_0 a0_1 a0_2 a0_3 a0_4 true _ A7.out).mono ?_); rintro e w19 ⟨rfl, hb⟩; refine ⟨_, rfl, ?_⟩; replace BK175 := blkb BK175 hb; replace BK176 := blkb BK176 hb; replace BK177 := blkb BK177 hb; replace HB := belb HB hb; (try clear hb); (try clear hb2); (try clear hk); (try clear hi); have hcz20_0 : w19.cell? ⟨gb175, 0, none⟩ = some (.int .u64 a0_0) := bc BK175 0; have hcz20_1 : w19.cell? ⟨gb175, 1, none⟩ = some (.int .i64 a0_1) := bc BK175 1; have hcz20_2 : w19.cell? ⟨gb175, 2, none⟩ = some (.int .u64 a0_2) := bc BK175 2; have hcz20_3 : w19.cell? ⟨gb175, 3, none⟩ = some (.int .u64 a0_3) := bc BK175 3; have hcz20_4 : w19.cell? ⟨gb175, 4, none⟩ = some (.int .i64 a0_4) := bc BK175 4; have hfz20_0 := blk_frozen BK175.out 0; have hfz20_1 := blk_frozen BK175.out 1; have hfz20_2 := blk_frozen BK175.out 2; have hfz20_3 := blk_frozen BK175.out 3; have hfz20_4 := blk_frozen BK175.out 4; have hnb21 := NB176_177.out; have hnc21 := NB177_176.out; have hcz22_0 : w19.cell? ⟨gb176, 0, none⟩ = some (.int .u64 a1_0) := bc BK176 0; have hcz22_1 : w19.cell? ⟨gb176, 1, none⟩ = some (.int .u32 a1_1) := bc BK176 1; have hcz22_2 : w19.cell? ⟨gb176, 2, none⟩ = some (.int .u32 a1_2) := bc BK176 2; have hfz22_0 := blk_frozen BK176.out 0; have hfz22_1 := blk_frozen BK176.out 1; have hfz22_2 := blk_frozen BK176.out 2) | (go_at_call 17; (with_reducible refine (pos_Pos_Right.calls a1_0 a1_1 a1_2 t179 _ A15.out).mono ?_); rintro e w23 ⟨rfl, hb⟩; replace BK175 := blkb BK175 hb; replace BK176 := blkb BK176 hb; replace BK177 := blkb BK177 hb; replace HB := belb HB hb; (try clear hb); (try clear hb2); (try clear hk); (try clear hi)))
   go_meet
   case rel => exact ⟨_, (!t179), (by first | rfl | (simp; done) | (simp [*]; done)), H', ⟨by first | omega | exact Nat.le_refl _⟩, ⟨blkt BK175⟩, ⟨blkt BK176⟩, ⟨blkt BK177⟩, ⟨belt HB⟩⟩
  replace c8 := Bool.eq_false_iff.mpr c8
  subst c8
  have H1 : (lag_over.j0 k true a0_0 a0_1 a0_2 a0_3 a0_4 a1_0 a1_1 a1_2) = some (r1, r2, r3) := by rw [if_neg (show ¬ (false = true) by decide)] at H; exact H
  clear H
  have H := H1
  clear H1
  have H' := Aside0.mk H
  clear H
  have hnb24 := NB175_176.out
  have hnc24 := NB176_175.out
  have hnb25 := NB175_177.out
  have hnc25 := NB177_175.out
  have hcz26_0 : w6.cell? ⟨gb175, 0, none⟩ = some (.int .u64 a0_0) := bc BK175 0
  have hcz26_1 : w6.cell? ⟨gb175, 1, none⟩ = some (.int .i64 a0_1) := bc BK175 1
  have hcz26_2 : w6.cell? ⟨gb175, 2, none⟩ = some (.int .u64 a0_2) := bc BK175 2
  have hcz26_3 : w6.cell? ⟨gb175, 3, none⟩ = some (.int .u64 a0_3) := bc BK175 3
  have hcz26_4 : w6.cell? ⟨gb175, 4, none⟩ = some (.int .i64 a0_4) := bc BK175 4
  have hfz26_0 := blk_frozen BK175.out 0
  have hfz26_1 := blk_frozen BK175.out 1
  have hfz26_2 := blk_frozen BK175.out 2
  have hfz26_3 := blk_frozen BK175.out 3
  have hfz26_4 := blk_frozen BK175.out 4
  go_wp2_with (first | ((with_reducible refine gate_callee (f := 52) rfl ?_); refine goesL_ (some 13) rfl rfl Tryz.func52 (by kernel_rfl) rfl #[.agg #[.int .u64 a0_0, .int .i64 a0_1, .int .u64 a0_2, .int .u64 a0_3, .int .i64 a0_4]] rfl argt ?_; (with_reducible refine (mean_Mean_Right.calls a0_0 a0_1 a0_2 a0_3 a0_4 false _ A7.out).mono ?_); rintro e w27 ⟨rfl, hb⟩; refine ⟨_, rfl, ?_⟩; replace BK175 := blkb BK175 hb; replace BK176 := blkb BK176 hb; replace BK177 := blkb BK177 hb; replace HB := belb HB hb; (try clear hb); (try clear hb2); (try clear hk); (try clear hi)))
  go_meet
  case rel => exact ⟨_, (true), (by first | rfl | (simp; done) | (simp [*]; done)), H', ⟨by first | omega | exact Nat.le_refl _⟩, ⟨blkt BK175⟩, ⟨blkt BK176⟩, ⟨blkt BK177⟩, ⟨belt HB⟩⟩
 case rest =>
  clear HC3
  try clear c1
  try clear c2
  try clear p2
  try clear c5
  try clear c8
  try clear c9
  try clear c9b0
  try clear c9b1
  try clear c10
  try clear c11
  try clear c16
  try clear c17
  try clear c21
  try clear c24
  try clear c25
  try clear hcz12_0
  try clear hcz12_1
  try clear hcz12_2
  try clear hcz12_3
  try clear hcz12_4
  try clear hcz14_0
  try clear hcz14_1
  try clear hcz14_2
  try clear hcz14_3
  try clear hcz14_4
  try clear hcz18_0
  try clear hcz18_1
  try clear hcz18_2
  try clear hcz18_3
  try clear hcz18_4
  try clear hcz20_0
  try clear hcz20_1
  try clear hcz20_2
  try clear hcz20_3
  try clear hcz20_4
  try clear hcz22_0
  try clear hcz22_1
  try clear hcz22_2
  try clear hcz26_0
  try clear hcz26_1
  try clear hcz26_2
  try clear hcz26_3
  try clear hcz26_4
  try clear hfz12_0
  try clear hfz12_1
  try clear hfz12_2
  try clear hfz12_3
  try clear hfz12_4
  try clear hfz14_0
  try clear hfz14_1
  try clear hfz14_2
  try clear hfz14_3
  try clear hfz14_4
  try clear hfz18_0
  try clear hfz18_1
  try clear hfz18_2
  try clear hfz18_3
  try clear hfz18_4
  try clear hfz20_0
  try clear hfz20_1
  try clear hfz20_2
  try clear hfz20_3
  try clear hfz20_4
  try clear hfz22_0
  try clear hfz22_1
  try clear hfz22_2
  try clear hfz26_0
  try clear hfz26_1
  try clear hfz26_2
  try clear hfz26_3
  try clear hfz26_4
  obtain ⟨kq, x24_2, rfl, HA, HJ2, BK175, BK176, BK177, HB⟩ := hcut
  cases kq with
  | zero => exact absurd HA.out (by simp [lag_over.j0])
  | succ kj2 =>
   have H := HA.out
   clear HA
   simp only [lag_over.j0] at H
   by_cases c28 : x24_2 = true
   ·subst c28
    have H1 : (some (0, 0, false)) = some (r1, r2, r3) := by rw [if_pos rfl] at H; exact H
    clear H
    have H := H1
    clear H1
    simp only [Option.some.injEq, Prod.mk.injEq] at H
    obtain ⟨rfl, rfl, rfl⟩ := H
    have hnb29 := NB177_175.out
    have hnc29 := NB175_177.out
    have hnb30 := NB177_176.out
    have hnc30 := NB176_177.out
    have hcz31_0 : wc.cell? ⟨gb177, 0, none⟩ = some (.int .i64 0) := bc BK177 0
    have hcz31_1 : wc.cell? ⟨gb177, 1, none⟩ = some (.int .u64 0) := bc BK177 1
    have hfz31_0 := blk_frozen BK177.out 0
    have hfz31_1 := blk_frozen BK177.out 1
    go_wp2
    refine bodyPost_ret (results_ct rfl _ _ gb177 31 #[.int .i64 0, .int .u64 0] (0, 0) _ rfl (by (with_reducible repeat (first | refine blk_drewN ?_ _ | refine blk_drew ?_ | refine blk_alloc ?_ _)); refine blk_put (cs := #[.int .i64 0, .int .u64 0]) ?_ 1 _ rfl; (with_reducible repeat (first | refine blk_drewN ?_ _ | refine blk_drew ?_ | refine blk_alloc ?_ _)); refine blk_put (cs := #[.int .i64 0, .int .u64 0]) ?_ 0 _ rfl; exact blkt BK177) Tryz.underlying31 rfl (by kernel_rfl)) rfl ?_
    exact ⟨by first | rfl | (simp [errW_none, errW_some] <;> rfl) | (simp [*, errW_none, errW_some] <;> rfl), belt HB⟩
   replace c28 := Bool.eq_false_iff.mpr c28
   subst c28
   have H1 : ((wide_Int_Mul.f kj2 a0_1 a0_2 (wrap64 (a1_2))).bind fun bt180 => ((pos_Pos_Distance.f kj2 a1_0 a1_1 a1_2 a0_0).bind fun bt184 => ((wide_Int_Mul.f kj2 bt184.1 bt184.2 (wrap64 (a0_3))).bind fun bt186 => ((wide_Int_Sub.f bt180.1 bt180.2.1 bt186.1 bt186.2.1).bind fun bt190 => (if bt180.2.2 = true then (if bt186.2.2 = true then (if bt190.2.2 = true then (some (bt190.1, bt190.2.1, true)) else (some (0, 0, false))) else (some (0, 0, false))) else (some (0, 0, false))))))) = some (r1, r2, r3) := by rw [if_neg (show ¬ (false = true) by decide)] at H; exact H
   clear H
   have H := H1
   clear H1
   replace H := Option.bind_eq_some_iff.mp H
   obtain ⟨⟨t180, t181, t182⟩, A320, H⟩ := H
   replace H : ((pos_Pos_Distance.f kj2 a1_0 a1_1 a1_2 a0_0).bind fun bt184 => ((wide_Int_Mul.f kj2 bt184.1 bt184.2 (wrap64 (a0_3))).bind fun bt186 => ((wide_Int_Sub.f t180 t181 bt186.1 bt186.2.1).bind fun bt190 => (if t182 = true then (if bt186.2.2 = true then (if bt190.2.2 = true then (some (bt190.1, bt190.2.1, true)) else (some (0, 0, false))) else (some (0, 0, false))) else (some (0, 0, false)))))) = some (r1, r2, r3) := H
   have A32 := Aside0.mk A320
   clear A320
   replace H := Option.bind_eq_some_iff.mp H
   obtain ⟨⟨t184, t185⟩, A330, H⟩ := H
   replace H : ((wide_Int_Mul.f kj2 t184 t185 (wrap64 (a0_3))).bind fun bt186 => ((wide_Int_Sub.f t180 t181 bt186.1 bt186.2.1).bind fun bt190 => (if t182 = true then (if bt186.2.2 = true then (if bt190.2.2 = true then (some (bt190.1, bt190.2.1, true)) else (some (0, 0, false))) else (some (0, 0, false))) else (some (0, 0, false))))) = some (r1, r2, r3) := H
   have A33 := Aside0.mk A330
   clear A330
   replace H := Option.bind_eq_some_iff.mp H
   obtain ⟨⟨t186, t187, t188⟩, A340, H⟩ := H
   replace H : ((wide_Int_Sub.f t180 t181 t186 t187).bind fun bt190 => (if t182 = true then (if t188 = true then (if bt190.2.2 = true then (some (bt190.1, bt190.2.1, true)) else (some (0, 0, false))) else (some (0, 0, false))) else (some (0, 0, false)))) = some (r1, r2, r3) := H
   have A34 := Aside0.mk A340
   clear A340
   replace H := Option.bind_eq_some_iff.mp H
   obtain ⟨⟨t190, t191, t192⟩, A350, H⟩ := H
   replace H : (if t182 = true then (if t188 = true then (if t192 = true then (some (t190, t191, true)) else (some (0, 0, false))) else (some (0, 0, false))) else (some (0, 0, false))) = some (r1, r2, r3) := H
   have A35 := Aside0.mk A350
   clear A350
   by_cases c36 : t182 = true
   ·subst c36
    have H1 : (if t188 = true then (if t192 = true then (some (t190, t191, true)) else (some (0, 0, false))) else (some (0, 0, false))) = some (r1, r2, r3) := by rw [if_pos rfl] at H; exact H
    clear H
    have H := H1
    clear H1
    by_cases c37 : t188 = true
    ·subst c37
     have H1 : (if t192 = true then (some (t190, t191, true)) else (some (0, 0, false))) = some (r1, r2, r3) := by rw [if_pos rfl] at H; exact H
     clear H
     have H := H1
     clear H1
     by_cases c38 : t192 = true
     ·subst c38
      have H1 : (some (t190, t191, true)) = some (r1, r2, r3) := by rw [if_pos rfl] at H; exact H
      clear H
      have H := H1
      clear H1
      simp only [Option.some.injEq, Prod.mk.injEq] at H
      obtain ⟨rfl, rfl, rfl⟩ := H
      have hnb39 := NB175_176.out
      have hnc39 := NB176_175.out
      have hnb40 := NB175_177.out
      have hnc40 := NB177_175.out
      have hcz41_0 : wc.cell? ⟨gb175, 0, none⟩ = some (.int .u64 a0_0) := bc BK175 0
      have hcz41_1 : wc.cell? ⟨gb175, 1, none⟩ = some (.int .i64 a0_1) := bc BK175 1
      have hcz41_2 : wc.cell? ⟨gb175, 2, none⟩ = some (.int .u64 a0_2) := bc BK175 2
      have hcz41_3 : wc.cell? ⟨gb175, 3, none⟩ = some (.int .u64 a0_3) := bc BK175 3
      have hcz41_4 : wc.cell? ⟨gb175, 4, none⟩ = some (.int .i64 a0_4) := bc BK175 4
      have hfz41_0 := blk_frozen BK175.out 0
      have hfz41_1 := blk_frozen BK175.out 1
      have hfz41_2 := blk_frozen BK175.out 2
      have hfz41_3 := blk_frozen BK175.out 3
      have hfz41_4 := blk_frozen BK175.out 4
      have hnb42 := NB176_177.out
      have hnc42 := NB177_176.out
      have hcz43_0 : wc.cell? ⟨gb176, 0, none⟩ = some (.int .u64 a1_0) := bc BK176 0
      have hcz43_1 : wc.cell? ⟨gb176, 1, none⟩ = some (.int .u32 a1_1) := bc BK176 1
      have hcz43_2 : wc.cell? ⟨gb176, 2, none⟩ = some (.int .u32 a1_2) := bc BK176 2
      have hfz43_0 := blk_frozen BK176.out 0
      have hfz43_1 := blk_frozen BK176.out 1
      have hfz43_2 := blk_frozen BK176.out 2
      try go_wp2_with (first | ((with_reducible refine gate_callee (f := 54) rfl ?_); refine goesL_ (some 32) rfl rfl Tryz.func54 (by kernel_rfl) rfl #[.agg #[.int .i64 a0_1, .int .u64 a0_2], .int .i64 (wrap64 (a1_2))] rfl argt ?_; (with_reducible refine (wide_Int_Mul.calls kj2 a0_1 a0_2 (wrap64 (a1_2)) t180 t181 true _ A32.out).mono ?_); rintro e w44 ⟨rfl, hb⟩; refine ⟨_, rfl, ?_⟩; replace BK175 := blkb BK175 hb; replace BK176 := blkb BK176 hb; replace BK177 := blkb BK177 hb; replace HB := belb HB hb; (try clear hb); (try clear hb2); (try clear hk); (try clear hi)) | ((with_reducible refine gate_dst (N := 6) rfl ?_); refine box_event ?hg (N := 6) ?hd (cs := #[.int .i64 0, .int .u64 0]) (t := 31) ?hr ?_; (case hd => rfl); (case hg => rfl); (case hr => first | (go_simp; done) | (go_simp; rfl)); intro gb183 hg w45 hbox hb; have BK183 := Aside0.mk (hbox); have GW183 := bels HB hg; have GE183 := bels HB hg; have NB175_183 := blkl BK175 hg; have NB183_175 := blkg BK175 hg; have NB176_183 := blkl BK176 hg; have NB183_176 := blkg BK176 hg; have NB177_183 := blkl BK177 hg; have NB183_177 := blkg BK177 hg; replace BK175 := blkb BK175 hb; replace BK176 := blkb BK176 hb; replace BK177 := blkb BK177 hb; replace HB := belb HB hb; clear hb hbox hg; have hnb46 := NB183_175.out; have hnc46 := NB175_183.out; have hnb47 := NB183_176.out; have hnc47 := NB176_183.out; have hnb48 := NB183_177.out; have hnc48 := NB177_183.out; have hcz49_0 : w45.cell? ⟨gb183, 0, none⟩ = some (.int .i64 0) := bc BK183 0; have hcz49_1 : w45.cell? ⟨gb183, 1, none⟩ = some (.int .u64 0) := bc BK183 1; have hfz49_0 := blk_frozen BK183.out 0; have hfz49_1 := blk_frozen BK183.out 1))
      have n0_ : Aside0 (((w45.setCell ⟨gb183, 0, none⟩ (.int .i64 t180)).setCell ⟨gb183, 1, none⟩ (.int .u64 t181)).heap[gb175]? = some (.cells #[.int .u64 a0_0, .int .i64 a0_1, .int .u64 a0_2, .int .u64 a0_3, .int .i64 a0_4] 33 (0, 0))) := ⟨by (with_reducible repeat (first | refine blk_drewN ?_ _ | refine blk_drew ?_ | refine blk_alloc ?_ _)); refine blk_far ?_ NB175_183.out _; (with_reducible repeat (first | refine blk_drewN ?_ _ | refine blk_drew ?_ | refine blk_alloc ?_ _)); refine blk_far ?_ NB175_183.out _; exact blkt BK175⟩
      have n1_ : Aside0 (((w45.setCell ⟨gb183, 0, none⟩ (.int .i64 t180)).setCell ⟨gb183, 1, none⟩ (.int .u64 t181)).heap[gb176]? = some (.cells #[.int .u64 a1_0, .int .u32 a1_1, .int .u32 a1_2] 28 (0, 0))) := ⟨by (with_reducible repeat (first | refine blk_drewN ?_ _ | refine blk_drew ?_ | refine blk_alloc ?_ _)); refine blk_far ?_ NB176_183.out _; (with_reducible repeat (first | refine blk_drewN ?_ _ | refine blk_drew ?_ | refine blk_alloc ?_ _)); refine blk_far ?_ NB176_183.out _; exact blkt BK176⟩
      have n2_ : Aside0 (((w45.setCell ⟨gb183, 0, none⟩ (.int .i64 t180)).setCell ⟨gb183, 1, none⟩ (.int .u64 t181)).heap[gb177]? = some (.cells #[.int .i64 0, .int .u64 0] 31 (0, 0))) := ⟨by (with_reducible repeat (first | refine blk_drewN ?_ _ | refine blk_drew ?_ | refine blk_alloc ?_ _)); refine blk_far ?_ NB177_183.out _; (with_reducible repeat (first | refine blk_drewN ?_ _ | refine blk_drew ?_ | refine blk_alloc ?_ _)); refine blk_far ?_ NB177_183.out _; exact blkt BK177⟩
      have n3_ : Aside0 (((w45.setCell ⟨gb183, 0, none⟩ (.int .i64 t180)).setCell ⟨gb183, 1, none⟩ (.int .u64 t181)).heap[gb183]? = some (.cells #[.int .i64 t180, .int .u64 t181] 31 (0, 0))) := ⟨by (with_reducible repeat (first | refine blk_drewN ?_ _ | refine blk_drew ?_ | refine blk_alloc ?_ _)); refine blk_put (cs := #[.int .i64 t180, .int .u64 0]) ?_ 1 _ rfl; (with_reducible repeat (first | refine blk_drewN ?_ _ | refine blk_drew ?_ | refine blk_alloc ?_ _)); refine blk_put (cs := #[.int .i64 0, .int .u64 0]) ?_ 0 _ rfl; exact blkt BK183⟩
      have n4_ : Aside0 (Below w.heap.size w ((w45.setCell ⟨gb183, 0, none⟩ (.int .i64 t180)).setCell ⟨gb183, 1, none⟩ (.int .u64 t181))) := ⟨belt HB⟩
      (try clear BK175)
      (try clear BK176)
      (try clear BK177)
      (try clear BK183)
      (try clear HB)
      generalize ((w45.setCell ⟨gb183, 0, none⟩ (.int .i64 t180)).setCell ⟨gb183, 1, none⟩ (.int .u64 t181)) = w50 at n0_ n1_ n2_ n3_ n4_ ⊢
      have BK175 := n0_
      have BK176 := n1_
      have BK177 := n2_
      have BK183 := n3_
      have HB := n4_
      clear n0_ n1_ n2_ n3_ n4_
      replace BK175 := Aside0.mk (blk_drew BK175.out)
      replace BK176 := Aside0.mk (blk_drew BK176.out)
      replace BK177 := Aside0.mk (blk_drew BK177.out)
      replace BK183 := Aside0.mk (blk_drew BK183.out)
      replace HB := Aside0.mk (below_drew1 HB.out)
      refine start_ (n := 14) (S := fun w' => w'.cell? ⟨gb176, 0, none⟩ = some (.int .u64 a1_0) ∧ w'.cell? ⟨gb176, 1, none⟩ = some (.int .u32 a1_1) ∧ w'.cell? ⟨gb176, 2, none⟩ = some (.int .u32 a1_2) ∧ w'.cell? ⟨gb175, 0, none⟩ = some (.int .u64 a0_0) ∧ w'.cell? ⟨gb175, 1, none⟩ = some (.int .i64 a0_1) ∧ w'.cell? ⟨gb175, 2, none⟩ = some (.int .u64 a0_2) ∧ w'.cell? ⟨gb175, 3, none⟩ = some (.int .u64 a0_3) ∧ w'.cell? ⟨gb175, 4, none⟩ = some (.int .i64 a0_4)) (ds := []) #[false, false, false, false, false, false, false, false, false, false, false, false, false, false] (by kernel_rfl) rfl rfl ⟨bc BK176 0, bc BK176 1, bc BK176 2, bc BK175 0, bc BK175 1, bc BK175 2, bc BK175 3, bc BK175 4⟩ (fun hHeld => ?_); refine with_tabW lag_over.tab4 lag_over.bits4 (fun HT_ HW_ => ?_)
      generalize w50.drew = w51 at BK175 BK176 BK177 BK183 HB hHeld ⊢
      refine pure_ (i := 1) (N := some 37) (v := ?_) (a' := ?_) #[false, true, false, false, false, false, false, false, false, false, false, false, false, false] rfl rfl (any_of HT_.out (by kernel_rfl)) (fun _ _ _ h => h) (Or.inl ⟨by rfl, ?_⟩) ?_ ?_
      rotate_left
      ·intro w'
       go_simp
       with_reducible rfl
      rotate_left
      ·simp only [Act.put, List.setIfInBounds_toArray, List.set_cons_zero, List.set_cons_succ, i64_w, i32_w]
       rfl
      refine pure_ (i := 4) (N := some 40) (v := ?_) (a' := ?_) #[false, true, false, false, true, false, false, false, false, false, false, false, false, false] rfl rfl (any_of HT_.out (by kernel_rfl)) (fun _ _ _ h => h) (Or.inl ⟨by rfl, ?_⟩) ?_ ?_
      rotate_left
      ·intro w'
       go_simp
       with_reducible rfl
      rotate_left
      ·simp only [Act.put, List.setIfInBounds_toArray, List.set_cons_zero, List.set_cons_succ, i64_w, i32_w]
       rfl
      refine take_ (i := 0) (N := some 36) (v := ?_) (a' := ?_) #[true, true, false, false, true, false, false, false, false, false, false, false, false, false] rfl rfl (take_ofW HT_.out HW_.out (by kernel_rfl)) (fun _ _ _ h => h) (Or.inl ⟨by rfl, ?_⟩) hHeld ?_ ?_
      rotate_left
      ·rintro w' ⟨s0, s1, s2, s3, s4, s5, s6, s7⟩
       go_simp
       with_reducible rfl
      rotate_left
      ·simp only [Act.put, List.setIfInBounds_toArray, List.set_cons_zero, List.set_cons_succ, i64_w, i32_w]
       rfl
      refine take_ (i := 2) (N := some 38) (v := ?_) (a' := ?_) #[true, true, true, false, true, false, false, false, false, false, false, false, false, false] rfl rfl (take_ofW HT_.out HW_.out (by kernel_rfl)) (fun _ _ _ h => h) (Or.inl ⟨by rfl, ?_⟩) hHeld ?_ ?_
      rotate_left
      ·rintro w' ⟨s0, s1, s2, s3, s4, s5, s6, s7⟩
       go_simp
       with_reducible rfl
      rotate_left
      ·simp only [Act.put, List.setIfInBounds_toArray, List.set_cons_zero, List.set_cons_succ, i64_w, i32_w]
       rfl
      refine take_ (i := 5) (N := some 41) (v := ?_) (a' := ?_) #[true, true, true, false, true, true, false, false, false, false, false, false, false, false] rfl rfl (take_ofW HT_.out HW_.out (by kernel_rfl)) (fun _ _ _ h => h) (Or.inl ⟨by rfl, ?_⟩) hHeld ?_ ?_
      rotate_left
      ·rintro w' ⟨s0, s1, s2, s3, s4, s5, s6, s7⟩
       go_simp
       with_reducible rfl
      rotate_left
      ·simp only [Act.put, List.setIfInBounds_toArray, List.set_cons_zero, List.set_cons_succ, i64_w, i32_w]
       rfl
      refine pure_ (i := 6) (N := some 42) (v := ?_) (a' := ?_) #[true, true, true, false, true, true, true, false, false, false, false, false, false, false] rfl rfl (any_of HT_.out (by kernel_rfl)) (fun _ _ _ h => h) (Or.inl ⟨by rfl, ?_⟩) ?_ ?_
      rotate_left
      ·intro w'
       go_simp
       with_reducible rfl
      rotate_left
      ·simp only [Act.put, List.setIfInBounds_toArray, List.set_cons_zero, List.set_cons_succ, i64_w, i32_w]
       rfl
      refine join_ (σ := Nat) 2 #[true, true, true, true, true, true, true, true, true, true, true, true, false, false] (fun s_ => [(39, .agg #[.int .i64 t184, .int .u64 t185]), (43, .tuple #[.agg #[.int .i64 t186, .int .u64 t187], .bool true]), (8, .pointer (some ⟨s_, 0, none⟩)), (35, .tuple #[.agg #[.int .i64 t186, .int .u64 t187], .bool true]), (44, .agg #[.int .i64 t186, .int .u64 t187]), (45, .bool true)]) (fun s_ w' => (w'.cell? ⟨gb176, 0, none⟩ = some (.int .u64 a1_0) ∧ w'.cell? ⟨gb176, 1, none⟩ = some (.int .u32 a1_1) ∧ w'.cell? ⟨gb176, 2, none⟩ = some (.int .u32 a1_2) ∧ w'.cell? ⟨gb175, 0, none⟩ = some (.int .u64 a0_0) ∧ w'.cell? ⟨gb175, 1, none⟩ = some (.int .i64 a0_1) ∧ w'.cell? ⟨gb175, 2, none⟩ = some (.int .u64 a0_2) ∧ w'.cell? ⟨gb175, 3, none⟩ = some (.int .u64 a0_3) ∧ w'.cell? ⟨gb175, 4, none⟩ = some (.int .i64 a0_4)) ∧ (w'.heap[gb175]? = some (.cells #[.int .u64 a0_0, .int .i64 a0_1, .int .u64 a0_2, .int .u64 a0_3, .int .i64 a0_4] 33 (0, 0))) ∧ (w'.heap[gb176]? = some (.cells #[.int .u64 a1_0, .int .u32 a1_1, .int .u32 a1_2] 28 (0, 0))) ∧ (w'.heap[gb177]? = some (.cells #[.int .i64 0, .int .u64 0] 31 (0, 0))) ∧ (w'.heap[gb183]? = some (.cells #[.int .i64 t180, .int .u64 t181] 31 (0, 0))) ∧ (w'.heap[s_]? = some (.cells #[.int .i64 0, .int .u64 0] 31 (0, 0))) ∧ (w.heap.size ≤ s_) ∧ (w.heap.size ≤ s_) ∧ (gb175 ≠ s_) ∧ (s_ ≠ gb175) ∧ (gb176 ≠ s_) ∧ (s_ ≠ gb176) ∧ (gb177 ≠ s_) ∧ (s_ ≠ gb177) ∧ (gb183 ≠ s_) ∧ (s_ ≠ gb183) ∧ (Below w.heap.size w w')) ?_ ?_
      rotate_left
      ·intro hCont
       refine two_ (i := 3) (j := 11) (Ni := some 39) (Nj := some 8) #[true, true, true, true, true, true, true, false, false, false, false, false, false, false] #[true, true, true, false, true, true, true, false, false, false, false, true, false, false] rfl rfl rfl rfl (two_of HT_.out (by kernel_rfl)) (by decide) (by decide) (fun K hK => ?_) (fun K hK => ?_)
       ·skip
        refine goes_ Tryz.func59 (by kernel_rfl) rfl #[.agg #[.int .u64 a1_0, .int .u32 a1_1, .int .u32 a1_2], .int .u64 a0_0] (by rfl) rfl rfl argt ?_
        with_reducible refine (pos_Pos_Distance.calls kj2 a1_0 a1_1 a1_2 a0_0 t184 t185 _ A33.out).mono ?_
        rintro e w52 ⟨rfl, hb⟩
        refine ⟨_, rfl, ?_⟩
        replace BK175 := blkb BK175 hb
        replace BK176 := blkb BK176 hb
        replace BK177 := blkb BK177 hb
        replace BK183 := blkb BK183 hb
        replace HB := belb HB hb
        (try clear hb)
        (try clear hb2)
        (try clear hk)
        (try clear hi)
        refine hK.out _ _ ⟨bc BK176 0, bc BK176 1, bc BK176 2, bc BK175 0, bc BK175 1, bc BK175 2, bc BK175 3, bc BK175 4⟩ (fun hHeld => ?_)
        clear hK K
        refine norm_ (a' := ?_) ?_ ?_
        rotate_left
        ·show Act.put _ (some 39) _ = _
         simp only [Act.put, List.setIfInBounds_toArray, List.set_cons_zero, List.set_cons_succ, i64_w, i32_w]
         rfl
        refine two_ (i := 7) (j := 11) (Ni := some 43) (Nj := some 8) #[true, true, true, true, true, true, true, true, false, false, false, false, false, false] #[true, true, true, true, true, true, true, false, false, false, false, true, false, false] rfl rfl rfl rfl (two_of HT_.out (by kernel_rfl)) (by decide) (by decide) (fun K hK => ?_) (fun K hK => ?_)
        ·skip
         refine goes_ Tryz.func54 (by kernel_rfl) rfl #[.agg #[.int .i64 t184, .int .u64 t185], .int .i64 (wrap64 (a0_3))] (by rfl) rfl rfl argt ?_
         with_reducible refine (wide_Int_Mul.calls kj2 t184 t185 (wrap64 (a0_3)) t186 t187 true _ A34.out).mono ?_
         rintro e w53 ⟨rfl, hb⟩
         refine ⟨_, rfl, ?_⟩
         replace BK175 := blkb BK175 hb
         replace BK176 := blkb BK176 hb
         replace BK177 := blkb BK177 hb
         replace BK183 := blkb BK183 hb
         replace HB := belb HB hb
         (try clear hb)
         (try clear hb2)
         (try clear hk)
         (try clear hi)
         refine hK.out _ _ ⟨bc BK176 0, bc BK176 1, bc BK176 2, bc BK175 0, bc BK175 1, bc BK175 2, bc BK175 3, bc BK175 4⟩ (fun hHeld => ?_)
         clear hK K
         refine norm_ (a' := ?_) ?_ ?_
         rotate_left
         ·show Act.put _ (some 43) _ = _
          simp only [Act.put, List.setIfInBounds_toArray, List.set_cons_zero, List.set_cons_succ, i64_w, i32_w]
          rfl
         refine pure_ (i := 8) (N := some 35) (v := ?_) (a' := ?_) #[true, true, true, true, true, true, true, true, true, false, false, false, false, false] rfl rfl (any_of HT_.out (by kernel_rfl)) (fun _ _ _ h => h) (Or.inl ⟨by rfl, ?_⟩) ?_ ?_
         rotate_left
         ·intro w'
          go_simp
          with_reducible rfl
         rotate_left
         ·simp only [Act.put, List.setIfInBounds_toArray, List.set_cons_zero, List.set_cons_succ, i64_w, i32_w]
          rfl
         refine pure_ (i := 9) (N := some 44) (v := ?_) (a' := ?_) #[true, true, true, true, true, true, true, true, true, true, false, false, false, false] rfl rfl (any_of HT_.out (by kernel_rfl)) (fun _ _ _ h => h) (Or.inl ⟨by rfl, ?_⟩) ?_ ?_
         rotate_left
         ·intro w'
          go_simp
          with_reducible rfl
         rotate_left
         ·simp only [Act.put, List.setIfInBounds_toArray, List.set_cons_zero, List.set_cons_succ, i64_w, i32_w]
          rfl
         refine pure_ (i := 10) (N := some 45) (v := ?_) (a' := ?_) #[true, true, true, true, true, true, true, true, true, true, true, false, false, false] rfl rfl (any_of HT_.out (by kernel_rfl)) (fun _ _ _ h => h) (Or.inl ⟨by rfl, ?_⟩) ?_ ?_
         rotate_left
         ·intro w'
          go_simp
          with_reducible rfl
         rotate_left
         ·simp only [Act.put, List.setIfInBounds_toArray, List.set_cons_zero, List.set_cons_succ, i64_w, i32_w]
          rfl
         refine one_ (i := 11) (N := some 8) #[true, true, true, true, true, true, true, true, true, true, true, true, false, false] rfl rfl (one_of HT_.out (by kernel_rfl)) (by decide) (fun K hK => ?_)
         refine box_step ?hg (N := 8) ?hd (cs := #[.int .i64 0, .int .u64 0]) (t := 31) ?hr ?_; (case hd => rfl); (case hg => rfl); (case hr => first | (go_simp; done) | (go_simp; rfl))
         intro gb189 hg w54 hbox hb
         have BK189 := Aside0.mk (hbox)
         have GW189 := bels HB hg
         have GE189 := bels HB hg
         have NB175_189 := blkl BK175 hg
         have NB189_175 := blkg BK175 hg
         have NB176_189 := blkl BK176 hg
         have NB189_176 := blkg BK176 hg
         have NB177_189 := blkl BK177 hg
         have NB189_177 := blkg BK177 hg
         have NB183_189 := blkl BK183 hg
         have NB189_183 := blkg BK183 hg
         replace BK175 := blkb BK175 hb
         replace BK176 := blkb BK176 hb
         replace BK177 := blkb BK177 hb
         replace BK183 := blkb BK183 hb
         replace HB := belb HB hb
         clear hb hbox hg
         refine hK.out _ _ ⟨bc BK176 0, bc BK176 1, bc BK176 2, bc BK175 0, bc BK175 1, bc BK175 2, bc BK175 3, bc BK175 4⟩ (fun hHeld => ?_)
         clear hK K
         refine norm_ (a' := ?_) ?_ ?_
         rotate_left
         ·show Act.put _ (some 8) _ = _
          simp only [Act.put, List.setIfInBounds_toArray, List.set_cons_zero, List.set_cons_succ, i64_w, i32_w]
          rfl
         exact norm_ (by simp only [putAll, Act.put, List.setIfInBounds_toArray, List.set_cons_zero, List.set_cons_succ]) (hCont (gb189) _ ⟨hHeld, (blkt BK175), (blkt BK176), (blkt BK177), (blkt BK183), (blkt BK189), GW189.out, GE189.out, NB175_189.out, NB189_175.out, NB176_189.out, NB189_176.out, NB177_189.out, NB189_177.out, NB183_189.out, NB189_183.out, (belt HB)⟩)
        skip
        refine box_step ?hg (N := 8) ?hd (cs := #[.int .i64 0, .int .u64 0]) (t := 31) ?hr ?_; (case hd => rfl); (case hg => rfl); (case hr => first | (go_simp; done) | (go_simp; rfl))
        intro gb189 hg w53 hbox hb
        have BK189 := Aside0.mk (hbox)
        have GW189 := bels HB hg
        have GE189 := bels HB hg
        have NB175_189 := blkl BK175 hg
        have NB189_175 := blkg BK175 hg
        have NB176_189 := blkl BK176 hg
        have NB189_176 := blkg BK176 hg
        have NB177_189 := blkl BK177 hg
        have NB189_177 := blkg BK177 hg
        have NB183_189 := blkl BK183 hg
        have NB189_183 := blkg BK183 hg
        replace BK175 := blkb BK175 hb
        replace BK176 := blkb BK176 hb
        replace BK177 := blkb BK177 hb
        replace BK183 := blkb BK183 hb
        replace HB := belb HB hb
        clear hb hbox hg
        refine hK.out _ _ ⟨bc BK176 0, bc BK176 1, bc BK176 2, bc BK175 0, bc BK175 1, bc BK175 2, bc BK175 3, bc BK175 4⟩ (fun hHeld => ?_)
        clear hK K
        refine norm_ (a' := ?_) ?_ ?_
        rotate_left
        ·show Act.put _ (some 8) _ = _
         simp only [Act.put, List.setIfInBounds_toArray, List.set_cons_zero, List.set_cons_succ, i64_w, i32_w]
         rfl
        refine one_ (i := 7) (N := some 43) #[true, true, true, true, true, true, true, true, false, false, false, true, false, false] rfl rfl (one_of HT_.out (by kernel_rfl)) (by decide) (fun K hK => ?_)
        refine goes_ Tryz.func54 (by kernel_rfl) rfl #[.agg #[.int .i64 t184, .int .u64 t185], .int .i64 (wrap64 (a0_3))] (by rfl) rfl rfl argt ?_
        with_reducible refine (wide_Int_Mul.calls kj2 t184 t185 (wrap64 (a0_3)) t186 t187 true _ A34.out).mono ?_
        rintro e w54 ⟨rfl, hb⟩
        refine ⟨_, rfl, ?_⟩
        replace BK175 := blkb BK175 hb
        replace BK176 := blkb BK176 hb
        replace BK177 := blkb BK177 hb
        replace BK183 := blkb BK183 hb
        replace BK189 := blkb BK189 hb
        replace HB := belb HB hb
        (try clear hb)
        (try clear hb2)
        (try clear hk)
        (try clear hi)
        refine hK.out _ _ ⟨bc BK176 0, bc BK176 1, bc BK176 2, bc BK175 0, bc BK175 1, bc BK175 2, bc BK175 3, bc BK175 4⟩ (fun hHeld => ?_)
        clear hK K
        refine norm_ (a' := ?_) ?_ ?_
        rotate_left
        ·show Act.put _ (some 43) _ = _
         simp only [Act.put, List.setIfInBounds_toArray, List.set_cons_zero, List.set_cons_succ, i64_w, i32_w]
         rfl
        refine pure_ (i := 8) (N := some 35) (v := ?_) (a' := ?_) #[true, true, true, true, true, true, true, true, true, false, false, true, false, false] rfl rfl (any_of HT_.out (by kernel_rfl)) (fun _ _ _ h => h) (Or.inl ⟨by rfl, ?_⟩) ?_ ?_
        rotate_left
        ·intro w'
         go_simp
         with_reducible rfl
        rotate_left
        ·simp only [Act.put, List.setIfInBounds_toArray, List.set_cons_zero, List.set_cons_succ, i64_w, i32_w]
         rfl
        refine pure_ (i := 9) (N := some 44) (v := ?_) (a' := ?_) #[true, true, true, true, true, true, true, true, true, true, false, true, false, false] rfl rfl (any_of HT_.out (by kernel_rfl)) (fun _ _ _ h => h) (Or.inl ⟨by rfl, ?_⟩) ?_ ?_
        rotate_left
        ·intro w'
         go_simp
         with_reducible rfl
        rotate_left
        ·simp only [Act.put, List.setIfInBounds_toArray, List.set_cons_zero, List.set_cons_succ, i64_w, i32_w]
         rfl
        refine pure_ (i := 10) (N := some 45) (v := ?_) (a' := ?_) #[true, true, true, true, true, true, true, true, true, true, true, true, false, false] rfl rfl (any_of HT_.out (by kernel_rfl)) (fun _ _ _ h => h) (Or.inl ⟨by rfl, ?_⟩) ?_ ?_
        rotate_left
        ·intro w'
         go_simp
         with_reducible rfl
        rotate_left
        ·simp only [Act.put, List.setIfInBounds_toArray, List.set_cons_zero, List.set_cons_succ, i64_w, i32_w]
         rfl
        exact norm_ (by simp only [putAll, Act.put, List.setIfInBounds_toArray, List.set_cons_zero, List.set_cons_succ]) (hCont (gb189) _ ⟨hHeld, (blkt BK175), (blkt BK176), (blkt BK177), (blkt BK183), (blkt BK189), GW189.out, GE189.out, NB175_189.out, NB189_175.out, NB176_189.out, NB189_176.out, NB177_189.out, NB189_177.out, NB183_189.out, NB189_183.out, (belt HB)⟩)
       skip
       refine box_step ?hg (N := 8) ?hd (cs := #[.int .i64 0, .int .u64 0]) (t := 31) ?hr ?_; (case hd => rfl); (case hg => rfl); (case hr => first | (go_simp; done) | (go_simp; rfl))
       intro gb189 hg w52 hbox hb
       have BK189 := Aside0.mk (hbox)
       have GW189 := bels HB hg
       have GE189 := bels HB hg
       have NB175_189 := blkl BK175 hg
       have NB189_175 := blkg BK175 hg
       have NB176_189 := blkl BK176 hg
       have NB189_176 := blkg BK176 hg
       have NB177_189 := blkl BK177 hg
       have NB189_177 := blkg BK177 hg
       have NB183_189 := blkl BK183 hg
       have NB189_183 := blkg BK183 hg
       replace BK175 := blkb BK175 hb
       replace BK176 := blkb BK176 hb
       replace BK177 := blkb BK177 hb
       replace BK183 := blkb BK183 hb
       replace HB := belb HB hb
       clear hb hbox hg
       refine hK.out _ _ ⟨bc BK176 0, bc BK176 1, bc BK176 2, bc BK175 0, bc BK175 1, bc BK175 2, bc BK175 3, bc BK175 4⟩ (fun hHeld => ?_)
       clear hK K
       refine norm_ (a' := ?_) ?_ ?_
       rotate_left
       ·show Act.put _ (some 8) _ = _
        simp only [Act.put, List.setIfInBounds_toArray, List.set_cons_zero, List.set_cons_succ, i64_w, i32_w]
        rfl
       refine one_ (i := 3) (N := some 39) #[true, true, true, true, true, true, true, false, false, false, false, true, false, false] rfl rfl (one_of HT_.out (by kernel_rfl)) (by decide) (fun K hK => ?_)
       refine goes_ Tryz.func59 (by kernel_rfl) rfl #[.agg #[.int .u64 a1_0, .int .u32 a1_1, .int .u32 a1_2], .int .u64 a0_0] (by rfl) rfl rfl argt ?_
       with_reducible refine (pos_Pos_Distance.calls kj2 a1_0 a1_1 a1_2 a0_0 t184 t185 _ A33.out).mono ?_
       rintro e w53 ⟨rfl, hb⟩
       refine ⟨_, rfl, ?_⟩
       replace BK175 := blkb BK175 hb
       replace BK176 := blkb BK176 hb
       replace BK177 := blkb BK177 hb
       replace BK183 := blkb BK183 hb
       replace BK189 := blkb BK189 hb
       replace HB := belb HB hb
       (try clear hb)
       (try clear hb2)
       (try clear hk)
       (try clear hi)
       refine hK.out _ _ ⟨bc BK176 0, bc BK176 1, bc BK176 2, bc BK175 0, bc BK175 1, bc BK175 2, bc BK175 3, bc BK175 4⟩ (fun hHeld => ?_)
       clear hK K
       refine norm_ (a' := ?_) ?_ ?_
       rotate_left
       ·show Act.put _ (some 39) _ = _
        simp only [Act.put, List.setIfInBounds_toArray, List.set_cons_zero, List.set_cons_succ, i64_w, i32_w]
        rfl
       refine one_ (i := 7) (N := some 43) #[true, true, true, true, true, true, true, true, false, false, false, true, false, false] rfl rfl (one_of HT_.out (by kernel_rfl)) (by decide) (fun K hK => ?_)
       refine goes_ Tryz.func54 (by kernel_rfl) rfl #[.agg #[.int .i64 t184, .int .u64 t185], .int .i64 (wrap64 (a0_3))] (by rfl) rfl rfl argt ?_
       with_reducible refine (wide_Int_Mul.calls kj2 t184 t185 (wrap64 (a0_3)) t186 t187 true _ A34.out).mono ?_
       rintro e w54 ⟨rfl, hb⟩
       refine ⟨_, rfl, ?_⟩
       replace BK175 := blkb BK175 hb
       replace BK176 := blkb BK176 hb
       replace BK177 := blkb BK177 hb
       replace BK183 := blkb BK183 hb
       replace BK189 := blkb BK189 hb
       replace HB := belb HB hb
       (try clear hb)
       (try clear hb2)
       (try clear hk)
       (try clear hi)
       refine hK.out _ _ ⟨bc BK176 0, bc BK176 1, bc BK176 2, bc BK175 0, bc BK175 1, bc BK175 2, bc BK175 3, bc BK175 4⟩ (fun hHeld => ?_)
       clear hK K
       refine norm_ (a' := ?_) ?_ ?_
       rotate_left
       ·show Act.put _ (some 43) _ = _
        simp only [Act.put, List.setIfInBounds_toArray, List.set_cons_zero, List.set_cons_succ, i64_w, i32_w]
        rfl
       refine pure_ (i := 8) (N := some 35) (v := ?_) (a' := ?_) #[true, true, true, true, true, true, true, true, true, false, false, true, false, false] rfl rfl (any_of HT_.out (by kernel_rfl)) (fun _ _ _ h => h) (Or.inl ⟨by rfl, ?_⟩) ?_ ?_
       rotate_left
       ·intro w'
        go_simp
        with_reducible rfl
       rotate_left
       ·simp only [Act.put, List.setIfInBounds_toArray, List.set_cons_zero, List.set_cons_succ, i64_w, i32_w]
        rfl
       refine pure_ (i := 9) (N := some 44) (v := ?_) (a' := ?_) #[true, true, true, true, true, true, true, true, true, true, false, true, false, false] rfl rfl (any_of HT_.out (by kernel_rfl)) (fun _ _ _ h => h) (Or.inl ⟨by rfl, ?_⟩) ?_ ?_
       rotate_left
       ·intro w'
        go_simp
        with_reducible rfl
       rotate_left
       ·simp only [Act.put, List.setIfInBounds_toArray, List.set_cons_zero, List.set_cons_succ, i64_w, i32_w]
        rfl
       refine pure_ (i := 10) (N := some 45) (v := ?_) (a' := ?_) #[true, true, true, true, true, true, true, true, true, true, true, true, false, false] rfl rfl (any_of HT_.out (by kernel_rfl)) (fun _ _ _ h => h) (Or.inl ⟨by rfl, ?_⟩) ?_ ?_
       rotate_left
       ·intro w'
        go_simp
        with_reducible rfl
       rotate_left
       ·simp only [Act.put, List.setIfInBounds_toArray, List.set_cons_zero, List.set_cons_succ, i64_w, i32_w]
        rfl
       exact norm_ (by simp only [putAll, Act.put, List.setIfInBounds_toArray, List.set_cons_zero, List.set_cons_succ]) (hCont (gb189) _ ⟨hHeld, (blkt BK175), (blkt BK176), (blkt BK177), (blkt BK183), (blkt BK189), GW189.out, GE189.out, NB175_189.out, NB189_175.out, NB176_189.out, NB189_176.out, NB177_189.out, NB189_177.out, NB183_189.out, NB189_183.out, (belt HB)⟩)
      rintro gb189 w55 ⟨hS_, h0_, h1_, h2_, h3_, h4_, h5_, h6_, h7_, h8_, h9_, h10_, h11_, h12_, h13_, h14_, h15_⟩
      replace BK175 : Aside0 (w55.heap[gb175]? = some (.cells #[.int .u64 a0_0, .int .i64 a0_1, .int .u64 a0_2, .int .u64 a0_3, .int .i64 a0_4] 33 (0, 0))) := ⟨h0_⟩
      replace BK176 : Aside0 (w55.heap[gb176]? = some (.cells #[.int .u64 a1_0, .int .u32 a1_1, .int .u32 a1_2] 28 (0, 0))) := ⟨h1_⟩
      replace BK177 : Aside0 (w55.heap[gb177]? = some (.cells #[.int .i64 0, .int .u64 0] 31 (0, 0))) := ⟨h2_⟩
      replace BK183 : Aside0 (w55.heap[gb183]? = some (.cells #[.int .i64 t180, .int .u64 t181] 31 (0, 0))) := ⟨h3_⟩
      have BK189 : Aside0 (w55.heap[gb189]? = some (.cells #[.int .i64 0, .int .u64 0] 31 (0, 0))) := ⟨h4_⟩
      have GW189 : Aside0 (w.heap.size ≤ gb189) := ⟨h5_⟩
      have GE189 : Aside0 (w.heap.size ≤ gb189) := ⟨h6_⟩
      have NB175_189 : Aside0 (gb175 ≠ gb189) := ⟨h7_⟩
      have NB189_175 : Aside0 (gb189 ≠ gb175) := ⟨h8_⟩
      have NB176_189 : Aside0 (gb176 ≠ gb189) := ⟨h9_⟩
      have NB189_176 : Aside0 (gb189 ≠ gb176) := ⟨h10_⟩
      have NB177_189 : Aside0 (gb177 ≠ gb189) := ⟨h11_⟩
      have NB189_177 : Aside0 (gb189 ≠ gb177) := ⟨h12_⟩
      have NB183_189 : Aside0 (gb183 ≠ gb189) := ⟨h13_⟩
      have NB189_183 : Aside0 (gb189 ≠ gb183) := ⟨h14_⟩
      replace HB : Aside0 (Below w.heap.size w w55) := ⟨h15_⟩
      clear h0_ h1_ h2_ h3_ h4_ h5_ h6_ h7_ h8_ h9_ h10_ h11_ h12_ h13_ h14_ h15_
      have hHeld : w55.cell? ⟨gb176, 0, none⟩ = some (.int .u64 a1_0) ∧ w55.cell? ⟨gb176, 1, none⟩ = some (.int .u32 a1_1) ∧ w55.cell? ⟨gb176, 2, none⟩ = some (.int .u32 a1_2) ∧ w55.cell? ⟨gb175, 0, none⟩ = some (.int .u64 a0_0) ∧ w55.cell? ⟨gb175, 1, none⟩ = some (.int .i64 a0_1) ∧ w55.cell? ⟨gb175, 2, none⟩ = some (.int .u64 a0_2) ∧ w55.cell? ⟨gb175, 3, none⟩ = some (.int .u64 a0_3) ∧ w55.cell? ⟨gb175, 4, none⟩ = some (.int .i64 a0_4) := hS_
      refine norm_ (a' := ?_) ?_ ?_
      rotate_left
      ·simp only [putAll, Act.put, List.setIfInBounds_toArray, List.set_cons_zero, List.set_cons_succ]
       rfl
      refine one_ (i := 12) (N := none) #[true, true, true, true, true, true, true, true, true, true, true, true, true, false] rfl rfl (one_of HT_.out (by kernel_rfl)) (by decide) (fun K hK => ?_)
      have hs56 : w55.cell? ⟨gb189, 0, none⟩ = some (.int .i64 0) := bc BK189 0
      have hfs56 := blk_frozen BK189.out 0
      have hns56_0 := NB175_189.out
      have hns56_1 := NB176_189.out
      have hns56_2 := NB177_189.out
      have hns56_3 := NB183_189.out
      have hms56_0 := NB189_175.out
      have hms56_1 := NB189_176.out
      have hms56_2 := NB189_177.out
      have hms56_3 := NB189_183.out
      have hs57 : w55.cell? ⟨gb189, 1, none⟩ = some (.int .u64 0) := bc BK189 1
      have hfs57 := blk_frozen BK189.out 1
      have hns57_0 := NB175_189.out
      have hns57_1 := NB176_189.out
      have hns57_2 := NB177_189.out
      have hns57_3 := NB183_189.out
      have hms57_0 := NB189_175.out
      have hms57_1 := NB189_176.out
      have hms57_2 := NB189_177.out
      have hms57_3 := NB189_183.out
      refine skip_ (w1 := ?_) (by rfl) rfl ?_ ?_
      rotate_left
      ·go_simp
       rfl
      refine hK.out _ _ ⟨((cell_far (p := ⟨gb189, _, none⟩) NB176_189.out _).trans (((cell_far (p := ⟨gb189, _, none⟩) NB176_189.out _).trans (hHeld.1)))), ((cell_far (p := ⟨gb189, _, none⟩) NB176_189.out _).trans (((cell_far (p := ⟨gb189, _, none⟩) NB176_189.out _).trans (hHeld.2.1)))), ((cell_far (p := ⟨gb189, _, none⟩) NB176_189.out _).trans (((cell_far (p := ⟨gb189, _, none⟩) NB176_189.out _).trans (hHeld.2.2.1)))), ((cell_far (p := ⟨gb189, _, none⟩) NB175_189.out _).trans (((cell_far (p := ⟨gb189, _, none⟩) NB175_189.out _).trans (hHeld.2.2.2.1)))), ((cell_far (p := ⟨gb189, _, none⟩) NB175_189.out _).trans (((cell_far (p := ⟨gb189, _, none⟩) NB175_189.out _).trans (hHeld.2.2.2.2.1)))), ((cell_far (p := ⟨gb189, _, none⟩) NB175_189.out _).trans (((cell_far (p := ⟨gb189, _, none⟩) NB175_189.out _).trans (hHeld.2.2.2.2.2.1)))), ((cell_far (p := ⟨gb189, _, none⟩) NB175_189.out _).trans (((cell_far (p := ⟨gb189, _, none⟩) NB175_189.out _).trans (hHeld.2.2.2.2.2.2.1)))), ((cell_far (p := ⟨gb189, _, none⟩) NB175_189.out _).trans (((cell_far (p := ⟨gb189, _, none⟩) NB175_189.out _).trans (hHeld.2.2.2.2.2.2.2))))⟩ (fun hHeld => ?_)
      clear hK K
      refine pure_ (i := 13) (N := some 9) (v := ?_) (a' := ?_) #[true, true, true, true, true, true, true, true, true, true, true, true, true, true] rfl rfl (any_of HT_.out (by kernel_rfl)) (fun _ _ _ h => h) (Or.inl ⟨by rfl, ?_⟩) ?_ ?_
      rotate_left
      ·intro w'
       go_simp
       with_reducible rfl
      rotate_left
      ·simp only [Act.put, List.setIfInBounds_toArray, List.set_cons_zero, List.set_cons_succ, i64_w, i32_w]
       rfl
      refine done_ (done_of HT_.out (by kernel_rfl)) ?_
      have hnb58 := NB183_189.out
      have hnc58 := NB189_183.out
      have hcz59_0 : w55.cell? ⟨gb183, 0, none⟩ = some (.int .i64 t180) := bc BK183 0
      have hcz59_1 : w55.cell? ⟨gb183, 1, none⟩ = some (.int .u64 t181) := bc BK183 1
      have hfz59_0 := blk_frozen BK183.out 0
      have hfz59_1 := blk_frozen BK183.out 1
      have hnb60 := NB189_175.out
      have hnc60 := NB175_189.out
      have hnb61 := NB189_176.out
      have hnc61 := NB176_189.out
      have hnb62 := NB189_177.out
      have hnc62 := NB177_189.out
      have hcz63_0 : w55.cell? ⟨gb189, 0, none⟩ = some (.int .i64 0) := bc BK189 0
      have hcz63_1 : w55.cell? ⟨gb189, 1, none⟩ = some (.int .u64 0) := bc BK189 1
      have hfz63_0 := blk_frozen BK189.out 0
      have hfz63_1 := blk_frozen BK189.out 1
      try go_wp2_with (first | ((with_reducible refine gate_callee (f := 26) rfl ?_); refine goesL_ (some 49) rfl rfl Tryz.func26 (by kernel_rfl) rfl #[.agg #[.int .i64 t180, .int .u64 t181], .agg #[.int .i64 t186, .int .u64 t187]] rfl argt ?_; (with_reducible refine (wide_Int_Sub.calls t180 t181 t186 t187 t190 t191 true _ A35.out).mono ?_); rintro e w64 ⟨rfl, hb⟩; refine ⟨_, rfl, ?_⟩; replace BK175 := Aside0.mk (blk_below (g := gb175) (o := .cells #[.int .u64 a0_0, .int .i64 a0_1, .int .u64 a0_2, .int .u64 a0_3, .int .i64 a0_4] 33 (0, 0)) (by (with_reducible repeat (first | refine blk_drewN ?_ _ | refine blk_drew ?_ | refine blk_alloc ?_ _)); refine blk_far ?_ NB175_189.out _; (with_reducible repeat (first | refine blk_drewN ?_ _ | refine blk_drew ?_ | refine blk_alloc ?_ _)); refine blk_far ?_ NB175_189.out _; exact blkt BK175) hb); replace BK176 := Aside0.mk (blk_below (g := gb176) (o := .cells #[.int .u64 a1_0, .int .u32 a1_1, .int .u32 a1_2] 28 (0, 0)) (by (with_reducible repeat (first | refine blk_drewN ?_ _ | refine blk_drew ?_ | refine blk_alloc ?_ _)); refine blk_far ?_ NB176_189.out _; (with_reducible repeat (first | refine blk_drewN ?_ _ | refine blk_drew ?_ | refine blk_alloc ?_ _)); refine blk_far ?_ NB176_189.out _; exact blkt BK176) hb); replace BK177 := Aside0.mk (blk_below (g := gb177) (o := .cells #[.int .i64 0, .int .u64 0] 31 (0, 0)) (by (with_reducible repeat (first | refine blk_drewN ?_ _ | refine blk_drew ?_ | refine blk_alloc ?_ _)); refine blk_far ?_ NB177_189.out _; (with_reducible repeat (first | refine blk_drewN ?_ _ | refine blk_drew ?_ | refine blk_alloc ?_ _)); refine blk_far ?_ NB177_189.out _; exact blkt BK177) hb); replace BK183 := Aside0.mk (blk_below (g := gb183) (o := .cells #[.int .i64 t180, .int .u64 t181] 31 (0, 0)) (by (with_reducible repeat (first | refine blk_drewN ?_ _ | refine blk_drew ?_ | refine blk_alloc ?_ _)); refine blk_far ?_ NB183_189.out _; (with_reducible repeat (first | refine blk_drewN ?_ _ | refine blk_drew ?_ | refine blk_alloc ?_ _)); refine blk_far ?_ NB183_189.out _; exact blkt BK183) hb); replace BK189 := Aside0.mk (blk_below (g := gb189) (o := .cells #[.int .i64 t186, .int .u64 t187] 31 (0, 0)) (by (with_reducible repeat (first | refine blk_drewN ?_ _ | refine blk_drew ?_ | refine blk_alloc ?_ _)); refine blk_put (cs := #[.int .i64 t186, .int .u64 0]) ?_ 1 _ rfl; (with_reducible repeat (first | refine blk_drewN ?_ _ | refine blk_drew ?_ | refine blk_alloc ?_ _)); refine blk_put (cs := #[.int .i64 0, .int .u64 0]) ?_ 0 _ rfl; exact blkt BK189) hb); replace HB := belb HB hb; (try clear hb); (try clear hb2); (try clear hk); (try clear hi)) | ((with_reducible refine gate_dst (N := 10) rfl ?_); refine box_event ?hg (N := 10) ?hd (cs := #[.int .i64 0, .int .u64 0]) (t := 31) ?hr ?_; (case hd => rfl); (case hg => rfl); (case hr => first | (go_simp; done) | (go_simp; rfl)); intro gb193 hg w65 hbox hb; have BK193 := Aside0.mk (hbox); have GW193 := bels HB hg; have GE193 := bels HB hg; have NB175_193 := blkl BK175 hg; have NB193_175 := blkg BK175 hg; have NB176_193 := blkl BK176 hg; have NB193_176 := blkg BK176 hg; have NB177_193 := blkl BK177 hg; have NB193_177 := blkg BK177 hg; have NB183_193 := blkl BK183 hg; have NB193_183 := blkg BK183 hg; have NB189_193 := blkl BK189 hg; have NB193_189 := blkg BK189 hg; replace BK175 := blkb BK175 hb; replace BK176 := blkb BK176 hb; replace BK177 := blkb BK177 hb; replace BK183 := blkb BK183 hb; replace BK189 := blkb BK189 hb; replace HB := belb HB hb; clear hb hbox hg; have hnb66 := NB193_175.out; have hnc66 := NB175_193.out; have hnb67 := NB193_176.out; have hnc67 := NB176_193.out; have hnb68 := NB193_177.out; have hnc68 := NB177_193.out; have hnb69 := NB193_183.out; have hnc69 := NB183_193.out; have hnb70 := NB193_189.out; have hnc70 := NB189_193.out; have hcz71_0 : w65.cell? ⟨gb193, 0, none⟩ = some (.int .i64 0) := bc BK193 0; have hcz71_1 : w65.cell? ⟨gb193, 1, none⟩ = some (.int .u64 0) := bc BK193 1; have hfz71_0 := blk_frozen BK193.out 0; have hfz71_1 := blk_frozen BK193.out 1; have hcz72_0 : w65.cell? ⟨gb177, 0, none⟩ = some (.int .i64 0) := bc BK177 0; have hcz72_1 : w65.cell? ⟨gb177, 1, none⟩ = some (.int .u64 0) := bc BK177 1; have hfz72_0 := blk_frozen BK177.out 0; have hfz72_1 := blk_frozen BK177.out 1))
      refine bodyPost_ret (results_ct rfl _ _ gb177 31 #[.int .i64 t190, .int .u64 t191] (0, 0) _ rfl (by (with_reducible repeat (first | refine blk_drewN ?_ _ | refine blk_drew ?_ | refine blk_alloc ?_ _)); refine blk_put (cs := #[.int .i64 t190, .int .u64 0]) ?_ 1 _ rfl; (with_reducible repeat (first | refine blk_drewN ?_ _ | refine blk_drew ?_ | refine blk_alloc ?_ _)); refine blk_put (cs := #[.int .i64 0, .int .u64 0]) ?_ 0 _ rfl; (with_reducible repeat (first | refine blk_drewN ?_ _ | refine blk_drew ?_ | refine blk_alloc ?_ _)); refine blk_far ?_ NB177_193.out _; (with_reducible repeat (first | refine blk_drewN ?_ _ | refine blk_drew ?_ | refine blk_alloc ?_ _)); refine blk_far ?_ NB177_193.out _; exact blkt BK177) Tryz.underlying31 rfl (by kernel_rfl)) rfl ?_
      exact ⟨by first | rfl | (simp [errW_none, errW_some] <;> rfl) | (simp [*, errW_none, errW_some] <;> rfl), belt HB⟩
     replace c38 := Bool.eq_false_iff.mpr c38
     subst c38
     have H1 : (some (0, 0, false)) = some (r1, r2, r3) := by rw [if_neg (show ¬ (false = true) by decide)] at H; exact H
     clear H
     have H := H1
     clear H1
     simp only [Option.some.injEq, Prod.mk.injEq] at H
     obtain ⟨rfl, rfl, rfl⟩ := H
     have hnb73 := NB175_176.out
     have hnc73 := NB176_175.out
     have hnb74 := NB175_177.out
     have hnc74 := NB177_175.out
     have hcz75_0 : wc.cell? ⟨gb175, 0, none⟩ = some (.int .u64 a0_0) := bc BK175 0
     have hcz75_1 : wc.cell? ⟨gb175, 1, none⟩ = some (.int .i64 a0_1) := bc BK175 1
     have hcz75_2 : wc.cell? ⟨gb175, 2, none⟩ = some (.int .u64 a0_2) := bc BK175 2
     have hcz75_3 : wc.cell? ⟨gb175, 3, none⟩ = some (.int .u64 a0_3) := bc BK175 3
     have hcz75_4 : wc.cell? ⟨gb175, 4, none⟩ = some (.int .i64 a0_4) := bc BK175 4
     have hfz75_0 := blk_frozen BK175.out 0
     have hfz75_1 := blk_frozen BK175.out 1
     have hfz75_2 := blk_frozen BK175.out 2
     have hfz75_3 := blk_frozen BK175.out 3
     have hfz75_4 := blk_frozen BK175.out 4
     have hnb76 := NB176_177.out
     have hnc76 := NB177_176.out
     have hcz77_0 : wc.cell? ⟨gb176, 0, none⟩ = some (.int .u64 a1_0) := bc BK176 0
     have hcz77_1 : wc.cell? ⟨gb176, 1, none⟩ = some (.int .u32 a1_1) := bc BK176 1
     have hcz77_2 : wc.cell? ⟨gb176, 2, none⟩ = some (.int .u32 a1_2) := bc BK176 2
     have hfz77_0 := blk_frozen BK176.out 0
     have hfz77_1 := blk_frozen BK176.out 1
     have hfz77_2 := blk_frozen BK176.out 2
     try go_wp2_with (first | ((with_reducible refine gate_callee (f := 54) rfl ?_); refine goesL_ (some 32) rfl rfl Tryz.func54 (by kernel_rfl) rfl #[.agg #[.int .i64 a0_1, .int .u64 a0_2], .int .i64 (wrap64 (a1_2))] rfl argt ?_; (with_reducible refine (wide_Int_Mul.calls kj2 a0_1 a0_2 (wrap64 (a1_2)) t180 t181 true _ A32.out).mono ?_); rintro e w78 ⟨rfl, hb⟩; refine ⟨_, rfl, ?_⟩; replace BK175 := blkb BK175 hb; replace BK176 := blkb BK176 hb; replace BK177 := blkb BK177 hb; replace HB := belb HB hb; (try clear hb); (try clear hb2); (try clear hk); (try clear hi)) | ((with_reducible refine gate_dst (N := 6) rfl ?_); refine box_event ?hg (N := 6) ?hd (cs := #[.int .i64 0, .int .u64 0]) (t := 31) ?hr ?_; (case hd => rfl); (case hg => rfl); (case hr => first | (go_simp; done) | (go_simp; rfl)); intro gb183 hg w79 hbox hb; have BK183 := Aside0.mk (hbox); have GW183 := bels HB hg; have GE183 := bels HB hg; have NB175_183 := blkl BK175 hg; have NB183_175 := blkg BK175 hg; have NB176_183 := blkl BK176 hg; have NB183_176 := blkg BK176 hg; have NB177_183 := blkl BK177 hg; have NB183_177 := blkg BK177 hg; replace BK175 := blkb BK175 hb; replace BK176 := blkb BK176 hb; replace BK177 := blkb BK177 hb; replace HB := belb HB hb; clear hb hbox hg; have hnb80 := NB183_175.out; have hnc80 := NB175_183.out; have hnb81 := NB183_176.out; have hnc81 := NB176_183.out; have hnb82 := NB183_177.out; have hnc82 := NB177_183.out; have hcz83_0 : w79.cell? ⟨gb183, 0, none⟩ = some (.int .i64 0) := bc BK183 0; have hcz83_1 : w79.cell? ⟨gb183, 1, none⟩ = some (.int .u64 0) := bc BK183 1; have hfz83_0 := blk_frozen BK183.out 0; have hfz83_1 := blk_frozen BK183.out 1))
     have n0_ : Aside0 (((w79.setCell ⟨gb183, 0, none⟩ (.int .i64 t180)).setCell ⟨gb183, 1, none⟩ (.int .u64 t181)).heap[gb175]? = some (.cells #[.int .u64 a0_0, .int .i64 a0_1, .int .u64 a0_2, .int .u64 a0_3, .int .i64 a0_4] 33 (0, 0))) := ⟨by (with_reducible repeat (first | refine blk_drewN ?_ _ | refine blk_drew ?_ | refine blk_alloc ?_ _)); refine blk_far ?_ NB175_183.out _; (with_reducible repeat (first | refine blk_drewN ?_ _ | refine blk_drew ?_ | refine blk_alloc ?_ _)); refine blk_far ?_ NB175_183.out _; exact blkt BK175⟩
     have n1_ : Aside0 (((w79.setCell ⟨gb183, 0, none⟩ (.int .i64 t180)).setCell ⟨gb183, 1, none⟩ (.int .u64 t181)).heap[gb176]? = some (.cells #[.int .u64 a1_0, .int .u32 a1_1, .int .u32 a1_2] 28 (0, 0))) := ⟨by (with_reducible repeat (first | refine blk_drewN ?_ _ | refine blk_drew ?_ | refine blk_alloc ?_ _)); refine blk_far ?_ NB176_183.out _; (with_reducible repeat (first | refine blk_drewN ?_ _ | refine blk_drew ?_ | refine blk_alloc ?_ _)); refine blk_far ?_ NB176_183.out _; exact blkt BK176⟩
     have n2_ : Aside0 (((w79.setCell ⟨gb183, 0, none⟩ (.int .i64 t180)).setCell ⟨gb183, 1, none⟩ (.int .u64 t181)).heap[gb177]? = some (.cells #[.int .i64 0, .int .u64 0] 31 (0, 0))) := ⟨by (with_reducible repeat (first | refine blk_drewN ?_ _ | refine blk_drew ?_ | refine blk_alloc ?_ _)); refine blk_far ?_ NB177_183.out _; (with_reducible repeat (first | refine blk_drewN ?_ _ | refine blk_drew ?_ | refine blk_alloc ?_ _)); refine blk_far ?_ NB177_183.out _; exact blkt BK177⟩
     have n3_ : Aside0 (((w79.setCell ⟨gb183, 0, none⟩ (.int .i64 t180)).setCell ⟨gb183, 1, none⟩ (.int .u64 t181)).heap[gb183]? = some (.cells #[.int .i64 t180, .int .u64 t181] 31 (0, 0))) := ⟨by (with_reducible repeat (first | refine blk_drewN ?_ _ | refine blk_drew ?_ | refine blk_alloc ?_ _)); refine blk_put (cs := #[.int .i64 t180, .int .u64 0]) ?_ 1 _ rfl; (with_reducible repeat (first | refine blk_drewN ?_ _ | refine blk_drew ?_ | refine blk_alloc ?_ _)); refine blk_put (cs := #[.int .i64 0, .int .u64 0]) ?_ 0 _ rfl; exact blkt BK183⟩
     have n4_ : Aside0 (Below w.heap.size w ((w79.setCell ⟨gb183, 0, none⟩ (.int .i64 t180)).setCell ⟨gb183, 1, none⟩ (.int .u64 t181))) := ⟨belt HB⟩
     (try clear BK175)
     (try clear BK176)
     (try clear BK177)
     (try clear BK183)
     (try clear HB)
     generalize ((w79.setCell ⟨gb183, 0, none⟩ (.int .i64 t180)).setCell ⟨gb183, 1, none⟩ (.int .u64 t181)) = w84 at n0_ n1_ n2_ n3_ n4_ ⊢
     have BK175 := n0_
     have BK176 := n1_
     have BK177 := n2_
     have BK183 := n3_
     have HB := n4_
     clear n0_ n1_ n2_ n3_ n4_
     replace BK175 := Aside0.mk (blk_drew BK175.out)
     replace BK176 := Aside0.mk (blk_drew BK176.out)
     replace BK177 := Aside0.mk (blk_drew BK177.out)
     replace BK183 := Aside0.mk (blk_drew BK183.out)
     replace HB := Aside0.mk (below_drew1 HB.out)
     refine start_ (n := 14) (S := fun w' => w'.cell? ⟨gb176, 0, none⟩ = some (.int .u64 a1_0) ∧ w'.cell? ⟨gb176, 1, none⟩ = some (.int .u32 a1_1) ∧ w'.cell? ⟨gb176, 2, none⟩ = some (.int .u32 a1_2) ∧ w'.cell? ⟨gb175, 0, none⟩ = some (.int .u64 a0_0) ∧ w'.cell? ⟨gb175, 1, none⟩ = some (.int .i64 a0_1) ∧ w'.cell? ⟨gb175, 2, none⟩ = some (.int .u64 a0_2) ∧ w'.cell? ⟨gb175, 3, none⟩ = some (.int .u64 a0_3) ∧ w'.cell? ⟨gb175, 4, none⟩ = some (.int .i64 a0_4)) (ds := []) #[false, false, false, false, false, false, false, false, false, false, false, false, false, false] (by kernel_rfl) rfl rfl ⟨bc BK176 0, bc BK176 1, bc BK176 2, bc BK175 0, bc BK175 1, bc BK175 2, bc BK175 3, bc BK175 4⟩ (fun hHeld => ?_); refine with_tabW lag_over.tab4 lag_over.bits4 (fun HT_ HW_ => ?_)
     generalize w84.drew = w85 at BK175 BK176 BK177 BK183 HB hHeld ⊢
     refine pure_ (i := 1) (N := some 37) (v := ?_) (a' := ?_) #[false, true, false, false, false, false, false, false, false, false, false, false, false, false] rfl rfl (any_of HT_.out (by kernel_rfl)) (fun _ _ _ h => h) (Or.inl ⟨by rfl, ?_⟩) ?_ ?_
     rotate_left
     ·intro w'
      go_simp
      with_reducible rfl
     rotate_left
     ·simp only [Act.put, List.setIfInBounds_toArray, List.set_cons_zero, List.set_cons_succ, i64_w, i32_w]
      rfl
     refine pure_ (i := 4) (N := some 40) (v := ?_) (a' := ?_) #[false, true, false, false, true, false, false, false, false, false, false, false, false, false] rfl rfl (any_of HT_.out (by kernel_rfl)) (fun _ _ _ h => h) (Or.inl ⟨by rfl, ?_⟩) ?_ ?_
     rotate_left
     ·intro w'
      go_simp
      with_reducible rfl
     rotate_left
     ·simp only [Act.put, List.setIfInBounds_toArray, List.set_cons_zero, List.set_cons_succ, i64_w, i32_w]
      rfl
     refine take_ (i := 0) (N := some 36) (v := ?_) (a' := ?_) #[true, true, false, false, true, false, false, false, false, false, false, false, false, false] rfl rfl (take_ofW HT_.out HW_.out (by kernel_rfl)) (fun _ _ _ h => h) (Or.inl ⟨by rfl, ?_⟩) hHeld ?_ ?_
     rotate_left
     ·rintro w' ⟨s0, s1, s2, s3, s4, s5, s6, s7⟩
      go_simp
      with_reducible rfl
     rotate_left
     ·simp only [Act.put, List.setIfInBounds_toArray, List.set_cons_zero, List.set_cons_succ, i64_w, i32_w]
      rfl
     refine take_ (i := 2) (N := some 38) (v := ?_) (a' := ?_) #[true, true, true, false, true, false, false, false, false, false, false, false, false, false] rfl rfl (take_ofW HT_.out HW_.out (by kernel_rfl)) (fun _ _ _ h => h) (Or.inl ⟨by rfl, ?_⟩) hHeld ?_ ?_
     rotate_left
     ·rintro w' ⟨s0, s1, s2, s3, s4, s5, s6, s7⟩
      go_simp
      with_reducible rfl
     rotate_left
     ·simp only [Act.put, List.setIfInBounds_toArray, List.set_cons_zero, List.set_cons_succ, i64_w, i32_w]
      rfl
     refine take_ (i := 5) (N := some 41) (v := ?_) (a' := ?_) #[true, true, true, false, true, true, false, false, false, false, false, false, false, false] rfl rfl (take_ofW HT_.out HW_.out (by kernel_rfl)) (fun _ _ _ h => h) (Or.inl ⟨by rfl, ?_⟩) hHeld ?_ ?_
     rotate_left
     ·rintro w' ⟨s0, s1, s2, s3, s4, s5, s6, s7⟩
      go_simp
      with_reducible rfl
     rotate_left
     ·simp only [Act.put, List.setIfInBounds_toArray, List.set_cons_zero, List.set_cons_succ, i64_w, i32_w]
      rfl
     refine pure_ (i := 6) (N := some 42) (v := ?_) (a' := ?_) #[true, true, true, false, true, true, true, false, false, false, false, false, false, false] rfl rfl (any_of HT_.out (by kernel_rfl)) (fun _ _ _ h => h) (Or.inl ⟨by rfl, ?_⟩) ?_ ?_
     rotate_left
     ·intro w'
      go_simp
      with_reducible rfl
     rotate_left
     ·simp only [Act.put, List.setIfInBounds_toArray, List.set_cons_zero, List.set_cons_succ, i64_w, i32_w]
      rfl
     refine join_ (σ := Nat) 2 #[true, true, true, true, true, true, true, true, true, true, true, true, false, false] (fun s_ => [(39, .agg #[.int .i64 t184, .int .u64 t185]), (43, .tuple #[.agg #[.int .i64 t186, .int .u64 t187], .bool true]), (8, .pointer (some ⟨s_, 0, none⟩)), (35, .tuple #[.agg #[.int .i64 t186, .int .u64 t187], .bool true]), (44, .agg #[.int .i64 t186, .int .u64 t187]), (45, .bool true)]) (fun s_ w' => (w'.cell? ⟨gb176, 0, none⟩ = some (.int .u64 a1_0) ∧ w'.cell? ⟨gb176, 1, none⟩ = some (.int .u32 a1_1) ∧ w'.cell? ⟨gb176, 2, none⟩ = some (.int .u32 a1_2) ∧ w'.cell? ⟨gb175, 0, none⟩ = some (.int .u64 a0_0) ∧ w'.cell? ⟨gb175, 1, none⟩ = some (.int .i64 a0_1) ∧ w'.cell? ⟨gb175, 2, none⟩ = some (.int .u64 a0_2) ∧ w'.cell? ⟨gb175, 3, none⟩ = some (.int .u64 a0_3) ∧ w'.cell? ⟨gb175, 4, none⟩ = some (.int .i64 a0_4)) ∧ (w'.heap[gb175]? = some (.cells #[.int .u64 a0_0, .int .i64 a0_1, .int .u64 a0_2, .int .u64 a0_3, .int .i64 a0_4] 33 (0, 0))) ∧ (w'.heap[gb176]? = some (.cells #[.int .u64 a1_0, .int .u32 a1_1, .int .u32 a1_2] 28 (0, 0))) ∧ (w'.heap[gb177]? = some (.cells #[.int .i64 0, .int .u64 0] 31 (0, 0))) ∧ (w'.heap[gb183]? = some (.cells #[.int .i64 t180, .int .u64 t181] 31 (0, 0))) ∧ (w'.heap[s_]? = some (.cells #[.int .i64 0, .int .u64 0] 31 (0, 0))) ∧ (w.heap.size ≤ s_) ∧ (w.heap.size ≤ s_) ∧ (gb175 ≠ s_) ∧ (s_ ≠ gb175) ∧ (gb176 ≠ s_) ∧ (s_ ≠ gb176) ∧ (gb177 ≠ s_) ∧ (s_ ≠ gb177) ∧ (gb183 ≠ s_) ∧ (s_ ≠ gb183) ∧ (Below w.heap.size w w')) ?_ ?_
     rotate_left
     ·intro hCont
      refine two_ (i := 3) (j := 11) (Ni := some 39) (Nj := some 8) #[true, true, true, true, true, true, true, false, false, false, false, false, false, false] #[true, true, true, false, true, true, true, false, false, false, false, true, false, false] rfl rfl rfl rfl (two_of HT_.out (by kernel_rfl)) (by decide) (by decide) (fun K hK => ?_) (fun K hK => ?_)
      ·skip
       refine goes_ Tryz.func59 (by kernel_rfl) rfl #[.agg #[.int .u64 a1_0, .int .u32 a1_1, .int .u32 a1_2], .int .u64 a0_0] (by rfl) rfl rfl argt ?_
       with_reducible refine (pos_Pos_Distance.calls kj2 a1_0 a1_1 a1_2 a0_0 t184 t185 _ A33.out).mono ?_
       rintro e w86 ⟨rfl, hb⟩
       refine ⟨_, rfl, ?_⟩
       replace BK175 := blkb BK175 hb
       replace BK176 := blkb BK176 hb
       replace BK177 := blkb BK177 hb
       replace BK183 := blkb BK183 hb
       replace HB := belb HB hb
       (try clear hb)
       (try clear hb2)
       (try clear hk)
       (try clear hi)
       refine hK.out _ _ ⟨bc BK176 0, bc BK176 1, bc BK176 2, bc BK175 0, bc BK175 1, bc BK175 2, bc BK175 3, bc BK175 4⟩ (fun hHeld => ?_)
       clear hK K
       refine norm_ (a' := ?_) ?_ ?_
       rotate_left
       ·show Act.put _ (some 39) _ = _
        simp only [Act.put, List.setIfInBounds_toArray, List.set_cons_zero, List.set_cons_succ, i64_w, i32_w]
        rfl
       refine two_ (i := 7) (j := 11) (Ni := some 43) (Nj := some 8) #[true, true, true, true, true, true, true, true, false, false, false, false, false, false] #[true, true, true, true, true, true, true, false, false, false, false, true, false, false] rfl rfl rfl rfl (two_of HT_.out (by kernel_rfl)) (by decide) (by decide) (fun K hK => ?_) (fun K hK => ?_)
       ·skip
        refine goes_ Tryz.func54 (by kernel_rfl) rfl #[.agg #[.int .i64 t184, .int .u64 t185], .int .i64 (wrap64 (a0_3))] (by rfl) rfl rfl argt ?_
        with_reducible refine (wide_Int_Mul.calls kj2 t184 t185 (wrap64 (a0_3)) t186 t187 true _ A34.out).mono ?_
        rintro e w87 ⟨rfl, hb⟩
        refine ⟨_, rfl, ?_⟩
        replace BK175 := blkb BK175 hb
        replace BK176 := blkb BK176 hb
        replace BK177 := blkb BK177 hb
        replace BK183 := blkb BK183 hb
        replace HB := belb HB hb
        (try clear hb)
        (try clear hb2)
        (try clear hk)
        (try clear hi)
        refine hK.out _ _ ⟨bc BK176 0, bc BK176 1, bc BK176 2, bc BK175 0, bc BK175 1, bc BK175 2, bc BK175 3, bc BK175 4⟩ (fun hHeld => ?_)
        clear hK K
        refine norm_ (a' := ?_) ?_ ?_
        rotate_left
        ·show Act.put _ (some 43) _ = _
         simp only [Act.put, List.setIfInBounds_toArray, List.set_cons_zero, List.set_cons_succ, i64_w, i32_w]
         rfl
        refine pure_ (i := 8) (N := some 35) (v := ?_) (a' := ?_) #[true, true, true, true, true, true, true, true, true, false, false, false, false, false] rfl rfl (any_of HT_.out (by kernel_rfl)) (fun _ _ _ h => h) (Or.inl ⟨by rfl, ?_⟩) ?_ ?_
        rotate_left
        ·intro w'
         go_simp
         with_reducible rfl
        rotate_left
        ·simp only [Act.put, List.setIfInBounds_toArray, List.set_cons_zero, List.set_cons_succ, i64_w, i32_w]
         rfl
        refine pure_ (i := 9) (N := some 44) (v := ?_) (a' := ?_) #[true, true, true, true, true, true, true, true, true, true, false, false, false, false] rfl rfl (any_of HT_.out (by kernel_rfl)) (fun _ _ _ h => h) (Or.inl ⟨by rfl, ?_⟩) ?_ ?_
        rotate_left
        ·intro w'
         go_simp
         with_reducible rfl
        rotate_left
        ·simp only [Act.put, List.setIfInBounds_toArray, List.set_cons_zero, List.set_cons_succ, i64_w, i32_w]
         rfl
        refine pure_ (i := 10) (N := some 45) (v := ?_) (a' := ?_) #[true, true, true, true, true, true, true, true, true, true, true, false, false, false] rfl rfl (any_of HT_.out (by kernel_rfl)) (fun _ _ _ h => h) (Or.inl ⟨by rfl, ?_⟩) ?_ ?_
        rotate_left
        ·intro w'
         go_simp
         with_reducible rfl
        rotate_left
        ·simp only [Act.put, List.setIfInBounds_toArray, List.set_cons_zero, List.set_cons_succ, i64_w, i32_w]
         rfl
        refine one_ (i := 11) (N := some 8) #[true, true, true, true, true, true, true, true, true, true, true, true, false, false] rfl rfl (one_of HT_.out (by kernel_rfl)) (by decide) (fun K hK => ?_)
        refine box_step ?hg (N := 8) ?hd (cs := #[.int .i64 0, .int .u64 0]) (t := 31) ?hr ?_; (case hd => rfl); (case hg => rfl); (case hr => first | (go_simp; done) | (go_simp; rfl))
        intro gb189 hg w88 hbox hb
        have BK189 := Aside0.mk (hbox)
        have GW189 := bels HB hg
        have GE189 := bels HB hg
        have NB175_189 := blkl BK175 hg
        have NB189_175 := blkg BK175 hg
        have NB176_189 := blkl BK176 hg
        have NB189_176 := blkg BK176 hg
        have NB177_189 := blkl BK177 hg
        have NB189_177 := blkg BK177 hg
        have NB183_189 := blkl BK183 hg
        have NB189_183 := blkg BK183 hg
        replace BK175 := blkb BK175 hb
        replace BK176 := blkb BK176 hb
        replace BK177 := blkb BK177 hb
        replace BK183 := blkb BK183 hb
        replace HB := belb HB hb
        clear hb hbox hg
        refine hK.out _ _ ⟨bc BK176 0, bc BK176 1, bc BK176 2, bc BK175 0, bc BK175 1, bc BK175 2, bc BK175 3, bc BK175 4⟩ (fun hHeld => ?_)
        clear hK K
        refine norm_ (a' := ?_) ?_ ?_
        rotate_left
        ·show Act.put _ (some 8) _ = _
         simp only [Act.put, List.setIfInBounds_toArray, List.set_cons_zero, List.set_cons_succ, i64_w, i32_w]
         rfl
        exact norm_ (by simp only [putAll, Act.put, List.setIfInBounds_toArray, List.set_cons_zero, List.set_cons_succ]) (hCont (gb189) _ ⟨hHeld, (blkt BK175), (blkt BK176), (blkt BK177), (blkt BK183), (blkt BK189), GW189.out, GE189.out, NB175_189.out, NB189_175.out, NB176_189.out, NB189_176.out, NB177_189.out, NB189_177.out, NB183_189.out, NB189_183.out, (belt HB)⟩)
       skip
       refine box_step ?hg (N := 8) ?hd (cs := #[.int .i64 0, .int .u64 0]) (t := 31) ?hr ?_; (case hd => rfl); (case hg => rfl); (case hr => first | (go_simp; done) | (go_simp; rfl))
       intro gb189 hg w87 hbox hb
       have BK189 := Aside0.mk (hbox)
       have GW189 := bels HB hg
       have GE189 := bels HB hg
       have NB175_189 := blkl BK175 hg
       have NB189_175 := blkg BK175 hg
       have NB176_189 := blkl BK176 hg
       have NB189_176 := blkg BK176 hg
       have NB177_189 := blkl BK177 hg
       have NB189_177 := blkg BK177 hg
       have NB183_189 := blkl BK183 hg
       have NB189_183 := blkg BK183 hg
       replace BK175 := blkb BK175 hb
       replace BK176 := blkb BK176 hb
       replace BK177 := blkb BK177 hb
       replace BK183 := blkb BK183 hb
       replace HB := belb HB hb
       clear hb hbox hg
       refine hK.out _ _ ⟨bc BK176 0, bc BK176 1, bc BK176 2, bc BK175 0, bc BK175 1, bc BK175 2, bc BK175 3, bc BK175 4⟩ (fun hHeld => ?_)
       clear hK K
       refine norm_ (a' := ?_) ?_ ?_
       rotate_left
       ·show Act.put _ (some 8) _ = _
        simp only [Act.put, List.setIfInBounds_toArray, List.set_cons_zero, List.set_cons_succ, i64_w, i32_w]
        rfl
       refine one_ (i := 7) (N := some 43) #[true, true, true, true, true, true, true, true, false, false, false, true, false, false] rfl rfl (one_of HT_.out (by kernel_rfl)) (by decide) (fun K hK => ?_)
       refine goes_ Tryz.func54 (by kernel_rfl) rfl #[.agg #[.int .i64 t184, .int .u64 t185], .int .i64 (wrap64 (a0_3))] (by rfl) rfl rfl argt ?_
       with_reducible refine (wide_Int_Mul.calls kj2 t184 t185 (wrap64 (a0_3)) t186 t187 true _ A34.out).mono ?_
       rintro e w88 ⟨rfl, hb⟩
       refine ⟨_, rfl, ?_⟩
       replace BK175 := blkb BK175 hb
       replace BK176 := blkb BK176 hb
       replace BK177 := blkb BK177 hb
       replace BK183 := blkb BK183 hb
       replace BK189 := blkb BK189 hb
       replace HB := belb HB hb
       (try clear hb)
       (try clear hb2)
       (try clear hk)
       (try clear hi)
       refine hK.out _ _ ⟨bc BK176 0, bc BK176 1, bc BK176 2, bc BK175 0, bc BK175 1, bc BK175 2, bc BK175 3, bc BK175 4⟩ (fun hHeld => ?_)
       clear hK K
       refine norm_ (a' := ?_) ?_ ?_
       rotate_left
       ·show Act.put _ (some 43) _ = _
        simp only [Act.put, List.setIfInBounds_toArray, List.set_cons_zero, List.set_cons_succ, i64_w, i32_w]
        rfl
       refine pure_ (i := 8) (N := some 35) (v := ?_) (a' := ?_) #[true, true, true, true, true, true, true, true, true, false, false, true, false, false] rfl rfl (any_of HT_.out (by kernel_rfl)) (fun _ _ _ h => h) (Or.inl ⟨by rfl, ?_⟩) ?_ ?_
       rotate_left
       ·intro w'
        go_simp
        with_reducible rfl
       rotate_left
       ·simp only [Act.put, List.setIfInBounds_toArray, List.set_cons_zero, List.set_cons_succ, i64_w, i32_w]
        rfl
       refine pure_ (i := 9) (N := some 44) (v := ?_) (a' := ?_) #[true, true, true, true, true, true, true, true, true, true, false, true, false, false] rfl rfl (any_of HT_.out (by kernel_rfl)) (fun _ _ _ h => h) (Or.inl ⟨by rfl, ?_⟩) ?_ ?_
       rotate_left
       ·intro w'
        go_simp
        with_reducible rfl
       rotate_left
       ·simp only [Act.put, List.setIfInBounds_toArray, List.set_cons_zero, List.set_cons_succ, i64_w, i32_w]
        rfl
       refine pure_ (i := 10) (N := some 45) (v := ?_) (a' := ?_) #[true, true, true, true, true, true, true, true, true, true, true, true, false, false] rfl rfl (any_of HT_.out (by kernel_rfl)) (fun _ _ _ h => h) (Or.inl ⟨by rfl, ?_⟩) ?_ ?_
       rotate_left
       ·intro w'
        go_simp
        with_reducible rfl
       rotate_left
       ·simp only [Act.put, List.setIfInBounds_toArray, List.set_cons_zero, List.set_cons_succ, i64_w, i32_w]
        rfl
       exact norm_ (by simp only [putAll, Act.put, List.setIfInBounds_toArray, List.set_cons_zero, List.set_cons_succ]) (hCont (gb189) _ ⟨hHeld, (blkt BK175), (blkt BK176), (blkt BK177), (blkt BK183), (blkt BK189), GW189.out, GE189.out, NB175_189.out, NB189_175.out, NB176_189.out, NB189_176.out, NB177_189.out, NB189_177.out, NB183_189.out, NB189_183.out, (belt HB)⟩)
      skip
      refine box_step ?hg (N := 8) ?hd (cs := #[.int .i64 0, .int .u64 0]) (t := 31) ?hr ?_; (case hd => rfl); (case hg => rfl); (case hr => first | (go_simp; done) | (go_simp; rfl))
      intro gb189 hg w86 hbox hb
      have BK189 := Aside0.mk (hbox)
      have GW189 := bels HB hg
      have GE189 := bels HB hg
      have NB175_189 := blkl BK175 hg
      have NB189_175 := blkg BK175 hg
      have NB176_189 := blkl BK176 hg
      have NB189_176 := blkg BK176 hg
      have NB177_189 := blkl BK177 hg
      have NB189_177 := blkg BK177 hg
      have NB183_189 := blkl BK183 hg
      have NB189_183 := blkg BK183 hg
      replace BK175 := blkb BK175 hb
      replace BK176 := blkb BK176 hb
      replace BK177 := blkb BK177 hb
      replace BK183 := blkb BK183 hb
      replace HB := belb HB hb
      clear hb hbox hg
      refine hK.out _ _ ⟨bc BK176 0, bc BK176 1, bc BK176 2, bc BK175 0, bc BK175 1, bc BK175 2, bc BK175 3, bc BK175 4⟩ (fun hHeld => ?_)
      clear hK K
      refine norm_ (a' := ?_) ?_ ?_
      rotate_left
      ·show Act.put _ (some 8) _ = _
       simp only [Act.put, List.setIfInBounds_toArray, List.set_cons_zero, List.set_cons_succ, i64_w, i32_w]
       rfl
      refine one_ (i := 3) (N := some 39) #[true, true, true, true, true, true, true, false, false, false, false, true, false, false] rfl rfl (one_of HT_.out (by kernel_rfl)) (by decide) (fun K hK => ?_)
      refine goes_ Tryz.func59 (by kernel_rfl) rfl #[.agg #[.int .u64 a1_0, .int .u32 a1_1, .int .u32 a1_2], .int .u64 a0_0] (by rfl) rfl rfl argt ?_
      with_reducible refine (pos_Pos_Distance.calls kj2 a1_0 a1_1 a1_2 a0_0 t184 t185 _ A33.out).mono ?_
      rintro e w87 ⟨rfl, hb⟩
      refine ⟨_, rfl, ?_⟩
      replace BK175 := blkb BK175 hb
      replace BK176 := blkb BK176 hb
      replace BK177 := blkb BK177 hb
      replace BK183 := blkb BK183 hb
      replace BK189 := blkb BK189 hb
      replace HB := belb HB hb
      (try clear hb)
      (try clear hb2)
      (try clear hk)
      (try clear hi)
      refine hK.out _ _ ⟨bc BK176 0, bc BK176 1, bc BK176 2, bc BK175 0, bc BK175 1, bc BK175 2, bc BK175 3, bc BK175 4⟩ (fun hHeld => ?_)
      clear hK K
      refine norm_ (a' := ?_) ?_ ?_
      rotate_left
      ·show Act.put _ (some 39) _ = _
       simp only [Act.put, List.setIfInBounds_toArray, List.set_cons_zero, List.set_cons_succ, i64_w, i32_w]
       rfl
      refine one_ (i := 7) (N := some 43) #[true, true, true, true, true, true, true, true, false, false, false, true, false, false] rfl rfl (one_of HT_.out (by kernel_rfl)) (by decide) (fun K hK => ?_)
      refine goes_ Tryz.func54 (by kernel_rfl) rfl #[.agg #[.int .i64 t184, .int .u64 t185], .int .i64 (wrap64 (a0_3))] (by rfl) rfl rfl argt ?_
      with_reducible refine (wide_Int_Mul.calls kj2 t184 t185 (wrap64 (a0_3)) t186 t187 true _ A34.out).mono ?_
      rintro e w88 ⟨rfl, hb⟩
      refine ⟨_, rfl, ?_⟩
      replace BK175 := blkb BK175 hb
      replace BK176 := blkb BK176 hb
      replace BK177 := blkb BK177 hb
      replace BK183 := blkb BK183 hb
      replace BK189 := blkb BK189 hb
      replace HB := belb HB hb
      (try clear hb)
      (try clear hb2)
      (try clear hk)
      (try clear hi)
      refine hK.out _ _ ⟨bc BK176 0, bc BK176 1, bc BK176 2, bc BK175 0, bc BK175 1, bc BK175 2, bc BK175 3, bc BK175 4⟩ (fun hHeld => ?_)
      clear hK K
      refine norm_ (a' := ?_) ?_ ?_
      rotate_left
      ·show Act.put _ (some 43) _ = _
       simp only [Act.put, List.setIfInBounds_toArray, List.set_cons_zero, List.set_cons_succ, i64_w, i32_w]
       rfl
      refine pure_ (i := 8) (N := some 35) (v := ?_) (a' := ?_) #[true, true, true, true, true, true, true, true, true, false, false, true, false, false] rfl rfl (any_of HT_.out (by kernel_rfl)) (fun _ _ _ h => h) (Or.inl ⟨by rfl, ?_⟩) ?_ ?_
      rotate_left
      ·intro w'
       go_simp
       with_reducible rfl
      rotate_left
      ·simp only [Act.put, List.setIfInBounds_toArray, List.set_cons_zero, List.set_cons_succ, i64_w, i32_w]
       rfl
      refine pure_ (i := 9) (N := some 44) (v := ?_) (a' := ?_) #[true, true, true, true, true, true, true, true, true, true, false, true, false, false] rfl rfl (any_of HT_.out (by kernel_rfl)) (fun _ _ _ h => h) (Or.inl ⟨by rfl, ?_⟩) ?_ ?_
      rotate_left
      ·intro w'
       go_simp
       with_reducible rfl
      rotate_left
      ·simp only [Act.put, List.setIfInBounds_toArray, List.set_cons_zero, List.set_cons_succ, i64_w, i32_w]
       rfl
      refine pure_ (i := 10) (N := some 45) (v := ?_) (a' := ?_) #[true, true, true, true, true, true, true, true, true, true, true, true, false, false] rfl rfl (any_of HT_.out (by kernel_rfl)) (fun _ _ _ h => h) (Or.inl ⟨by rfl, ?_⟩) ?_ ?_
      rotate_left
      ·intro w'
       go_simp
       with_reducible rfl
      rotate_left
      ·simp only [Act.put, List.setIfInBounds_toArray, List.set_cons_zero, List.set_cons_succ, i64_w, i32_w]
       rfl
      exact norm_ (by simp only [putAll, Act.put, List.setIfInBounds_toArray, List.set_cons_zero, List.set_cons_succ]) (hCont (gb189) _ ⟨hHeld, (blkt BK175), (blkt BK176), (blkt BK177), (blkt BK183), (blkt BK189), GW189.out, GE189.out, NB175_189.out, NB189_175.out, NB176_189.out, NB189_176.out, NB177_189.out, NB189_177.out, NB183_189.out, NB189_183.out, (belt HB)⟩)
     rintro gb189 w89 ⟨hS_, h0_, h1_, h2_, h3_, h4_, h5_, h6_, h7_, h8_, h9_, h10_, h11_, h12_, h13_, h14_, h15_⟩
     replace BK175 : Aside0 (w89.heap[gb175]? = some (.cells #[.int .u64 a0_0, .int .i64 a0_1, .int .u64 a0_2, .int .u64 a0_3, .int .i64 a0_4] 33 (0, 0))) := ⟨h0_⟩
     replace BK176 : Aside0 (w89.heap[gb176]? = some (.cells #[.int .u64 a1_0, .int .u32 a1_1, .int .u32 a1_2] 28 (0, 0))) := ⟨h1_⟩
     replace BK177 : Aside0 (w89.heap[gb177]? = some (.cells #[.int .i64 0, .int .u64 0] 31 (0, 0))) := ⟨h2_⟩
     replace BK183 : Aside0 (w89.heap[gb183]? = some (.cells #[.int .i64 t180, .int .u64 t181] 31 (0, 0))) := ⟨h3_⟩
     have BK189 : Aside0 (w89.heap[gb189]? = some (.cells #[.int .i64 0, .int .u64 0] 31 (0, 0))) := ⟨h4_⟩
     have GW189 : Aside0 (w.heap.size ≤ gb189) := ⟨h5_⟩
     have GE189 : Aside0 (w.heap.size ≤ gb189) := ⟨h6_⟩
     have NB175_189 : Aside0 (gb175 ≠ gb189) := ⟨h7_⟩
     have NB189_175 : Aside0 (gb189 ≠ gb175) := ⟨h8_⟩
     have NB176_189 : Aside0 (gb176 ≠ gb189) := ⟨h9_⟩
     have NB189_176 : Aside0 (gb189 ≠ gb176) := ⟨h10_⟩
     have NB177_189 : Aside0 (gb177 ≠ gb189) := ⟨h11_⟩
     have NB189_177 : Aside0 (gb189 ≠ gb177) := ⟨h12_⟩
     have NB183_189 : Aside0 (gb183 ≠ gb189) := ⟨h13_⟩
     have NB189_183 : Aside0 (gb189 ≠ gb183) := ⟨h14_⟩
     replace HB : Aside0 (Below w.heap.size w w89) := ⟨h15_⟩
     clear h0_ h1_ h2_ h3_ h4_ h5_ h6_ h7_ h8_ h9_ h10_ h11_ h12_ h13_ h14_ h15_
     have hHeld : w89.cell? ⟨gb176, 0, none⟩ = some (.int .u64 a1_0) ∧ w89.cell? ⟨gb176, 1, none⟩ = some (.int .u32 a1_1) ∧ w89.cell? ⟨gb176, 2, none⟩ = some (.int .u32 a1_2) ∧ w89.cell? ⟨gb175, 0, none⟩ = some (.int .u64 a0_0) ∧ w89.cell? ⟨gb175, 1, none⟩ = some (.int .i64 a0_1) ∧ w89.cell? ⟨gb175, 2, none⟩ = some (.int .u64 a0_2) ∧ w89.cell? ⟨gb175, 3, none⟩ = some (.int .u64 a0_3) ∧ w89.cell? ⟨gb175, 4, none⟩ = some (.int .i64 a0_4) := hS_
     refine norm_ (a' := ?_) ?_ ?_
     rotate_left
     ·simp only [putAll, Act.put, List.setIfInBounds_toArray, List.set_cons_zero, List.set_cons_succ]
      rfl
     refine one_ (i := 12) (N := none) #[true, true, true, true, true, true, true, true, true, true, true, true, true, false] rfl rfl (one_of HT_.out (by kernel_rfl)) (by decide) (fun K hK => ?_)
     have hs90 : w89.cell? ⟨gb189, 0, none⟩ = some (.int .i64 0) := bc BK189 0
     have hfs90 := blk_frozen BK189.out 0
     have hns90_0 := NB175_189.out
     have hns90_1 := NB176_189.out
     have hns90_2 := NB177_189.out
     have hns90_3 := NB183_189.out
     have hms90_0 := NB189_175.out
     have hms90_1 := NB189_176.out
     have hms90_2 := NB189_177.out
     have hms90_3 := NB189_183.out
     have hs91 : w89.cell? ⟨gb189, 1, none⟩ = some (.int .u64 0) := bc BK189 1
     have hfs91 := blk_frozen BK189.out 1
     have hns91_0 := NB175_189.out
     have hns91_1 := NB176_189.out
     have hns91_2 := NB177_189.out
     have hns91_3 := NB183_189.out
     have hms91_0 := NB189_175.out
     have hms91_1 := NB189_176.out
     have hms91_2 := NB189_177.out
     have hms91_3 := NB189_183.out
     refine skip_ (w1 := ?_) (by rfl) rfl ?_ ?_
     rotate_left
     ·go_simp
      rfl
     refine hK.out _ _ ⟨((cell_far (p := ⟨gb189, _, none⟩) NB176_189.out _).trans (((cell_far (p := ⟨gb189, _, none⟩) NB176_189.out _).trans (hHeld.1)))), ((cell_far (p := ⟨gb189, _, none⟩) NB176_189.out _).trans (((cell_far (p := ⟨gb189, _, none⟩) NB176_189.out _).trans (hHeld.2.1)))), ((cell_far (p := ⟨gb189, _, none⟩) NB176_189.out _).trans (((cell_far (p := ⟨gb189, _, none⟩) NB176_189.out _).trans (hHeld.2.2.1)))), ((cell_far (p := ⟨gb189, _, none⟩) NB175_189.out _).trans (((cell_far (p := ⟨gb189, _, none⟩) NB175_189.out _).trans (hHeld.2.2.2.1)))), ((cell_far (p := ⟨gb189, _, none⟩) NB175_189.out _).trans (((cell_far (p := ⟨gb189, _, none⟩) NB175_189.out _).trans (hHeld.2.2.2.2.1)))), ((cell_far (p := ⟨gb189, _, none⟩) NB175_189.out _).trans (((cell_far (p := ⟨gb189, _, none⟩) NB175_189.out _).trans (hHeld.2.2.2.2.2.1)))), ((cell_far (p := ⟨gb189, _, none⟩) NB175_189.out _).trans (((cell_far (p := ⟨gb189, _, none⟩) NB175_189.out _).trans (hHeld.2.2.2.2.2.2.1)))), ((cell_far (p := ⟨gb189, _, none⟩) NB175_189.out _).trans (((cell_far (p := ⟨gb189, _, none⟩) NB175_189.out _).trans (hHeld.2.2.2.2.2.2.2))))⟩ (fun hHeld => ?_)
     clear hK K
     refine pure_ (i := 13) (N := some 9) (v := ?_) (a' := ?_) #[true, true, true, true, true, true, true, true, true, true, true, true, true, true] rfl rfl (any_of HT_.out (by kernel_rfl)) (fun _ _ _ h => h) (Or.inl ⟨by rfl, ?_⟩) ?_ ?_
     rotate_left
     ·intro w'
      go_simp
      with_reducible rfl
     rotate_left
     ·simp only [Act.put, List.setIfInBounds_toArray, List.set_cons_zero, List.set_cons_succ, i64_w, i32_w]
      rfl
     refine done_ (done_of HT_.out (by kernel_rfl)) ?_
     have hnb92 := NB183_189.out
     have hnc92 := NB189_183.out
     have hcz93_0 : w89.cell? ⟨gb183, 0, none⟩ = some (.int .i64 t180) := bc BK183 0
     have hcz93_1 : w89.cell? ⟨gb183, 1, none⟩ = some (.int .u64 t181) := bc BK183 1
     have hfz93_0 := blk_frozen BK183.out 0
     have hfz93_1 := blk_frozen BK183.out 1
     have hnb94 := NB189_175.out
     have hnc94 := NB175_189.out
     have hnb95 := NB189_176.out
     have hnc95 := NB176_189.out
     have hnb96 := NB189_177.out
     have hnc96 := NB177_189.out
     have hcz97_0 : w89.cell? ⟨gb189, 0, none⟩ = some (.int .i64 0) := bc BK189 0
     have hcz97_1 : w89.cell? ⟨gb189, 1, none⟩ = some (.int .u64 0) := bc BK189 1
     have hfz97_0 := blk_frozen BK189.out 0
     have hfz97_1 := blk_frozen BK189.out 1
     try go_wp2_with (first | ((with_reducible refine gate_callee (f := 26) rfl ?_); refine goesL_ (some 49) rfl rfl Tryz.func26 (by kernel_rfl) rfl #[.agg #[.int .i64 t180, .int .u64 t181], .agg #[.int .i64 t186, .int .u64 t187]] rfl argt ?_; (with_reducible refine (wide_Int_Sub.calls t180 t181 t186 t187 t190 t191 false _ A35.out).mono ?_); rintro e w98 ⟨rfl, hb⟩; refine ⟨_, rfl, ?_⟩; replace BK175 := Aside0.mk (blk_below (g := gb175) (o := .cells #[.int .u64 a0_0, .int .i64 a0_1, .int .u64 a0_2, .int .u64 a0_3, .int .i64 a0_4] 33 (0, 0)) (by (with_reducible repeat (first | refine blk_drewN ?_ _ | refine blk_drew ?_ | refine blk_alloc ?_ _)); refine blk_far ?_ NB175_189.out _; (with_reducible repeat (first | refine blk_drewN ?_ _ | refine blk_drew ?_ | refine blk_alloc ?_ _)); refine blk_far ?_ NB175_189.out _; exact blkt BK175) hb); replace BK176 := Aside0.mk (blk_below (g := gb176) (o := .cells #[.int .u64 a1_0, .int .u32 a1_1, .int .u32 a1_2] 28 (0, 0)) (by (with_reducible repeat (first | refine blk_drewN ?_ _ | refine blk_drew ?_ | refine blk_alloc ?_ _)); refine blk_far ?_ NB176_189.out _; (with_reducible repeat (first | refine blk_drewN ?_ _ | refine blk_drew ?_ | refine blk_alloc ?_ _)); refine blk_far ?_ NB176_189.out _; exact blkt BK176) hb); replace BK177 := Aside0.mk (blk_below (g := gb177) (o := .cells #[.int .i64 0, .int .u64 0] 31 (0, 0)) (by (with_reducible repeat (first | refine blk_drewN ?_ _ | refine blk_drew ?_ | refine blk_alloc ?_ _)); refine blk_far ?_ NB177_189.out _; (with_reducible repeat (first | refine blk_drewN ?_ _ | refine blk_drew ?_ | refine blk_alloc ?_ _)); refine blk_far ?_ NB177_189.out _; exact blkt BK177) hb); replace BK183 := Aside0.mk (blk_below (g := gb183) (o := .cells #[.int .i64 t180, .int .u64 t181] 31 (0, 0)) (by (with_reducible repeat (first | refine blk_drewN ?_ _ | refine blk_drew ?_ | refine blk_alloc ?_ _)); refine blk_far ?_ NB183_189.out _; (with_reducible repeat (first | refine blk_drewN ?_ _ | refine blk_drew ?_ | refine blk_alloc ?_ _)); refine blk_far ?_ NB183_189.out _; exact blkt BK183) hb); replace BK189 := Aside0.mk (blk_below (g := gb189) (o := .cells #[.int .i64 t186, .int .u64 t187] 31 (0, 0)) (by (with_reducible repeat (first | refine blk_drewN ?_ _ | refine blk_drew ?_ | refine blk_alloc ?_ _)); refine blk_put (cs := #[.int .i64 t186, .int .u64 0]) ?_ 1 _ rfl; (with_reducible repeat (first | refine blk_drewN ?_ _ | refine blk_drew ?_ | refine blk_alloc ?_ _)); refine blk_put (cs := #[.int .i64 0, .int .u64 0]) ?_ 0 _ rfl; exact blkt BK189) hb); replace HB := belb HB hb; (try clear hb); (try clear hb2); (try clear hk); (try clear hi)) | ((with_reducible refine gate_dst (N := 10) rfl ?_); refine box_event ?hg (N := 10) ?hd (cs := #[.int .i64 0, .int .u64 0]) (t := 31) ?hr ?_; (case hd => rfl); (case hg => rfl); (case hr => first | (go_simp; done) | (go_simp; rfl)); intro gb193 hg w99 hbox hb; have BK193 := Aside0.mk (hbox); have GW193 := bels HB hg; have GE193 := bels HB hg; have NB175_193 := blkl BK175 hg; have NB193_175 := blkg BK175 hg; have NB176_193 := blkl BK176 hg; have NB193_176 := blkg BK176 hg; have NB177_193 := blkl BK177 hg; have NB193_177 := blkg BK177 hg; have NB183_193 := blkl BK183 hg; have NB193_183 := blkg BK183 hg; have NB189_193 := blkl BK189 hg; have NB193_189 := blkg BK189 hg; replace BK175 := blkb BK175 hb; replace BK176 := blkb BK176 hb; replace BK177 := blkb BK177 hb; replace BK183 := blkb BK183 hb; replace BK189 := blkb BK189 hb; replace HB := belb HB hb; clear hb hbox hg; have hnb100 := NB193_175.out; have hnc100 := NB175_193.out; have hnb101 := NB193_176.out; have hnc101 := NB176_193.out; have hnb102 := NB193_177.out; have hnc102 := NB177_193.out; have hnb103 := NB193_183.out; have hnc103 := NB183_193.out; have hnb104 := NB193_189.out; have hnc104 := NB189_193.out; have hcz105_0 : w99.cell? ⟨gb193, 0, none⟩ = some (.int .i64 0) := bc BK193 0; have hcz105_1 : w99.cell? ⟨gb193, 1, none⟩ = some (.int .u64 0) := bc BK193 1; have hfz105_0 := blk_frozen BK193.out 0; have hfz105_1 := blk_frozen BK193.out 1; have hcz106_0 : w99.cell? ⟨gb177, 0, none⟩ = some (.int .i64 0) := bc BK177 0; have hcz106_1 : w99.cell? ⟨gb177, 1, none⟩ = some (.int .u64 0) := bc BK177 1; have hfz106_0 := blk_frozen BK177.out 0; have hfz106_1 := blk_frozen BK177.out 1))
     refine bodyPost_ret (results_ct rfl _ _ gb177 31 #[.int .i64 0, .int .u64 0] (0, 0) _ rfl (by (with_reducible repeat (first | refine blk_drewN ?_ _ | refine blk_drew ?_ | refine blk_alloc ?_ _)); refine blk_put (cs := #[.int .i64 0, .int .u64 0]) ?_ 1 _ rfl; (with_reducible repeat (first | refine blk_drewN ?_ _ | refine blk_drew ?_ | refine blk_alloc ?_ _)); refine blk_put (cs := #[.int .i64 0, .int .u64 0]) ?_ 0 _ rfl; (with_reducible repeat (first | refine blk_drewN ?_ _ | refine blk_drew ?_ | refine blk_alloc ?_ _)); refine blk_far ?_ NB177_193.out _; (with_reducible repeat (first | refine blk_drewN ?_ _ | refine blk_drew ?_ | refine blk_alloc ?_ _)); refine blk_far ?_ NB177_193.out _; exact blkt BK177) Tryz.underlying31 rfl (by kernel_rfl)) rfl ?_
     exact ⟨by first | rfl | (simp [errW_none, errW_some] <;> rfl) | (simp [*, errW_none, errW_some] <;> rfl), belt HB⟩
    replace c37 := Bool.eq_false_iff.mpr c37
    subst c37
    have H1 : (some (0, 0, false)) = some (r1, r2, r3) := by rw [if_neg (show ¬ (false = true) by decide)] at H; exact H
    clear H
    have H := H1
    clear H1
    simp only [Option.some.injEq, Prod.mk.injEq] at H
    obtain ⟨rfl, rfl, rfl⟩ := H
    have hnb107 := NB175_176.out
    have hnc107 := NB176_175.out
    have hnb108 := NB175_177.out
    have hnc108 := NB177_175.out
    have hcz109_0 : wc.cell? ⟨gb175, 0, none⟩ = some (.int .u64 a0_0) := bc BK175 0
    have hcz109_1 : wc.cell? ⟨gb175, 1, none⟩ = some (.int .i64 a0_1) := bc BK175 1
    have hcz109_2 : wc.cell? ⟨gb175, 2, none⟩ = some (.int .u64 a0_2) := bc BK175 2
    have hcz109_3 : wc.cell? ⟨gb175, 3, none⟩ = some (.int .u64 a0_3) := bc BK175 3
    have hcz109_4 : wc.cell? ⟨gb175, 4, none⟩ = some (.int .i64 a0_4) := bc BK175 4
    have hfz109_0 := blk_frozen BK175.out 0
    have hfz109_1 := blk_frozen BK175.out 1
    have hfz109_2 := blk_frozen BK175.out 2
    have hfz109_3 := blk_frozen BK175.out 3
    have hfz109_4 := blk_frozen BK175.out 4
    have hnb110 := NB176_177.out
    have hnc110 := NB177_176.out
    have hcz111_0 : wc.cell? ⟨gb176, 0, none⟩ = some (.int .u64 a1_0) := bc BK176 0
    have hcz111_1 : wc.cell? ⟨gb176, 1, none⟩ = some (.int .u32 a1_1) := bc BK176 1
    have hcz111_2 : wc.cell? ⟨gb176, 2, none⟩ = some (.int .u32 a1_2) := bc BK176 2
    have hfz111_0 := blk_frozen BK176.out 0
    have hfz111_1 := blk_frozen BK176.out 1
    have hfz111_2 := blk_frozen BK176.out 2
    try go_wp2_with (first | ((with_reducible refine gate_callee (f := 54) rfl ?_); refine goesL_ (some 32) rfl rfl Tryz.func54 (by kernel_rfl) rfl #[.agg #[.int .i64 a0_1, .int .u64 a0_2], .int .i64 (wrap64 (a1_2))] rfl argt ?_; (with_reducible refine (wide_Int_Mul.calls kj2 a0_1 a0_2 (wrap64 (a1_2)) t180 t181 true _ A32.out).mono ?_); rintro e w112 ⟨rfl, hb⟩; refine ⟨_, rfl, ?_⟩; replace BK175 := blkb BK175 hb; replace BK176 := blkb BK176 hb; replace BK177 := blkb BK177 hb; replace HB := belb HB hb; (try clear hb); (try clear hb2); (try clear hk); (try clear hi)) | ((with_reducible refine gate_dst (N := 6) rfl ?_); refine box_event ?hg (N := 6) ?hd (cs := #[.int .i64 0, .int .u64 0]) (t := 31) ?hr ?_; (case hd => rfl); (case hg => rfl); (case hr => first | (go_simp; done) | (go_simp; rfl)); intro gb183 hg w113 hbox hb; have BK183 := Aside0.mk (hbox); have GW183 := bels HB hg; have GE183 := bels HB hg; have NB175_183 := blkl BK175 hg; have NB183_175 := blkg BK175 hg; have NB176_183 := blkl BK176 hg; have NB183_176 := blkg BK176 hg; have NB177_183 := blkl BK177 hg; have NB183_177 := blkg BK177 hg; replace BK175 := blkb BK175 hb; replace BK176 := blkb BK176 hb; replace BK177 := blkb BK177 hb; replace HB := belb HB hb; clear hb hbox hg; have hnb114 := NB183_175.out; have hnc114 := NB175_183.out; have hnb115 := NB183_176.out; have hnc115 := NB176_183.out; have hnb116 := NB183_177.out; have hnc116 := NB177_183.out; have hcz117_0 : w113.cell? ⟨gb183, 0, none⟩ = some (.int .i64 0) := bc BK183 0; have hcz117_1 : w113.cell? ⟨gb183, 1, none⟩ = some (.int .u64 0) := bc BK183 1; have hfz117_0 := blk_frozen BK183.out 0; have hfz117_1 := blk_frozen BK183.out 1))
    have n0_ : Aside0 (((w113.setCell ⟨gb183, 0, none⟩ (.int .i64 t180)).setCell ⟨gb183, 1, none⟩ (.int .u64 t181)).heap[gb175]? = some (.cells #[.int .u64 a0_0, .int .i64 a0_1, .int .u64 a0_2, .int .u64 a0_3, .int .i64 a0_4] 33 (0, 0))) := ⟨by (with_reducible repeat (first | refine blk_drewN ?_ _ | refine blk_drew ?_ | refine blk_alloc ?_ _)); refine blk_far ?_ NB175_183.out _; (with_reducible repeat (first | refine blk_drewN ?_ _ | refine blk_drew ?_ | refine blk_alloc ?_ _)); refine blk_far ?_ NB175_183.out _; exact blkt BK175⟩
    have n1_ : Aside0 (((w113.setCell ⟨gb183, 0, none⟩ (.int .i64 t180)).setCell ⟨gb183, 1, none⟩ (.int .u64 t181)).heap[gb176]? = some (.cells #[.int .u64 a1_0, .int .u32 a1_1, .int .u32 a1_2] 28 (0, 0))) := ⟨by (with_reducible repeat (first | refine blk_drewN ?_ _ | refine blk_drew ?_ | refine blk_alloc ?_ _)); refine blk_far ?_ NB176_183.out _; (with_reducible repeat (first | refine blk_drewN ?_ _ | refine blk_drew ?_ | refine blk_alloc ?_ _)); refine blk_far ?_ NB176_183.out _; exact blkt BK176⟩
    have n2_ : Aside0 (((w113.setCell ⟨gb183, 0, none⟩ (.int .i64 t180)).setCell ⟨gb183, 1, none⟩ (.int .u64 t181)).heap[gb177]? = some (.cells #[.int .i64 0, .int .u64 0] 31 (0, 0))) := ⟨by (with_reducible repeat (first | refine blk_drewN ?_ _ | refine blk_drew ?_ | refine blk_alloc ?_ _)); refine blk_far ?_ NB177_183.out _; (with_reducible repeat (first | refine blk_drewN ?_ _ | refine blk_drew ?_ | refine blk_alloc ?_ _)); refine blk_far ?_ NB177_183.out _; exact blkt BK177⟩
    have n3_ : Aside0 (((w113.setCell ⟨gb183, 0, none⟩ (.int .i64 t180)).setCell ⟨gb183, 1, none⟩ (.int .u64 t181)).heap[gb183]? = some (.cells #[.int .i64 t180, .int .u64 t181] 31 (0, 0))) := ⟨by (with_reducible repeat (first | refine blk_drewN ?_ _ | refine blk_drew ?_ | refine blk_alloc ?_ _)); refine blk_put (cs := #[.int .i64 t180, .int .u64 0]) ?_ 1 _ rfl; (with_reducible repeat (first | refine blk_drewN ?_ _ | refine blk_drew ?_ | refine blk_alloc ?_ _)); refine blk_put (cs := #[.int .i64 0, .int .u64 0]) ?_ 0 _ rfl; exact blkt BK183⟩
    have n4_ : Aside0 (Below w.heap.size w ((w113.setCell ⟨gb183, 0, none⟩ (.int .i64 t180)).setCell ⟨gb183, 1, none⟩ (.int .u64 t181))) := ⟨belt HB⟩
    (try clear BK175)
    (try clear BK176)
    (try clear BK177)
    (try clear BK183)
    (try clear HB)
    generalize ((w113.setCell ⟨gb183, 0, none⟩ (.int .i64 t180)).setCell ⟨gb183, 1, none⟩ (.int .u64 t181)) = w118 at n0_ n1_ n2_ n3_ n4_ ⊢
    have BK175 := n0_
    have BK176 := n1_
    have BK177 := n2_
    have BK183 := n3_
    have HB := n4_
    clear n0_ n1_ n2_ n3_ n4_
    replace BK175 := Aside0.mk (blk_drew BK175.out)
    replace BK176 := Aside0.mk (blk_drew BK176.out)
    replace BK177 := Aside0.mk (blk_drew BK177.out)
    replace BK183 := Aside0.mk (blk_drew BK183.out)
    replace HB := Aside0.mk (below_drew1 HB.out)
    refine start_ (n := 14) (S := fun w' => w'.cell? ⟨gb176, 0, none⟩ = some (.int .u64 a1_0) ∧ w'.cell? ⟨gb176, 1, none⟩ = some (.int .u32 a1_1) ∧ w'.cell? ⟨gb176, 2, none⟩ = some (.int .u32 a1_2) ∧ w'.cell? ⟨gb175, 0, none⟩ = some (.int .u64 a0_0) ∧ w'.cell? ⟨gb175, 1, none⟩ = some (.int .i64 a0_1) ∧ w'.cell? ⟨gb175, 2, none⟩ = some (.int .u64 a0_2) ∧ w'.cell? ⟨gb175, 3, none⟩ = some (.int .u64 a0_3) ∧ w'.cell? ⟨gb175, 4, none⟩ = some (.int .i64 a0_4)) (ds := []) #[false, false, false, false, false, false, false, false, false, false, false, false, false, false] (by kernel_rfl) rfl rfl ⟨bc BK176 0, bc BK176 1, bc BK176 2, bc BK175 0, bc BK175 1, bc BK175 2, bc BK175 3, bc BK175 4⟩ (fun hHeld => ?_); refine with_tabW lag_over.tab4 lag_over.bits4 (fun HT_ HW_ => ?_)
    generalize w118.drew = w119 at BK175 BK176 BK177 BK183 HB hHeld ⊢
    refine pure_ (i := 1) (N := some 37) (v := ?_) (a' := ?_) #[false, true, false, false, false, false, false, false, false, false, false, false, false, false] rfl rfl (any_of HT_.out (by kernel_rfl)) (fun _ _ _ h => h) (Or.inl ⟨by rfl, ?_⟩) ?_ ?_
    rotate_left
    ·intro w'
     go_simp
     with_reducible rfl
    rotate_left
    ·simp only [Act.put, List.setIfInBounds_toArray, List.set_cons_zero, List.set_cons_succ, i64_w, i32_w]
     rfl
    refine pure_ (i := 4) (N := some 40) (v := ?_) (a' := ?_) #[false, true, false, false, true, false, false, false, false, false, false, false, false, false] rfl rfl (any_of HT_.out (by kernel_rfl)) (fun _ _ _ h => h) (Or.inl ⟨by rfl, ?_⟩) ?_ ?_
    rotate_left
    ·intro w'
     go_simp
     with_reducible rfl
    rotate_left
    ·simp only [Act.put, List.setIfInBounds_toArray, List.set_cons_zero, List.set_cons_succ, i64_w, i32_w]
     rfl
    refine take_ (i := 0) (N := some 36) (v := ?_) (a' := ?_) #[true, true, false, false, true, false, false, false, false, false, false, false, false, false] rfl rfl (take_ofW HT_.out HW_.out (by kernel_rfl)) (fun _ _ _ h => h) (Or.inl ⟨by rfl, ?_⟩) hHeld ?_ ?_
    rotate_left
    ·rintro w' ⟨s0, s1, s2, s3, s4, s5, s6, s7⟩
     go_simp
     with_reducible rfl
    rotate_left
    ·simp only [Act.put, List.setIfInBounds_toArray, List.set_cons_zero, List.set_cons_succ, i64_w, i32_w]
     rfl
    refine take_ (i := 2) (N := some 38) (v := ?_) (a' := ?_) #[true, true, true, false, true, false, false, false, false, false, false, false, false, false] rfl rfl (take_ofW HT_.out HW_.out (by kernel_rfl)) (fun _ _ _ h => h) (Or.inl ⟨by rfl, ?_⟩) hHeld ?_ ?_
    rotate_left
    ·rintro w' ⟨s0, s1, s2, s3, s4, s5, s6, s7⟩
     go_simp
     with_reducible rfl
    rotate_left
    ·simp only [Act.put, List.setIfInBounds_toArray, List.set_cons_zero, List.set_cons_succ, i64_w, i32_w]
     rfl
    refine take_ (i := 5) (N := some 41) (v := ?_) (a' := ?_) #[true, true, true, false, true, true, false, false, false, false, false, false, false, false] rfl rfl (take_ofW HT_.out HW_.out (by kernel_rfl)) (fun _ _ _ h => h) (Or.inl ⟨by rfl, ?_⟩) hHeld ?_ ?_
    rotate_left
    ·rintro w' ⟨s0, s1, s2, s3, s4, s5, s6, s7⟩
     go_simp
     with_reducible rfl
    rotate_left
    ·simp only [Act.put, List.setIfInBounds_toArray, List.set_cons_zero, List.set_cons_succ, i64_w, i32_w]
     rfl
    refine pure_ (i := 6) (N := some 42) (v := ?_) (a' := ?_) #[true, true, true, false, true, true, true, false, false, false, false, false, false, false] rfl rfl (any_of HT_.out (by kernel_rfl)) (fun _ _ _ h => h) (Or.inl ⟨by rfl, ?_⟩) ?_ ?_
    rotate_left
    ·intro w'
     go_simp
     with_reducible rfl
    rotate_left
    ·simp only [Act.put, List.setIfInBounds_toArray, List.set_cons_zero, List.set_cons_succ, i64_w, i32_w]
     rfl
    refine join_ (σ := Nat) 2 #[true, true, true, true, true, true, true, true, true, true, true, true, false, false] (fun s_ => [(39, .agg #[.int .i64 t184, .int .u64 t185]), (43, .tuple #[.agg #[.int .i64 t186, .int .u64 t187], .bool false]), (8, .pointer (some ⟨s_, 0, none⟩)), (35, .tuple #[.agg #[.int .i64 t186, .int .u64 t187], .bool false]), (44, .agg #[.int .i64 t186, .int .u64 t187]), (45, .bool false)]) (fun s_ w' => (w'.cell? ⟨gb176, 0, none⟩ = some (.int .u64 a1_0) ∧ w'.cell? ⟨gb176, 1, none⟩ = some (.int .u32 a1_1) ∧ w'.cell? ⟨gb176, 2, none⟩ = some (.int .u32 a1_2) ∧ w'.cell? ⟨gb175, 0, none⟩ = some (.int .u64 a0_0) ∧ w'.cell? ⟨gb175, 1, none⟩ = some (.int .i64 a0_1) ∧ w'.cell? ⟨gb175, 2, none⟩ = some (.int .u64 a0_2) ∧ w'.cell? ⟨gb175, 3, none⟩ = some (.int .u64 a0_3) ∧ w'.cell? ⟨gb175, 4, none⟩ = some (.int .i64 a0_4)) ∧ (w'.heap[gb175]? = some (.cells #[.int .u64 a0_0, .int .i64 a0_1, .int .u64 a0_2, .int .u64 a0_3, .int .i64 a0_4] 33 (0, 0))) ∧ (w'.heap[gb176]? = some (.cells #[.int .u64 a1_0, .int .u32 a1_1, .int .u32 a1_2] 28 (0, 0))) ∧ (w'.heap[gb177]? = some (.cells #[.int .i64 0, .int .u64 0] 31 (0, 0))) ∧ (w'.heap[gb183]? = some (.cells #[.int .i64 t180, .int .u64 t181] 31 (0, 0))) ∧ (w'.heap[s_]? = some (.cells #[.int .i64 0, .int .u64 0] 31 (0, 0))) ∧ (w.heap.size ≤ s_) ∧ (w.heap.size ≤ s_) ∧ (gb175 ≠ s_) ∧ (s_ ≠ gb175) ∧ (gb176 ≠ s_) ∧ (s_ ≠ gb176) ∧ (gb177 ≠ s_) ∧ (s_ ≠ gb177) ∧ (gb183 ≠ s_) ∧ (s_ ≠ gb183) ∧ (Below w.heap.size w w')) ?_ ?_
    rotate_left
    ·intro hCont
     refine two_ (i := 3) (j := 11) (Ni := some 39) (Nj := some 8) #[true, true, true, true, true, true, true, false, false, false, false, false, false, false] #[true, true, true, false, true, true, true, false, false, false, false, true, false, false] rfl rfl rfl rfl (two_of HT_.out (by kernel_rfl)) (by decide) (by decide) (fun K hK => ?_) (fun K hK => ?_)
     ·skip
      refine goes_ Tryz.func59 (by kernel_rfl) rfl #[.agg #[.int .u64 a1_0, .int .u32 a1_1, .int .u32 a1_2], .int .u64 a0_0] (by rfl) rfl rfl argt ?_
      with_reducible refine (pos_Pos_Distance.calls kj2 a1_0 a1_1 a1_2 a0_0 t184 t185 _ A33.out).mono ?_
      rintro e w120 ⟨rfl, hb⟩
      refine ⟨_, rfl, ?_⟩
      replace BK175 := blkb BK175 hb
      replace BK176 := blkb BK176 hb
      replace BK177 := blkb BK177 hb
      replace BK183 := blkb BK183 hb
      replace HB := belb HB hb
      (try clear hb)
      (try clear hb2)
      (try clear hk)
      (try clear hi)
      refine hK.out _ _ ⟨bc BK176 0, bc BK176 1, bc BK176 2, bc BK175 0, bc BK175 1, bc BK175 2, bc BK175 3, bc BK175 4⟩ (fun hHeld => ?_)
      clear hK K
      refine norm_ (a' := ?_) ?_ ?_
      rotate_left
      ·show Act.put _ (some 39) _ = _
       simp only [Act.put, List.setIfInBounds_toArray, List.set_cons_zero, List.set_cons_succ, i64_w, i32_w]
       rfl
      refine two_ (i := 7) (j := 11) (Ni := some 43) (Nj := some 8) #[true, true, true, true, true, true, true, true, false, false, false, false, false, false] #[true, true, true, true, true, true, true, false, false, false, false, true, false, false] rfl rfl rfl rfl (two_of HT_.out (by kernel_rfl)) (by decide) (by decide) (fun K hK => ?_) (fun K hK => ?_)
      ·skip
       refine goes_ Tryz.func54 (by kernel_rfl) rfl #[.agg #[.int .i64 t184, .int .u64 t185], .int .i64 (wrap64 (a0_3))] (by rfl) rfl rfl argt ?_
       with_reducible refine (wide_Int_Mul.calls kj2 t184 t185 (wrap64 (a0_3)) t186 t187 false _ A34.out).mono ?_
       rintro e w121 ⟨rfl, hb⟩
       refine ⟨_, rfl, ?_⟩
       replace BK175 := blkb BK175 hb
       replace BK176 := blkb BK176 hb
       replace BK177 := blkb BK177 hb
       replace BK183 := blkb BK183 hb
       replace HB := belb HB hb
       (try clear hb)
       (try clear hb2)
       (try clear hk)
       (try clear hi)
       refine hK.out _ _ ⟨bc BK176 0, bc BK176 1, bc BK176 2, bc BK175 0, bc BK175 1, bc BK175 2, bc BK175 3, bc BK175 4⟩ (fun hHeld => ?_)
       clear hK K
       refine norm_ (a' := ?_) ?_ ?_
       rotate_left
       ·show Act.put _ (some 43) _ = _
        simp only [Act.put, List.setIfInBounds_toArray, List.set_cons_zero, List.set_cons_succ, i64_w, i32_w]
        rfl
       refine pure_ (i := 8) (N := some 35) (v := ?_) (a' := ?_) #[true, true, true, true, true, true, true, true, true, false, false, false, false, false] rfl rfl (any_of HT_.out (by kernel_rfl)) (fun _ _ _ h => h) (Or.inl ⟨by rfl, ?_⟩) ?_ ?_
       rotate_left
       ·intro w'
        go_simp
        with_reducible rfl
       rotate_left
       ·simp only [Act.put, List.setIfInBounds_toArray, List.set_cons_zero, List.set_cons_succ, i64_w, i32_w]
        rfl
       refine pure_ (i := 9) (N := some 44) (v := ?_) (a' := ?_) #[true, true, true, true, true, true, true, true, true, true, false, false, false, false] rfl rfl (any_of HT_.out (by kernel_rfl)) (fun _ _ _ h => h) (Or.inl ⟨by rfl, ?_⟩) ?_ ?_
       rotate_left
       ·intro w'
        go_simp
        with_reducible rfl
       rotate_left
       ·simp only [Act.put, List.setIfInBounds_toArray, List.set_cons_zero, List.set_cons_succ, i64_w, i32_w]
        rfl
       refine pure_ (i := 10) (N := some 45) (v := ?_) (a' := ?_) #[true, true, true, true, true, true, true, true, true, true, true, false, false, false] rfl rfl (any_of HT_.out (by kernel_rfl)) (fun _ _ _ h => h) (Or.inl ⟨by rfl, ?_⟩) ?_ ?_
       rotate_left
       ·intro w'
        go_simp
        with_reducible rfl
       rotate_left
       ·simp only [Act.put, List.setIfInBounds_toArray, List.set_cons_zero, List.set_cons_succ, i64_w, i32_w]
        rfl
       refine one_ (i := 11) (N := some 8) #[true, true, true, true, true, true, true, true, true, true, true, true, false, false] rfl rfl (one_of HT_.out (by kernel_rfl)) (by decide) (fun K hK => ?_)
       refine box_step ?hg (N := 8) ?hd (cs := #[.int .i64 0, .int .u64 0]) (t := 31) ?hr ?_; (case hd => rfl); (case hg => rfl); (case hr => first | (go_simp; done) | (go_simp; rfl))
       intro gb189 hg w122 hbox hb
       have BK189 := Aside0.mk (hbox)
       have GW189 := bels HB hg
       have GE189 := bels HB hg
       have NB175_189 := blkl BK175 hg
       have NB189_175 := blkg BK175 hg
       have NB176_189 := blkl BK176 hg
       have NB189_176 := blkg BK176 hg
       have NB177_189 := blkl BK177 hg
       have NB189_177 := blkg BK177 hg
       have NB183_189 := blkl BK183 hg
       have NB189_183 := blkg BK183 hg
       replace BK175 := blkb BK175 hb
       replace BK176 := blkb BK176 hb
       replace BK177 := blkb BK177 hb
       replace BK183 := blkb BK183 hb
       replace HB := belb HB hb
       clear hb hbox hg
       refine hK.out _ _ ⟨bc BK176 0, bc BK176 1, bc BK176 2, bc BK175 0, bc BK175 1, bc BK175 2, bc BK175 3, bc BK175 4⟩ (fun hHeld => ?_)
       clear hK K
       refine norm_ (a' := ?_) ?_ ?_
       rotate_left
       ·show Act.put _ (some 8) _ = _
        simp only [Act.put, List.setIfInBounds_toArray, List.set_cons_zero, List.set_cons_succ, i64_w, i32_w]
        rfl
       exact norm_ (by simp only [putAll, Act.put, List.setIfInBounds_toArray, List.set_cons_zero, List.set_cons_succ]) (hCont (gb189) _ ⟨hHeld, (blkt BK175), (blkt BK176), (blkt BK177), (blkt BK183), (blkt BK189), GW189.out, GE189.out, NB175_189.out, NB189_175.out, NB176_189.out, NB189_176.out, NB177_189.out, NB189_177.out, NB183_189.out, NB189_183.out, (belt HB)⟩)
      skip
      refine box_step ?hg (N := 8) ?hd (cs := #[.int .i64 0, .int .u64 0]) (t := 31) ?hr ?_; (case hd => rfl); (case hg => rfl); (case hr => first | (go_simp; done) | (go_simp; rfl))
      intro gb189 hg w121 hbox hb
      have BK189 := Aside0.mk (hbox)
      have GW189 := bels HB hg
      have GE189 := bels HB hg
      have NB175_189 := blkl BK175 hg
      have NB189_175 := blkg BK175 hg
      have NB176_189 := blkl BK176 hg
      have NB189_176 := blkg BK176 hg
      have NB177_189 := blkl BK177 hg
      have NB189_177 := blkg BK177 hg
      have NB183_189 := blkl BK183 hg
      have NB189_183 := blkg BK183 hg
      replace BK175 := blkb BK175 hb
      replace BK176 := blkb BK176 hb
      replace BK177 := blkb BK177 hb
      replace BK183 := blkb BK183 hb
      replace HB := belb HB hb
      clear hb hbox hg
      refine hK.out _ _ ⟨bc BK176 0, bc BK176 1, bc BK176 2, bc BK175 0, bc BK175 1, bc BK175 2, bc BK175 3, bc BK175 4⟩ (fun hHeld => ?_)
      clear hK K
      refine norm_ (a' := ?_) ?_ ?_
      rotate_left
      ·show Act.put _ (some 8) _ = _
       simp only [Act.put, List.setIfInBounds_toArray, List.set_cons_zero, List.set_cons_succ, i64_w, i32_w]
       rfl
      refine one_ (i := 7) (N := some 43) #[true, true, true, true, true, true, true, true, false, false, false, true, false, false] rfl rfl (one_of HT_.out (by kernel_rfl)) (by decide) (fun K hK => ?_)
      refine goes_ Tryz.func54 (by kernel_rfl) rfl #[.agg #[.int .i64 t184, .int .u64 t185], .int .i64 (wrap64 (a0_3))] (by rfl) rfl rfl argt ?_
      with_reducible refine (wide_Int_Mul.calls kj2 t184 t185 (wrap64 (a0_3)) t186 t187 false _ A34.out).mono ?_
      rintro e w122 ⟨rfl, hb⟩
      refine ⟨_, rfl, ?_⟩
      replace BK175 := blkb BK175 hb
      replace BK176 := blkb BK176 hb
      replace BK177 := blkb BK177 hb
      replace BK183 := blkb BK183 hb
      replace BK189 := blkb BK189 hb
      replace HB := belb HB hb
      (try clear hb)
      (try clear hb2)
      (try clear hk)
      (try clear hi)
      refine hK.out _ _ ⟨bc BK176 0, bc BK176 1, bc BK176 2, bc BK175 0, bc BK175 1, bc BK175 2, bc BK175 3, bc BK175 4⟩ (fun hHeld => ?_)
      clear hK K
      refine norm_ (a' := ?_) ?_ ?_
      rotate_left
      ·show Act.put _ (some 43) _ = _
       simp only [Act.put, List.setIfInBounds_toArray, List.set_cons_zero, List.set_cons_succ, i64_w, i32_w]
       rfl
      refine pure_ (i := 8) (N := some 35) (v := ?_) (a' := ?_) #[true, true, true, true, true, true, true, true, true, false, false, true, false, false] rfl rfl (any_of HT_.out (by kernel_rfl)) (fun _ _ _ h => h) (Or.inl ⟨by rfl, ?_⟩) ?_ ?_
      rotate_left
      ·intro w'
       go_simp
       with_reducible rfl
      rotate_left
      ·simp only [Act.put, List.setIfInBounds_toArray, List.set_cons_zero, List.set_cons_succ, i64_w, i32_w]
       rfl
      refine pure_ (i := 9) (N := some 44) (v := ?_) (a' := ?_) #[true, true, true, true, true, true, true, true, true, true, false, true, false, false] rfl rfl (any_of HT_.out (by kernel_rfl)) (fun _ _ _ h => h) (Or.inl ⟨by rfl, ?_⟩) ?_ ?_
      rotate_left
      ·intro w'
       go_simp
       with_reducible rfl
      rotate_left
      ·simp only [Act.put, List.setIfInBounds_toArray, List.set_cons_zero, List.set_cons_succ, i64_w, i32_w]
       rfl
      refine pure_ (i := 10) (N := some 45) (v := ?_) (a' := ?_) #[true, true, true, true, true, true, true, true, true, true, true, true, false, false] rfl rfl (any_of HT_.out (by kernel_rfl)) (fun _ _ _ h => h) (Or.inl ⟨by rfl, ?_⟩) ?_ ?_
      rotate_left
      ·intro w'
       go_simp
       with_reducible rfl
      rotate_left
      ·simp only [Act.put, List.setIfInBounds_toArray, List.set_cons_zero, List.set_cons_succ, i64_w, i32_w]
       rfl
      exact norm_ (by simp only [putAll, Act.put, List.setIfInBounds_toArray, List.set_cons_zero, List.set_cons_succ]) (hCont (gb189) _ ⟨hHeld, (blkt BK175), (blkt BK176), (blkt BK177), (blkt BK183), (blkt BK189), GW189.out, GE189.out, NB175_189.out, NB189_175.out, NB176_189.out, NB189_176.out, NB177_189.out, NB189_177.out, NB183_189.out, NB189_183.out, (belt HB)⟩)
     skip
     refine box_step ?hg (N := 8) ?hd (cs := #[.int .i64 0, .int .u64 0]) (t := 31) ?hr ?_; (case hd => rfl); (case hg => rfl); (case hr => first | (go_simp; done) | (go_simp; rfl))
     intro gb189 hg w120 hbox hb
     have BK189 := Aside0.mk (hbox)
     have GW189 := bels HB hg
     have GE189 := bels HB hg
     have NB175_189 := blkl BK175 hg
     have NB189_175 := blkg BK175 hg
     have NB176_189 := blkl BK176 hg
     have NB189_176 := blkg BK176 hg
     have NB177_189 := blkl BK177 hg
     have NB189_177 := blkg BK177 hg
     have NB183_189 := blkl BK183 hg
     have NB189_183 := blkg BK183 hg
     replace BK175 := blkb BK175 hb
     replace BK176 := blkb BK176 hb
     replace BK177 := blkb BK177 hb
     replace BK183 := blkb BK183 hb
     replace HB := belb HB hb
     clear hb hbox hg
     refine hK.out _ _ ⟨bc BK176 0, bc BK176 1, bc BK176 2, bc BK175 0, bc BK175 1, bc BK175 2, bc BK175 3, bc BK175 4⟩ (fun hHeld => ?_)
     clear hK K
     refine norm_ (a' := ?_) ?_ ?_
     rotate_left
     ·show Act.put _ (some 8) _ = _
      simp only [Act.put, List.setIfInBounds_toArray, List.set_cons_zero, List.set_cons_succ, i64_w, i32_w]
      rfl
     refine one_ (i := 3) (N := some 39) #[true, true, true, true, true, true, true, false, false, false, false, true, false, false] rfl rfl (one_of HT_.out (by kernel_rfl)) (by decide) (fun K hK => ?_)
     refine goes_ Tryz.func59 (by kernel_rfl) rfl #[.agg #[.int .u64 a1_0, .int .u32 a1_1, .int .u32 a1_2], .int .u64 a0_0] (by rfl) rfl rfl argt ?_
     with_reducible refine (pos_Pos_Distance.calls kj2 a1_0 a1_1 a1_2 a0_0 t184 t185 _ A33.out).mono ?_
     rintro e w121 ⟨rfl, hb⟩
     refine ⟨_, rfl, ?_⟩
     replace BK175 := blkb BK175 hb
     replace BK176 := blkb BK176 hb
     replace BK177 := blkb BK177 hb
     replace BK183 := blkb BK183 hb
     replace BK189 := blkb BK189 hb
     replace HB := belb HB hb
     (try clear hb)
     (try clear hb2)
     (try clear hk)
     (try clear hi)
     refine hK.out _ _ ⟨bc BK176 0, bc BK176 1, bc BK176 2, bc BK175 0, bc BK175 1, bc BK175 2, bc BK175 3, bc BK175 4⟩ (fun hHeld => ?_)
     clear hK K
     refine norm_ (a' := ?_) ?_ ?_
     rotate_left
     ·show Act.put _ (some 39) _ = _
      simp only [Act.put, List.setIfInBounds_toArray, List.set_cons_zero, List.set_cons_succ, i64_w, i32_w]
      rfl
     refine one_ (i := 7) (N := some 43) #[true, true, true, true, true, true, true, true, false, false, false, true, false, false] rfl rfl (one_of HT_.out (by kernel_rfl)) (by decide) (fun K hK => ?_)
     refine goes_ Tryz.func54 (by kernel_rfl) rfl #[.agg #[.int .i64 t184, .int .u64 t185], .int .i64 (wrap64 (a0_3))] (by rfl) rfl rfl argt ?_
     with_reducible refine (wide_Int_Mul.calls kj2 t184 t185 (wrap64 (a0_3)) t186 t187 false _ A34.out).mono ?_
     rintro e w122 ⟨rfl, hb⟩
     refine ⟨_, rfl, ?_⟩
     replace BK175 := blkb BK175 hb
     replace BK176 := blkb BK176 hb
     replace BK177 := blkb BK177 hb
     replace BK183 := blkb BK183 hb
     replace BK189 := blkb BK189 hb
     replace HB := belb HB hb
     (try clear hb)
     (try clear hb2)
     (try clear hk)
     (try clear hi)
     refine hK.out _ _ ⟨bc BK176 0, bc BK176 1, bc BK176 2, bc BK175 0, bc BK175 1, bc BK175 2, bc BK175 3, bc BK175 4⟩ (fun hHeld => ?_)
     clear hK K
     refine norm_ (a' := ?_) ?_ ?_
     rotate_left
     ·show Act.put _ (some 43) _ = _
      simp only [Act.put, List.setIfInBounds_toArray, List.set_cons_zero, List.set_cons_succ, i64_w, i32_w]
      rfl
     refine pure_ (i := 8) (N := some 35) (v := ?_) (a' := ?_) #[true, true, true, true, true, true, true, true, true, false, false, true, false, false] rfl rfl (any_of HT_.out (by kernel_rfl)) (fun _ _ _ h => h) (Or.inl ⟨by rfl, ?_⟩) ?_ ?_
     rotate_left
     ·intro w'
      go_simp
      with_reducible rfl
     rotate_left
     ·simp only [Act.put, List.setIfInBounds_toArray, List.set_cons_zero, List.set_cons_succ, i64_w, i32_w]
      rfl
     refine pure_ (i := 9) (N := some 44) (v := ?_) (a' := ?_) #[true, true, true, true, true, true, true, true, true, true, false, true, false, false] rfl rfl (any_of HT_.out (by kernel_rfl)) (fun _ _ _ h => h) (Or.inl ⟨by rfl, ?_⟩) ?_ ?_
     rotate_left
     ·intro w'
      go_simp
      with_reducible rfl
     rotate_left
     ·simp only [Act.put, List.setIfInBounds_toArray, List.set_cons_zero, List.set_cons_succ, i64_w, i32_w]
      rfl
     refine pure_ (i := 10) (N := some 45) (v := ?_) (a' := ?_) #[true, true, true, true, true, true, true, true, true, true, true, true, false, false] rfl rfl (any_of HT_.out (by kernel_rfl)) (fun _ _ _ h => h) (Or.inl ⟨by rfl, ?_⟩) ?_ ?_
     rotate_left
     ·intro w'
      go_simp
      with_reducible rfl
     rotate_left
     ·simp only [Act.put, List.setIfInBounds_toArray, List.set_cons_zero, List.set_cons_succ, i64_w, i32_w]
      rfl
     exact norm_ (by simp only [putAll, Act.put, List.setIfInBounds_toArray, List.set_cons_zero, List.set_cons_succ]) (hCont (gb189) _ ⟨hHeld, (blkt BK175), (blkt BK176), (blkt BK177), (blkt BK183), (blkt BK189), GW189.out, GE189.out, NB175_189.out, NB189_175.out, NB176_189.out, NB189_176.out, NB177_189.out, NB189_177.out, NB183_189.out, NB189_183.out, (belt HB)⟩)
    rintro gb189 w123 ⟨hS_, h0_, h1_, h2_, h3_, h4_, h5_, h6_, h7_, h8_, h9_, h10_, h11_, h12_, h13_, h14_, h15_⟩
    replace BK175 : Aside0 (w123.heap[gb175]? = some (.cells #[.int .u64 a0_0, .int .i64 a0_1, .int .u64 a0_2, .int .u64 a0_3, .int .i64 a0_4] 33 (0, 0))) := ⟨h0_⟩
    replace BK176 : Aside0 (w123.heap[gb176]? = some (.cells #[.int .u64 a1_0, .int .u32 a1_1, .int .u32 a1_2] 28 (0, 0))) := ⟨h1_⟩
    replace BK177 : Aside0 (w123.heap[gb177]? = some (.cells #[.int .i64 0, .int .u64 0] 31 (0, 0))) := ⟨h2_⟩
    replace BK183 : Aside0 (w123.heap[gb183]? = some (.cells #[.int .i64 t180, .int .u64 t181] 31 (0, 0))) := ⟨h3_⟩
    have BK189 : Aside0 (w123.heap[gb189]? = some (.cells #[.int .i64 0, .int .u64 0] 31 (0, 0))) := ⟨h4_⟩
    have GW189 : Aside0 (w.heap.size ≤ gb189) := ⟨h5_⟩
    have GE189 : Aside0 (w.heap.size ≤ gb189) := ⟨h6_⟩
    have NB175_189 : Aside0 (gb175 ≠ gb189) := ⟨h7_⟩
    have NB189_175 : Aside0 (gb189 ≠ gb175) := ⟨h8_⟩
    have NB176_189 : Aside0 (gb176 ≠ gb189) := ⟨h9_⟩
    have NB189_176 : Aside0 (gb189 ≠ gb176) := ⟨h10_⟩
    have NB177_189 : Aside0 (gb177 ≠ gb189) := ⟨h11_⟩
    have NB189_177 : Aside0 (gb189 ≠ gb177) := ⟨h12_⟩
    have NB183_189 : Aside0 (gb183 ≠ gb189) := ⟨h13_⟩
    have NB189_183 : Aside0 (gb189 ≠ gb183) := ⟨h14_⟩
    replace HB : Aside0 (Below w.heap.size w w123) := ⟨h15_⟩
    clear h0_ h1_ h2_ h3_ h4_ h5_ h6_ h7_ h8_ h9_ h10_ h11_ h12_ h13_ h14_ h15_
    have hHeld : w123.cell? ⟨gb176, 0, none⟩ = some (.int .u64 a1_0) ∧ w123.cell? ⟨gb176, 1, none⟩ = some (.int .u32 a1_1) ∧ w123.cell? ⟨gb176, 2, none⟩ = some (.int .u32 a1_2) ∧ w123.cell? ⟨gb175, 0, none⟩ = some (.int .u64 a0_0) ∧ w123.cell? ⟨gb175, 1, none⟩ = some (.int .i64 a0_1) ∧ w123.cell? ⟨gb175, 2, none⟩ = some (.int .u64 a0_2) ∧ w123.cell? ⟨gb175, 3, none⟩ = some (.int .u64 a0_3) ∧ w123.cell? ⟨gb175, 4, none⟩ = some (.int .i64 a0_4) := hS_
    refine norm_ (a' := ?_) ?_ ?_
    rotate_left
    ·simp only [putAll, Act.put, List.setIfInBounds_toArray, List.set_cons_zero, List.set_cons_succ]
     rfl
    refine one_ (i := 12) (N := none) #[true, true, true, true, true, true, true, true, true, true, true, true, true, false] rfl rfl (one_of HT_.out (by kernel_rfl)) (by decide) (fun K hK => ?_)
    have hs124 : w123.cell? ⟨gb189, 0, none⟩ = some (.int .i64 0) := bc BK189 0
    have hfs124 := blk_frozen BK189.out 0
    have hns124_0 := NB175_189.out
    have hns124_1 := NB176_189.out
    have hns124_2 := NB177_189.out
    have hns124_3 := NB183_189.out
    have hms124_0 := NB189_175.out
    have hms124_1 := NB189_176.out
    have hms124_2 := NB189_177.out
    have hms124_3 := NB189_183.out
    have hs125 : w123.cell? ⟨gb189, 1, none⟩ = some (.int .u64 0) := bc BK189 1
    have hfs125 := blk_frozen BK189.out 1
    have hns125_0 := NB175_189.out
    have hns125_1 := NB176_189.out
    have hns125_2 := NB177_189.out
    have hns125_3 := NB183_189.out
    have hms125_0 := NB189_175.out
    have hms125_1 := NB189_176.out
    have hms125_2 := NB189_177.out
    have hms125_3 := NB189_183.out
    refine skip_ (w1 := ?_) (by rfl) rfl ?_ ?_
    rotate_left
    ·go_simp
     rfl
    refine hK.out _ _ ⟨((cell_far (p := ⟨gb189, _, none⟩) NB176_189.out _).trans (((cell_far (p := ⟨gb189, _, none⟩) NB176_189.out _).trans (hHeld.1)))), ((cell_far (p := ⟨gb189, _, none⟩) NB176_189.out _).trans (((cell_far (p := ⟨gb189, _, none⟩) NB176_189.out _).trans (hHeld.2.1)))), ((cell_far (p := ⟨gb189, _, none⟩) NB176_189.out _).trans (((cell_far (p := ⟨gb189, _, none⟩) NB176_189.out _).trans (hHeld.2.2.1)))), ((cell_far (p := ⟨gb189, _, none⟩) NB175_189.out _).trans (((cell_far (p := ⟨gb189, _, none⟩) NB175_189.out _).trans (hHeld.2.2.2.1)))), ((cell_far (p := ⟨gb189, _, none⟩) NB175_189.out _).trans (((cell_far (p := ⟨gb189, _, none⟩) NB175_189.out _).trans (hHeld.2.2.2.2.1)))), ((cell_far (p := ⟨gb189, _, none⟩) NB175_189.out _).trans (((cell_far (p := ⟨gb189, _, none⟩) NB175_189.out _).trans (hHeld.2.2.2.2.2.1)))), ((cell_far (p := ⟨gb189, _, none⟩) NB175_189.out _).trans (((cell_far (p := ⟨gb189, _, none⟩) NB175_189.out _).trans (hHeld.2.2.2.2.2.2.1)))), ((cell_far (p := ⟨gb189, _, none⟩) NB175_189.out _).trans (((cell_far (p := ⟨gb189, _, none⟩) NB175_189.out _).trans (hHeld.2.2.2.2.2.2.2))))⟩ (fun hHeld => ?_)
    clear hK K
    refine pure_ (i := 13) (N := some 9) (v := ?_) (a' := ?_) #[true, true, true, true, true, true, true, true, true, true, true, true, true, true] rfl rfl (any_of HT_.out (by kernel_rfl)) (fun _ _ _ h => h) (Or.inl ⟨by rfl, ?_⟩) ?_ ?_
    rotate_left
    ·intro w'
     go_simp
     with_reducible rfl
    rotate_left
    ·simp only [Act.put, List.setIfInBounds_toArray, List.set_cons_zero, List.set_cons_succ, i64_w, i32_w]
     rfl
    refine done_ (done_of HT_.out (by kernel_rfl)) ?_
    have hnb126 := NB183_189.out
    have hnc126 := NB189_183.out
    have hcz127_0 : w123.cell? ⟨gb183, 0, none⟩ = some (.int .i64 t180) := bc BK183 0
    have hcz127_1 : w123.cell? ⟨gb183, 1, none⟩ = some (.int .u64 t181) := bc BK183 1
    have hfz127_0 := blk_frozen BK183.out 0
    have hfz127_1 := blk_frozen BK183.out 1
    have hnb128 := NB189_175.out
    have hnc128 := NB175_189.out
    have hnb129 := NB189_176.out
    have hnc129 := NB176_189.out
    have hnb130 := NB189_177.out
    have hnc130 := NB177_189.out
    have hcz131_0 : w123.cell? ⟨gb189, 0, none⟩ = some (.int .i64 0) := bc BK189 0
    have hcz131_1 : w123.cell? ⟨gb189, 1, none⟩ = some (.int .u64 0) := bc BK189 1
    have hfz131_0 := blk_frozen BK189.out 0
    have hfz131_1 := blk_frozen BK189.out 1
    try go_wp2_with (first | ((with_reducible refine gate_callee (f := 26) rfl ?_); refine goesL_ (some 49) rfl rfl Tryz.func26 (by kernel_rfl) rfl #[.agg #[.int .i64 t180, .int .u64 t181], .agg #[.int .i64 t186, .int .u64 t187]] rfl argt ?_; (with_reducible refine (wide_Int_Sub.calls t180 t181 t186 t187 t190 t191 t192 _ A35.out).mono ?_); rintro e w132 ⟨rfl, hb⟩; refine ⟨_, rfl, ?_⟩; replace BK175 := Aside0.mk (blk_below (g := gb175) (o := .cells #[.int .u64 a0_0, .int .i64 a0_1, .int .u64 a0_2, .int .u64 a0_3, .int .i64 a0_4] 33 (0, 0)) (by (with_reducible repeat (first | refine blk_drewN ?_ _ | refine blk_drew ?_ | refine blk_alloc ?_ _)); refine blk_far ?_ NB175_189.out _; (with_reducible repeat (first | refine blk_drewN ?_ _ | refine blk_drew ?_ | refine blk_alloc ?_ _)); refine blk_far ?_ NB175_189.out _; exact blkt BK175) hb); replace BK176 := Aside0.mk (blk_below (g := gb176) (o := .cells #[.int .u64 a1_0, .int .u32 a1_1, .int .u32 a1_2] 28 (0, 0)) (by (with_reducible repeat (first | refine blk_drewN ?_ _ | refine blk_drew ?_ | refine blk_alloc ?_ _)); refine blk_far ?_ NB176_189.out _; (with_reducible repeat (first | refine blk_drewN ?_ _ | refine blk_drew ?_ | refine blk_alloc ?_ _)); refine blk_far ?_ NB176_189.out _; exact blkt BK176) hb); replace BK177 := Aside0.mk (blk_below (g := gb177) (o := .cells #[.int .i64 0, .int .u64 0] 31 (0, 0)) (by (with_reducible repeat (first | refine blk_drewN ?_ _ | refine blk_drew ?_ | refine blk_alloc ?_ _)); refine blk_far ?_ NB177_189.out _; (with_reducible repeat (first | refine blk_drewN ?_ _ | refine blk_drew ?_ | refine blk_alloc ?_ _)); refine blk_far ?_ NB177_189.out _; exact blkt BK177) hb); replace BK183 := Aside0.mk (blk_below (g := gb183) (o := .cells #[.int .i64 t180, .int .u64 t181] 31 (0, 0)) (by (with_reducible repeat (first | refine blk_drewN ?_ _ | refine blk_drew ?_ | refine blk_alloc ?_ _)); refine blk_far ?_ NB183_189.out _; (with_reducible repeat (first | refine blk_drewN ?_ _ | refine blk_drew ?_ | refine blk_alloc ?_ _)); refine blk_far ?_ NB183_189.out _; exact blkt BK183) hb); replace BK189 := Aside0.mk (blk_below (g := gb189) (o := .cells #[.int .i64 t186, .int .u64 t187] 31 (0, 0)) (by (with_reducible repeat (first | refine blk_drewN ?_ _ | refine blk_drew ?_ | refine blk_alloc ?_ _)); refine blk_put (cs := #[.int .i64 t186, .int .u64 0]) ?_ 1 _ rfl; (with_reducible repeat (first | refine blk_drewN ?_ _ | refine blk_drew ?_ | refine blk_alloc ?_ _)); refine blk_put (cs := #[.int .i64 0, .int .u64 0]) ?_ 0 _ rfl; exact blkt BK189) hb); replace HB := belb HB hb; (try clear hb); (try clear hb2); (try clear hk); (try clear hi)) | ((with_reducible refine gate_dst (N := 10) rfl ?_); refine box_event ?hg (N := 10) ?hd (cs := #[.int .i64 0, .int .u64 0]) (t := 31) ?hr ?_; (case hd => rfl); (case hg => rfl); (case hr => first | (go_simp; done) | (go_simp; rfl)); intro gb193 hg w133 hbox hb; have BK193 := Aside0.mk (hbox); have GW193 := bels HB hg; have GE193 := bels HB hg; have NB175_193 := blkl BK175 hg; have NB193_175 := blkg BK175 hg; have NB176_193 := blkl BK176 hg; have NB193_176 := blkg BK176 hg; have NB177_193 := blkl BK177 hg; have NB193_177 := blkg BK177 hg; have NB183_193 := blkl BK183 hg; have NB193_183 := blkg BK183 hg; have NB189_193 := blkl BK189 hg; have NB193_189 := blkg BK189 hg; replace BK175 := blkb BK175 hb; replace BK176 := blkb BK176 hb; replace BK177 := blkb BK177 hb; replace BK183 := blkb BK183 hb; replace BK189 := blkb BK189 hb; replace HB := belb HB hb; clear hb hbox hg; have hnb134 := NB193_175.out; have hnc134 := NB175_193.out; have hnb135 := NB193_176.out; have hnc135 := NB176_193.out; have hnb136 := NB193_177.out; have hnc136 := NB177_193.out; have hnb137 := NB193_183.out; have hnc137 := NB183_193.out; have hnb138 := NB193_189.out; have hnc138 := NB189_193.out; have hcz139_0 : w133.cell? ⟨gb193, 0, none⟩ = some (.int .i64 0) := bc BK193 0; have hcz139_1 : w133.cell? ⟨gb193, 1, none⟩ = some (.int .u64 0) := bc BK193 1; have hfz139_0 := blk_frozen BK193.out 0; have hfz139_1 := blk_frozen BK193.out 1; have hcz140_0 : w133.cell? ⟨gb177, 0, none⟩ = some (.int .i64 0) := bc BK177 0; have hcz140_1 : w133.cell? ⟨gb177, 1, none⟩ = some (.int .u64 0) := bc BK177 1; have hfz140_0 := blk_frozen BK177.out 0; have hfz140_1 := blk_frozen BK177.out 1))
    refine bodyPost_ret (results_ct rfl _ _ gb177 31 #[.int .i64 0, .int .u64 0] (0, 0) _ rfl (by (with_reducible repeat (first | refine blk_drewN ?_ _ | refine blk_drew ?_ | refine blk_alloc ?_ _)); refine blk_put (cs := #[.int .i64 0, .int .u64 0]) ?_ 1 _ rfl; (with_reducible repeat (first | refine blk_drewN ?_ _ | refine blk_drew ?_ | refine blk_alloc ?_ _)); refine blk_put (cs := #[.int .i64 0, .int .u64 0]) ?_ 0 _ rfl; (with_reducible repeat (first | refine blk_drewN ?_ _ | refine blk_drew ?_ | refine blk_alloc ?_ _)); refine blk_far ?_ NB177_193.out _; (with_reducible repeat (first | refine blk_drewN ?_ _ | refine blk_drew ?_ | refine blk_alloc ?_ _)); refine blk_far ?_ NB177_193.out _; exact blkt BK177) Tryz.underlying31 rfl (by kernel_rfl)) rfl ?_
    exact ⟨by first | rfl | (simp [errW_none, errW_some] <;> rfl) | (simp [*, errW_none, errW_some] <;> rfl), belt HB⟩
   replace c36 := Bool.eq_false_iff.mpr c36
   subst c36
   have H1 : (some (0, 0, false)) = some (r1, r2, r3) := by rw [if_neg (show ¬ (false = true) by decide)] at H; exact H
   clear H
   have H := H1
   clear H1
   simp only [Option.some.injEq, Prod.mk.injEq] at H
   obtain ⟨rfl, rfl, rfl⟩ := H
   have hnb141 := NB175_176.out
   have hnc141 := NB176_175.out
   have hnb142 := NB175_177.out
   have hnc142 := NB177_175.out
   have hcz143_0 : wc.cell? ⟨gb175, 0, none⟩ = some (.int .u64 a0_0) := bc BK175 0
   have hcz143_1 : wc.cell? ⟨gb175, 1, none⟩ = some (.int .i64 a0_1) := bc BK175 1
   have hcz143_2 : wc.cell? ⟨gb175, 2, none⟩ = some (.int .u64 a0_2) := bc BK175 2
   have hcz143_3 : wc.cell? ⟨gb175, 3, none⟩ = some (.int .u64 a0_3) := bc BK175 3
   have hcz143_4 : wc.cell? ⟨gb175, 4, none⟩ = some (.int .i64 a0_4) := bc BK175 4
   have hfz143_0 := blk_frozen BK175.out 0
   have hfz143_1 := blk_frozen BK175.out 1
   have hfz143_2 := blk_frozen BK175.out 2
   have hfz143_3 := blk_frozen BK175.out 3
   have hfz143_4 := blk_frozen BK175.out 4
   have hnb144 := NB176_177.out
   have hnc144 := NB177_176.out
   have hcz145_0 : wc.cell? ⟨gb176, 0, none⟩ = some (.int .u64 a1_0) := bc BK176 0
   have hcz145_1 : wc.cell? ⟨gb176, 1, none⟩ = some (.int .u32 a1_1) := bc BK176 1
   have hcz145_2 : wc.cell? ⟨gb176, 2, none⟩ = some (.int .u32 a1_2) := bc BK176 2
   have hfz145_0 := blk_frozen BK176.out 0
   have hfz145_1 := blk_frozen BK176.out 1
   have hfz145_2 := blk_frozen BK176.out 2
   try go_wp2_with (first | ((with_reducible refine gate_callee (f := 54) rfl ?_); refine goesL_ (some 32) rfl rfl Tryz.func54 (by kernel_rfl) rfl #[.agg #[.int .i64 a0_1, .int .u64 a0_2], .int .i64 (wrap64 (a1_2))] rfl argt ?_; (with_reducible refine (wide_Int_Mul.calls kj2 a0_1 a0_2 (wrap64 (a1_2)) t180 t181 false _ A32.out).mono ?_); rintro e w146 ⟨rfl, hb⟩; refine ⟨_, rfl, ?_⟩; replace BK175 := blkb BK175 hb; replace BK176 := blkb BK176 hb; replace BK177 := blkb BK177 hb; replace HB := belb HB hb; (try clear hb); (try clear hb2); (try clear hk); (try clear hi)) | ((with_reducible refine gate_dst (N := 6) rfl ?_); refine box_event ?hg (N := 6) ?hd (cs := #[.int .i64 0, .int .u64 0]) (t := 31) ?hr ?_; (case hd => rfl); (case hg => rfl); (case hr => first | (go_simp; done) | (go_simp; rfl)); intro gb183 hg w147 hbox hb; have BK183 := Aside0.mk (hbox); have GW183 := bels HB hg; have GE183 := bels HB hg; have NB175_183 := blkl BK175 hg; have NB183_175 := blkg BK175 hg; have NB176_183 := blkl BK176 hg; have NB183_176 := blkg BK176 hg; have NB177_183 := blkl BK177 hg; have NB183_177 := blkg BK177 hg; replace BK175 := blkb BK175 hb; replace BK176 := blkb BK176 hb; replace BK177 := blkb BK177 hb; replace HB := belb HB hb; clear hb hbox hg; have hnb148 := NB183_175.out; have hnc148 := NB175_183.out; have hnb149 := NB183_176.out; have hnc149 := NB176_183.out; have hnb150 := NB183_177.out; have hnc150 := NB177_183.out; have hcz151_0 : w147.cell? ⟨gb183, 0, none⟩ = some (.int .i64 0) := bc BK183 0; have hcz151_1 : w147.cell? ⟨gb183, 1, none⟩ = some (.int .u64 0) := bc BK183 1; have hfz151_0 := blk_frozen BK183.out 0; have hfz151_1 := blk_frozen BK183.out 1))
   have n0_ : Aside0 (((w147.setCell ⟨gb183, 0, none⟩ (.int .i64 t180)).setCell ⟨gb183, 1, none⟩ (.int .u64 t181)).heap[gb175]? = some (.cells #[.int .u64 a0_0, .int .i64 a0_1, .int .u64 a0_2, .int .u64 a0_3, .int .i64 a0_4] 33 (0, 0))) := ⟨by (with_reducible repeat (first | refine blk_drewN ?_ _ | refine blk_drew ?_ | refine blk_alloc ?_ _)); refine blk_far ?_ NB175_183.out _; (with_reducible repeat (first | refine blk_drewN ?_ _ | refine blk_drew ?_ | refine blk_alloc ?_ _)); refine blk_far ?_ NB175_183.out _; exact blkt BK175⟩
   have n1_ : Aside0 (((w147.setCell ⟨gb183, 0, none⟩ (.int .i64 t180)).setCell ⟨gb183, 1, none⟩ (.int .u64 t181)).heap[gb176]? = some (.cells #[.int .u64 a1_0, .int .u32 a1_1, .int .u32 a1_2] 28 (0, 0))) := ⟨by (with_reducible repeat (first | refine blk_drewN ?_ _ | refine blk_drew ?_ | refine blk_alloc ?_ _)); refine blk_far ?_ NB176_183.out _; (with_reducible repeat (first | refine blk_drewN ?_ _ | refine blk_drew ?_ | refine blk_alloc ?_ _)); refine blk_far ?_ NB176_183.out _; exact blkt BK176⟩
   have n2_ : Aside0 (((w147.setCell ⟨gb183, 0, none⟩ (.int .i64 t180)).setCell ⟨gb183, 1, none⟩ (.int .u64 t181)).heap[gb177]? = some (.cells #[.int .i64 0, .int .u64 0] 31 (0, 0))) := ⟨by (with_reducible repeat (first | refine blk_drewN ?_ _ | refine blk_drew ?_ | refine blk_alloc ?_ _)); refine blk_far ?_ NB177_183.out _; (with_reducible repeat (first | refine blk_drewN ?_ _ | refine blk_drew ?_ | refine blk_alloc ?_ _)); refine blk_far ?_ NB177_183.out _; exact blkt BK177⟩
   have n3_ : Aside0 (((w147.setCell ⟨gb183, 0, none⟩ (.int .i64 t180)).setCell ⟨gb183, 1, none⟩ (.int .u64 t181)).heap[gb183]? = some (.cells #[.int .i64 t180, .int .u64 t181] 31 (0, 0))) := ⟨by (with_reducible repeat (first | refine blk_drewN ?_ _ | refine blk_drew ?_ | refine blk_alloc ?_ _)); refine blk_put (cs := #[.int .i64 t180, .int .u64 0]) ?_ 1 _ rfl; (with_reducible repeat (first | refine blk_drewN ?_ _ | refine blk_drew ?_ | refine blk_alloc ?_ _)); refine blk_put (cs := #[.int .i64 0, .int .u64 0]) ?_ 0 _ rfl; exact blkt BK183⟩
   have n4_ : Aside0 (Below w.heap.size w ((w147.setCell ⟨gb183, 0, none⟩ (.int .i64 t180)).setCell ⟨gb183, 1, none⟩ (.int .u64 t181))) := ⟨belt HB⟩
   (try clear BK175)
   (try clear BK176)
   (try clear BK177)
   (try clear BK183)
   (try clear HB)
   generalize ((w147.setCell ⟨gb183, 0, none⟩ (.int .i64 t180)).setCell ⟨gb183, 1, none⟩ (.int .u64 t181)) = w152 at n0_ n1_ n2_ n3_ n4_ ⊢
   have BK175 := n0_
   have BK176 := n1_
   have BK177 := n2_
   have BK183 := n3_
   have HB := n4_
   clear n0_ n1_ n2_ n3_ n4_
   replace BK175 := Aside0.mk (blk_drew BK175.out)
   replace BK176 := Aside0.mk (blk_drew BK176.out)
   replace BK177 := Aside0.mk (blk_drew BK177.out)
   replace BK183 := Aside0.mk (blk_drew BK183.out)
   replace HB := Aside0.mk (below_drew1 HB.out)
   refine start_ (n := 14) (S := fun w' => w'.cell? ⟨gb176, 0, none⟩ = some (.int .u64 a1_0) ∧ w'.cell? ⟨gb176, 1, none⟩ = some (.int .u32 a1_1) ∧ w'.cell? ⟨gb176, 2, none⟩ = some (.int .u32 a1_2) ∧ w'.cell? ⟨gb175, 0, none⟩ = some (.int .u64 a0_0) ∧ w'.cell? ⟨gb175, 1, none⟩ = some (.int .i64 a0_1) ∧ w'.cell? ⟨gb175, 2, none⟩ = some (.int .u64 a0_2) ∧ w'.cell? ⟨gb175, 3, none⟩ = some (.int .u64 a0_3) ∧ w'.cell? ⟨gb175, 4, none⟩ = some (.int .i64 a0_4)) (ds := []) #[false, false, false, false, false, false, false, false, false, false, false, false, false, false] (by kernel_rfl) rfl rfl ⟨bc BK176 0, bc BK176 1, bc BK176 2, bc BK175 0, bc BK175 1, bc BK175 2, bc BK175 3, bc BK175 4⟩ (fun hHeld => ?_); refine with_tabW lag_over.tab4 lag_over.bits4 (fun HT_ HW_ => ?_)
   generalize w152.drew = w153 at BK175 BK176 BK177 BK183 HB hHeld ⊢
   refine pure_ (i := 1) (N := some 37) (v := ?_) (a' := ?_) #[false, true, false, false, false, false, false, false, false, false, false, false, false, false] rfl rfl (any_of HT_.out (by kernel_rfl)) (fun _ _ _ h => h) (Or.inl ⟨by rfl, ?_⟩) ?_ ?_
   rotate_left
   ·intro w'
    go_simp
    with_reducible rfl
   rotate_left
   ·simp only [Act.put, List.setIfInBounds_toArray, List.set_cons_zero, List.set_cons_succ, i64_w, i32_w]
    rfl
   refine pure_ (i := 4) (N := some 40) (v := ?_) (a' := ?_) #[false, true, false, false, true, false, false, false, false, false, false, false, false, false] rfl rfl (any_of HT_.out (by kernel_rfl)) (fun _ _ _ h => h) (Or.inl ⟨by rfl, ?_⟩) ?_ ?_
   rotate_left
   ·intro w'
    go_simp
    with_reducible rfl
   rotate_left
   ·simp only [Act.put, List.setIfInBounds_toArray, List.set_cons_zero, List.set_cons_succ, i64_w, i32_w]
    rfl
   refine take_ (i := 0) (N := some 36) (v := ?_) (a' := ?_) #[true, true, false, false, true, false, false, false, false, false, false, false, false, false] rfl rfl (take_ofW HT_.out HW_.out (by kernel_rfl)) (fun _ _ _ h => h) (Or.inl ⟨by rfl, ?_⟩) hHeld ?_ ?_
   rotate_left
   ·rintro w' ⟨s0, s1, s2, s3, s4, s5, s6, s7⟩
    go_simp
    with_reducible rfl
   rotate_left
   ·simp only [Act.put, List.setIfInBounds_toArray, List.set_cons_zero, List.set_cons_succ, i64_w, i32_w]
    rfl
   refine take_ (i := 2) (N := some 38) (v := ?_) (a' := ?_) #[true, true, true, false, true, false, false, false, false, false, false, false, false, false] rfl rfl (take_ofW HT_.out HW_.out (by kernel_rfl)) (fun _ _ _ h => h) (Or.inl ⟨by rfl, ?_⟩) hHeld ?_ ?_
   rotate_left
   ·rintro w' ⟨s0, s1, s2, s3, s4, s5, s6, s7⟩
    go_simp
    with_reducible rfl
   rotate_left
   ·simp only [Act.put, List.setIfInBounds_toArray, List.set_cons_zero, List.set_cons_succ, i64_w, i32_w]
    rfl
   refine take_ (i := 5) (N := some 41) (v := ?_) (a' := ?_) #[true, true, true, false, true, true, false, false, false, false, false, false, false, false] rfl rfl (take_ofW HT_.out HW_.out (by kernel_rfl)) (fun _ _ _ h => h) (Or.inl ⟨by rfl, ?_⟩) hHeld ?_ ?_
   rotate_left
   ·rintro w' ⟨s0, s1, s2, s3, s4, s5, s6, s7⟩
    go_simp
    with_reducible rfl
   rotate_left
   ·simp only [Act.put, List.setIfInBounds_toArray, List.set_cons_zero, List.set_cons_succ, i64_w, i32_w]
    rfl
   refine pure_ (i := 6) (N := some 42) (v := ?_) (a' := ?_) #[true, true, true, false, true, true, true, false, false, false, false, false, false, false] rfl rfl (any_of HT_.out (by kernel_rfl)) (fun _ _ _ h => h) (Or.inl ⟨by rfl, ?_⟩) ?_ ?_
   rotate_left
   ·intro w'
    go_simp
    with_reducible rfl
   rotate_left
   ·simp only [Act.put, List.setIfInBounds_toArray, List.set_cons_zero, List.set_cons_succ, i64_w, i32_w]
    rfl
   refine join_ (σ := Nat) 2 #[true, true, true, true, true, true, true, true, true, true, true, true, false, false] (fun s_ => [(39, .agg #[.int .i64 t184, .int .u64 t185]), (43, .tuple #[.agg #[.int .i64 t186, .int .u64 t187], .bool t188]), (8, .pointer (some ⟨s_, 0, none⟩)), (35, .tuple #[.agg #[.int .i64 t186, .int .u64 t187], .bool t188]), (44, .agg #[.int .i64 t186, .int .u64 t187]), (45, .bool t188)]) (fun s_ w' => (w'.cell? ⟨gb176, 0, none⟩ = some (.int .u64 a1_0) ∧ w'.cell? ⟨gb176, 1, none⟩ = some (.int .u32 a1_1) ∧ w'.cell? ⟨gb176, 2, none⟩ = some (.int .u32 a1_2) ∧ w'.cell? ⟨gb175, 0, none⟩ = some (.int .u64 a0_0) ∧ w'.cell? ⟨gb175, 1, none⟩ = some (.int .i64 a0_1) ∧ w'.cell? ⟨gb175, 2, none⟩ = some (.int .u64 a0_2) ∧ w'.cell? ⟨gb175, 3, none⟩ = some (.int .u64 a0_3) ∧ w'.cell? ⟨gb175, 4, none⟩ = some (.int .i64 a0_4)) ∧ (w'.heap[gb175]? = some (.cells #[.int .u64 a0_0, .int .i64 a0_1, .int .u64 a0_2, .int .u64 a0_3, .int .i64 a0_4] 33 (0, 0))) ∧ (w'.heap[gb176]? = some (.cells #[.int .u64 a1_0, .int .u32 a1_1, .int .u32 a1_2] 28 (0, 0))) ∧ (w'.heap[gb177]? = some (.cells #[.int .i64 0, .int .u64 0] 31 (0, 0))) ∧ (w'.heap[gb183]? = some (.cells #[.int .i64 t180, .int .u64 t181] 31 (0, 0))) ∧ (w'.heap[s_]? = some (.cells #[.int .i64 0, .int .u64 0] 31 (0, 0))) ∧ (w.heap.size ≤ s_) ∧ (w.heap.size ≤ s_) ∧ (gb175 ≠ s_) ∧ (s_ ≠ gb175) ∧ (gb176 ≠ s_) ∧ (s_ ≠ gb176) ∧ (gb177 ≠ s_) ∧ (s_ ≠ gb177) ∧ (gb183 ≠ s_) ∧ (s_ ≠ gb183) ∧ (Below w.heap.size w w')) ?_ ?_
   rotate_left
   ·intro hCont
    refine two_ (i := 3) (j := 11) (Ni := some 39) (Nj := some 8) #[true, true, true, true, true, true, true, false, false, false, false, false, false, false] #[true, true, true, false, true, true, true, false, false, false, false, true, false, false] rfl rfl rfl rfl (two_of HT_.out (by kernel_rfl)) (by decide) (by decide) (fun K hK => ?_) (fun K hK => ?_)
    ·skip
     refine goes_ Tryz.func59 (by kernel_rfl) rfl #[.agg #[.int .u64 a1_0, .int .u32 a1_1, .int .u32 a1_2], .int .u64 a0_0] (by rfl) rfl rfl argt ?_
     with_reducible refine (pos_Pos_Distance.calls kj2 a1_0 a1_1 a1_2 a0_0 t184 t185 _ A33.out).mono ?_
     rintro e w154 ⟨rfl, hb⟩
     refine ⟨_, rfl, ?_⟩
     replace BK175 := blkb BK175 hb
     replace BK176 := blkb BK176 hb
     replace BK177 := blkb BK177 hb
     replace BK183 := blkb BK183 hb
     replace HB := belb HB hb
     (try clear hb)
     (try clear hb2)
     (try clear hk)
     (try clear hi)
     refine hK.out _ _ ⟨bc BK176 0, bc BK176 1, bc BK176 2, bc BK175 0, bc BK175 1, bc BK175 2, bc BK175 3, bc BK175 4⟩ (fun hHeld => ?_)
     clear hK K
     refine norm_ (a' := ?_) ?_ ?_
     rotate_left
     ·show Act.put _ (some 39) _ = _
      simp only [Act.put, List.setIfInBounds_toArray, List.set_cons_zero, List.set_cons_succ, i64_w, i32_w]
      rfl
     refine two_ (i := 7) (j := 11) (Ni := some 43) (Nj := some 8) #[true, true, true, true, true, true, true, true, false, false, false, false, false, false] #[true, true, true, true, true, true, true, false, false, false, false, true, false, false] rfl rfl rfl rfl (two_of HT_.out (by kernel_rfl)) (by decide) (by decide) (fun K hK => ?_) (fun K hK => ?_)
     ·skip
      refine goes_ Tryz.func54 (by kernel_rfl) rfl #[.agg #[.int .i64 t184, .int .u64 t185], .int .i64 (wrap64 (a0_3))] (by rfl) rfl rfl argt ?_
      with_reducible refine (wide_Int_Mul.calls kj2 t184 t185 (wrap64 (a0_3)) t186 t187 t188 _ A34.out).mono ?_
      rintro e w155 ⟨rfl, hb⟩
      refine ⟨_, rfl, ?_⟩
      replace BK175 := blkb BK175 hb
      replace BK176 := blkb BK176 hb
      replace BK177 := blkb BK177 hb
      replace BK183 := blkb BK183 hb
      replace HB := belb HB hb
      (try clear hb)
      (try clear hb2)
      (try clear hk)
      (try clear hi)
      refine hK.out _ _ ⟨bc BK176 0, bc BK176 1, bc BK176 2, bc BK175 0, bc BK175 1, bc BK175 2, bc BK175 3, bc BK175 4⟩ (fun hHeld => ?_)
      clear hK K
      refine norm_ (a' := ?_) ?_ ?_
      rotate_left
      ·show Act.put _ (some 43) _ = _
       simp only [Act.put, List.setIfInBounds_toArray, List.set_cons_zero, List.set_cons_succ, i64_w, i32_w]
       rfl
      refine pure_ (i := 8) (N := some 35) (v := ?_) (a' := ?_) #[true, true, true, true, true, true, true, true, true, false, false, false, false, false] rfl rfl (any_of HT_.out (by kernel_rfl)) (fun _ _ _ h => h) (Or.inl ⟨by rfl, ?_⟩) ?_ ?_
      rotate_left
      ·intro w'
       go_simp
       with_reducible rfl
      rotate_left
      ·simp only [Act.put, List.setIfInBounds_toArray, List.set_cons_zero, List.set_cons_succ, i64_w, i32_w]
       rfl
      refine pure_ (i := 9) (N := some 44) (v := ?_) (a' := ?_) #[true, true, true, true, true, true, true, true, true, true, false, false, false, false] rfl rfl (any_of HT_.out (by kernel_rfl)) (fun _ _ _ h => h) (Or.inl ⟨by rfl, ?_⟩) ?_ ?_
      rotate_left
      ·intro w'
       go_simp
       with_reducible rfl
      rotate_left
      ·simp only [Act.put, List.setIfInBounds_toArray, List.set_cons_zero, List.set_cons_succ, i64_w, i32_w]
       rfl
      refine pure_ (i := 10) (N := some 45) (v := ?_) (a' := ?_) #[true, true, true, true, true, true, true, true, true, true, true, false, false, false] rfl rfl (any_of HT_.out (by kernel_rfl)) (fun _ _ _ h => h) (Or.inl ⟨by rfl, ?_⟩) ?_ ?_
      rotate_left
      ·intro w'
       go_simp
       with_reducible rfl
      rotate_left
      ·simp only [Act.put, List.setIfInBounds_toArray, List.set_cons_zero, List.set_cons_succ, i64_w, i32_w]
       rfl
      refine one_ (i := 11) (N := some 8) #[true, true, true, true, true, true, true, true, true, true, true, true, false, false] rfl rfl (one_of HT_.out (by kernel_rfl)) (by decide) (fun K hK => ?_)
      refine box_step ?hg (N := 8) ?hd (cs := #[.int .i64 0, .int .u64 0]) (t := 31) ?hr ?_; (case hd => rfl); (case hg => rfl); (case hr => first | (go_simp; done) | (go_simp; rfl))
      intro gb189 hg w156 hbox hb
      have BK189 := Aside0.mk (hbox)
      have GW189 := bels HB hg
      have GE189 := bels HB hg
      have NB175_189 := blkl BK175 hg
      have NB189_175 := blkg BK175 hg
      have NB176_189 := blkl BK176 hg
      have NB189_176 := blkg BK176 hg
      have NB177_189 := blkl BK177 hg
      have NB189_177 := blkg BK177 hg
      have NB183_189 := blkl BK183 hg
      have NB189_183 := blkg BK183 hg
      replace BK175 := blkb BK175 hb
      replace BK176 := blkb BK176 hb
      replace BK177 := blkb BK177 hb
      replace BK183 := blkb BK183 hb
      replace HB := belb HB hb
      clear hb hbox hg
      refine hK.out _ _ ⟨bc BK176 0, bc BK176 1, bc BK176 2, bc BK175 0, bc BK175 1, bc BK175 2, bc BK175 3, bc BK175 4⟩ (fun hHeld => ?_)
      clear hK K
      refine norm_ (a' := ?_) ?_ ?_
      rotate_left
      ·show Act.put _ (some 8) _ = _
       simp only [Act.put, List.setIfInBounds_toArray, List.set_cons_zero, List.set_cons_succ, i64_w, i32_w]
       rfl
      exact norm_ (by simp only [putAll, Act.put, List.setIfInBounds_toArray, List.set_cons_zero, List.set_cons_succ]) (hCont (gb189) _ ⟨hHeld, (blkt BK175), (blkt BK176), (blkt BK177), (blkt BK183), (blkt BK189), GW189.out, GE189.out, NB175_189.out, NB189_175.out, NB176_189.out, NB189_176.out, NB177_189.out, NB189_177.out, NB183_189.out, NB189_183.out, (belt HB)⟩)
     skip
     refine box_step ?hg (N := 8) ?hd (cs := #[.int .i64 0, .int .u64 0]) (t := 31) ?hr ?_; (case hd => rfl); (case hg => rfl); (case hr => first | (go_simp; done) | (go_simp; rfl))
     intro gb189 hg w155 hbox hb
     have BK189 := Aside0.mk (hbox)
     have GW189 := bels HB hg
     have GE189 := bels HB hg
     have NB175_189 := blkl BK175 hg
     have NB189_175 := blkg BK175 hg
     have NB176_189 := blkl BK176 hg
     have NB189_176 := blkg BK176 hg
     have NB177_189 := blkl BK177 hg
     have NB189_177 := blkg BK177 hg
     have NB183_189 := blkl BK183 hg
     have NB189_183 := blkg BK183 hg
     replace BK175 := blkb BK175 hb
     replace BK176 := blkb BK176 hb
     replace BK177 := blkb BK177 hb
     replace BK183 := blkb BK183 hb
     replace HB := belb HB hb
     clear hb hbox hg
     refine hK.out _ _ ⟨bc BK176 0, bc BK176 1, bc BK176 2, bc BK175 0, bc BK175 1, bc BK175 2, bc BK175 3, bc BK175 4⟩ (fun hHeld => ?_)
     clear hK K
     refine norm_ (a' := ?_) ?_ ?_
     rotate_left
     ·show Act.put _ (some 8) _ = _
      simp only [Act.put, List.setIfInBounds_toArray, List.set_cons_zero, List.set_cons_succ, i64_w, i32_w]
      rfl
     refine one_ (i := 7) (N := some 43) #[true, true, true, true, true, true, true, true, false, false, false, true, false, false] rfl rfl (one_of HT_.out (by kernel_rfl)) (by decide) (fun K hK => ?_)
     refine goes_ Tryz.func54 (by kernel_rfl) rfl #[.agg #[.int .i64 t184, .int .u64 t185], .int .i64 (wrap64 (a0_3))] (by rfl) rfl rfl argt ?_
     with_reducible refine (wide_Int_Mul.calls kj2 t184 t185 (wrap64 (a0_3)) t186 t187 t188 _ A34.out).mono ?_
     rintro e w156 ⟨rfl, hb⟩
     refine ⟨_, rfl, ?_⟩
     replace BK175 := blkb BK175 hb
     replace BK176 := blkb BK176 hb
     replace BK177 := blkb BK177 hb
     replace BK183 := blkb BK183 hb
     replace BK189 := blkb BK189 hb
     replace HB := belb HB hb
     (try clear hb)
     (try clear hb2)
     (try clear hk)
     (try clear hi)
     refine hK.out _ _ ⟨bc BK176 0, bc BK176 1, bc BK176 2, bc BK175 0, bc BK175 1, bc BK175 2, bc BK175 3, bc BK175 4⟩ (fun hHeld => ?_)
     clear hK K
     refine norm_ (a' := ?_) ?_ ?_
     rotate_left
     ·show Act.put _ (some 43) _ = _
      simp only [Act.put, List.setIfInBounds_toArray, List.set_cons_zero, List.set_cons_succ, i64_w, i32_w]
      rfl
     refine pure_ (i := 8) (N := some 35) (v := ?_) (a' := ?_) #[true, true, true, true, true, true, true, true, true, false, false, true, false, false] rfl rfl (any_of HT_.out (by kernel_rfl)) (fun _ _ _ h => h) (Or.inl ⟨by rfl, ?_⟩) ?_ ?_
     rotate_left
     ·intro w'
      go_simp
      with_reducible rfl
     rotate_left
     ·simp only [Act.put, List.setIfInBounds_toArray, List.set_cons_zero, List.set_cons_succ, i64_w, i32_w]
      rfl
     refine pure_ (i := 9) (N := some 44) (v := ?_) (a' := ?_) #[true, true, true, true, true, true, true, true, true, true, false, true, false, false] rfl rfl (any_of HT_.out (by kernel_rfl)) (fun _ _ _ h => h) (Or.inl ⟨by rfl, ?_⟩) ?_ ?_
     rotate_left
     ·intro w'
      go_simp
      with_reducible rfl
     rotate_left
     ·simp only [Act.put, List.setIfInBounds_toArray, List.set_cons_zero, List.set_cons_succ, i64_w, i32_w]
      rfl
     refine pure_ (i := 10) (N := some 45) (v := ?_) (a' := ?_) #[true, true, true, true, true, true, true, true, true, true, true, true, false, false] rfl rfl (any_of HT_.out (by kernel_rfl)) (fun _ _ _ h => h) (Or.inl ⟨by rfl, ?_⟩) ?_ ?_
     rotate_left
     ·intro w'
      go_simp
      with_reducible rfl
     rotate_left
     ·simp only [Act.put, List.setIfInBounds_toArray, List.set_cons_zero, List.set_cons_succ, i64_w, i32_w]
      rfl
     exact norm_ (by simp only [putAll, Act.put, List.setIfInBounds_toArray, List.set_cons_zero, List.set_cons_succ]) (hCont (gb189) _ ⟨hHeld, (blkt BK175), (blkt BK176), (blkt BK177), (blkt BK183), (blkt BK189), GW189.out, GE189.out, NB175_189.out, NB189_175.out, NB176_189.out, NB189_176.out, NB177_189.out, NB189_177.out, NB183_189.out, NB189_183.out, (belt HB)⟩)
    skip
    refine box_step ?hg (N := 8) ?hd (cs := #[.int .i64 0, .int .u64 0]) (t := 31) ?hr ?_; (case hd => rfl); (case hg => rfl); (case hr => first | (go_simp; done) | (go_simp; rfl))
    intro gb189 hg w154 hbox hb
    have BK189 := Aside0.mk (hbox)
    have GW189 := bels HB hg
    have GE189 := bels HB hg
    have NB175_189 := blkl BK175 hg
    have NB189_175 := blkg BK175 hg
    have NB176_189 := blkl BK176 hg
    have NB189_176 := blkg BK176 hg
    have NB177_189 := blkl BK177 hg
    have NB189_177 := blkg BK177 hg
    have NB183_189 := blkl BK183 hg
    have NB189_183 := blkg BK183 hg
    replace BK175 := blkb BK175 hb
    replace BK176 := blkb BK176 hb
    replace BK177 := blkb BK177 hb
    replace BK183 := blkb BK183 hb
    replace HB := belb HB hb
    clear hb hbox hg
    refine hK.out _ _ ⟨bc BK176 0, bc BK176 1, bc BK176 2, bc BK175 0, bc BK175 1, bc BK175 2, bc BK175 3, bc BK175 4⟩ (fun hHeld => ?_)
    clear hK K
    refine norm_ (a' := ?_) ?_ ?_
    rotate_left
    ·show Act.put _ (some 8) _ = _
     simp only [Act.put, List.setIfInBounds_toArray, List.set_cons_zero, List.set_cons_succ, i64_w, i32_w]
     rfl
    refine one_ (i := 3) (N := some 39) #[true, true, true, true, true, true, true, false, false, false, false, true, false, false] rfl rfl (one_of HT_.out (by kernel_rfl)) (by decide) (fun K hK => ?_)
    refine goes_ Tryz.func59 (by kernel_rfl) rfl #[.agg #[.int .u64 a1_0, .int .u32 a1_1, .int .u32 a1_2], .int .u64 a0_0] (by rfl) rfl rfl argt ?_
    with_reducible refine (pos_Pos_Distance.calls kj2 a1_0 a1_1 a1_2 a0_0 t184 t185 _ A33.out).mono ?_
    rintro e w155 ⟨rfl, hb⟩
    refine ⟨_, rfl, ?_⟩
    replace BK175 := blkb BK175 hb
    replace BK176 := blkb BK176 hb
    replace BK177 := blkb BK177 hb
    replace BK183 := blkb BK183 hb
    replace BK189 := blkb BK189 hb
    replace HB := belb HB hb
    (try clear hb)
    (try clear hb2)
    (try clear hk)
    (try clear hi)
    refine hK.out _ _ ⟨bc BK176 0, bc BK176 1, bc BK176 2, bc BK175 0, bc BK175 1, bc BK175 2, bc BK175 3, bc BK175 4⟩ (fun hHeld => ?_)
    clear hK K
    refine norm_ (a' := ?_) ?_ ?_
    rotate_left
    ·show Act.put _ (some 39) _ = _
     simp only [Act.put, List.setIfInBounds_toArray, List.set_cons_zero, List.set_cons_succ, i64_w, i32_w]
     rfl
    refine one_ (i := 7) (N := some 43) #[true, true, true, true, true, true, true, true, false, false, false, true, false, false] rfl rfl (one_of HT_.out (by kernel_rfl)) (by decide) (fun K hK => ?_)
    refine goes_ Tryz.func54 (by kernel_rfl) rfl #[.agg #[.int .i64 t184, .int .u64 t185], .int .i64 (wrap64 (a0_3))] (by rfl) rfl rfl argt ?_
    with_reducible refine (wide_Int_Mul.calls kj2 t184 t185 (wrap64 (a0_3)) t186 t187 t188 _ A34.out).mono ?_
    rintro e w156 ⟨rfl, hb⟩
    refine ⟨_, rfl, ?_⟩
    replace BK175 := blkb BK175 hb
    replace BK176 := blkb BK176 hb
    replace BK177 := blkb BK177 hb
    replace BK183 := blkb BK183 hb
    replace BK189 := blkb BK189 hb
    replace HB := belb HB hb
    (try clear hb)
    (try clear hb2)
    (try clear hk)
    (try clear hi)
    refine hK.out _ _ ⟨bc BK176 0, bc BK176 1, bc BK176 2, bc BK175 0, bc BK175 1, bc BK175 2, bc BK175 3, bc BK175 4⟩ (fun hHeld => ?_)
    clear hK K
    refine norm_ (a' := ?_) ?_ ?_
    rotate_left
    ·show Act.put _ (some 43) _ = _
     simp only [Act.put, List.setIfInBounds_toArray, List.set_cons_zero, List.set_cons_succ, i64_w, i32_w]
     rfl
    refine pure_ (i := 8) (N := some 35) (v := ?_) (a' := ?_) #[true, true, true, true, true, true, true, true, true, false, false, true, false, false] rfl rfl (any_of HT_.out (by kernel_rfl)) (fun _ _ _ h => h) (Or.inl ⟨by rfl, ?_⟩) ?_ ?_
    rotate_left
    ·intro w'
     go_simp
     with_reducible rfl
    rotate_left
    ·simp only [Act.put, List.setIfInBounds_toArray, List.set_cons_zero, List.set_cons_succ, i64_w, i32_w]
     rfl
    refine pure_ (i := 9) (N := some 44) (v := ?_) (a' := ?_) #[true, true, true, true, true, true, true, true, true, true, false, true, false, false] rfl rfl (any_of HT_.out (by kernel_rfl)) (fun _ _ _ h => h) (Or.inl ⟨by rfl, ?_⟩) ?_ ?_
    rotate_left
    ·intro w'
     go_simp
     with_reducible rfl
    rotate_left
    ·simp only [Act.put, List.setIfInBounds_toArray, List.set_cons_zero, List.set_cons_succ, i64_w, i32_w]
     rfl
    refine pure_ (i := 10) (N := some 45) (v := ?_) (a' := ?_) #[true, true, true, true, true, true, true, true, true, true, true, true, false, false] rfl rfl (any_of HT_.out (by kernel_rfl)) (fun _ _ _ h => h) (Or.inl ⟨by rfl, ?_⟩) ?_ ?_
    rotate_left
    ·intro w'
     go_simp
     with_reducible rfl
    rotate_left
    ·simp only [Act.put, List.setIfInBounds_toArray, List.set_cons_zero, List.set_cons_succ, i64_w, i32_w]
     rfl
    exact norm_ (by simp only [putAll, Act.put, List.setIfInBounds_toArray, List.set_cons_zero, List.set_cons_succ]) (hCont (gb189) _ ⟨hHeld, (blkt BK175), (blkt BK176), (blkt BK177), (blkt BK183), (blkt BK189), GW189.out, GE189.out, NB175_189.out, NB189_175.out, NB176_189.out, NB189_176.out, NB177_189.out, NB189_177.out, NB183_189.out, NB189_183.out, (belt HB)⟩)
   rintro gb189 w157 ⟨hS_, h0_, h1_, h2_, h3_, h4_, h5_, h6_, h7_, h8_, h9_, h10_, h11_, h12_, h13_, h14_, h15_⟩
   replace BK175 : Aside0 (w157.heap[gb175]? = some (.cells #[.int .u64 a0_0, .int .i64 a0_1, .int .u64 a0_2, .int .u64 a0_3, .int .i64 a0_4] 33 (0, 0))) := ⟨h0_⟩
   replace BK176 : Aside0 (w157.heap[gb176]? = some (.cells #[.int .u64 a1_0, .int .u32 a1_1, .int .u32 a1_2] 28 (0, 0))) := ⟨h1_⟩
   replace BK177 : Aside0 (w157.heap[gb177]? = some (.cells #[.int .i64 0, .int .u64 0] 31 (0, 0))) := ⟨h2_⟩
   replace BK183 : Aside0 (w157.heap[gb183]? = some (.cells #[.int .i64 t180, .int .u64 t181] 31 (0, 0))) := ⟨h3_⟩
   have BK189 : Aside0 (w157.heap[gb189]? = some (.cells #[.int .i64 0, .int .u64 0] 31 (0, 0))) := ⟨h4_⟩
   have GW189 : Aside0 (w.heap.size ≤ gb189) := ⟨h5_⟩
   have GE189 : Aside0 (w.heap.size ≤ gb189) := ⟨h6_⟩
   have NB175_189 : Aside0 (gb175 ≠ gb189) := ⟨h7_⟩
   have NB189_175 : Aside0 (gb189 ≠ gb175) := ⟨h8_⟩
   have NB176_189 : Aside0 (gb176 ≠ gb189) := ⟨h9_⟩
   have NB189_176 : Aside0 (gb189 ≠ gb176) := ⟨h10_⟩
   have NB177_189 : Aside0 (gb177 ≠ gb189) := ⟨h11_⟩
   have NB189_177 : Aside0 (gb189 ≠ gb177) := ⟨h12_⟩
   have NB183_189 : Aside0 (gb183 ≠ gb189) := ⟨h13_⟩
   have NB189_183 : Aside0 (gb189 ≠ gb183) := ⟨h14_⟩
   replace HB : Aside0 (Below w.heap.size w w157) := ⟨h15_⟩
   clear h0_ h1_ h2_ h3_ h4_ h5_ h6_ h7_ h8_ h9_ h10_ h11_ h12_ h13_ h14_ h15_
   have hHeld : w157.cell? ⟨gb176, 0, none⟩ = some (.int .u64 a1_0) ∧ w157.cell? ⟨gb176, 1, none⟩ = some (.int .u32 a1_1) ∧ w157.cell? ⟨gb176, 2, none⟩ = some (.int .u32 a1_2) ∧ w157.cell? ⟨gb175, 0, none⟩ = some (.int .u64 a0_0) ∧ w157.cell? ⟨gb175, 1, none⟩ = some (.int .i64 a0_1) ∧ w157.cell? ⟨gb175, 2, none⟩ = some (.int .u64 a0_2) ∧ w157.cell? ⟨gb175, 3, none⟩ = some (.int .u64 a0_3) ∧ w157.cell? ⟨gb175, 4, none⟩ = some (.int .i64 a0_4) := hS_
   refine norm_ (a' := ?_) ?_ ?_
   rotate_left
   ·simp only [putAll, Act.put, List.setIfInBounds_toArray, List.set_cons_zero, List.set_cons_succ]
    rfl
   refine one_ (i := 12) (N := none) #[true, true, true, true, true, true, true, true, true, true, true, true, true, false] rfl rfl (one_of HT_.out (by kernel_rfl)) (by decide) (fun K hK => ?_)
   have hs158 : w157.cell? ⟨gb189, 0, none⟩ = some (.int .i64 0) := bc BK189 0
   have hfs158 := blk_frozen BK189.out 0
   have hns158_0 := NB175_189.out
   have hns158_1 := NB176_189.out
   have hns158_2 := NB177_189.out
   have hns158_3 := NB183_189.out
   have hms158_0 := NB189_175.out
   have hms158_1 := NB189_176.out
   have hms158_2 := NB189_177.out
   have hms158_3 := NB189_183.out
   have hs159 : w157.cell? ⟨gb189, 1, none⟩ = some (.int .u64 0) := bc BK189 1
   have hfs159 := blk_frozen BK189.out 1
   have hns159_0 := NB175_189.out
   have hns159_1 := NB176_189.out
   have hns159_2 := NB177_189.out
   have hns159_3 := NB183_189.out
   have hms159_0 := NB189_175.out
   have hms159_1 := NB189_176.out
   have hms159_2 := NB189_177.out
   have hms159_3 := NB189_183.out
   refine skip_ (w1 := ?_) (by rfl) rfl ?_ ?_
   rotate_left
   ·go_simp
    rfl
   refine hK.out _ _ ⟨((cell_far (p := ⟨gb189, _, none⟩) NB176_189.out _).trans (((cell_far (p := ⟨gb189, _, none⟩) NB176_189.out _).trans (hHeld.1)))), ((cell_far (p := ⟨gb189, _, none⟩) NB176_189.out _).trans (((cell_far (p := ⟨gb189, _, none⟩) NB176_189.out _).trans (hHeld.2.1)))), ((cell_far (p := ⟨gb189, _, none⟩) NB176_189.out _).trans (((cell_far (p := ⟨gb189, _, none⟩) NB176_189.out _).trans (hHeld.2.2.1)))), ((cell_far (p := ⟨gb189, _, none⟩) NB175_189.out _).trans (((cell_far (p := ⟨gb189, _, none⟩) NB175_189.out _).trans (hHeld.2.2.2.1)))), ((cell_far (p := ⟨gb189, _, none⟩) NB175_189.out _).trans (((cell_far (p := ⟨gb189, _, none⟩) NB175_189.out _).trans (hHeld.2.2.2.2.1)))), ((cell_far (p := ⟨gb189, _, none⟩) NB175_189.out _).trans (((cell_far (p := ⟨gb189, _, none⟩) NB175_189.out _).trans (hHeld.2.2.2.2.2.1)))), ((cell_far (p := ⟨gb189, _, none⟩) NB175_189.out _).trans (((cell_far (p := ⟨gb189, _, none⟩) NB175_189.out _).trans (hHeld.2.2.2.2.2.2.1)))), ((cell_far (p := ⟨gb189, _, none⟩) NB175_189.out _).trans (((cell_far (p := ⟨gb189, _, none⟩) NB175_189.out _).trans (hHeld.2.2.2.2.2.2.2))))⟩ (fun hHeld => ?_)
   clear hK K
   refine pure_ (i := 13) (N := some 9) (v := ?_) (a' := ?_) #[true, true, true, true, true, true, true, true, true, true, true, true, true, true] rfl rfl (any_of HT_.out (by kernel_rfl)) (fun _ _ _ h => h) (Or.inl ⟨by rfl, ?_⟩) ?_ ?_
   rotate_left
   ·intro w'
    go_simp
    with_reducible rfl
   rotate_left
   ·simp only [Act.put, List.setIfInBounds_toArray, List.set_cons_zero, List.set_cons_succ, i64_w, i32_w]
    rfl
   refine done_ (done_of HT_.out (by kernel_rfl)) ?_
   have hnb160 := NB183_189.out
   have hnc160 := NB189_183.out
   have hcz161_0 : w157.cell? ⟨gb183, 0, none⟩ = some (.int .i64 t180) := bc BK183 0
   have hcz161_1 : w157.cell? ⟨gb183, 1, none⟩ = some (.int .u64 t181) := bc BK183 1
   have hfz161_0 := blk_frozen BK183.out 0
   have hfz161_1 := blk_frozen BK183.out 1
   have hnb162 := NB189_175.out
   have hnc162 := NB175_189.out
   have hnb163 := NB189_176.out
   have hnc163 := NB176_189.out
   have hnb164 := NB189_177.out
   have hnc164 := NB177_189.out
   have hcz165_0 : w157.cell? ⟨gb189, 0, none⟩ = some (.int .i64 0) := bc BK189 0
   have hcz165_1 : w157.cell? ⟨gb189, 1, none⟩ = some (.int .u64 0) := bc BK189 1
   have hfz165_0 := blk_frozen BK189.out 0
   have hfz165_1 := blk_frozen BK189.out 1
   try go_wp2_with (first | ((with_reducible refine gate_callee (f := 26) rfl ?_); refine goesL_ (some 49) rfl rfl Tryz.func26 (by kernel_rfl) rfl #[.agg #[.int .i64 t180, .int .u64 t181], .agg #[.int .i64 t186, .int .u64 t187]] rfl argt ?_; (with_reducible refine (wide_Int_Sub.calls t180 t181 t186 t187 t190 t191 t192 _ A35.out).mono ?_); rintro e w166 ⟨rfl, hb⟩; refine ⟨_, rfl, ?_⟩; replace BK175 := Aside0.mk (blk_below (g := gb175) (o := .cells #[.int .u64 a0_0, .int .i64 a0_1, .int .u64 a0_2, .int .u64 a0_3, .int .i64 a0_4] 33 (0, 0)) (by (with_reducible repeat (first | refine blk_drewN ?_ _ | refine blk_drew ?_ | refine blk_alloc ?_ _)); refine blk_far ?_ NB175_189.out _; (with_reducible repeat (first | refine blk_drewN ?_ _ | refine blk_drew ?_ | refine blk_alloc ?_ _)); refine blk_far ?_ NB175_189.out _; exact blkt BK175) hb); replace BK176 := Aside0.mk (blk_below (g := gb176) (o := .cells #[.int .u64 a1_0, .int .u32 a1_1, .int .u32 a1_2] 28 (0, 0)) (by (with_reducible repeat (first | refine blk_drewN ?_ _ | refine blk_drew ?_ | refine blk_alloc ?_ _)); refine blk_far ?_ NB176_189.out _; (with_reducible repeat (first | refine blk_drewN ?_ _ | refine blk_drew ?_ | refine blk_alloc ?_ _)); refine blk_far ?_ NB176_189.out _; exact blkt BK176) hb); replace BK177 := Aside0.mk (blk_below (g := gb177) (o := .cells #[.int .i64 0, .int .u64 0] 31 (0, 0)) (by (with_reducible repeat (first | refine blk_drewN ?_ _ | refine blk_drew ?_ | refine blk_alloc ?_ _)); refine blk_far ?_ NB177_189.out _; (with_reducible repeat (first | refine blk_drewN ?_ _ | refine blk_drew ?_ | refine blk_alloc ?_ _)); refine blk_far ?_ NB177_189.out _; exact blkt BK177) hb); replace BK183 := Aside0.mk (blk_below (g := gb183) (o := .cells #[.int .i64 t180, .int .u64 t181] 31 (0, 0)) (by (with_reducible repeat (first | refine blk_drewN ?_ _ | refine blk_drew ?_ | refine blk_alloc ?_ _)); refine blk_far ?_ NB183_189.out _; (with_reducible repeat (first | refine blk_drewN ?_ _ | refine blk_drew ?_ | refine blk_alloc ?_ _)); refine blk_far ?_ NB183_189.out _; exact blkt BK183) hb); replace BK189 := Aside0.mk (blk_below (g := gb189) (o := .cells #[.int .i64 t186, .int .u64 t187] 31 (0, 0)) (by (with_reducible repeat (first | refine blk_drewN ?_ _ | refine blk_drew ?_ | refine blk_alloc ?_ _)); refine blk_put (cs := #[.int .i64 t186, .int .u64 0]) ?_ 1 _ rfl; (with_reducible repeat (first | refine blk_drewN ?_ _ | refine blk_drew ?_ | refine blk_alloc ?_ _)); refine blk_put (cs := #[.int .i64 0, .int .u64 0]) ?_ 0 _ rfl; exact blkt BK189) hb); replace HB := belb HB hb; (try clear hb); (try clear hb2); (try clear hk); (try clear hi)) | ((with_reducible refine gate_dst (N := 10) rfl ?_); refine box_event ?hg (N := 10) ?hd (cs := #[.int .i64 0, .int .u64 0]) (t := 31) ?hr ?_; (case hd => rfl); (case hg => rfl); (case hr => first | (go_simp; done) | (go_simp; rfl)); intro gb193 hg w167 hbox hb; have BK193 := Aside0.mk (hbox); have GW193 := bels HB hg; have GE193 := bels HB hg; have NB175_193 := blkl BK175 hg; have NB193_175 := blkg BK175 hg; have NB176_193 := blkl BK176 hg; have NB193_176 := blkg BK176 hg; have NB177_193 := blkl BK177 hg; have NB193_177 := blkg BK177 hg; have NB183_193 := blkl BK183 hg; have NB193_183 := blkg BK183 hg; have NB189_193 := blkl BK189 hg; have NB193_189 := blkg BK189 hg; replace BK175 := blkb BK175 hb; replace BK176 := blkb BK176 hb; replace BK177 := blkb BK177 hb; replace BK183 := blkb BK183 hb; replace BK189 := blkb BK189 hb; replace HB := belb HB hb; clear hb hbox hg; have hnb168 := NB193_175.out; have hnc168 := NB175_193.out; have hnb169 := NB193_176.out; have hnc169 := NB176_193.out; have hnb170 := NB193_177.out; have hnc170 := NB177_193.out; have hnb171 := NB193_183.out; have hnc171 := NB183_193.out; have hnb172 := NB193_189.out; have hnc172 := NB189_193.out; have hcz173_0 : w167.cell? ⟨gb193, 0, none⟩ = some (.int .i64 0) := bc BK193 0; have hcz173_1 : w167.cell? ⟨gb193, 1, none⟩ = some (.int .u64 0) := bc BK193 1; have hfz173_0 := blk_frozen BK193.out 0; have hfz173_1 := blk_frozen BK193.out 1; have hcz174_0 : w167.cell? ⟨gb177, 0, none⟩ = some (.int .i64 0) := bc BK177 0; have hcz174_1 : w167.cell? ⟨gb177, 1, none⟩ = some (.int .u64 0) := bc BK177 1; have hfz174_0 := blk_frozen BK177.out 0; have hfz174_1 := blk_frozen BK177.out 1))
   refine bodyPost_ret (results_ct rfl _ _ gb177 31 #[.int .i64 0, .int .u64 0] (0, 0) _ rfl (by (with_reducible repeat (first | refine blk_drewN ?_ _ | refine blk_drew ?_ | refine blk_alloc ?_ _)); refine blk_put (cs := #[.int .i64 0, .int .u64 0]) ?_ 1 _ rfl; (with_reducible repeat (first | refine blk_drewN ?_ _ | refine blk_drew ?_ | refine blk_alloc ?_ _)); refine blk_put (cs := #[.int .i64 0, .int .u64 0]) ?_ 0 _ rfl; (with_reducible repeat (first | refine blk_drewN ?_ _ | refine blk_drew ?_ | refine blk_alloc ?_ _)); refine blk_far ?_ NB177_193.out _; (with_reducible repeat (first | refine blk_drewN ?_ _ | refine blk_drew ?_ | refine blk_alloc ?_ _)); refine blk_far ?_ NB177_193.out _; exact blkt BK177) Tryz.underlying31 rfl (by kernel_rfl)) rfl ?_
   exact ⟨by first | rfl | (simp [errW_none, errW_some] <;> rfl) | (simp [*, errW_none, errW_some] <;> rfl), belt HB⟩


/-! ### bits_Len64: function 97 -/
def bits_Len64.f (a0 : Int) : Option Int := if 0 ≤ a0 ∧ a0 ≤ 18446744073709551615 then some (Lib.bitLen a0.toNat : Int) else none
theorem bits_Len64.calls (x : Int) (r : Int) (w : World) (h : bits_Len64.f x = some r) :
  Calls Tryz.prog 97 #[.int .u64 x] w fun e w' => e = .returned (.int .i64 r) ∧ Drawn0 w w' := by
 unfold bits_Len64.f at h
 split at h
 ·rename_i hx
  obtain rfl := Option.some.inj h
  refine (len64_calls x w hx.1 hx.2).mono ?_
  rintro e w' ⟨rfl, rfl⟩
  exact ⟨rfl, Drawn0.refl _⟩
 cases h


/-! ### bits_LeadingZeros64: function 93 -/
def bits_LeadingZeros64.f (a0 : Int) : Option (Int) := (bits_Len64.f a0).bind fun t194 => (some (wrap64 (64 - t194)))
set_option maxHeartbeats 8000000 in
set_option maxRecDepth 100000 in
theorem bits_LeadingZeros64.calls (a0 : Int) (r : Int) (w : World) (h : bits_LeadingZeros64.f a0 = some r) :
  Calls Tryz.prog 93 #[.int .u64 a0] w fun e w' => e = .returned (.int .i64 r) ∧ Drawn0 w w' := by
 have H : ((bits_Len64.f a0).bind fun t194 => (some (wrap64 (64 - t194)))) = some r := h
 clear h
 replace H := Option.bind_eq_some_iff.mp H
 obtain ⟨t194, A20, H⟩ := H
 replace H : (some (wrap64 (64 - t194))) = some r := H
 have A2 := Aside0.mk A20
 clear A20
 obtain rfl := Option.some.inj H
 go_enter Tryz.func93, Tryz.ntmps93
 go_wp2_with (first | ((with_reducible refine gate_callee (f := 97) rfl ?_); refine goesL_ (some 4) rfl rfl Tryz.func97 (by kernel_rfl) rfl #[.int .u64 a0] rfl argt ?_; (with_reducible refine (bits_Len64.calls a0 t194 _ A2.out).mono ?_); rintro e w' ⟨rfl, ⟨nd, rfl⟩⟩; refine ⟨_, rfl, ?_⟩))
 go_ret
 exact ⟨by first | rfl | (simp; done) | (simp [*]; done), by repeat (first | exact Drawn0.refl _ | apply Drawn0.step)⟩


/-! ### bits_Div64: function 82 -/
mutual
def bits_Div64.j2 : Nat → Int → Int → Int → Int → Int → Int → Int → Int → Option (Int × Int)
 | 0, _, _, _, _, _, _, _, _ => none
 | k + 1, x2, x8, x9, x10, x11, x13, x14, x15 => if x9 = 0 then (none) else (bits_Div64.l1 k x2 x8 x9 x10 x14 x15 (IntKind.u64.wrap ((IntKind.u64.wrap ((IntKind.u64.wrap ((IntKind.u64.wrap (x11 * 4294967296)) + x13)) - (IntKind.u64.wrap (x15 * x2)))) - (IntKind.u64.wrap ((IntKind.u64.wrap (Int.tdiv (IntKind.u64.wrap ((IntKind.u64.wrap ((IntKind.u64.wrap (x11 * 4294967296)) + x13)) - (IntKind.u64.wrap (x15 * x2)))) x9)) * x9)))) (IntKind.u64.wrap ((IntKind.u64.wrap ((IntKind.u64.wrap (x11 * 4294967296)) + x13)) - (IntKind.u64.wrap (x15 * x2)))) (IntKind.u64.wrap (Int.tdiv (IntKind.u64.wrap ((IntKind.u64.wrap ((IntKind.u64.wrap (x11 * 4294967296)) + x13)) - (IntKind.u64.wrap (x15 * x2)))) x9)))
def bits_Div64.l1 : Nat → Int → Int → Int → Int → Int → Int → Int → Int → Int → Option (Int × Int)
 | 0, _, _, _, _, _, _, _, _, _ => none
 | k + 1, x2, x8, x9, x10, x14, x15, x16, x17, x18 => if x18 ≥ 4294967296 then (bits_Div64.j4 k x2 x8 x9 x10 x14 x15 x16 x17 x18 true) else (bits_Div64.j4 k x2 x8 x9 x10 x14 x15 x16 x17 x18 (decide ((IntKind.u64.wrap (x18 * x10)) > (IntKind.u64.wrap ((IntKind.u64.wrap (4294967296 * x16)) + x14)))))
def bits_Div64.j4 : Nat → Int → Int → Int → Int → Int → Int → Int → Int → Int → Bool → Option (Int × Int)
 | 0, _, _, _, _, _, _, _, _, _, _ => none
 | k + 1, x2, x8, x9, x10, x14, x15, x16, x17, x18, x113 => if x113 = true then (if (IntKind.u64.wrap (x16 + x9)) ≥ 4294967296 then (if 0 ≤ x8 then (some (IntKind.u64.wrap ((IntKind.u64.wrap (x15 * 4294967296)) + (IntKind.u64.wrap (x18 - 1))), shr .u64 (IntKind.u64.wrap ((IntKind.u64.wrap ((IntKind.u64.wrap (x17 * 4294967296)) + x14)) - (IntKind.u64.wrap ((IntKind.u64.wrap (x18 - 1)) * x2)))) x8)) else (none)) else (bits_Div64.l1 k x2 x8 x9 x10 x14 x15 (IntKind.u64.wrap (x16 + x9)) x17 (IntKind.u64.wrap (x18 - 1)))) else (if 0 ≤ x8 then (some (IntKind.u64.wrap ((IntKind.u64.wrap (x15 * 4294967296)) + x18), shr .u64 (IntKind.u64.wrap ((IntKind.u64.wrap ((IntKind.u64.wrap (x17 * 4294967296)) + x14)) - (IntKind.u64.wrap (x18 * x2)))) x8)) else (none))
def bits_Div64.l0 : Nat → Int → Int → Int → Int → Int → Int → Int → Int → Int → Option (Int × Int)
 | 0, _, _, _, _, _, _, _, _, _ => none
 | k + 1, x2, x8, x9, x10, x11, x13, x14, x15, x16 => if x15 ≥ 4294967296 then (bits_Div64.j1 k x2 x8 x9 x10 x11 x13 x14 x15 x16 true) else (bits_Div64.j1 k x2 x8 x9 x10 x11 x13 x14 x15 x16 (decide ((IntKind.u64.wrap (x15 * x10)) > (IntKind.u64.wrap ((IntKind.u64.wrap (4294967296 * x16)) + x13)))))
def bits_Div64.j1 : Nat → Int → Int → Int → Int → Int → Int → Int → Int → Int → Bool → Option (Int × Int)
 | 0, _, _, _, _, _, _, _, _, _, _ => none
 | k + 1, x2, x8, x9, x10, x11, x13, x14, x15, x16, x78 => if x78 = true then (if (IntKind.u64.wrap (x16 + x9)) ≥ 4294967296 then (bits_Div64.j2 k x2 x8 x9 x10 x11 x13 x14 (IntKind.u64.wrap (x15 - 1))) else (bits_Div64.l0 k x2 x8 x9 x10 x11 x13 x14 (IntKind.u64.wrap (x15 - 1)) (IntKind.u64.wrap (x16 + x9)))) else (bits_Div64.j2 k x2 x8 x9 x10 x11 x13 x14 x15)
end
def bits_Div64.f (k : Nat) (a0 : Int) (a1 : Int) (a2 : Int) : Option (Int × Int) := if a2 = 0 then (none) else (if a2 ≤ a0 then (none) else (if a0 = 0 then (some (IntKind.u64.wrap (Int.tdiv a1 a2), Int.tmod a1 a2)) else ((bits_LeadingZeros64.f a2).bind fun t195 => (if 0 ≤ (IntKind.u64.wrap (t195)) then (if 0 ≤ (IntKind.u64.wrap (64 - (IntKind.u64.wrap (t195)))) then (if ((shl .u64 a2 (IntKind.u64.wrap (t195))) / 4294967296) = 0 then (none) else (bits_Div64.l0 k (shl .u64 a2 (IntKind.u64.wrap (t195))) (IntKind.u64.wrap (t195)) ((shl .u64 a2 (IntKind.u64.wrap (t195))) / 4294967296) (Go.bits .and .u64 (shl .u64 a2 (IntKind.u64.wrap (t195))) 4294967295) (Go.bits .or .u64 (shl .u64 a0 (IntKind.u64.wrap (t195))) (shr .u64 a1 (IntKind.u64.wrap (64 - (IntKind.u64.wrap (t195)))))) ((shl .u64 a1 (IntKind.u64.wrap (t195))) / 4294967296) (Go.bits .and .u64 (shl .u64 a1 (IntKind.u64.wrap (t195))) 4294967295) (IntKind.u64.wrap (Int.tdiv (Go.bits .or .u64 (shl .u64 a0 (IntKind.u64.wrap (t195))) (shr .u64 a1 (IntKind.u64.wrap (64 - (IntKind.u64.wrap (t195)))))) ((shl .u64 a2 (IntKind.u64.wrap (t195))) / 4294967296))) (IntKind.u64.wrap ((Go.bits .or .u64 (shl .u64 a0 (IntKind.u64.wrap (t195))) (shr .u64 a1 (IntKind.u64.wrap (64 - (IntKind.u64.wrap (t195)))))) - (IntKind.u64.wrap ((IntKind.u64.wrap (Int.tdiv (Go.bits .or .u64 (shl .u64 a0 (IntKind.u64.wrap (t195))) (shr .u64 a1 (IntKind.u64.wrap (64 - (IntKind.u64.wrap (t195)))))) ((shl .u64 a2 (IntKind.u64.wrap (t195))) / 4294967296))) * ((shl .u64 a2 (IntKind.u64.wrap (t195))) / 4294967296))))))) else (none)) else (none)))))
theorem bits_Div64.mono_l : ∀ k, (∀ y0 y1 y2 y3 y4 y5 y6 y7, LeO (bits_Div64.j2 k y0 y1 y2 y3 y4 y5 y6 y7) (bits_Div64.j2 (k + 1) y0 y1 y2 y3 y4 y5 y6 y7)) ∧ (∀ y0 y1 y2 y3 y4 y5 y6 y7 y8, LeO (bits_Div64.l1 k y0 y1 y2 y3 y4 y5 y6 y7 y8) (bits_Div64.l1 (k + 1) y0 y1 y2 y3 y4 y5 y6 y7 y8)) ∧ (∀ y0 y1 y2 y3 y4 y5 y6 y7 y8 y9, LeO (bits_Div64.j4 k y0 y1 y2 y3 y4 y5 y6 y7 y8 y9) (bits_Div64.j4 (k + 1) y0 y1 y2 y3 y4 y5 y6 y7 y8 y9)) ∧ (∀ y0 y1 y2 y3 y4 y5 y6 y7 y8, LeO (bits_Div64.l0 k y0 y1 y2 y3 y4 y5 y6 y7 y8) (bits_Div64.l0 (k + 1) y0 y1 y2 y3 y4 y5 y6 y7 y8)) ∧ (∀ y0 y1 y2 y3 y4 y5 y6 y7 y8 y9, LeO (bits_Div64.j1 k y0 y1 y2 y3 y4 y5 y6 y7 y8 y9) (bits_Div64.j1 (k + 1) y0 y1 y2 y3 y4 y5 y6 y7 y8 y9))
 | 0 => ⟨fun _ _ _ _ _ _ _ _ r h => by simp [bits_Div64.j2] at h, fun _ _ _ _ _ _ _ _ _ r h => by simp [bits_Div64.l1] at h, fun _ _ _ _ _ _ _ _ _ _ r h => by simp [bits_Div64.j4] at h, fun _ _ _ _ _ _ _ _ _ r h => by simp [bits_Div64.l0] at h, fun _ _ _ _ _ _ _ _ _ _ r h => by simp [bits_Div64.j1] at h⟩
 | k + 1 => by
  obtain ⟨ih0, ih1, ih2, ih3, ih4⟩ := bits_Div64.mono_l k
  refine ⟨?_, ?_, ?_, ?_, ?_⟩
  ·intro y0 y1 y2 y3 y4 y5 y6 y7
   unfold bits_Div64.j2
   repeat' first
   | (with_reducible exact ih0 _ _ _ _ _ _ _ _)
   | (with_reducible exact ih1 _ _ _ _ _ _ _ _ _)
   | (with_reducible exact ih2 _ _ _ _ _ _ _ _ _ _)
   | (with_reducible exact ih3 _ _ _ _ _ _ _ _ _)
   | (with_reducible exact ih4 _ _ _ _ _ _ _ _ _ _)
   | (with_reducible exact LeO.refl _)
   | (with_reducible exact LeO.none _)
   | (with_reducible refine LeO.ite ?_ ?_)
   | (with_reducible refine LeO.bind ?_ (fun _ => ?_))
   | exact ih0 _ _ _ _ _ _ _ _
   | exact ih1 _ _ _ _ _ _ _ _ _
   | exact ih2 _ _ _ _ _ _ _ _ _ _
   | exact ih3 _ _ _ _ _ _ _ _ _
   | exact ih4 _ _ _ _ _ _ _ _ _ _
   | exact LeO.none _
   | refine LeO.ite ?_ ?_
   | refine LeO.bind ?_ (fun _ => ?_)
  ·intro y0 y1 y2 y3 y4 y5 y6 y7 y8
   unfold bits_Div64.l1
   repeat' first
   | (with_reducible exact ih0 _ _ _ _ _ _ _ _)
   | (with_reducible exact ih1 _ _ _ _ _ _ _ _ _)
   | (with_reducible exact ih2 _ _ _ _ _ _ _ _ _ _)
   | (with_reducible exact ih3 _ _ _ _ _ _ _ _ _)
   | (with_reducible exact ih4 _ _ _ _ _ _ _ _ _ _)
   | (with_reducible exact LeO.refl _)
   | (with_reducible exact LeO.none _)
   | (with_reducible refine LeO.ite ?_ ?_)
   | (with_reducible refine LeO.bind ?_ (fun _ => ?_))
   | exact ih0 _ _ _ _ _ _ _ _
   | exact ih1 _ _ _ _ _ _ _ _ _
   | exact ih2 _ _ _ _ _ _ _ _ _ _
   | exact ih3 _ _ _ _ _ _ _ _ _
   | exact ih4 _ _ _ _ _ _ _ _ _ _
   | exact LeO.none _
   | refine LeO.ite ?_ ?_
   | refine LeO.bind ?_ (fun _ => ?_)
  ·intro y0 y1 y2 y3 y4 y5 y6 y7 y8 y9
   unfold bits_Div64.j4
   repeat' first
   | (with_reducible exact ih0 _ _ _ _ _ _ _ _)
   | (with_reducible exact ih1 _ _ _ _ _ _ _ _ _)
   | (with_reducible exact ih2 _ _ _ _ _ _ _ _ _ _)
   | (with_reducible exact ih3 _ _ _ _ _ _ _ _ _)
   | (with_reducible exact ih4 _ _ _ _ _ _ _ _ _ _)
   | (with_reducible exact LeO.refl _)
   | (with_reducible exact LeO.none _)
   | (with_reducible refine LeO.ite ?_ ?_)
   | (with_reducible refine LeO.bind ?_ (fun _ => ?_))
   | exact ih0 _ _ _ _ _ _ _ _
   | exact ih1 _ _ _ _ _ _ _ _ _
   | exact ih2 _ _ _ _ _ _ _ _ _ _
   | exact ih3 _ _ _ _ _ _ _ _ _
   | exact ih4 _ _ _ _ _ _ _ _ _ _
   | exact LeO.none _
   | refine LeO.ite ?_ ?_
   | refine LeO.bind ?_ (fun _ => ?_)
  ·intro y0 y1 y2 y3 y4 y5 y6 y7 y8
   unfold bits_Div64.l0
   repeat' first
   | (with_reducible exact ih0 _ _ _ _ _ _ _ _)
   | (with_reducible exact ih1 _ _ _ _ _ _ _ _ _)
   | (with_reducible exact ih2 _ _ _ _ _ _ _ _ _ _)
   | (with_reducible exact ih3 _ _ _ _ _ _ _ _ _)
   | (with_reducible exact ih4 _ _ _ _ _ _ _ _ _ _)
   | (with_reducible exact LeO.refl _)
   | (with_reducible exact LeO.none _)
   | (with_reducible refine LeO.ite ?_ ?_)
   | (with_reducible refine LeO.bind ?_ (fun _ => ?_))
   | exact ih0 _ _ _ _ _ _ _ _
   | exact ih1 _ _ _ _ _ _ _ _ _
   | exact ih2 _ _ _ _ _ _ _ _ _ _
   | exact ih3 _ _ _ _ _ _ _ _ _
   | exact ih4 _ _ _ _ _ _ _ _ _ _
   | exact LeO.none _
   | refine LeO.ite ?_ ?_
   | refine LeO.bind ?_ (fun _ => ?_)
  intro y0 y1 y2 y3 y4 y5 y6 y7 y8 y9
  unfold bits_Div64.j1
  repeat' first
  | (with_reducible exact ih0 _ _ _ _ _ _ _ _)
  | (with_reducible exact ih1 _ _ _ _ _ _ _ _ _)
  | (with_reducible exact ih2 _ _ _ _ _ _ _ _ _ _)
  | (with_reducible exact ih3 _ _ _ _ _ _ _ _ _)
  | (with_reducible exact ih4 _ _ _ _ _ _ _ _ _ _)
  | (with_reducible exact LeO.refl _)
  | (with_reducible exact LeO.none _)
  | (with_reducible refine LeO.ite ?_ ?_)
  | (with_reducible refine LeO.bind ?_ (fun _ => ?_))
  | exact ih0 _ _ _ _ _ _ _ _
  | exact ih1 _ _ _ _ _ _ _ _ _
  | exact ih2 _ _ _ _ _ _ _ _ _ _
  | exact ih3 _ _ _ _ _ _ _ _ _
  | exact ih4 _ _ _ _ _ _ _ _ _ _
  | exact LeO.none _
  | refine LeO.ite ?_ ?_
  | refine LeO.bind ?_ (fun _ => ?_)
theorem bits_Div64.mono : ∀ a0 a1 a2 k, LeO (bits_Div64.f k a0 a1 a2) (bits_Div64.f (k + 1) a0 a1 a2) := by
 intro a0 a1 a2 k
 obtain ⟨ih0, ih1, ih2, ih3, ih4⟩ := bits_Div64.mono_l k
 unfold bits_Div64.f
 repeat' first
   | (with_reducible exact ih0 _ _ _ _ _ _ _ _)
   | (with_reducible exact ih1 _ _ _ _ _ _ _ _ _)
   | (with_reducible exact ih2 _ _ _ _ _ _ _ _ _ _)
   | (with_reducible exact ih3 _ _ _ _ _ _ _ _ _)
   | (with_reducible exact ih4 _ _ _ _ _ _ _ _ _ _)
   | (with_reducible exact LeO.refl _)
   | (with_reducible exact LeO.none _)
   | (with_reducible refine LeO.ite ?_ ?_)
   | (with_reducible refine LeO.bind ?_ (fun _ => ?_))
   | exact ih0 _ _ _ _ _ _ _ _
   | exact ih1 _ _ _ _ _ _ _ _ _
   | exact ih2 _ _ _ _ _ _ _ _ _ _
   | exact ih3 _ _ _ _ _ _ _ _ _
   | exact ih4 _ _ _ _ _ _ _ _ _ _
   | exact LeO.none _
   | refine LeO.ite ?_ ?_
   | refine LeO.bind ?_ (fun _ => ?_)
set_option maxHeartbeats 8000000 in
set_option maxRecDepth 100000 in
theorem bits_Div64.calls (k : Nat) (a0 : Int) (a1 : Int) (a2 : Int) (r1 : Int) (r2 : Int) (w : World) (h : bits_Div64.f k a0 a1 a2 = some (r1, r2)) :
  Calls Tryz.prog 82 #[.int .u64 a0, .int .u64 a1, .int .u64 a2] w fun e w' => e = .returned (.tuple #[.int .u64 r1, .int .u64 r2]) ∧ Drawn0 w w' := by
 have H : (if a2 = 0 then (none) else (if a2 ≤ a0 then (none) else (if a0 = 0 then (some (IntKind.u64.wrap (Int.tdiv a1 a2), Int.tmod a1 a2)) else ((bits_LeadingZeros64.f a2).bind fun t195 => (if 0 ≤ (IntKind.u64.wrap (t195)) then (if 0 ≤ (IntKind.u64.wrap (64 - (IntKind.u64.wrap (t195)))) then (if ((shl .u64 a2 (IntKind.u64.wrap (t195))) / 4294967296) = 0 then (none) else (bits_Div64.l0 k (shl .u64 a2 (IntKind.u64.wrap (t195))) (IntKind.u64.wrap (t195)) ((shl .u64 a2 (IntKind.u64.wrap (t195))) / 4294967296) (Go.bits .and .u64 (shl .u64 a2 (IntKind.u64.wrap (t195))) 4294967295) (Go.bits .or .u64 (shl .u64 a0 (IntKind.u64.wrap (t195))) (shr .u64 a1 (IntKind.u64.wrap (64 - (IntKind.u64.wrap (t195)))))) ((shl .u64 a1 (IntKind.u64.wrap (t195))) / 4294967296) (Go.bits .and .u64 (shl .u64 a1 (IntKind.u64.wrap (t195))) 4294967295) (IntKind.u64.wrap (Int.tdiv (Go.bits .or .u64 (shl .u64 a0 (IntKind.u64.wrap (t195))) (shr .u64 a1 (IntKind.u64.wrap (64 - (IntKind.u64.wrap (t195)))))) ((shl .u64 a2 (IntKind.u64.wrap (t195))) / 4294967296))) (IntKind.u64.wrap ((Go.bits .or .u64 (shl .u64 a0 (IntKind.u64.wrap (t195))) (shr .u64 a1 (IntKind.u64.wrap (64 - (IntKind.u64.wrap (t195)))))) - (IntKind.u64.wrap ((IntKind.u64.wrap (Int.tdiv (Go.bits .or .u64 (shl .u64 a0 (IntKind.u64.wrap (t195))) (shr .u64 a1 (IntKind.u64.wrap (64 - (IntKind.u64.wrap (t195)))))) ((shl .u64 a2 (IntKind.u64.wrap (t195))) / 4294967296))) * ((shl .u64 a2 (IntKind.u64.wrap (t195))) / 4294967296))))))) else (none)) else (none)))))) = some (r1, r2) := h
 clear h
 by_cases c4 : a2 = 0
 ·rw [if_pos c4] at H
  exact absurd H (by simp)
 rw [if_neg c4] at H
 have c4b0 : (a2 == 0) = false := beq_eq_false_iff_ne.mpr c4
 have c4b1 : (a2 != 0) = true := bne_iff_ne.mpr c4
 by_cases c5 : a2 ≤ a0
 ·rw [if_pos c5] at H
  exact absurd H (by simp)
 rw [if_neg c5] at H
 have c5b0 : decide (a2 ≤ a0) = false := decide_eq_false c5
 clear c5
 by_cases c6 : a0 = 0
 ·rw [if_pos c6] at H
  have c6b0 : (a0 == 0) = true := beq_iff_eq.mpr c6
  have c6b1 : (a0 != 0) = false := bne_eq_false_iff_eq.mpr c6
  clear c6
  simp only [Option.some.injEq, Prod.mk.injEq] at H
  obtain ⟨rfl, rfl⟩ := H
  go_enter Tryz.func82, Tryz.ntmps82
  go_wp2
  repeat (go_quiet (fail); try go_wp2)
  go_ret2
  exact ⟨by first | rfl | (simp; done) | (simp [*]; done), by repeat (first | exact Drawn0.refl _ | apply Drawn0.step)⟩
 rw [if_neg c6] at H
 have c6b0 : (a0 == 0) = false := beq_eq_false_iff_ne.mpr c6
 have c6b1 : (a0 != 0) = true := bne_iff_ne.mpr c6
 replace H := Option.bind_eq_some_iff.mp H
 obtain ⟨t195, A70, H⟩ := H
 replace H : (if 0 ≤ (IntKind.u64.wrap (t195)) then (if 0 ≤ (IntKind.u64.wrap (64 - (IntKind.u64.wrap (t195)))) then (if ((shl .u64 a2 (IntKind.u64.wrap (t195))) / 4294967296) = 0 then (none) else (bits_Div64.l0 k (shl .u64 a2 (IntKind.u64.wrap (t195))) (IntKind.u64.wrap (t195)) ((shl .u64 a2 (IntKind.u64.wrap (t195))) / 4294967296) (Go.bits .and .u64 (shl .u64 a2 (IntKind.u64.wrap (t195))) 4294967295) (Go.bits .or .u64 (shl .u64 a0 (IntKind.u64.wrap (t195))) (shr .u64 a1 (IntKind.u64.wrap (64 - (IntKind.u64.wrap (t195)))))) ((shl .u64 a1 (IntKind.u64.wrap (t195))) / 4294967296) (Go.bits .and .u64 (shl .u64 a1 (IntKind.u64.wrap (t195))) 4294967295) (IntKind.u64.wrap (Int.tdiv (Go.bits .or .u64 (shl .u64 a0 (IntKind.u64.wrap (t195))) (shr .u64 a1 (IntKind.u64.wrap (64 - (IntKind.u64.wrap (t195)))))) ((shl .u64 a2 (IntKind.u64.wrap (t195))) / 4294967296))) (IntKind.u64.wrap ((Go.bits .or .u64 (shl .u64 a0 (IntKind.u64.wrap (t195))) (shr .u64 a1 (IntKind.u64.wrap (64 - (IntKind.u64.wrap (t195)))))) - (IntKind.u64.wrap ((IntKind.u64.wrap (Int.tdiv (Go.bits .or .u64 (shl .u64 a0 (IntKind.u64.wrap (t195))) (shr .u64 a1 (IntKind.u64.wrap (64 - (IntKind.u64.wrap (t195)))))) ((shl .u64 a2 (IntKind.u64.wrap (t195))) / 4294967296))) * ((shl .u64 a2 (IntKind.u64.wrap (t195))) / 4294967296))))))) else (none)) else (none)) = some (r1, r2) := H
 have A7 := Aside0.mk A70
 clear A70
 obtain ⟨ji8, hji8⟩ : ∃ j_ : Int, (IntKind.u64.wrap (t195)) = j_ := ⟨_, rfl⟩
 replace H : (if 0 ≤ (ji8) then (if 0 ≤ (IntKind.u64.wrap (64 - (ji8))) then (if ((shl .u64 a2 (ji8)) / 4294967296) = 0 then (none) else (bits_Div64.l0 k (shl .u64 a2 (ji8)) ji8 ((shl .u64 a2 (ji8)) / 4294967296) (Go.bits .and .u64 (shl .u64 a2 (ji8)) 4294967295) (Go.bits .or .u64 (shl .u64 a0 (ji8)) (shr .u64 a1 (IntKind.u64.wrap (64 - (ji8))))) ((shl .u64 a1 (ji8)) / 4294967296) (Go.bits .and .u64 (shl .u64 a1 (ji8)) 4294967295) (IntKind.u64.wrap (Int.tdiv (Go.bits .or .u64 (shl .u64 a0 (ji8)) (shr .u64 a1 (IntKind.u64.wrap (64 - (ji8))))) ((shl .u64 a2 (ji8)) / 4294967296))) (IntKind.u64.wrap ((Go.bits .or .u64 (shl .u64 a0 (ji8)) (shr .u64 a1 (IntKind.u64.wrap (64 - (ji8))))) - (IntKind.u64.wrap ((IntKind.u64.wrap (Int.tdiv (Go.bits .or .u64 (shl .u64 a0 (ji8)) (shr .u64 a1 (IntKind.u64.wrap (64 - (ji8))))) ((shl .u64 a2 (ji8)) / 4294967296))) * ((shl .u64 a2 (ji8)) / 4294967296))))))) else (none)) else (none)) = some (r1, r2) := by first | (rw [hji8] at H; exact H) | (simp only [hji8] at H ⊢; exact H)
 (try rw [hji8] at A7)
 by_cases c9 : 0 ≤ (ji8)
 ·rw [if_pos c9] at H
  have c9b0 := eq_true c9
  have c9b1 : decide (0 ≤ (ji8)) = true := decide_eq_true c9
  clear c9
  obtain ⟨ji10, hji10⟩ : ∃ j_ : Int, (shl .u64 a2 (ji8)) = j_ := ⟨_, rfl⟩
  replace H : (if 0 ≤ (IntKind.u64.wrap (64 - (ji8))) then (if ((ji10) / 4294967296) = 0 then (none) else (bits_Div64.l0 k ji10 ji8 ((ji10) / 4294967296) (Go.bits .and .u64 (ji10) 4294967295) (Go.bits .or .u64 (shl .u64 a0 (ji8)) (shr .u64 a1 (IntKind.u64.wrap (64 - (ji8))))) ((shl .u64 a1 (ji8)) / 4294967296) (Go.bits .and .u64 (shl .u64 a1 (ji8)) 4294967295) (IntKind.u64.wrap (Int.tdiv (Go.bits .or .u64 (shl .u64 a0 (ji8)) (shr .u64 a1 (IntKind.u64.wrap (64 - (ji8))))) ((ji10) / 4294967296))) (IntKind.u64.wrap ((Go.bits .or .u64 (shl .u64 a0 (ji8)) (shr .u64 a1 (IntKind.u64.wrap (64 - (ji8))))) - (IntKind.u64.wrap ((IntKind.u64.wrap (Int.tdiv (Go.bits .or .u64 (shl .u64 a0 (ji8)) (shr .u64 a1 (IntKind.u64.wrap (64 - (ji8))))) ((ji10) / 4294967296))) * ((ji10) / 4294967296))))))) else (none)) = some (r1, r2) := by first | (rw [hji10] at H; exact H) | (simp only [hji10] at H ⊢; exact H)
  (try rw [hji10] at A7)
  have hji10_ : (IntKind.u64.wrap (a2 * 2 ^ min (ji8).toNat 64)) = ji10 := hji10
  have hji10z : (ji8) ≤ 64 → (IntKind.u64.wrap (a2 * 2 ^ (ji8).toNat)) = ji10 := shl_small hji10
  have c11b0 := eq_true (of_decide_eq_true (by first | (with_reducible assumption) | assumption) : 0 ≤ (ji8))
  obtain ⟨ji12, hji12⟩ : ∃ j_ : Int, (shl .u64 a0 (ji8)) = j_ := ⟨_, rfl⟩
  replace H : (if 0 ≤ (IntKind.u64.wrap (64 - (ji8))) then (if ((ji10) / 4294967296) = 0 then (none) else (bits_Div64.l0 k ji10 ji8 ((ji10) / 4294967296) (Go.bits .and .u64 (ji10) 4294967295) (Go.bits .or .u64 (ji12) (shr .u64 a1 (IntKind.u64.wrap (64 - (ji8))))) ((shl .u64 a1 (ji8)) / 4294967296) (Go.bits .and .u64 (shl .u64 a1 (ji8)) 4294967295) (IntKind.u64.wrap (Int.tdiv (Go.bits .or .u64 (ji12) (shr .u64 a1 (IntKind.u64.wrap (64 - (ji8))))) ((ji10) / 4294967296))) (IntKind.u64.wrap ((Go.bits .or .u64 (ji12) (shr .u64 a1 (IntKind.u64.wrap (64 - (ji8))))) - (IntKind.u64.wrap ((IntKind.u64.wrap (Int.tdiv (Go.bits .or .u64 (ji12) (shr .u64 a1 (IntKind.u64.wrap (64 - (ji8))))) ((ji10) / 4294967296))) * ((ji10) / 4294967296))))))) else (none)) = some (r1, r2) := by first | (rw [hji12] at H; exact H) | (simp only [hji12] at H ⊢; exact H)
  (try rw [hji12] at A7)
  have hji12_ : (IntKind.u64.wrap (a0 * 2 ^ min (ji8).toNat 64)) = ji12 := hji12
  have hji12z : (ji8) ≤ 64 → (IntKind.u64.wrap (a0 * 2 ^ (ji8).toNat)) = ji12 := shl_small hji12
  obtain ⟨ji13, hji13⟩ : ∃ j_ : Int, (IntKind.u64.wrap (64 - (ji8))) = j_ := ⟨_, rfl⟩
  replace H : (if 0 ≤ (ji13) then (if ((ji10) / 4294967296) = 0 then (none) else (bits_Div64.l0 k ji10 ji8 ((ji10) / 4294967296) (Go.bits .and .u64 (ji10) 4294967295) (Go.bits .or .u64 (ji12) (shr .u64 a1 (ji13))) ((shl .u64 a1 (ji8)) / 4294967296) (Go.bits .and .u64 (shl .u64 a1 (ji8)) 4294967295) (IntKind.u64.wrap (Int.tdiv (Go.bits .or .u64 (ji12) (shr .u64 a1 (ji13))) ((ji10) / 4294967296))) (IntKind.u64.wrap ((Go.bits .or .u64 (ji12) (shr .u64 a1 (ji13))) - (IntKind.u64.wrap ((IntKind.u64.wrap (Int.tdiv (Go.bits .or .u64 (ji12) (shr .u64 a1 (ji13))) ((ji10) / 4294967296))) * ((ji10) / 4294967296))))))) else (none)) = some (r1, r2) := by first | (rw [hji13] at H; exact H) | (simp only [hji13] at H ⊢; exact H)
  (try rw [hji13] at A7)
  by_cases c14 : 0 ≤ (ji13)
  ·rw [if_pos c14] at H
   have c14b0 := eq_true c14
   have c14b1 : decide (0 ≤ (ji13)) = true := decide_eq_true c14
   clear c14
   obtain ⟨ji15, hji15⟩ : ∃ j_ : Int, (shr .u64 a1 (ji13)) = j_ := ⟨_, rfl⟩
   replace H : (if ((ji10) / 4294967296) = 0 then (none) else (bits_Div64.l0 k ji10 ji8 ((ji10) / 4294967296) (Go.bits .and .u64 (ji10) 4294967295) (Go.bits .or .u64 (ji12) (ji15)) ((shl .u64 a1 (ji8)) / 4294967296) (Go.bits .and .u64 (shl .u64 a1 (ji8)) 4294967295) (IntKind.u64.wrap (Int.tdiv (Go.bits .or .u64 (ji12) (ji15)) ((ji10) / 4294967296))) (IntKind.u64.wrap ((Go.bits .or .u64 (ji12) (ji15)) - (IntKind.u64.wrap ((IntKind.u64.wrap (Int.tdiv (Go.bits .or .u64 (ji12) (ji15)) ((ji10) / 4294967296))) * ((ji10) / 4294967296))))))) = some (r1, r2) := by first | (rw [hji15] at H; exact H) | (simp only [hji15] at H ⊢; exact H)
   (try rw [hji15] at A7)
   have hji15_ : (a1 / 2 ^ min (ji13).toNat 64) = ji15 := hji15
   have hji15z : (ji13) ≤ 64 → (a1 / 2 ^ (ji13).toNat) = ji15 := shr_small hji15
   have c16b0 := eq_true (of_decide_eq_true (by first | (with_reducible assumption) | assumption) : 0 ≤ (ji8))
   obtain ⟨ji17, hji17⟩ : ∃ j_ : Int, (shl .u64 a1 (ji8)) = j_ := ⟨_, rfl⟩
   replace H : (if ((ji10) / 4294967296) = 0 then (none) else (bits_Div64.l0 k ji10 ji8 ((ji10) / 4294967296) (Go.bits .and .u64 (ji10) 4294967295) (Go.bits .or .u64 (ji12) (ji15)) ((ji17) / 4294967296) (Go.bits .and .u64 (ji17) 4294967295) (IntKind.u64.wrap (Int.tdiv (Go.bits .or .u64 (ji12) (ji15)) ((ji10) / 4294967296))) (IntKind.u64.wrap ((Go.bits .or .u64 (ji12) (ji15)) - (IntKind.u64.wrap ((IntKind.u64.wrap (Int.tdiv (Go.bits .or .u64 (ji12) (ji15)) ((ji10) / 4294967296))) * ((ji10) / 4294967296))))))) = some (r1, r2) := by first | (rw [hji17] at H; exact H) | (simp only [hji17] at H ⊢; exact H)
   (try rw [hji17] at A7)
   have hji17_ : (IntKind.u64.wrap (a1 * 2 ^ min (ji8).toNat 64)) = ji17 := hji17
   have hji17z : (ji8) ≤ 64 → (IntKind.u64.wrap (a1 * 2 ^ (ji8).toNat)) = ji17 := shl_small hji17
   by_cases c18 : ((ji10) / 4294967296) = 0
   ·rw [if_pos c18] at H
    exact absurd H (by simp)
   rw [if_neg c18] at H
   have c18b0 : (((ji10) / 4294967296) == 0) = false := beq_eq_false_iff_ne.mpr c18
   have c18b1 : (((ji10) / 4294967296) != 0) = true := bne_iff_ne.mpr c18
   have HC19 := Aside0.mk H
   clear H
   go_enter Tryz.func82, Tryz.ntmps82
   go_upto_block 0 with (first | (go_at_call 93; (with_reducible refine (bits_LeadingZeros64.calls a2 t195 _ A7.out).mono ?_); rintro e w' ⟨rfl, ⟨nd, rfl⟩⟩; (try first | exact ⟨rfl, _, World.drewN_drewN _ _ _⟩ | exact ⟨rfl, _, Eq.trans (World.drewN_drewN _ _ _) (congrArg (World.drewN _) (Nat.add_assoc _ _ _))⟩)))
   repeat (go_quiet (first | (go_at_call 93; (with_reducible refine (bits_LeadingZeros64.calls a2 t195 _ A7.out).mono ?_); rintro e w' ⟨rfl, ⟨nd, rfl⟩⟩; (try first | exact ⟨rfl, _, World.drewN_drewN _ _ _⟩ | exact ⟨rfl, _, Eq.trans (World.drewN_drewN _ _ _) (congrArg (World.drewN _) (Nat.add_assoc _ _ _))⟩))); go_upto_block 0 with (first | (go_at_call 93; (with_reducible refine (bits_LeadingZeros64.calls a2 t195 _ A7.out).mono ?_); rintro e w' ⟨rfl, ⟨nd, rfl⟩⟩; (try first | exact ⟨rfl, _, World.drewN_drewN _ _ _⟩ | exact ⟨rfl, _, Eq.trans (World.drewN_drewN _ _ _) (congrArg (World.drewN _) (Nat.add_assoc _ _ _))⟩))))
   (try simp only [Act.put, List.setIfInBounds_toArray, List.set_cons_zero, List.set_cons_succ])
   go_cut [15] (fun v15 wc => ∃ (kq : Nat) (x15_18 : Int), v15 = .int .u64 x15_18 ∧ Aside0 (bits_Div64.j2 kq ji10 ji8 ((ji10) / 4294967296) (Go.bits .and .u64 (ji10) 4294967295) (Go.bits .or .u64 (ji12) (ji15)) ((ji17) / 4294967296) (Go.bits .and .u64 (ji17) 4294967295) x15_18 = some (r1, r2)) ∧ Aside0 (kq ≤ k) ∧ Drawn0 w wc)
   case first =>
    have H := HC19.out
    clear HC19
    have H' := Aside0.mk H
    clear H
    go_wp2
    repeat (go_quiet (fail); try go_wp2)
    (try simp only [Act.put, List.setIfInBounds_toArray, List.set_cons_zero, List.set_cons_succ])
    go_loopg [15, 16] k (fun kq v15 v16 w' => ∃ (x15_1 : Int) (x16_1 : Int), v15 = .int .u64 x15_1 ∧ v16 = .int .u64 x16_1 ∧ Aside0 (bits_Div64.l0 kq ji10 ji8 ((ji10) / 4294967296) (Go.bits .and .u64 (ji10) 4294967295) (Go.bits .or .u64 (ji12) (ji15)) ((ji17) / 4294967296) (Go.bits .and .u64 (ji17) 4294967295) x15_1 x16_1 = some (r1, r2)) ∧ Aside0 (kq ≤ k) ∧ Drawn0 w w')
    case atStart => exact ⟨(IntKind.u64.wrap (Int.tdiv (Go.bits .or .u64 (ji12) (ji15)) ((ji10) / 4294967296))), (IntKind.u64.wrap ((Go.bits .or .u64 (ji12) (ji15)) - (IntKind.u64.wrap ((IntKind.u64.wrap (Int.tdiv (Go.bits .or .u64 (ji12) (ji15)) ((ji10) / 4294967296))) * ((ji10) / 4294967296))))), (by first | rfl | (simp; done) | (simp only [← hji10, ← hji12, ← hji15] <;> (first | rfl | simp)) | (simp [*]; done)), (by first | rfl | (simp; done) | (simp only [← hji10, ← hji12, ← hji15] <;> (first | rfl | simp)) | (simp [*]; done)), H', ⟨Nat.le_refl _⟩, by repeat (first | exact Drawn0.refl _ | apply Drawn0.step)⟩
    case round =>
     clear H'
     try clear c1
     try clear p2
     try clear c4
     try clear c4b0
     try clear c4b1
     try clear c5
     try clear c5b0
     try clear c6
     try clear c6b0
     try clear c6b1
     try clear c8
     try clear c9
     try clear c9b0
     try clear c9b1
     try clear c11
     try clear c11b0
     try clear c14
     try clear c14b0
     try clear c14b1
     try clear c16
     try clear c16b0
     try clear c18
     try clear c18b0
     try clear c18b1
     obtain ⟨x15_1, x16_1, rfl, rfl, HA, HK1, ⟨m1, rfl⟩⟩ := hrel
     cases gk with
     | zero => exact absurd HA.out (by simp [bits_Div64.l0])
     | succ k1 =>
      have H := HA.out
      clear HA
      simp only [bits_Div64.l0] at H
      have HC20 := Aside0.mk H
      clear H
      go_upto_region 17 with (fail)
      repeat (go_quiet (fail); go_upto_region 17 with (fail))
      go_cut [78] (fun v78 wc => ∃ (kq : Nat) (x78_19 : Bool), v78 = .bool x78_19 ∧ Aside0 (bits_Div64.j1 kq ji10 ji8 ((ji10) / 4294967296) (Go.bits .and .u64 (ji10) 4294967295) (Go.bits .or .u64 (ji12) (ji15)) ((ji17) / 4294967296) (Go.bits .and .u64 (ji17) 4294967295) x15_1 x16_1 x78_19 = some (r1, r2)) ∧ Aside0 (kq ≤ k1) ∧ Drawn0 w wc)
      case first =>
       have H := HC20.out
       clear HC20
       by_cases c21 : x15_1 ≥ 4294967296
       ·rw [if_pos c21] at H
        have c21b0 : decide (4294967296 ≤ x15_1) = true := decide_eq_true c21
        clear c21
        (first | rw [c21b0] | (simp only [i64_w, i32_w]; rw [c21b0]) | skip)
        have H' := Aside0.mk H
        clear H
        go_wp2
        repeat (go_quiet (fail); try go_wp2)
        go_meet
        case rel => exact ⟨_, (true), (by first | rfl | (simp; done) | (simp [*]; done)), H', ⟨by have := HK1.out; first | omega | exact Nat.le_refl _⟩, by repeat (first | exact Drawn0.refl _ | apply Drawn0.step)⟩
       rw [if_neg c21] at H
       have c21b0 : decide (4294967296 ≤ x15_1) = false := decide_eq_false c21
       clear c21
       (first | rw [c21b0] | (simp only [i64_w, i32_w]; rw [c21b0]) | skip)
       have H' := Aside0.mk H
       clear H
       go_wp2
       repeat (go_quiet (fail); try go_wp2)
       go_meet
       case rel => exact ⟨_, (decide ((IntKind.u64.wrap (x15_1 * (Go.bits .and .u64 (ji10) 4294967295))) > (IntKind.u64.wrap ((IntKind.u64.wrap (4294967296 * x16_1)) + ((ji17) / 4294967296))))), (by first | rfl | (simp; done) | (simp only [← hji10, ← hji17] <;> (first | rfl | simp)) | (simp [*]; done)), H', ⟨by have := HK1.out; first | omega | exact Nat.le_refl _⟩, by repeat (first | exact Drawn0.refl _ | apply Drawn0.step)⟩
      case rest =>
       clear HC20
       try clear c1
       try clear c2
       try clear p2
       try clear c4
       try clear c4b0
       try clear c4b1
       try clear c5
       try clear c5b0
       try clear c6
       try clear c6b0
       try clear c6b1
       try clear c8
       try clear c9
       try clear c9b0
       try clear c9b1
       try clear c11
       try clear c11b0
       try clear c14
       try clear c14b0
       try clear c14b1
       try clear c16
       try clear c16b0
       try clear c18
       try clear c18b0
       try clear c18b1
       try clear c21
       try clear c21b0
       try clear p2
       obtain ⟨kq, x78_19, rfl, HA, HJ19, ⟨mc19, rfl⟩⟩ := hcut
       cases kq with
       | zero => exact absurd HA.out (by simp [bits_Div64.j1])
       | succ kj19 =>
        have H := HA.out
        clear HA
        simp only [bits_Div64.j1] at H
        by_cases c22 : x78_19 = true
        ·subst c22
         have H1 : (if (IntKind.u64.wrap (x16_1 + ((ji10) / 4294967296))) ≥ 4294967296 then (bits_Div64.j2 kj19 ji10 ji8 ((ji10) / 4294967296) (Go.bits .and .u64 (ji10) 4294967295) (Go.bits .or .u64 (ji12) (ji15)) ((ji17) / 4294967296) (Go.bits .and .u64 (ji17) 4294967295) (IntKind.u64.wrap (x15_1 - 1))) else (bits_Div64.l0 kj19 ji10 ji8 ((ji10) / 4294967296) (Go.bits .and .u64 (ji10) 4294967295) (Go.bits .or .u64 (ji12) (ji15)) ((ji17) / 4294967296) (Go.bits .and .u64 (ji17) 4294967295) (IntKind.u64.wrap (x15_1 - 1)) (IntKind.u64.wrap (x16_1 + ((ji10) / 4294967296))))) = some (r1, r2) := by rw [if_pos rfl] at H; exact H
         clear H
         have H := H1
         clear H1
         by_cases c23 : (IntKind.u64.wrap (x16_1 + ((ji10) / 4294967296))) ≥ 4294967296
         ·rw [if_pos c23] at H
          have c23b0 : decide (4294967296 ≤ (IntKind.u64.wrap (x16_1 + ((ji10) / 4294967296)))) = true := decide_eq_true c23
          clear c23
          have H' := Aside0.mk H
          clear H
          go_wp2
          repeat (go_quiet (fail); try go_wp2)
          go_meet
          case rel => exact ⟨_, (IntKind.u64.wrap (x15_1 - 1)), (by first | rfl | (simp; done) | (simp [*]; done)), H', ⟨by have := HK1.out; have := HJ19.out; first | omega | exact Nat.le_refl _⟩, by repeat (first | exact Drawn0.refl _ | apply Drawn0.step)⟩
         rw [if_neg c23] at H
         have c23b0 : decide (4294967296 ≤ (IntKind.u64.wrap (x16_1 + ((ji10) / 4294967296)))) = false := decide_eq_false c23
         clear c23
         have H' := Aside0.mk H
         clear H
         go_wp2
         repeat (go_quiet (fail); try go_wp2)
         go_roundg kj19
         case measure => have := HK1.out; have := HJ19.out; omega
         case rel => exact ⟨(IntKind.u64.wrap (x15_1 - 1)), (IntKind.u64.wrap (x16_1 + ((ji10) / 4294967296))), (by first | rfl | (simp; done) | (simp [*]; done)), (by first | rfl | (simp; done) | (simp only [← hji10]; first | rfl | (simp; done) | (simp [mn, mx]; done)) | (simp [*]; done)), H', ⟨by have := HK1.out; have := HJ19.out; omega⟩, by repeat (first | exact Drawn0.refl _ | apply Drawn0.step)⟩
        replace c22 := Bool.eq_false_iff.mpr c22
        subst c22
        have H1 : (bits_Div64.j2 kj19 ji10 ji8 ((ji10) / 4294967296) (Go.bits .and .u64 (ji10) 4294967295) (Go.bits .or .u64 (ji12) (ji15)) ((ji17) / 4294967296) (Go.bits .and .u64 (ji17) 4294967295) x15_1) = some (r1, r2) := by rw [if_neg (show ¬ (false = true) by decide)] at H; exact H
        clear H
        have H := H1
        clear H1
        have H' := Aside0.mk H
        clear H
        go_wp2
        repeat (go_quiet (fail); try go_wp2)
        go_meet
        case rel => exact ⟨_, (x15_1), (by first | rfl | (simp; done) | (simp [*]; done)), H', ⟨by have := HK1.out; have := HJ19.out; first | omega | exact Nat.le_refl _⟩, by repeat (first | exact Drawn0.refl _ | apply Drawn0.step)⟩
   case rest =>
    clear HC19
    try clear c1
    try clear c2
    try clear p2
    try clear c4
    try clear c4b0
    try clear c4b1
    try clear c5
    try clear c5b0
    try clear c6
    try clear c6b0
    try clear c6b1
    try clear c8
    try clear c9
    try clear c9b0
    try clear c9b1
    try clear c11
    try clear c11b0
    try clear c14
    try clear c14b0
    try clear c14b1
    try clear c16
    try clear c16b0
    try clear c18
    try clear c18b0
    try clear c18b1
    try clear c19
    try clear c21
    try clear c21b0
    try clear c22
    try clear c23
    try clear c23b0
    try clear p2
    obtain ⟨kq, x15_18, rfl, HA, HJ18, ⟨mc18, rfl⟩⟩ := hcut
    cases kq with
    | zero => exact absurd HA.out (by simp [bits_Div64.j2])
    | succ kj18 =>
     have H := HA.out
     clear HA
     simp only [bits_Div64.j2] at H
     by_cases c24 : ((ji10) / 4294967296) = 0
     ·rw [if_pos c24] at H
      exact absurd H (by simp)
     rw [if_neg c24] at H
     have c24b0 : (((ji10) / 4294967296) == 0) = false := beq_eq_false_iff_ne.mpr c24
     have c24b1 : (((ji10) / 4294967296) != 0) = true := bne_iff_ne.mpr c24
     have H' := Aside0.mk H
     clear H
     go_wp2
     repeat (go_quiet (fail); try go_wp2)
     (try simp only [Act.put, List.setIfInBounds_toArray, List.set_cons_zero, List.set_cons_succ])
     go_loopg [16, 18] kj18 (fun kq v16 v18 w' => ∃ (x16_2 : Int) (x18_2 : Int), v16 = .int .u64 x16_2 ∧ v18 = .int .u64 x18_2 ∧ Aside0 (bits_Div64.l1 kq ji10 ji8 ((ji10) / 4294967296) (Go.bits .and .u64 (ji10) 4294967295) (Go.bits .and .u64 (ji17) 4294967295) x15_18 x16_2 (IntKind.u64.wrap ((IntKind.u64.wrap ((IntKind.u64.wrap ((Go.bits .or .u64 (ji12) (ji15)) * 4294967296)) + ((ji17) / 4294967296))) - (IntKind.u64.wrap (x15_18 * ji10)))) x18_2 = some (r1, r2)) ∧ Aside0 (kq ≤ kj18) ∧ Drawn0 w w')
     case atStart => exact ⟨(IntKind.u64.wrap ((IntKind.u64.wrap ((IntKind.u64.wrap ((IntKind.u64.wrap ((Go.bits .or .u64 (ji12) (ji15)) * 4294967296)) + ((ji17) / 4294967296))) - (IntKind.u64.wrap (x15_18 * ji10)))) - (IntKind.u64.wrap ((IntKind.u64.wrap (Int.tdiv (IntKind.u64.wrap ((IntKind.u64.wrap ((IntKind.u64.wrap ((Go.bits .or .u64 (ji12) (ji15)) * 4294967296)) + ((ji17) / 4294967296))) - (IntKind.u64.wrap (x15_18 * ji10)))) ((ji10) / 4294967296))) * ((ji10) / 4294967296))))), (IntKind.u64.wrap (Int.tdiv (IntKind.u64.wrap ((IntKind.u64.wrap ((IntKind.u64.wrap ((Go.bits .or .u64 (ji12) (ji15)) * 4294967296)) + ((ji17) / 4294967296))) - (IntKind.u64.wrap (x15_18 * ji10)))) ((ji10) / 4294967296))), (by first | rfl | (simp; done) | (simp only [← hji10, ← hji12, ← hji15, ← hji17] <;> (first | rfl | simp)) | (simp [*]; done)), (by first | rfl | (simp; done) | (simp only [← hji10, ← hji12, ← hji15, ← hji17] <;> (first | rfl | simp)) | (simp [*]; done)), H', ⟨Nat.le_refl _⟩, by repeat (first | exact Drawn0.refl _ | apply Drawn0.step)⟩
     case round =>
      clear H'
      try clear c1
      try clear c2
      try clear p2
      try clear c4
      try clear c4b0
      try clear c4b1
      try clear c5
      try clear c5b0
      try clear c6
      try clear c6b0
      try clear c6b1
      try clear c8
      try clear c9
      try clear c9b0
      try clear c9b1
      try clear c11
      try clear c11b0
      try clear c14
      try clear c14b0
      try clear c14b1
      try clear c16
      try clear c16b0
      try clear c18
      try clear c18b0
      try clear c18b1
      try clear c19
      try clear c21
      try clear c21b0
      try clear c22
      try clear c23
      try clear c23b0
      try clear c24
      try clear c24b0
      try clear c24b1
      try clear p2
      obtain ⟨x16_2, x18_2, rfl, rfl, HA, HK2, ⟨m2, rfl⟩⟩ := hrel
      cases gk with
      | zero => exact absurd HA.out (by simp [bits_Div64.l1])
      | succ k2 =>
       have H := HA.out
       clear HA
       simp only [bits_Div64.l1] at H
       have HC25 := Aside0.mk H
       clear H
       go_upto_region 24 with (fail)
       repeat (go_quiet (fail); go_upto_region 24 with (fail))
       go_cut [113] (fun v113 wc => ∃ (kq : Nat) (x113_24 : Bool), v113 = .bool x113_24 ∧ Aside0 (bits_Div64.j4 kq ji10 ji8 ((ji10) / 4294967296) (Go.bits .and .u64 (ji10) 4294967295) (Go.bits .and .u64 (ji17) 4294967295) x15_18 x16_2 (IntKind.u64.wrap ((IntKind.u64.wrap ((IntKind.u64.wrap ((Go.bits .or .u64 (ji12) (ji15)) * 4294967296)) + ((ji17) / 4294967296))) - (IntKind.u64.wrap (x15_18 * ji10)))) x18_2 x113_24 = some (r1, r2)) ∧ Aside0 (kq ≤ k2) ∧ Drawn0 w wc)
       case first =>
        have H := HC25.out
        clear HC25
        by_cases c26 : x18_2 ≥ 4294967296
        ·rw [if_pos c26] at H
         have c26b0 : decide (4294967296 ≤ x18_2) = true := decide_eq_true c26
         clear c26
         (first | rw [c26b0] | (simp only [i64_w, i32_w]; rw [c26b0]) | skip)
         have H' := Aside0.mk H
         clear H
         go_wp2
         repeat (go_quiet (fail); try go_wp2)
         go_meet
         case rel => exact ⟨_, (true), (by first | rfl | (simp; done) | (simp [*]; done)), H', ⟨by have := HJ18.out; have := HK2.out; first | omega | exact Nat.le_refl _⟩, by repeat (first | exact Drawn0.refl _ | apply Drawn0.step)⟩
        rw [if_neg c26] at H
        have c26b0 : decide (4294967296 ≤ x18_2) = false := decide_eq_false c26
        clear c26
        (first | rw [c26b0] | (simp only [i64_w, i32_w]; rw [c26b0]) | skip)
        have H' := Aside0.mk H
        clear H
        go_wp2
        repeat (go_quiet (fail); try go_wp2)
        go_meet
        case rel => exact ⟨_, (decide ((IntKind.u64.wrap (x18_2 * (Go.bits .and .u64 (ji10) 4294967295))) > (IntKind.u64.wrap ((IntKind.u64.wrap (4294967296 * x16_2)) + (Go.bits .and .u64 (ji17) 4294967295))))), (by first | rfl | (simp; done) | (simp only [← hji10, ← hji17] <;> (first | rfl | simp)) | (simp [*]; done)), H', ⟨by have := HJ18.out; have := HK2.out; first | omega | exact Nat.le_refl _⟩, by repeat (first | exact Drawn0.refl _ | apply Drawn0.step)⟩
       case rest =>
        clear HC25
        try clear c1
        try clear c2
        try clear p2
        try clear c4
        try clear c4b0
        try clear c4b1
        try clear c5
        try clear c5b0
        try clear c6
        try clear c6b0
        try clear c6b1
        try clear c8
        try clear c9
        try clear c9b0
        try clear c9b1
        try clear c11
        try clear c11b0
        try clear c14
        try clear c14b0
        try clear c14b1
        try clear c16
        try clear c16b0
        try clear c18
        try clear c18b0
        try clear c18b1
        try clear c19
        try clear c21
        try clear c21b0
        try clear c22
        try clear c23
        try clear c23b0
        try clear c24
        try clear c24b0
        try clear c24b1
        try clear c26
        try clear c26b0
        try clear p2
        obtain ⟨kq, x113_24, rfl, HA, HJ24, ⟨mc24, rfl⟩⟩ := hcut
        cases kq with
        | zero => exact absurd HA.out (by simp [bits_Div64.j4])
        | succ kj24 =>
         have H := HA.out
         clear HA
         simp only [bits_Div64.j4] at H
         by_cases c27 : x113_24 = true
         ·subst c27
          have H1 : (if (IntKind.u64.wrap (x16_2 + ((ji10) / 4294967296))) ≥ 4294967296 then (if 0 ≤ ji8 then (some (IntKind.u64.wrap ((IntKind.u64.wrap (x15_18 * 4294967296)) + (IntKind.u64.wrap (x18_2 - 1))), shr .u64 (IntKind.u64.wrap ((IntKind.u64.wrap ((IntKind.u64.wrap ((IntKind.u64.wrap ((IntKind.u64.wrap ((IntKind.u64.wrap ((Go.bits .or .u64 (ji12) (ji15)) * 4294967296)) + ((ji17) / 4294967296))) - (IntKind.u64.wrap (x15_18 * ji10)))) * 4294967296)) + (Go.bits .and .u64 (ji17) 4294967295))) - (IntKind.u64.wrap ((IntKind.u64.wrap (x18_2 - 1)) * ji10)))) ji8)) else (none)) else (bits_Div64.l1 kj24 ji10 ji8 ((ji10) / 4294967296) (Go.bits .and .u64 (ji10) 4294967295) (Go.bits .and .u64 (ji17) 4294967295) x15_18 (IntKind.u64.wrap (x16_2 + ((ji10) / 4294967296))) (IntKind.u64.wrap ((IntKind.u64.wrap ((IntKind.u64.wrap ((Go.bits .or .u64 (ji12) (ji15)) * 4294967296)) + ((ji17) / 4294967296))) - (IntKind.u64.wrap (x15_18 * ji10)))) (IntKind.u64.wrap (x18_2 - 1)))) = some (r1, r2) := by rw [if_pos rfl] at H; exact H
          clear H
          have H := H1
          clear H1
          by_cases c28 : (IntKind.u64.wrap (x16_2 + ((ji10) / 4294967296))) ≥ 4294967296
          ·rw [if_pos c28] at H
           have c28b0 : decide (4294967296 ≤ (IntKind.u64.wrap (x16_2 + ((ji10) / 4294967296)))) = true := decide_eq_true c28
           clear c28
           by_cases c29 : 0 ≤ ji8
           ·rw [if_pos c29] at H
            have c29b0 := eq_true c29
            have c29b1 : decide (0 ≤ ji8) = true := decide_eq_true c29
            clear c29
            obtain ⟨ji30, hji30⟩ : ∃ j_ : Int, (shr .u64 (IntKind.u64.wrap ((IntKind.u64.wrap ((IntKind.u64.wrap ((IntKind.u64.wrap ((IntKind.u64.wrap ((IntKind.u64.wrap ((Go.bits .or .u64 (ji12) (ji15)) * 4294967296)) + ((ji17) / 4294967296))) - (IntKind.u64.wrap (x15_18 * ji10)))) * 4294967296)) + (Go.bits .and .u64 (ji17) 4294967295))) - (IntKind.u64.wrap ((IntKind.u64.wrap (x18_2 - 1)) * ji10)))) ji8) = j_ := ⟨_, rfl⟩
            replace H : (some (IntKind.u64.wrap ((IntKind.u64.wrap (x15_18 * 4294967296)) + (IntKind.u64.wrap (x18_2 - 1))), ji30)) = some (r1, r2) := by first | (rw [hji30] at H; exact H) | (simp only [hji30] at H ⊢; exact H)
            have hji30_ : ((IntKind.u64.wrap ((IntKind.u64.wrap ((IntKind.u64.wrap ((IntKind.u64.wrap ((IntKind.u64.wrap ((IntKind.u64.wrap ((Go.bits .or .u64 (ji12) (ji15)) * 4294967296)) + ((ji17) / 4294967296))) - (IntKind.u64.wrap (x15_18 * ji10)))) * 4294967296)) + (Go.bits .and .u64 (ji17) 4294967295))) - (IntKind.u64.wrap ((IntKind.u64.wrap (x18_2 - 1)) * ji10)))) / 2 ^ min ji8.toNat 64) = ji30 := hji30
            have hji30z : ji8 ≤ 64 → ((IntKind.u64.wrap ((IntKind.u64.wrap ((IntKind.u64.wrap ((IntKind.u64.wrap ((IntKind.u64.wrap ((IntKind.u64.wrap ((Go.bits .or .u64 (ji12) (ji15)) * 4294967296)) + ((ji17) / 4294967296))) - (IntKind.u64.wrap (x15_18 * ji10)))) * 4294967296)) + (Go.bits .and .u64 (ji17) 4294967295))) - (IntKind.u64.wrap ((IntKind.u64.wrap (x18_2 - 1)) * ji10)))) / 2 ^ ji8.toNat) = ji30 := shr_small hji30
            simp only [Option.some.injEq, Prod.mk.injEq] at H
            obtain ⟨rfl, rfl⟩ := H
            go_wp2
            repeat (go_quiet (fail); try go_wp2)
            go_ret2
            exact ⟨by first | rfl | (simp; done) | (simp only [← hji8, ← hji10, ← hji12, ← hji13, ← hji15, ← hji17, ← hji30] <;> (first | rfl | simp)) | (simp [*]; done), by repeat (first | exact Drawn0.refl _ | apply Drawn0.step)⟩
           rw [if_neg c29] at H
           exact absurd H (by simp)
          rw [if_neg c28] at H
          have c28b0 : decide (4294967296 ≤ (IntKind.u64.wrap (x16_2 + ((ji10) / 4294967296)))) = false := decide_eq_false c28
          clear c28
          have H' := Aside0.mk H
          clear H
          go_wp2
          repeat (go_quiet (fail); try go_wp2)
          go_roundg kj24
          case measure => have := HJ18.out; have := HK2.out; have := HJ24.out; omega
          case rel => exact ⟨(IntKind.u64.wrap (x16_2 + ((ji10) / 4294967296))), (IntKind.u64.wrap (x18_2 - 1)), (by first | rfl | (simp; done) | (simp only [← hji10]; first | rfl | (simp; done) | (simp [mn, mx]; done)) | (simp [*]; done)), (by first | rfl | (simp; done) | (simp [*]; done)), H', ⟨by have := HJ18.out; have := HK2.out; have := HJ24.out; omega⟩, by repeat (first | exact Drawn0.refl _ | apply Drawn0.step)⟩
         replace c27 := Bool.eq_false_iff.mpr c27
         subst c27
         have H1 : (if 0 ≤ ji8 then (some (IntKind.u64.wrap ((IntKind.u64.wrap (x15_18 * 4294967296)) + x18_2), shr .u64 (IntKind.u64.wrap ((IntKind.u64.wrap ((IntKind.u64.wrap ((IntKind.u64.wrap ((IntKind.u64.wrap ((IntKind.u64.wrap ((Go.bits .or .u64 (ji12) (ji15)) * 4294967296)) + ((ji17) / 4294967296))) - (IntKind.u64.wrap (x15_18 * ji10)))) * 4294967296)) + (Go.bits .and .u64 (ji17) 4294967295))) - (IntKind.u64.wrap (x18_2 * ji10)))) ji8)) else (none)) = some (r1, r2) := by rw [if_neg (show ¬ (false = true) by decide)] at H; exact H
         clear H
         have H := H1
         clear H1
         by_cases c31 : 0 ≤ ji8
         ·rw [if_pos c31] at H
          have c31b0 := eq_true c31
          have c31b1 : decide (0 ≤ ji8) = true := decide_eq_true c31
          clear c31
          obtain ⟨ji32, hji32⟩ : ∃ j_ : Int, (shr .u64 (IntKind.u64.wrap ((IntKind.u64.wrap ((IntKind.u64.wrap ((IntKind.u64.wrap ((IntKind.u64.wrap ((IntKind.u64.wrap ((Go.bits .or .u64 (ji12) (ji15)) * 4294967296)) + ((ji17) / 4294967296))) - (IntKind.u64.wrap (x15_18 * ji10)))) * 4294967296)) + (Go.bits .and .u64 (ji17) 4294967295))) - (IntKind.u64.wrap (x18_2 * ji10)))) ji8) = j_ := ⟨_, rfl⟩
          replace H : (some (IntKind.u64.wrap ((IntKind.u64.wrap (x15_18 * 4294967296)) + x18_2), ji32)) = some (r1, r2) := by first | (rw [hji32] at H; exact H) | (simp only [hji32] at H ⊢; exact H)
          have hji32_ : ((IntKind.u64.wrap ((IntKind.u64.wrap ((IntKind.u64.wrap ((IntKind.u64.wrap ((IntKind.u64.wrap ((IntKind.u64.wrap ((Go.bits .or .u64 (ji12) (ji15)) * 4294967296)) + ((ji17) / 4294967296))) - (IntKind.u64.wrap (x15_18 * ji10)))) * 4294967296)) + (Go.bits .and .u64 (ji17) 4294967295))) - (IntKind.u64.wrap (x18_2 * ji10)))) / 2 ^ min ji8.toNat 64) = ji32 := hji32
          have hji32z : ji8 ≤ 64 → ((IntKind.u64.wrap ((IntKind.u64.wrap ((IntKind.u64.wrap ((IntKind.u64.wrap ((IntKind.u64.wrap ((IntKind.u64.wrap ((Go.bits .or .u64 (ji12) (ji15)) * 4294967296)) + ((ji17) / 4294967296))) - (IntKind.u64.wrap (x15_18 * ji10)))) * 4294967296)) + (Go.bits .and .u64 (ji17) 4294967295))) - (IntKind.u64.wrap (x18_2 * ji10)))) / 2 ^ ji8.toNat) = ji32 := shr_small hji32
          simp only [Option.some.injEq, Prod.mk.injEq] at H
          obtain ⟨rfl, rfl⟩ := H
          go_wp2
          repeat (go_quiet (fail); try go_wp2)
          go_ret2
          exact ⟨by first | rfl | (simp; done) | (simp only [← hji8, ← hji10, ← hji12, ← hji13, ← hji15, ← hji17, ← hji32] <;> (first | rfl | simp)) | (simp [*]; done), by repeat (first | exact Drawn0.refl _ | apply Drawn0.step)⟩
         rw [if_neg c31] at H
         exact absurd H (by simp)
  rw [if_neg c14] at H
  exact absurd H (by simp)
 rw [if_neg c9] at H
 exact absurd H (by simp)


/-! ### wide_Int_Div: function 56 -/
def wide_Int_Div.f (k : Nat) (a0_0 : Int) (a0_1 : Int) (a1 : Int) : Option (Int × Int × Int × Bool) := if a1 = 0 then (some (0, 0, 0, false)) else ((wide_Int_size.f a0_0 a0_1).bind fun bt198 => ((bits_Div64.f k (Int.tmod bt198.1 a1) bt198.2 a1).bind fun bt200 => (if a0_0 ≥ 0 then (some (wrap64 (IntKind.u64.wrap (Int.tdiv bt198.1 a1)), bt200.1, bt200.2, true)) else (if bt200.2 > 0 then ((wide_Int_flip.f (wrap64 (IntKind.u64.wrap ((IntKind.u64.wrap (Int.tdiv bt198.1 a1)) + (addHi bt200.1 1 0)))) (addLo bt200.1 1 0)).bind fun bt202 => (some (bt202.1, bt202.2, IntKind.u64.wrap (a1 - bt200.2), true))) else ((wide_Int_flip.f (wrap64 (IntKind.u64.wrap (Int.tdiv bt198.1 a1))) bt200.1).bind fun bt204 => (some (bt204.1, bt204.2, bt200.2, true)))))))
theorem wide_Int_Div.mono : ∀ a0 a1 a2 k, LeO (wide_Int_Div.f k a0 a1 a2) (wide_Int_Div.f (k + 1) a0 a1 a2) := by
 intro a0 a1 a2 k
 unfold wide_Int_Div.f
 repeat' first
   | (with_reducible exact bits_Div64.mono _ _ _ _)
   | (with_reducible exact LeO.refl _)
   | (with_reducible exact LeO.none _)
   | (with_reducible refine LeO.ite ?_ ?_)
   | (with_reducible refine LeO.bind ?_ (fun _ => ?_))
   | exact bits_Div64.mono _ _ _ _
   | exact LeO.none _
   | refine LeO.ite ?_ ?_
   | refine LeO.bind ?_ (fun _ => ?_)
set_option maxHeartbeats 8000000 in
set_option maxRecDepth 100000 in
theorem wide_Int_Div.calls (k : Nat) (a0_0 : Int) (a0_1 : Int) (a1 : Int) (r1 : Int) (r2 : Int) (r3 : Int) (r4 : Bool) (w : World) (h : wide_Int_Div.f k a0_0 a0_1 a1 = some (r1, r2, r3, r4)) :
  Calls Tryz.prog 56 #[.agg #[.int .i64 a0_0, .int .u64 a0_1], .int .u64 a1] w fun e w' => e = .returned (.tuple #[.agg #[.int .i64 r1, .int .u64 r2], .int .u64 r3, .bool r4]) ∧ Below w.heap.size w w' := by
 have hu31 := Tryz.underlying31
 have HB := Aside0.mk (Below.refl w.heap.size w)
 have H : (if a1 = 0 then (some (0, 0, 0, false)) else ((wide_Int_size.f a0_0 a0_1).bind fun bt198 => ((bits_Div64.f k (Int.tmod bt198.1 a1) bt198.2 a1).bind fun bt200 => (if a0_0 ≥ 0 then (some (wrap64 (IntKind.u64.wrap (Int.tdiv bt198.1 a1)), bt200.1, bt200.2, true)) else (if bt200.2 > 0 then ((wide_Int_flip.f (wrap64 (IntKind.u64.wrap ((IntKind.u64.wrap (Int.tdiv bt198.1 a1)) + (addHi bt200.1 1 0)))) (addLo bt200.1 1 0)).bind fun bt202 => (some (bt202.1, bt202.2, IntKind.u64.wrap (a1 - bt200.2), true))) else ((wide_Int_flip.f (wrap64 (IntKind.u64.wrap (Int.tdiv bt198.1 a1))) bt200.1).bind fun bt204 => (some (bt204.1, bt204.2, bt200.2, true)))))))) = some (r1, r2, r3, r4) := h
 clear h
 by_cases c3 : a1 = 0
 ·rw [if_pos c3] at H
  have c3b0 : (a1 == 0) = true := beq_iff_eq.mpr c3
  have c3b1 : (a1 != 0) = false := bne_eq_false_iff_eq.mpr c3
  clear c3
  simp only [Option.some.injEq, Prod.mk.injEq] at H
  obtain ⟨rfl, rfl, rfl, rfl⟩ := H
  go_enter Tryz.func56, Tryz.ntmps56
  go_wp2_with (first | ((with_reducible refine gate_dst (N := 2) rfl ?_); refine box_event ?hg (N := 2) ?hd (cs := #[.int .i64 a0_0, .int .u64 a0_1]) (t := 31) ?hr ?_; (case hd => rfl); (case hg => rfl); (case hr => first | (go_simp; done) | (go_simp; rfl)); intro gb196 hg w4 hbox hb; have BK196 := Aside0.mk (hbox); have GW196 := bels HB hg; have GE196 := bels HB hg; replace HB := belb HB hb; clear hb hbox hg) | ((with_reducible refine gate_dst (N := 4) rfl ?_); refine box_event ?hg (N := 4) ?hd (cs := #[.int .i64 0, .int .u64 0]) (t := 31) ?hr ?_; (case hd => rfl); (case hg => rfl); (case hr => first | (go_simp; done) | (go_simp; rfl)); intro gb197 hg w5 hbox hb; have BK197 := Aside0.mk (hbox); have GW197 := bels HB hg; have GE197 := bels HB hg; have NB196_197 := blkl BK196 hg; have NB197_196 := blkg BK196 hg; replace BK196 := blkb BK196 hb; replace HB := belb HB hb; clear hb hbox hg; have hnb6 := NB197_196.out; have hnc6 := NB196_197.out; have hcz7_0 : w5.cell? ⟨gb197, 0, none⟩ = some (.int .i64 0) := bc BK197 0; have hcz7_1 : w5.cell? ⟨gb197, 1, none⟩ = some (.int .u64 0) := bc BK197 1; have hfz7_0 := blk_frozen BK197.out 0; have hfz7_1 := blk_frozen BK197.out 1))
  repeat (go_quiet (first | ((with_reducible refine gate_dst (N := 2) rfl ?_); refine box_event ?hg (N := 2) ?hd (cs := #[.int .i64 a0_0, .int .u64 a0_1]) (t := 31) ?hr ?_; (case hd => rfl); (case hg => rfl); (case hr => first | (go_simp; done) | (go_simp; rfl)); intro gb196 hg w4 hbox hb; have BK196 := Aside0.mk (hbox); have GW196 := bels HB hg; have GE196 := bels HB hg; replace HB := belb HB hb; clear hb hbox hg) | ((with_reducible refine gate_dst (N := 4) rfl ?_); refine box_event ?hg (N := 4) ?hd (cs := #[.int .i64 0, .int .u64 0]) (t := 31) ?hr ?_; (case hd => rfl); (case hg => rfl); (case hr => first | (go_simp; done) | (go_simp; rfl)); intro gb197 hg w5 hbox hb; have BK197 := Aside0.mk (hbox); have GW197 := bels HB hg; have GE197 := bels HB hg; have NB196_197 := blkl BK196 hg; have NB197_196 := blkg BK196 hg; replace BK196 := blkb BK196 hb; replace HB := belb HB hb; clear hb hbox hg; have hnb6 := NB197_196.out; have hnc6 := NB196_197.out; have hcz7_0 : w5.cell? ⟨gb197, 0, none⟩ = some (.int .i64 0) := bc BK197 0; have hcz7_1 : w5.cell? ⟨gb197, 1, none⟩ = some (.int .u64 0) := bc BK197 1; have hfz7_0 := blk_frozen BK197.out 0; have hfz7_1 := blk_frozen BK197.out 1)); try go_wp2_with (first | ((with_reducible refine gate_dst (N := 2) rfl ?_); refine box_event ?hg (N := 2) ?hd (cs := #[.int .i64 a0_0, .int .u64 a0_1]) (t := 31) ?hr ?_; (case hd => rfl); (case hg => rfl); (case hr => first | (go_simp; done) | (go_simp; rfl)); intro gb196 hg w4 hbox hb; have BK196 := Aside0.mk (hbox); have GW196 := bels HB hg; have GE196 := bels HB hg; replace HB := belb HB hb; clear hb hbox hg) | ((with_reducible refine gate_dst (N := 4) rfl ?_); refine box_event ?hg (N := 4) ?hd (cs := #[.int .i64 0, .int .u64 0]) (t := 31) ?hr ?_; (case hd => rfl); (case hg => rfl); (case hr => first | (go_simp; done) | (go_simp; rfl)); intro gb197 hg w5 hbox hb; have BK197 := Aside0.mk (hbox); have GW197 := bels HB hg; have GE197 := bels HB hg; have NB196_197 := blkl BK196 hg; have NB197_196 := blkg BK196 hg; replace BK196 := blkb BK196 hb; replace HB := belb HB hb; clear hb hbox hg; have hnb6 := NB197_196.out; have hnc6 := NB196_197.out; have hcz7_0 : w5.cell? ⟨gb197, 0, none⟩ = some (.int .i64 0) := bc BK197 0; have hcz7_1 : w5.cell? ⟨gb197, 1, none⟩ = some (.int .u64 0) := bc BK197 1; have hfz7_0 := blk_frozen BK197.out 0; have hfz7_1 := blk_frozen BK197.out 1)))
  refine bodyPost_ret (results_ctt rfl _ _ gb197 31 #[.int .i64 0, .int .u64 0] (0, 0) _ rfl (by (with_reducible repeat (first | refine blk_drewN ?_ _ | refine blk_drew ?_ | refine blk_alloc ?_ _)); refine blk_put (cs := #[.int .i64 0, .int .u64 0]) ?_ 1 _ rfl; (with_reducible repeat (first | refine blk_drewN ?_ _ | refine blk_drew ?_ | refine blk_alloc ?_ _)); refine blk_put (cs := #[.int .i64 0, .int .u64 0]) ?_ 0 _ rfl; exact blkt BK197) Tryz.underlying31 rfl (by kernel_rfl)) rfl ?_
  exact ⟨by first | rfl | (simp [errW_none, errW_some] <;> rfl) | (simp [*, errW_none, errW_some] <;> rfl), belt HB⟩
 rw [if_neg c3] at H
 have c3b0 : (a1 == 0) = false := beq_eq_false_iff_ne.mpr c3
 have c3b1 : (a1 != 0) = true := bne_iff_ne.mpr c3
 replace H := Option.bind_eq_some_iff.mp H
 obtain ⟨⟨t198, t199⟩, A80, H⟩ := H
 replace H : ((bits_Div64.f k (Int.tmod t198 a1) t199 a1).bind fun bt200 => (if a0_0 ≥ 0 then (some (wrap64 (IntKind.u64.wrap (Int.tdiv t198 a1)), bt200.1, bt200.2, true)) else (if bt200.2 > 0 then ((wide_Int_flip.f (wrap64 (IntKind.u64.wrap ((IntKind.u64.wrap (Int.tdiv t198 a1)) + (addHi bt200.1 1 0)))) (addLo bt200.1 1 0)).bind fun bt202 => (some (bt202.1, bt202.2, IntKind.u64.wrap (a1 - bt200.2), true))) else ((wide_Int_flip.f (wrap64 (IntKind.u64.wrap (Int.tdiv t198 a1))) bt200.1).bind fun bt204 => (some (bt204.1, bt204.2, bt200.2, true)))))) = some (r1, r2, r3, r4) := H
 have A8 := Aside0.mk A80
 clear A80
 replace H := Option.bind_eq_some_iff.mp H
 obtain ⟨⟨t200, t201⟩, A90, H⟩ := H
 replace H : (if a0_0 ≥ 0 then (some (wrap64 (IntKind.u64.wrap (Int.tdiv t198 a1)), t200, t201, true)) else (if t201 > 0 then ((wide_Int_flip.f (wrap64 (IntKind.u64.wrap ((IntKind.u64.wrap (Int.tdiv t198 a1)) + (addHi t200 1 0)))) (addLo t200 1 0)).bind fun bt202 => (some (bt202.1, bt202.2, IntKind.u64.wrap (a1 - t201), true))) else ((wide_Int_flip.f (wrap64 (IntKind.u64.wrap (Int.tdiv t198 a1))) t200).bind fun bt204 => (some (bt204.1, bt204.2, t201, true))))) = some (r1, r2, r3, r4) := H
 have A9 := Aside0.mk A90
 clear A90
 by_cases c10 : a0_0 ≥ 0
 ·rw [if_pos c10] at H
  have c10b0 : decide (0 ≤ a0_0) = true := decide_eq_true c10
  clear c10
  simp only [Option.some.injEq, Prod.mk.injEq] at H
  obtain ⟨rfl, rfl, rfl, rfl⟩ := H
  go_enter Tryz.func56, Tryz.ntmps56
  go_wp2_with (first | ((with_reducible refine gate_dst (N := 2) rfl ?_); refine box_event ?hg (N := 2) ?hd (cs := #[.int .i64 a0_0, .int .u64 a0_1]) (t := 31) ?hr ?_; (case hd => rfl); (case hg => rfl); (case hr => first | (go_simp; done) | (go_simp; rfl)); intro gb196 hg w11 hbox hb; have BK196 := Aside0.mk (hbox); have GW196 := bels HB hg; have GE196 := bels HB hg; replace HB := belb HB hb; clear hb hbox hg) | ((with_reducible refine gate_dst (N := 4) rfl ?_); refine box_event ?hg (N := 4) ?hd (cs := #[.int .i64 0, .int .u64 0]) (t := 31) ?hr ?_; (case hd => rfl); (case hg => rfl); (case hr => first | (go_simp; done) | (go_simp; rfl)); intro gb197 hg w12 hbox hb; have BK197 := Aside0.mk (hbox); have GW197 := bels HB hg; have GE197 := bels HB hg; have NB196_197 := blkl BK196 hg; have NB197_196 := blkg BK196 hg; replace BK196 := blkb BK196 hb; replace HB := belb HB hb; clear hb hbox hg; have hnb13 := NB196_197.out; have hnc13 := NB197_196.out; have hcz14_0 : w12.cell? ⟨gb196, 0, none⟩ = some (.int .i64 a0_0) := bc BK196 0; have hcz14_1 : w12.cell? ⟨gb196, 1, none⟩ = some (.int .u64 a0_1) := bc BK196 1; have hfz14_0 := blk_frozen BK196.out 0; have hfz14_1 := blk_frozen BK196.out 1) | (go_at_call 78; (with_reducible refine (wide_Int_size.calls a0_0 a0_1 t198 t199 _ A8.out).mono ?_); rintro e w15 ⟨rfl, hb⟩; replace BK196 := blkb BK196 hb; replace BK197 := blkb BK197 hb; replace HB := belb HB hb; (try clear hb); (try clear hb2); (try clear hk); (try clear hi)) | (go_at_call 82; (with_reducible refine (bits_Div64.calls k (Int.tmod t198 a1) t199 a1 t200 t201 _ A9.out).mono ?_); rintro e w' ⟨rfl, ⟨nd, rfl⟩⟩; (try first | exact ⟨rfl, _, World.drewN_drewN _ _ _⟩ | exact ⟨rfl, _, Eq.trans (World.drewN_drewN _ _ _) (congrArg (World.drewN _) (Nat.add_assoc _ _ _))⟩); have hcz16_0 : w15.cell? ⟨gb196, 0, none⟩ = some (.int .i64 a0_0) := bc BK196 0; have hcz16_1 : w15.cell? ⟨gb196, 1, none⟩ = some (.int .u64 a0_1) := bc BK196 1; have hfz16_0 := blk_frozen BK196.out 0; have hfz16_1 := blk_frozen BK196.out 1; have hcz17_0 : w15.cell? ⟨gb197, 0, none⟩ = some (.int .i64 0) := bc BK197 0; have hcz17_1 : w15.cell? ⟨gb197, 1, none⟩ = some (.int .u64 0) := bc BK197 1; have hfz17_0 := blk_frozen BK197.out 0; have hfz17_1 := blk_frozen BK197.out 1))
  repeat (go_quiet (first | ((with_reducible refine gate_dst (N := 2) rfl ?_); refine box_event ?hg (N := 2) ?hd (cs := #[.int .i64 a0_0, .int .u64 a0_1]) (t := 31) ?hr ?_; (case hd => rfl); (case hg => rfl); (case hr => first | (go_simp; done) | (go_simp; rfl)); intro gb196 hg w11 hbox hb; have BK196 := Aside0.mk (hbox); have GW196 := bels HB hg; have GE196 := bels HB hg; replace HB := belb HB hb; clear hb hbox hg) | ((with_reducible refine gate_dst (N := 4) rfl ?_); refine box_event ?hg (N := 4) ?hd (cs := #[.int .i64 0, .int .u64 0]) (t := 31) ?hr ?_; (case hd => rfl); (case hg => rfl); (case hr => first | (go_simp; done) | (go_simp; rfl)); intro gb197 hg w12 hbox hb; have BK197 := Aside0.mk (hbox); have GW197 := bels HB hg; have GE197 := bels HB hg; have NB196_197 := blkl BK196 hg; have NB197_196 := blkg BK196 hg; replace BK196 := blkb BK196 hb; replace HB := belb HB hb; clear hb hbox hg; have hnb13 := NB196_197.out; have hnc13 := NB197_196.out; have hcz14_0 : w12.cell? ⟨gb196, 0, none⟩ = some (.int .i64 a0_0) := bc BK196 0; have hcz14_1 : w12.cell? ⟨gb196, 1, none⟩ = some (.int .u64 a0_1) := bc BK196 1; have hfz14_0 := blk_frozen BK196.out 0; have hfz14_1 := blk_frozen BK196.out 1) | (go_at_call 78; (with_reducible refine (wide_Int_size.calls a0_0 a0_1 t198 t199 _ A8.out).mono ?_); rintro e w15 ⟨rfl, hb⟩; replace BK196 := blkb BK196 hb; replace BK197 := blkb BK197 hb; replace HB := belb HB hb; (try clear hb); (try clear hb2); (try clear hk); (try clear hi)) | (go_at_call 82; (with_reducible refine (bits_Div64.calls k (Int.tmod t198 a1) t199 a1 t200 t201 _ A9.out).mono ?_); rintro e w' ⟨rfl, ⟨nd, rfl⟩⟩; (try first | exact ⟨rfl, _, World.drewN_drewN _ _ _⟩ | exact ⟨rfl, _, Eq.trans (World.drewN_drewN _ _ _) (congrArg (World.drewN _) (Nat.add_assoc _ _ _))⟩); have hcz16_0 : w15.cell? ⟨gb196, 0, none⟩ = some (.int .i64 a0_0) := bc BK196 0; have hcz16_1 : w15.cell? ⟨gb196, 1, none⟩ = some (.int .u64 a0_1) := bc BK196 1; have hfz16_0 := blk_frozen BK196.out 0; have hfz16_1 := blk_frozen BK196.out 1; have hcz17_0 : w15.cell? ⟨gb197, 0, none⟩ = some (.int .i64 0) := bc BK197 0; have hcz17_1 : w15.cell? ⟨gb197, 1, none⟩ = some (.int .u64 0) := bc BK197 1; have hfz17_0 := blk_frozen BK197.out 0; have hfz17_1 := blk_frozen BK197.out 1)); try go_wp2_with (first | ((with_reducible refine gate_dst (N := 2) rfl ?_); refine box_event ?hg (N := 2) ?hd (cs := #[.int .i64 a0_0, .int .u64 a0_1]) (t := 31) ?hr ?_; (case hd => rfl); (case hg => rfl); (case hr => first | (go_simp; done) | (go_simp; rfl)); intro gb196 hg w11 hbox hb; have BK196 := Aside0.mk (hbox); have GW196 := bels HB hg; have GE196 := bels HB hg; replace HB := belb HB hb; clear hb hbox hg) | ((with_reducible refine gate_dst (N := 4) rfl ?_); refine box_event ?hg (N := 4) ?hd (cs := #[.int .i64 0, .int .u64 0]) (t := 31) ?hr ?_; (case hd => rfl); (case hg => rfl); (case hr => first | (go_simp; done) | (go_simp; rfl)); intro gb197 hg w12 hbox hb; have BK197 := Aside0.mk (hbox); have GW197 := bels HB hg; have GE197 := bels HB hg; have NB196_197 := blkl BK196 hg; have NB197_196 := blkg BK196 hg; replace BK196 := blkb BK196 hb; replace HB := belb HB hb; clear hb hbox hg; have hnb13 := NB196_197.out; have hnc13 := NB197_196.out; have hcz14_0 : w12.cell? ⟨gb196, 0, none⟩ = some (.int .i64 a0_0) := bc BK196 0; have hcz14_1 : w12.cell? ⟨gb196, 1, none⟩ = some (.int .u64 a0_1) := bc BK196 1; have hfz14_0 := blk_frozen BK196.out 0; have hfz14_1 := blk_frozen BK196.out 1) | (go_at_call 78; (with_reducible refine (wide_Int_size.calls a0_0 a0_1 t198 t199 _ A8.out).mono ?_); rintro e w15 ⟨rfl, hb⟩; replace BK196 := blkb BK196 hb; replace BK197 := blkb BK197 hb; replace HB := belb HB hb; (try clear hb); (try clear hb2); (try clear hk); (try clear hi)) | (go_at_call 82; (with_reducible refine (bits_Div64.calls k (Int.tmod t198 a1) t199 a1 t200 t201 _ A9.out).mono ?_); rintro e w' ⟨rfl, ⟨nd, rfl⟩⟩; (try first | exact ⟨rfl, _, World.drewN_drewN _ _ _⟩ | exact ⟨rfl, _, Eq.trans (World.drewN_drewN _ _ _) (congrArg (World.drewN _) (Nat.add_assoc _ _ _))⟩); have hcz16_0 : w15.cell? ⟨gb196, 0, none⟩ = some (.int .i64 a0_0) := bc BK196 0; have hcz16_1 : w15.cell? ⟨gb196, 1, none⟩ = some (.int .u64 a0_1) := bc BK196 1; have hfz16_0 := blk_frozen BK196.out 0; have hfz16_1 := blk_frozen BK196.out 1; have hcz17_0 : w15.cell? ⟨gb197, 0, none⟩ = some (.int .i64 0) := bc BK197 0; have hcz17_1 : w15.cell? ⟨gb197, 1, none⟩ = some (.int .u64 0) := bc BK197 1; have hfz17_0 := blk_frozen BK197.out 0; have hfz17_1 := blk_frozen BK197.out 1)))
  refine bodyPost_ret (results_ctt rfl _ _ gb197 31 #[.int .i64 (wrap64 (IntKind.u64.wrap (Int.tdiv t198 a1))), .int .u64 t200] (0, 0) _ rfl (by (with_reducible repeat (first | refine blk_drewN ?_ _ | refine blk_drew ?_ | refine blk_alloc ?_ _)); refine blk_put (cs := #[.int .i64 (wrap64 (IntKind.u64.wrap (Int.tdiv t198 a1))), .int .u64 0]) ?_ 1 _ rfl; (with_reducible repeat (first | refine blk_drewN ?_ _ | refine blk_drew ?_ | refine blk_alloc ?_ _)); refine blk_put (cs := #[.int .i64 0, .int .u64 0]) ?_ 0 _ rfl; exact blkt BK197) Tryz.underlying31 rfl (by kernel_rfl)) rfl ?_
  exact ⟨by first | rfl | (simp [errW_none, errW_some] <;> rfl) | (simp [*, errW_none, errW_some] <;> rfl), belt HB⟩
 rw [if_neg c10] at H
 have c10b0 : decide (0 ≤ a0_0) = false := decide_eq_false c10
 clear c10
 by_cases c18 : t201 > 0
 ·rw [if_pos c18] at H
  have c18b0 : decide (0 < t201) = true := decide_eq_true c18
  clear c18
  replace H := Option.bind_eq_some_iff.mp H
  obtain ⟨⟨t202, t203⟩, A190, H⟩ := H
  replace H : (some (t202, t203, IntKind.u64.wrap (a1 - t201), true)) = some (r1, r2, r3, r4) := H
  have A19 := Aside0.mk A190
  clear A190
  simp only [Option.some.injEq, Prod.mk.injEq] at H
  obtain ⟨rfl, rfl, rfl, rfl⟩ := H
  go_enter Tryz.func56, Tryz.ntmps56
  go_wp2_with (first | ((with_reducible refine gate_dst (N := 2) rfl ?_); refine box_event ?hg (N := 2) ?hd (cs := #[.int .i64 a0_0, .int .u64 a0_1]) (t := 31) ?hr ?_; (case hd => rfl); (case hg => rfl); (case hr => first | (go_simp; done) | (go_simp; rfl)); intro gb196 hg w20 hbox hb; have BK196 := Aside0.mk (hbox); have GW196 := bels HB hg; have GE196 := bels HB hg; replace HB := belb HB hb; clear hb hbox hg) | ((with_reducible refine gate_dst (N := 4) rfl ?_); refine box_event ?hg (N := 4) ?hd (cs := #[.int .i64 0, .int .u64 0]) (t := 31) ?hr ?_; (case hd => rfl); (case hg => rfl); (case hr => first | (go_simp; done) | (go_simp; rfl)); intro gb197 hg w21 hbox hb; have BK197 := Aside0.mk (hbox); have GW197 := bels HB hg; have GE197 := bels HB hg; have NB196_197 := blkl BK196 hg; have NB197_196 := blkg BK196 hg; replace BK196 := blkb BK196 hb; replace HB := belb HB hb; clear hb hbox hg; have hnb22 := NB196_197.out; have hnc22 := NB197_196.out; have hcz23_0 : w21.cell? ⟨gb196, 0, none⟩ = some (.int .i64 a0_0) := bc BK196 0; have hcz23_1 : w21.cell? ⟨gb196, 1, none⟩ = some (.int .u64 a0_1) := bc BK196 1; have hfz23_0 := blk_frozen BK196.out 0; have hfz23_1 := blk_frozen BK196.out 1) | (go_at_call 78; (with_reducible refine (wide_Int_size.calls a0_0 a0_1 t198 t199 _ A8.out).mono ?_); rintro e w24 ⟨rfl, hb⟩; replace BK196 := blkb BK196 hb; replace BK197 := blkb BK197 hb; replace HB := belb HB hb; (try clear hb); (try clear hb2); (try clear hk); (try clear hi)) | (go_at_call 82; (with_reducible refine (bits_Div64.calls k (Int.tmod t198 a1) t199 a1 t200 t201 _ A9.out).mono ?_); rintro e w' ⟨rfl, ⟨nd, rfl⟩⟩; (try first | exact ⟨rfl, _, World.drewN_drewN _ _ _⟩ | exact ⟨rfl, _, Eq.trans (World.drewN_drewN _ _ _) (congrArg (World.drewN _) (Nat.add_assoc _ _ _))⟩); have hcz25_0 : w24.cell? ⟨gb196, 0, none⟩ = some (.int .i64 a0_0) := bc BK196 0; have hcz25_1 : w24.cell? ⟨gb196, 1, none⟩ = some (.int .u64 a0_1) := bc BK196 1; have hfz25_0 := blk_frozen BK196.out 0; have hfz25_1 := blk_frozen BK196.out 1) | (go_at_call 83; (with_reducible refine (wide_Int_flip.calls (wrap64 (IntKind.u64.wrap ((IntKind.u64.wrap (Int.tdiv t198 a1)) + (addHi t200 1 0)))) (addLo t200 1 0) t202 t203 _ A19.out).mono ?_); rintro e w26 ⟨rfl, hb⟩; replace BK196 := blkb BK196 hb; replace BK197 := blkb BK197 hb; replace HB := belb HB hb; (try clear hb); (try clear hb2); (try clear hk); (try clear hi); have hcz27_0 : w26.cell? ⟨gb197, 0, none⟩ = some (.int .i64 0) := bc BK197 0; have hcz27_1 : w26.cell? ⟨gb197, 1, none⟩ = some (.int .u64 0) := bc BK197 1; have hfz27_0 := blk_frozen BK197.out 0; have hfz27_1 := blk_frozen BK197.out 1))
  repeat (go_quiet (first | ((with_reducible refine gate_dst (N := 2) rfl ?_); refine box_event ?hg (N := 2) ?hd (cs := #[.int .i64 a0_0, .int .u64 a0_1]) (t := 31) ?hr ?_; (case hd => rfl); (case hg => rfl); (case hr => first | (go_simp; done) | (go_simp; rfl)); intro gb196 hg w20 hbox hb; have BK196 := Aside0.mk (hbox); have GW196 := bels HB hg; have GE196 := bels HB hg; replace HB := belb HB hb; clear hb hbox hg) | ((with_reducible refine gate_dst (N := 4) rfl ?_); refine box_event ?hg (N := 4) ?hd (cs := #[.int .i64 0, .int .u64 0]) (t := 31) ?hr ?_; (case hd => rfl); (case hg => rfl); (case hr => first | (go_simp; done) | (go_simp; rfl)); intro gb197 hg w21 hbox hb; have BK197 := Aside0.mk (hbox); have GW197 := bels HB hg; have GE197 := bels HB hg; have NB196_197 := blkl BK196 hg; have NB197_196 := blkg BK196 hg; replace BK196 := blkb BK196 hb; replace HB := belb HB hb; clear hb hbox hg; have hnb22 := NB196_197.out; have hnc22 := NB197_196.out; have hcz23_0 : w21.cell? ⟨gb196, 0, none⟩ = some (.int .i64 a0_0) := bc BK196 0; have hcz23_1 : w21.cell? ⟨gb196, 1, none⟩ = some (.int .u64 a0_1) := bc BK196 1; have hfz23_0 := blk_frozen BK196.out 0; have hfz23_1 := blk_frozen BK196.out 1) | (go_at_call 78; (with_reducible refine (wide_Int_size.calls a0_0 a0_1 t198 t199 _ A8.out).mono ?_); rintro e w24 ⟨rfl, hb⟩; replace BK196 := blkb BK196 hb; replace BK197 := blkb BK197 hb; replace HB := belb HB hb; (try clear hb); (try clear hb2); (try clear hk); (try clear hi)) | (go_at_call 82; (with_reducible refine (bits_Div64.calls k (Int.tmod t198 a1) t199 a1 t200 t201 _ A9.out).mono ?_); rintro e w' ⟨rfl, ⟨nd, rfl⟩⟩; (try first | exact ⟨rfl, _, World.drewN_drewN _ _ _⟩ | exact ⟨rfl, _, Eq.trans (World.drewN_drewN _ _ _) (congrArg (World.drewN _) (Nat.add_assoc _ _ _))⟩); have hcz25_0 : w24.cell? ⟨gb196, 0, none⟩ = some (.int .i64 a0_0) := bc BK196 0; have hcz25_1 : w24.cell? ⟨gb196, 1, none⟩ = some (.int .u64 a0_1) := bc BK196 1; have hfz25_0 := blk_frozen BK196.out 0; have hfz25_1 := blk_frozen BK196.out 1) | (go_at_call 83; (with_reducible refine (wide_Int_flip.calls (wrap64 (IntKind.u64.wrap ((IntKind.u64.wrap (Int.tdiv t198 a1)) + (addHi t200 1 0)))) (addLo t200 1 0) t202 t203 _ A19.out).mono ?_); rintro e w26 ⟨rfl, hb⟩; replace BK196 := blkb BK196 hb; replace BK197 := blkb BK197 hb; replace HB := belb HB hb; (try clear hb); (try clear hb2); (try clear hk); (try clear hi); have hcz27_0 : w26.cell? ⟨gb197, 0, none⟩ = some (.int .i64 0) := bc BK197 0; have hcz27_1 : w26.cell? ⟨gb197, 1, none⟩ = some (.int .u64 0) := bc BK197 1; have hfz27_0 := blk_frozen BK197.out 0; have hfz27_1 := blk_frozen BK197.out 1)); try go_wp2_with (first | ((with_reducible refine gate_dst (N := 2) rfl ?_); refine box_event ?hg (N := 2) ?hd (cs := #[.int .i64 a0_0, .int .u64 a0_1]) (t := 31) ?hr ?_; (case hd => rfl); (case hg => rfl); (case hr => first | (go_simp; done) | (go_simp; rfl)); intro gb196 hg w20 hbox hb; have BK196 := Aside0.mk (hbox); have GW196 := bels HB hg; have GE196 := bels HB hg; replace HB := belb HB hb; clear hb hbox hg) | ((with_reducible refine gate_dst (N := 4) rfl ?_); refine box_event ?hg (N := 4) ?hd (cs := #[.int .i64 0, .int .u64 0]) (t := 31) ?hr ?_; (case hd => rfl); (case hg => rfl); (case hr => first | (go_simp; done) | (go_simp; rfl)); intro gb197 hg w21 hbox hb; have BK197 := Aside0.mk (hbox); have GW197 := bels HB hg; have GE197 := bels HB hg; have NB196_197 := blkl BK196 hg; have NB197_196 := blkg BK196 hg; replace BK196 := blkb BK196 hb; replace HB := belb HB hb; clear hb hbox hg; have hnb22 := NB196_197.out; have hnc22 := NB197_196.out; have hcz23_0 : w21.cell? ⟨gb196, 0, none⟩ = some (.int .i64 a0_0) := bc BK196 0; have hcz23_1 : w21.cell? ⟨gb196, 1, none⟩ = some (.int .u64 a0_1) := bc BK196 1; have hfz23_0 := blk_frozen BK196.out 0; have hfz23_1 := blk_frozen BK196.out 1) | (go_at_call 78; (with_reducible refine (wide_Int_size.calls a0_0 a0_1 t198 t199 _ A8.out).mono ?_); rintro e w24 ⟨rfl, hb⟩; replace BK196 := blkb BK196 hb; replace BK197 := blkb BK197 hb; replace HB := belb HB hb; (try clear hb); (try clear hb2); (try clear hk); (try clear hi)) | (go_at_call 82; (with_reducible refine (bits_Div64.calls k (Int.tmod t198 a1) t199 a1 t200 t201 _ A9.out).mono ?_); rintro e w' ⟨rfl, ⟨nd, rfl⟩⟩; (try first | exact ⟨rfl, _, World.drewN_drewN _ _ _⟩ | exact ⟨rfl, _, Eq.trans (World.drewN_drewN _ _ _) (congrArg (World.drewN _) (Nat.add_assoc _ _ _))⟩); have hcz25_0 : w24.cell? ⟨gb196, 0, none⟩ = some (.int .i64 a0_0) := bc BK196 0; have hcz25_1 : w24.cell? ⟨gb196, 1, none⟩ = some (.int .u64 a0_1) := bc BK196 1; have hfz25_0 := blk_frozen BK196.out 0; have hfz25_1 := blk_frozen BK196.out 1) | (go_at_call 83; (with_reducible refine (wide_Int_flip.calls (wrap64 (IntKind.u64.wrap ((IntKind.u64.wrap (Int.tdiv t198 a1)) + (addHi t200 1 0)))) (addLo t200 1 0) t202 t203 _ A19.out).mono ?_); rintro e w26 ⟨rfl, hb⟩; replace BK196 := blkb BK196 hb; replace BK197 := blkb BK197 hb; replace HB := belb HB hb; (try clear hb); (try clear hb2); (try clear hk); (try clear hi); have hcz27_0 : w26.cell? ⟨gb197, 0, none⟩ = some (.int .i64 0) := bc BK197 0; have hcz27_1 : w26.cell? ⟨gb197, 1, none⟩ = some (.int .u64 0) := bc BK197 1; have hfz27_0 := blk_frozen BK197.out 0; have hfz27_1 := blk_frozen BK197.out 1)))
  refine bodyPost_ret (results_ctt rfl _ _ gb197 31 #[.int .i64 t202, .int .u64 t203] (0, 0) _ rfl (by (with_reducible repeat (first | refine blk_drewN ?_ _ | refine blk_drew ?_ | refine blk_alloc ?_ _)); refine blk_put (cs := #[.int .i64 t202, .int .u64 0]) ?_ 1 _ rfl; (with_reducible repeat (first | refine blk_drewN ?_ _ | refine blk_drew ?_ | refine blk_alloc ?_ _)); refine blk_put (cs := #[.int .i64 0, .int .u64 0]) ?_ 0 _ rfl; exact blkt BK197) Tryz.underlying31 rfl (by kernel_rfl)) rfl ?_
  exact ⟨by first | rfl | (simp [errW_none, errW_some] <;> rfl) | (simp [*, errW_none, errW_some] <;> rfl), belt HB⟩
 rw [if_neg c18] at H
 have c18b0 : decide (0 < t201) = false := decide_eq_false c18
 clear c18
 replace H := Option.bind_eq_some_iff.mp H
 obtain ⟨⟨t204, t205⟩, A280, H⟩ := H
 replace H : (some (t204, t205, t201, true)) = some (r1, r2, r3, r4) := H
 have A28 := Aside0.mk A280
 clear A280
 simp only [Option.some.injEq, Prod.mk.injEq] at H
 obtain ⟨rfl, rfl, rfl, rfl⟩ := H
 go_enter Tryz.func56, Tryz.ntmps56
 go_wp2_with (first | ((with_reducible refine gate_dst (N := 2) rfl ?_); refine box_event ?hg (N := 2) ?hd (cs := #[.int .i64 a0_0, .int .u64 a0_1]) (t := 31) ?hr ?_; (case hd => rfl); (case hg => rfl); (case hr => first | (go_simp; done) | (go_simp; rfl)); intro gb196 hg w29 hbox hb; have BK196 := Aside0.mk (hbox); have GW196 := bels HB hg; have GE196 := bels HB hg; replace HB := belb HB hb; clear hb hbox hg) | ((with_reducible refine gate_dst (N := 4) rfl ?_); refine box_event ?hg (N := 4) ?hd (cs := #[.int .i64 0, .int .u64 0]) (t := 31) ?hr ?_; (case hd => rfl); (case hg => rfl); (case hr => first | (go_simp; done) | (go_simp; rfl)); intro gb197 hg w30 hbox hb; have BK197 := Aside0.mk (hbox); have GW197 := bels HB hg; have GE197 := bels HB hg; have NB196_197 := blkl BK196 hg; have NB197_196 := blkg BK196 hg; replace BK196 := blkb BK196 hb; replace HB := belb HB hb; clear hb hbox hg; have hnb31 := NB196_197.out; have hnc31 := NB197_196.out; have hcz32_0 : w30.cell? ⟨gb196, 0, none⟩ = some (.int .i64 a0_0) := bc BK196 0; have hcz32_1 : w30.cell? ⟨gb196, 1, none⟩ = some (.int .u64 a0_1) := bc BK196 1; have hfz32_0 := blk_frozen BK196.out 0; have hfz32_1 := blk_frozen BK196.out 1) | (go_at_call 78; (with_reducible refine (wide_Int_size.calls a0_0 a0_1 t198 t199 _ A8.out).mono ?_); rintro e w33 ⟨rfl, hb⟩; replace BK196 := blkb BK196 hb; replace BK197 := blkb BK197 hb; replace HB := belb HB hb; (try clear hb); (try clear hb2); (try clear hk); (try clear hi)) | (go_at_call 82; (with_reducible refine (bits_Div64.calls k (Int.tmod t198 a1) t199 a1 t200 t201 _ A9.out).mono ?_); rintro e w' ⟨rfl, ⟨nd, rfl⟩⟩; (try first | exact ⟨rfl, _, World.drewN_drewN _ _ _⟩ | exact ⟨rfl, _, Eq.trans (World.drewN_drewN _ _ _) (congrArg (World.drewN _) (Nat.add_assoc _ _ _))⟩); have hcz34_0 : w33.cell? ⟨gb196, 0, none⟩ = some (.int .i64 a0_0) := bc BK196 0; have hcz34_1 : w33.cell? ⟨gb196, 1, none⟩ = some (.int .u64 a0_1) := bc BK196 1; have hfz34_0 := blk_frozen BK196.out 0; have hfz34_1 := blk_frozen BK196.out 1) | (go_at_call 83; (with_reducible refine (wide_Int_flip.calls (wrap64 (IntKind.u64.wrap (Int.tdiv t198 a1))) t200 t204 t205 _ A28.out).mono ?_); rintro e w35 ⟨rfl, hb⟩; replace BK196 := blkb BK196 hb; replace BK197 := blkb BK197 hb; replace HB := belb HB hb; (try clear hb); (try clear hb2); (try clear hk); (try clear hi); have hcz36_0 : w35.cell? ⟨gb197, 0, none⟩ = some (.int .i64 0) := bc BK197 0; have hcz36_1 : w35.cell? ⟨gb197, 1, none⟩ = some (.int .u64 0) := bc BK197 1; have hfz36_0 := blk_frozen BK197.out 0; have hfz36_1 := blk_frozen BK197.out 1))
 repeat (go_quiet (first | ((with_reducible refine gate_dst (N := 2) rfl ?_); refine box_event ?hg (N := 2) ?hd (cs := #[.int .i64 a0_0, .int .u64 a0_1]) (t := 31) ?hr ?_; (case hd => rfl); (case hg => rfl); (case hr => first | (go_simp; done) | (go_simp; rfl)); intro gb196 hg w29 hbox hb; have BK196 := Aside0.mk (hbox); have GW196 := bels HB hg; have GE196 := bels HB hg; replace HB := belb HB hb; clear hb hbox hg) | ((with_reducible refine gate_dst (N := 4) rfl ?_); refine box_event ?hg (N := 4) ?hd (cs := #[.int .i64 0, .int .u64 0]) (t := 31) ?hr ?_; (case hd => rfl); (case hg => rfl); (case hr => first | (go_simp; done) | (go_simp; rfl)); intro gb197 hg w30 hbox hb; have BK197 := Aside0.mk (hbox); have GW197 := bels HB hg; have GE197 := bels HB hg; have NB196_197 := blkl BK196 hg; have NB197_196 := blkg BK196 hg; replace BK196 := blkb BK196 hb; replace HB := belb HB hb; clear hb hbox hg; have hnb31 := NB196_197.out; have hnc31 := NB197_196.out; have hcz32_0 : w30.cell? ⟨gb196, 0, none⟩ = some (.int .i64 a0_0) := bc BK196 0; have hcz32_1 : w30.cell? ⟨gb196, 1, none⟩ = some (.int .u64 a0_1) := bc BK196 1; have hfz32_0 := blk_frozen BK196.out 0; have hfz32_1 := blk_frozen BK196.out 1) | (go_at_call 78; (with_reducible refine (wide_Int_size.calls a0_0 a0_1 t198 t199 _ A8.out).mono ?_); rintro e w33 ⟨rfl, hb⟩; replace BK196 := blkb BK196 hb; replace BK197 := blkb BK197 hb; replace HB := belb HB hb; (try clear hb); (try clear hb2); (try clear hk); (try clear hi)) | (go_at_call 82; (with_reducible refine (bits_Div64.calls k (Int.tmod t198 a1) t199 a1 t200 t201 _ A9.out).mono ?_); rintro e w' ⟨rfl, ⟨nd, rfl⟩⟩; (try first | exact ⟨rfl, _, World.drewN_drewN _ _ _⟩ | exact ⟨rfl, _, Eq.trans (World.drewN_drewN _ _ _) (congrArg (World.drewN _) (Nat.add_assoc _ _ _))⟩); have hcz34_0 : w33.cell? ⟨gb196, 0, none⟩ = some (.int .i64 a0_0) := bc BK196 0; have hcz34_1 : w33.cell? ⟨gb196, 1, none⟩ = some (.int .u64 a0_1) := bc BK196 1; have hfz34_0 := blk_frozen BK196.out 0; have hfz34_1 := blk_frozen BK196.out 1) | (go_at_call 83; (with_reducible refine (wide_Int_flip.calls (wrap64 (IntKind.u64.wrap (Int.tdiv t198 a1))) t200 t204 t205 _ A28.out).mono ?_); rintro e w35 ⟨rfl, hb⟩; replace BK196 := blkb BK196 hb; replace BK197 := blkb BK197 hb; replace HB := belb HB hb; (try clear hb); (try clear hb2); (try clear hk); (try clear hi); have hcz36_0 : w35.cell? ⟨gb197, 0, none⟩ = some (.int .i64 0) := bc BK197 0; have hcz36_1 : w35.cell? ⟨gb197, 1, none⟩ = some (.int .u64 0) := bc BK197 1; have hfz36_0 := blk_frozen BK197.out 0; have hfz36_1 := blk_frozen BK197.out 1)); try go_wp2_with (first | ((with_reducible refine gate_dst (N := 2) rfl ?_); refine box_event ?hg (N := 2) ?hd (cs := #[.int .i64 a0_0, .int .u64 a0_1]) (t := 31) ?hr ?_; (case hd => rfl); (case hg => rfl); (case hr => first | (go_simp; done) | (go_simp; rfl)); intro gb196 hg w29 hbox hb; have BK196 := Aside0.mk (hbox); have GW196 := bels HB hg; have GE196 := bels HB hg; replace HB := belb HB hb; clear hb hbox hg) | ((with_reducible refine gate_dst (N := 4) rfl ?_); refine box_event ?hg (N := 4) ?hd (cs := #[.int .i64 0, .int .u64 0]) (t := 31) ?hr ?_; (case hd => rfl); (case hg => rfl); (case hr => first | (go_simp; done) | (go_simp; rfl)); intro gb197 hg w30 hbox hb; have BK197 := Aside0.mk (hbox); have GW197 := bels HB hg; have GE197 := bels HB hg; have NB196_197 := blkl BK196 hg; have NB197_196 := blkg BK196 hg; replace BK196 := blkb BK196 hb; replace HB := belb HB hb; clear hb hbox hg; have hnb31 := NB196_197.out; have hnc31 := NB197_196.out; have hcz32_0 : w30.cell? ⟨gb196, 0, none⟩ = some (.int .i64 a0_0) := bc BK196 0; have hcz32_1 : w30.cell? ⟨gb196, 1, none⟩ = some (.int .u64 a0_1) := bc BK196 1; have hfz32_0 := blk_frozen BK196.out 0; have hfz32_1 := blk_frozen BK196.out 1) | (go_at_call 78; (with_reducible refine (wide_Int_size.calls a0_0 a0_1 t198 t199 _ A8.out).mono ?_); rintro e w33 ⟨rfl, hb⟩; replace BK196 := blkb BK196 hb; replace BK197 := blkb BK197 hb; replace HB := belb HB hb; (try clear hb); (try clear hb2); (try clear hk); (try clear hi)) | (go_at_call 82; (with_reducible refine (bits_Div64.calls k (Int.tmod t198 a1) t199 a1 t200 t201 _ A9.out).mono ?_); rintro e w' ⟨rfl, ⟨nd, rfl⟩⟩; (try first | exact ⟨rfl, _, World.drewN_drewN _ _ _⟩ | exact ⟨rfl, _, Eq.trans (World.drewN_drewN _ _ _) (congrArg (World.drewN _) (Nat.add_assoc _ _ _))⟩); have hcz34_0 : w33.cell? ⟨gb196, 0, none⟩ = some (.int .i64 a0_0) := bc BK196 0; have hcz34_1 : w33.cell? ⟨gb196, 1, none⟩ = some (.int .u64 a0_1) := bc BK196 1; have hfz34_0 := blk_frozen BK196.out 0; have hfz34_1 := blk_frozen BK196.out 1) | (go_at_call 83; (with_reducible refine (wide_Int_flip.calls (wrap64 (IntKind.u64.wrap (Int.tdiv t198 a1))) t200 t204 t205 _ A28.out).mono ?_); rintro e w35 ⟨rfl, hb⟩; replace BK196 := blkb BK196 hb; replace BK197 := blkb BK197 hb; replace HB := belb HB hb; (try clear hb); (try clear hb2); (try clear hk); (try clear hi); have hcz36_0 : w35.cell? ⟨gb197, 0, none⟩ = some (.int .i64 0) := bc BK197 0; have hcz36_1 : w35.cell? ⟨gb197, 1, none⟩ = some (.int .u64 0) := bc BK197 1; have hfz36_0 := blk_frozen BK197.out 0; have hfz36_1 := blk_frozen BK197.out 1)))
 refine bodyPost_ret (results_ctt rfl _ _ gb197 31 #[.int .i64 t204, .int .u64 t205] (0, 0) _ rfl (by (with_reducible repeat (first | refine blk_drewN ?_ _ | refine blk_drew ?_ | refine blk_alloc ?_ _)); refine blk_put (cs := #[.int .i64 t204, .int .u64 0]) ?_ 1 _ rfl; (with_reducible repeat (first | refine blk_drewN ?_ _ | refine blk_drew ?_ | refine blk_alloc ?_ _)); refine blk_put (cs := #[.int .i64 0, .int .u64 0]) ?_ 0 _ rfl; exact blkt BK197) Tryz.underlying31 rfl (by kernel_rfl)) rfl ?_
 exact ⟨by first | rfl | (simp [errW_none, errW_some] <;> rfl) | (simp [*, errW_none, errW_some] <;> rfl), belt HB⟩

end Go.Proofs.YtfbkamgdkdnpoaaGreatDoor.Print
