/- What each Go function that is named below answers, as a Lean function, and that its walk comes to just that: for whatever arguments that function gives an answer for. Written by a program of this session (wip/mkpr.py, pr.sh). -/
import Derived.Test.YtfbkamgdkdnpoaaGreatDoorPrint1000
import Derived.Test.YtfbkamgdkdnpoaaGreatDoorPrint1003
import Derived.Test.YtfbkamgdkdnpoaaGreatDoorPrint1012
import Derived.Test.YtfbkamgdkdnpoaaGreatDoorPrint1023
namespace Go.Proofs.YtfbkamgdkdnpoaaGreatDoor.Print
open Go.RowKit Go.Proofs.YtfbkamgdkdnpoaaGreatDoorW.PrintWords Go.Proofs.YtfbkamgdkdnpoaaGreatDoorW.PrintLast Go.Proofs.YtfbkamgdkdnpoaaGreatDoorW.PrintMore
attribute [local go_sem] max2_int min2_int max_two min_two max_three min_three max_four min_four   -- for this text's walks alone
open Go.Proofs.YtfbkamgdkdnpoaaGreatDoor.Bits Go.Proofs.YtfbkamgdkdnpoaaGreatDoor.Short
attribute [local go_sem] add64_run0 sub64_run0 add64_run sub64_run
set_option linter.unusedVariables false
set_option linter.unusedSimpArgs false

/-! ### turnstonelaw11_WeighAlone: function 9 -/
def turnstonelaw11_WeighAlone.j0 : Nat → Int → Bool → Int → Int → Int → Option (Bool)
 | 0, _, _, _, _, _ => none
 | k + 1, x1, x25, x641000, x641001, x641002 => if x25 = true then (some true) else ((mean_Of.f k x641000 (([(⟨x641000, x641001, x641002⟩ : S28)] : List (S28)))).bind fun bt646 => ((weigh_Weigh.f k bt646.1 bt646.2.1 bt646.2.2.1 bt646.2.2.2.1 bt646.2.2.2.2.1 x641000 x641001 x641002 x1).bind fun bt653 => ((weigh_Shifted.f k bt646.1 bt646.2.1 bt646.2.2.1 bt646.2.2.2.1 bt646.2.2.2.2.1 x641000 x641001 x641002 bt653.1 bt653.2.1 bt653.2.2.1).bind fun bt658 => ((lag_Sign.f k bt658.1 bt658.2.1 bt658.2.2.1 bt658.2.2.2.1 bt658.2.2.2.2.1 bt653.1 bt653.2.1 bt653.2.2.1).bind fun bt665 => (if bt646.2.2.2.2.2 = true then (if bt653.2.2.2 = true then (if bt658.2.2.2.2.2 = true then (if bt665.2 = true then (if bt665.1 = 0 then (some (bt653.1 == x641000)) else (none)) else (none)) else (none)) else (none)) else (none))))))
def turnstonelaw11_WeighAlone.f (k : Nat) (a0_0 : Int) (a0_1 : Int) (a0_2 : Int) (a1 : Int) : Option (Bool) := (turnstonelaw11_awake.f).bind fun t641 => (if t641 = true then ((pos_Pos_Right.f a0_0 a0_1 a0_2).bind fun t642 => (if t642 = true then (if a1 < 1 then (turnstonelaw11_WeighAlone.j0 k a1 true a0_0 a0_1 a0_2) else (turnstonelaw11_WeighAlone.j0 k a1 (decide (a1 > 1048576)) a0_0 a0_1 a0_2)) else (turnstonelaw11_WeighAlone.j0 k a1 true a0_0 a0_1 a0_2))) else (none))
theorem turnstonelaw11_WeighAlone.mono_l : ∀ k, (∀ y0 y1 y2 y3 y4, LeO (turnstonelaw11_WeighAlone.j0 k y0 y1 y2 y3 y4) (turnstonelaw11_WeighAlone.j0 (k + 1) y0 y1 y2 y3 y4))
 | 0 => fun _ _ _ _ _ r h => by simp [turnstonelaw11_WeighAlone.j0] at h
 | k + 1 => by
  have ih0 := turnstonelaw11_WeighAlone.mono_l k
  ·intro y0 y1 y2 y3 y4
   unfold turnstonelaw11_WeighAlone.j0
   repeat' first
   | (with_reducible exact ih0 _ _ _ _ _)
   | (with_reducible exact lag_Sign.mono _ _ _ _ _ _ _ _ _)
   | (with_reducible exact mean_Of.mono _ _ _)
   | (with_reducible exact weigh_Shifted.mono _ _ _ _ _ _ _ _ _ _ _ _)
   | (with_reducible exact weigh_Weigh.mono _ _ _ _ _ _ _ _ _ _)
   | (with_reducible exact LeO.refl _)
   | (with_reducible exact LeO.none _)
   | (with_reducible refine LeO.ite ?_ ?_)
   | (with_reducible refine LeO.bind ?_ (fun _ => ?_))
   | exact ih0 _ _ _ _ _
   | exact lag_Sign.mono _ _ _ _ _ _ _ _ _
   | exact mean_Of.mono _ _ _
   | exact weigh_Shifted.mono _ _ _ _ _ _ _ _ _ _ _ _
   | exact weigh_Weigh.mono _ _ _ _ _ _ _ _ _ _
   | exact LeO.none _
   | refine LeO.ite ?_ ?_
   | refine LeO.bind ?_ (fun _ => ?_)
theorem turnstonelaw11_WeighAlone.mono : ∀ a0 a1 a2 a3 k, LeO (turnstonelaw11_WeighAlone.f k a0 a1 a2 a3) (turnstonelaw11_WeighAlone.f (k + 1) a0 a1 a2 a3) := by
 intro a0 a1 a2 a3 k
 have ih0 := turnstonelaw11_WeighAlone.mono_l k
 unfold turnstonelaw11_WeighAlone.f
 repeat' first
   | (with_reducible exact ih0 _ _ _ _ _)
   | (with_reducible exact lag_Sign.mono _ _ _ _ _ _ _ _ _)
   | (with_reducible exact mean_Of.mono _ _ _)
   | (with_reducible exact weigh_Shifted.mono _ _ _ _ _ _ _ _ _ _ _ _)
   | (with_reducible exact weigh_Weigh.mono _ _ _ _ _ _ _ _ _ _)
   | (with_reducible exact LeO.refl _)
   | (with_reducible exact LeO.none _)
   | (with_reducible refine LeO.ite ?_ ?_)
   | (with_reducible refine LeO.bind ?_ (fun _ => ?_))
   | exact ih0 _ _ _ _ _
   | exact lag_Sign.mono _ _ _ _ _ _ _ _ _
   | exact mean_Of.mono _ _ _
   | exact weigh_Shifted.mono _ _ _ _ _ _ _ _ _ _ _ _
   | exact weigh_Weigh.mono _ _ _ _ _ _ _ _ _ _
   | exact LeO.none _
   | refine LeO.ite ?_ ?_
   | refine LeO.bind ?_ (fun _ => ?_)
set_option maxHeartbeats 8000000 in
set_option maxRecDepth 100000 in
theorem turnstonelaw11_WeighAlone.calls (k : Nat) (a0_0 : Int) (a0_1 : Int) (a0_2 : Int) (a1 : Int) (r : Bool) (w : World) (h : turnstonelaw11_WeighAlone.f k a0_0 a0_1 a0_2 a1 = some r) :
  Calls Tryz.prog 9 #[.agg #[.int .u64 a0_0, .int .u32 a0_1, .int .u32 a0_2], .int .u32 a1] w fun e w' => e = .returned (.bool r) ∧ Below w.heap.size w w' := by
 have hu28 := Tryz.underlying28
 have hu33 := Tryz.underlying33
 have HB := Aside0.mk (Below.refl w.heap.size w)
 have H : ((turnstonelaw11_awake.f).bind fun t641 => (if t641 = true then ((pos_Pos_Right.f a0_0 a0_1 a0_2).bind fun t642 => (if t642 = true then (if a1 < 1 then (turnstonelaw11_WeighAlone.j0 k a1 true a0_0 a0_1 a0_2) else (turnstonelaw11_WeighAlone.j0 k a1 (decide (a1 > 1048576)) a0_0 a0_1 a0_2)) else (turnstonelaw11_WeighAlone.j0 k a1 true a0_0 a0_1 a0_2))) else (none))) = some r := h
 clear h
 replace H := Option.bind_eq_some_iff.mp H
 obtain ⟨t641, A30, H⟩ := H
 replace H : (if t641 = true then ((pos_Pos_Right.f a0_0 a0_1 a0_2).bind fun t642 => (if t642 = true then (if a1 < 1 then (turnstonelaw11_WeighAlone.j0 k a1 true a0_0 a0_1 a0_2) else (turnstonelaw11_WeighAlone.j0 k a1 (decide (a1 > 1048576)) a0_0 a0_1 a0_2)) else (turnstonelaw11_WeighAlone.j0 k a1 true a0_0 a0_1 a0_2))) else (none)) = some r := H
 have A3 := Aside0.mk A30
 clear A30
 by_cases c4 : t641 = true
 ·subst c4
  have H1 : ((pos_Pos_Right.f a0_0 a0_1 a0_2).bind fun t642 => (if t642 = true then (if a1 < 1 then (turnstonelaw11_WeighAlone.j0 k a1 true a0_0 a0_1 a0_2) else (turnstonelaw11_WeighAlone.j0 k a1 (decide (a1 > 1048576)) a0_0 a0_1 a0_2)) else (turnstonelaw11_WeighAlone.j0 k a1 true a0_0 a0_1 a0_2))) = some r := by rw [if_pos rfl] at H; exact H
  clear H
  have H := H1
  clear H1
  have HC5 := Aside0.mk H
  clear H
  go_enter Tryz.func9, Tryz.ntmps9
  go_upto_region 3 with (first | ((with_reducible refine gate_dst (N := 2) rfl ?_); refine box_event ?hg (N := 2) ?hd (cs := #[.int .u64 a0_0, .int .u32 a0_1, .int .u32 a0_2]) (t := 28) ?hr ?_; (case hd => rfl); (case hg => rfl); (case hr => first | (go_simp; done) | (go_simp; rfl)); intro gb640 hg w6 hbox hb; have BK640 := Aside0.mk (hbox); have GW640 := bels HB hg; have GE640 := bels HB hg; replace HB := belb HB hb; clear hb hbox hg) | ((with_reducible refine gate_callee (f := 34) rfl ?_); refine goesL_ (some 13) rfl rfl Tryz.func34 (by kernel_rfl) rfl #[] rfl argt ?_; (with_reducible refine (turnstonelaw11_awake.calls  true _ A3.out).mono ?_); rintro e w7 ⟨rfl, hb⟩; refine ⟨_, rfl, ?_⟩; replace BK640 := blkb BK640 hb; replace HB := belb HB hb; (try clear hb); (try clear hb2); (try clear hk); (try clear hi)))
  (try simp only [Act.put, List.setIfInBounds_toArray, List.set_cons_zero, List.set_cons_succ])
  go_cut [25] (fun v25 wc => ∃ (kq : Nat) (x25_4 : Bool), v25 = .bool x25_4 ∧ Aside0 (turnstonelaw11_WeighAlone.j0 kq a1 x25_4 a0_0 a0_1 a0_2 = some r) ∧ Aside0 (kq ≤ k) ∧ Aside0 (wc.heap[gb640]? = some (.cells #[.int .u64 a0_0, .int .u32 a0_1, .int .u32 a0_2] 28 (0, 0))) ∧ Aside0 (Below w.heap.size w wc))
  case first =>
   have H := HC5.out
   clear HC5
   replace H := Option.bind_eq_some_iff.mp H
   obtain ⟨t642, A80, H⟩ := H
   replace H : (if t642 = true then (if a1 < 1 then (turnstonelaw11_WeighAlone.j0 k a1 true a0_0 a0_1 a0_2) else (turnstonelaw11_WeighAlone.j0 k a1 (decide (a1 > 1048576)) a0_0 a0_1 a0_2)) else (turnstonelaw11_WeighAlone.j0 k a1 true a0_0 a0_1 a0_2)) = some r := H
   have A8 := Aside0.mk A80
   clear A80
   by_cases c9 : t642 = true
   ·subst c9
    have H1 : (if a1 < 1 then (turnstonelaw11_WeighAlone.j0 k a1 true a0_0 a0_1 a0_2) else (turnstonelaw11_WeighAlone.j0 k a1 (decide (a1 > 1048576)) a0_0 a0_1 a0_2)) = some r := by rw [if_pos rfl] at H; exact H
    clear H
    have H := H1
    clear H1
    by_cases c10 : a1 < 1
    ·rw [if_pos c10] at H
     have c10b0 : decide (a1 < 1) = true := decide_eq_true c10
     clear c10
     (first | rw [c10b0] | (simp only [i64_w, i32_w]; rw [c10b0]) | skip)
     have H' := Aside0.mk H
     clear H
     have hcz11_0 : w7.cell? ⟨gb640, 0, none⟩ = some (.int .u64 a0_0) := (blk_cell BK640.out 0).trans rfl
     have hcz11_1 : w7.cell? ⟨gb640, 1, none⟩ = some (.int .u32 a0_1) := (blk_cell BK640.out 1).trans rfl
     have hcz11_2 : w7.cell? ⟨gb640, 2, none⟩ = some (.int .u32 a0_2) := (blk_cell BK640.out 2).trans rfl
     have hfz11_0 := blk_frozen BK640.out 0
     have hfz11_1 := blk_frozen BK640.out 1
     have hfz11_2 := blk_frozen BK640.out 2
     go_wp2_with (first | ((with_reducible refine gate_callee (f := 17) rfl ?_); refine goesL_ (some 16) rfl rfl Tryz.func17 (by kernel_rfl) rfl #[.agg #[.int .u64 a0_0, .int .u32 a0_1, .int .u32 a0_2]] rfl argt ?_; (with_reducible refine (pos_Pos_Right.calls a0_0 a0_1 a0_2 true _ A8.out).mono ?_); rintro e w12 ⟨rfl, hb⟩; refine ⟨_, rfl, ?_⟩; replace BK640 := blkb BK640 hb; replace HB := belb HB hb; (try clear hb); (try clear hb2); (try clear hk); (try clear hi)))
     go_meet
     case rel => exact ⟨_, (true), (by first | rfl | (simp; done) | (simp [*]; done)), H', ⟨by first | omega | exact Nat.le_refl _⟩, ⟨blkt BK640⟩, ⟨belt HB⟩⟩
    ·rw [if_neg c10] at H
     have c10b0 : decide (a1 < 1) = false := decide_eq_false c10
     clear c10
     (first | rw [c10b0] | (simp only [i64_w, i32_w]; rw [c10b0]) | skip)
     have H' := Aside0.mk H
     clear H
     have hcz13_0 : w7.cell? ⟨gb640, 0, none⟩ = some (.int .u64 a0_0) := (blk_cell BK640.out 0).trans rfl
     have hcz13_1 : w7.cell? ⟨gb640, 1, none⟩ = some (.int .u32 a0_1) := (blk_cell BK640.out 1).trans rfl
     have hcz13_2 : w7.cell? ⟨gb640, 2, none⟩ = some (.int .u32 a0_2) := (blk_cell BK640.out 2).trans rfl
     have hfz13_0 := blk_frozen BK640.out 0
     have hfz13_1 := blk_frozen BK640.out 1
     have hfz13_2 := blk_frozen BK640.out 2
     go_wp2_with (first | ((with_reducible refine gate_callee (f := 17) rfl ?_); refine goesL_ (some 16) rfl rfl Tryz.func17 (by kernel_rfl) rfl #[.agg #[.int .u64 a0_0, .int .u32 a0_1, .int .u32 a0_2]] rfl argt ?_; (with_reducible refine (pos_Pos_Right.calls a0_0 a0_1 a0_2 true _ A8.out).mono ?_); rintro e w14 ⟨rfl, hb⟩; refine ⟨_, rfl, ?_⟩; replace BK640 := blkb BK640 hb; replace HB := belb HB hb; (try clear hb); (try clear hb2); (try clear hk); (try clear hi)))
     go_meet
     case rel => exact ⟨_, (decide (a1 > 1048576)), (by first | rfl | (simp; done) | (simp [*]; done)), H', ⟨by first | omega | exact Nat.le_refl _⟩, ⟨blkt BK640⟩, ⟨belt HB⟩⟩
   ·replace c9 := Bool.eq_false_iff.mpr c9
    subst c9
    have H1 : (turnstonelaw11_WeighAlone.j0 k a1 true a0_0 a0_1 a0_2) = some r := by rw [if_neg (show ¬ (false = true) by decide)] at H; exact H
    clear H
    have H := H1
    clear H1
    have H' := Aside0.mk H
    clear H
    have hcz15_0 : w7.cell? ⟨gb640, 0, none⟩ = some (.int .u64 a0_0) := (blk_cell BK640.out 0).trans rfl
    have hcz15_1 : w7.cell? ⟨gb640, 1, none⟩ = some (.int .u32 a0_1) := (blk_cell BK640.out 1).trans rfl
    have hcz15_2 : w7.cell? ⟨gb640, 2, none⟩ = some (.int .u32 a0_2) := (blk_cell BK640.out 2).trans rfl
    have hfz15_0 := blk_frozen BK640.out 0
    have hfz15_1 := blk_frozen BK640.out 1
    have hfz15_2 := blk_frozen BK640.out 2
    go_wp2_with (first | ((with_reducible refine gate_callee (f := 17) rfl ?_); refine goesL_ (some 16) rfl rfl Tryz.func17 (by kernel_rfl) rfl #[.agg #[.int .u64 a0_0, .int .u32 a0_1, .int .u32 a0_2]] rfl argt ?_; (with_reducible refine (pos_Pos_Right.calls a0_0 a0_1 a0_2 false _ A8.out).mono ?_); rintro e w16 ⟨rfl, hb⟩; refine ⟨_, rfl, ?_⟩; replace BK640 := blkb BK640 hb; replace HB := belb HB hb; (try clear hb); (try clear hb2); (try clear hk); (try clear hi)))
    go_meet
    case rel => exact ⟨_, (true), (by first | rfl | (simp; done) | (simp [*]; done)), H', ⟨by first | omega | exact Nat.le_refl _⟩, ⟨blkt BK640⟩, ⟨belt HB⟩⟩
  case rest =>
   clear HC5
   try clear c1
   try clear p2
   try clear c3
   try clear c4
   try clear c9
   try clear c10
   try clear c10b0
   try clear hcz11_0
   try clear hcz11_1
   try clear hcz11_2
   try clear hcz13_0
   try clear hcz13_1
   try clear hcz13_2
   try clear hcz15_0
   try clear hcz15_1
   try clear hcz15_2
   try clear hfz11_0
   try clear hfz11_1
   try clear hfz11_2
   try clear hfz13_0
   try clear hfz13_1
   try clear hfz13_2
   try clear hfz15_0
   try clear hfz15_1
   try clear hfz15_2
   obtain ⟨kq, x25_4, rfl, HA, HJ4, BK640, HB⟩ := hcut
   cases kq with
   | zero => exact absurd HA.out (by simp [turnstonelaw11_WeighAlone.j0])
   | succ kj4 =>
    have H := HA.out
    clear HA
    simp only [turnstonelaw11_WeighAlone.j0] at H
    by_cases c17 : x25_4 = true
    ·subst c17
     have H1 : (some true) = some r := by rw [if_pos rfl] at H; exact H
     clear H
     have H := H1
     clear H1
     obtain rfl := Option.some.inj H
     go_wp2
     go_ret
     exact ⟨by first | rfl | (simp [errW_none, errW_some] <;> rfl) | (simp [*, errW_none, errW_some] <;> rfl), belt HB⟩
    ·replace c17 := Bool.eq_false_iff.mpr c17
     subst c17
     have H1 : ((mean_Of.f kj4 a0_0 (([(⟨a0_0, a0_1, a0_2⟩ : S28)] : List (S28)))).bind fun bt646 => ((weigh_Weigh.f kj4 bt646.1 bt646.2.1 bt646.2.2.1 bt646.2.2.2.1 bt646.2.2.2.2.1 a0_0 a0_1 a0_2 a1).bind fun bt653 => ((weigh_Shifted.f kj4 bt646.1 bt646.2.1 bt646.2.2.1 bt646.2.2.2.1 bt646.2.2.2.2.1 a0_0 a0_1 a0_2 bt653.1 bt653.2.1 bt653.2.2.1).bind fun bt658 => ((lag_Sign.f kj4 bt658.1 bt658.2.1 bt658.2.2.1 bt658.2.2.2.1 bt658.2.2.2.2.1 bt653.1 bt653.2.1 bt653.2.2.1).bind fun bt665 => (if bt646.2.2.2.2.2 = true then (if bt653.2.2.2 = true then (if bt658.2.2.2.2.2 = true then (if bt665.2 = true then (if bt665.1 = 0 then (some (bt653.1 == a0_0)) else (none)) else (none)) else (none)) else (none)) else (none)))))) = some r := by rw [if_neg (show ¬ (false = true) by decide)] at H; exact H
     clear H
     have H := H1
     clear H1
     obtain ⟨y643, hy643⟩ : ∃ y_ : List (S28), y_ = (([(⟨a0_0, a0_1, a0_2⟩ : S28)] : List (S28))) := ⟨_, rfl⟩
     replace H : ((mean_Of.f kj4 a0_0 y643).bind fun bt646 => ((weigh_Weigh.f kj4 bt646.1 bt646.2.1 bt646.2.2.1 bt646.2.2.2.1 bt646.2.2.2.2.1 a0_0 a0_1 a0_2 a1).bind fun bt653 => ((weigh_Shifted.f kj4 bt646.1 bt646.2.1 bt646.2.2.1 bt646.2.2.2.1 bt646.2.2.2.2.1 a0_0 a0_1 a0_2 bt653.1 bt653.2.1 bt653.2.2.1).bind fun bt658 => ((lag_Sign.f kj4 bt658.1 bt658.2.1 bt658.2.2.1 bt658.2.2.2.1 bt658.2.2.2.2.1 bt653.1 bt653.2.1 bt653.2.2.1).bind fun bt665 => (if bt646.2.2.2.2.2 = true then (if bt653.2.2.2 = true then (if bt658.2.2.2.2.2 = true then (if bt665.2 = true then (if bt665.1 = 0 then (some (bt653.1 == a0_0)) else (none)) else (none)) else (none)) else (none)) else (none)))))) = some r := by first | (rw [hy643]; with_reducible exact H) | (have H2_ := (Option.bind_some _ _).symm.trans H; rw [hy643]; with_reducible exact H2_) | (have H2_ := (Option.bind_some _ _).symm.trans H; with_reducible exact H2_) | with_reducible exact H | (rw [hy643]; exact H) | exact H
     have Ny643 := Aside0.mk hy643
     clear hy643
     replace H := Option.bind_eq_some_iff.mp H
     obtain ⟨⟨t646, t647, t648, t649, t650, t651⟩, A180, H⟩ := H
     replace H : ((weigh_Weigh.f kj4 t646 t647 t648 t649 t650 a0_0 a0_1 a0_2 a1).bind fun bt653 => ((weigh_Shifted.f kj4 t646 t647 t648 t649 t650 a0_0 a0_1 a0_2 bt653.1 bt653.2.1 bt653.2.2.1).bind fun bt658 => ((lag_Sign.f kj4 bt658.1 bt658.2.1 bt658.2.2.1 bt658.2.2.2.1 bt658.2.2.2.2.1 bt653.1 bt653.2.1 bt653.2.2.1).bind fun bt665 => (if t651 = true then (if bt653.2.2.2 = true then (if bt658.2.2.2.2.2 = true then (if bt665.2 = true then (if bt665.1 = 0 then (some (bt653.1 == a0_0)) else (none)) else (none)) else (none)) else (none)) else (none))))) = some r := H
     have A18 := Aside0.mk A180
     clear A180
     replace H := Option.bind_eq_some_iff.mp H
     obtain ⟨⟨t653, t654, t655, t656⟩, A190, H⟩ := H
     replace H : ((weigh_Shifted.f kj4 t646 t647 t648 t649 t650 a0_0 a0_1 a0_2 t653 t654 t655).bind fun bt658 => ((lag_Sign.f kj4 bt658.1 bt658.2.1 bt658.2.2.1 bt658.2.2.2.1 bt658.2.2.2.2.1 t653 t654 t655).bind fun bt665 => (if t651 = true then (if t656 = true then (if bt658.2.2.2.2.2 = true then (if bt665.2 = true then (if bt665.1 = 0 then (some (t653 == a0_0)) else (none)) else (none)) else (none)) else (none)) else (none)))) = some r := H
     have A19 := Aside0.mk A190
     clear A190
     replace H := Option.bind_eq_some_iff.mp H
     obtain ⟨⟨t658, t659, t660, t661, t662, t663⟩, A200, H⟩ := H
     replace H : ((lag_Sign.f kj4 t658 t659 t660 t661 t662 t653 t654 t655).bind fun bt665 => (if t651 = true then (if t656 = true then (if t663 = true then (if bt665.2 = true then (if bt665.1 = 0 then (some (t653 == a0_0)) else (none)) else (none)) else (none)) else (none)) else (none))) = some r := H
     have A20 := Aside0.mk A200
     clear A200
     replace H := Option.bind_eq_some_iff.mp H
     obtain ⟨⟨t665, t666⟩, A210, H⟩ := H
     replace H : (if t651 = true then (if t656 = true then (if t663 = true then (if t666 = true then (if t665 = 0 then (some (t653 == a0_0)) else (none)) else (none)) else (none)) else (none)) else (none)) = some r := H
     have A21 := Aside0.mk A210
     clear A210
     by_cases c22 : t651 = true
     ·subst c22
      have H1 : (if t656 = true then (if t663 = true then (if t666 = true then (if t665 = 0 then (some (t653 == a0_0)) else (none)) else (none)) else (none)) else (none)) = some r := by rw [if_pos rfl] at H; exact H
      clear H
      have H := H1
      clear H1
      by_cases c23 : t656 = true
      ·subst c23
       have H1 : (if t663 = true then (if t666 = true then (if t665 = 0 then (some (t653 == a0_0)) else (none)) else (none)) else (none)) = some r := by rw [if_pos rfl] at H; exact H
       clear H
       have H := H1
       clear H1
       by_cases c24 : t663 = true
       ·subst c24
        have H1 : (if t666 = true then (if t665 = 0 then (some (t653 == a0_0)) else (none)) else (none)) = some r := by rw [if_pos rfl] at H; exact H
        clear H
        have H := H1
        clear H1
        by_cases c25 : t666 = true
        ·subst c25
         have H1 : (if t665 = 0 then (some (t653 == a0_0)) else (none)) = some r := by rw [if_pos rfl] at H; exact H
         clear H
         have H := H1
         clear H1
         by_cases c26 : t665 = 0
         ·rw [if_pos c26] at H
          have c26b0 : (t665 == 0) = true := beq_iff_eq.mpr c26
          have c26b1 : (t665 != 0) = false := bne_eq_false_iff_eq.mpr c26
          clear c26
          obtain rfl := Option.some.inj H
          have hcz27_0 : wc.cell? ⟨gb640, 0, none⟩ = some (.int .u64 a0_0) := (blk_cell BK640.out 0).trans rfl
          have hcz27_1 : wc.cell? ⟨gb640, 1, none⟩ = some (.int .u32 a0_1) := (blk_cell BK640.out 1).trans rfl
          have hcz27_2 : wc.cell? ⟨gb640, 2, none⟩ = some (.int .u32 a0_2) := (blk_cell BK640.out 2).trans rfl
          have hfz27_0 := blk_frozen BK640.out 0
          have hfz27_1 := blk_frozen BK640.out 1
          have hfz27_2 := blk_frozen BK640.out 2
          go_wp2_with (first | ((with_reducible refine gate_dst (N := 30) rfl ?_); refine Kd.R_lit k28 _ 28 ?hg (N := 30) ?hd (xs := ([(⟨a0_0, a0_1, a0_2⟩ : S28)] : List (S28))) (inner := [.int .u64 a0_0, .int .u32 a0_1, .int .u32 a0_2]) (ok := fun _ => True) (okp := fun _ => True) ?hr ?hp (fun _ hk => hk) trivial (Below.refl _ _) (Nat.le_refl _) (by simp) ?_; (case hd => rfl); (case hg => rfl); (case hr => first | (go_simp; done) | (go_simp; rfl)); (case hp => exact (Reps.c3 (show Kd.M k28 _ _ _ (⟨a0_0, a0_1, a0_2⟩ : S28) [.int .u64 a0_0, .int .u32 a0_1, .int .u32 a0_2] from (k28_mkM _ _ _ (⟨a0_0, a0_1, a0_2⟩ : S28) )) (Reps.none _ _))); intro v644 w28 ho29 hb hg_ hnew_; clear hg_ hnew_; (first | rw [← Ny643.out] at ho29 | (simp only [Int.reduceToNat] at ho29; rw [← Ny643.out] at ho29)); have HO645 := Aside0.mk (Kd.R_lower (Kd.R_newB ho29 (blkt BK640)) (below_size (belt HB))); replace BK640 := blkb BK640 hb; replace HB := belb HB hb; clear hb ho29; obtain ⟨Ao30, co30, eo30⟩ := Kd.R_slice HO645.out; subst eo30) | ((with_reducible refine gate_callee (f := 18) rfl ?_); refine goesL_ (some 31) rfl rfl Tryz.func18 (by kernel_rfl) rfl #[.int .u64 a0_0, .slice Ao30 y643.length co30] rfl argt ?_; (with_reducible refine (mean_Of.calls kj4 a0_0 _ _ y643 t646 t647 t648 t649 t650 true _ ?side1 ?side2 A18.out).mono ?_); (case side1 => repeat (first | exact (Kd.R_reads' HO645.out).2.2 | (with_reducible refine Kd.C_alloc ?_ _) | (with_reducible refine Kd.C_drewN ?_ _) | (with_reducible refine Kd.C_drew ?_))); (case side2 => exact (Kd.R_reads' HO645.out).2.1); rintro e w31 ⟨rfl, hb⟩; refine ⟨_, rfl, ?_⟩; replace HO645 := rb HO645 hb; replace BK640 := blkb BK640 hb; replace HB := belb HB hb; (try clear hb); (try clear hb2); (try clear hk); (try clear hi)) | ((with_reducible refine gate_dst (N := 5) rfl ?_); refine box_event ?hg (N := 5) ?hd (cs := #[.int .u64 0, .int .i64 0, .int .u64 0, .int .u64 0, .int .i64 0]) (t := 33) ?hr ?_; (case hd => rfl); (case hg => rfl); (case hr => first | (go_simp; done) | (go_simp; rfl)); intro gb652 hg w32 hbox hb; replace HO645 := rb HO645 hb; have BK652 := Aside0.mk (hbox); have GW652 := bels HB hg; have GE652 := bels HB hg; have NB640_652 := blkl BK640 hg; have NB652_640 := blkg BK640 hg; replace BK640 := blkb BK640 hb; replace HB := belb HB hb; clear hb hbox hg; have hnb33 := NB652_640.out; have hnc33 := NB640_652.out; have hcz34_0 : w32.cell? ⟨gb652, 0, none⟩ = some (.int .u64 0) := (blk_cell BK652.out 0).trans rfl; have hcz34_1 : w32.cell? ⟨gb652, 1, none⟩ = some (.int .i64 0) := (blk_cell BK652.out 1).trans rfl; have hcz34_2 : w32.cell? ⟨gb652, 2, none⟩ = some (.int .u64 0) := (blk_cell BK652.out 2).trans rfl; have hcz34_3 : w32.cell? ⟨gb652, 3, none⟩ = some (.int .u64 0) := (blk_cell BK652.out 3).trans rfl; have hcz34_4 : w32.cell? ⟨gb652, 4, none⟩ = some (.int .i64 0) := (blk_cell BK652.out 4).trans rfl; have hfz34_0 := blk_frozen BK652.out 0; have hfz34_1 := blk_frozen BK652.out 1; have hfz34_2 := blk_frozen BK652.out 2; have hfz34_3 := blk_frozen BK652.out 3; have hfz34_4 := blk_frozen BK652.out 4; have hcz35_0 : w32.cell? ⟨gb640, 0, none⟩ = some (.int .u64 a0_0) := (blk_cell BK640.out 0).trans rfl; have hcz35_1 : w32.cell? ⟨gb640, 1, none⟩ = some (.int .u32 a0_1) := (blk_cell BK640.out 1).trans rfl; have hcz35_2 : w32.cell? ⟨gb640, 2, none⟩ = some (.int .u32 a0_2) := (blk_cell BK640.out 2).trans rfl; have hfz35_0 := blk_frozen BK640.out 0; have hfz35_1 := blk_frozen BK640.out 1; have hfz35_2 := blk_frozen BK640.out 2) | ((with_reducible refine gate_callee (f := 35) rfl ?_); refine goesL_ (some 38) rfl rfl Tryz.func35 (by kernel_rfl) rfl #[.agg #[.int .u64 t646, .int .i64 t647, .int .u64 t648, .int .u64 t649, .int .i64 t650], .agg #[.int .u64 a0_0, .int .u32 a0_1, .int .u32 a0_2], .int .u32 a1] rfl argt ?_; (with_reducible refine (weigh_Weigh.calls kj4 t646 t647 t648 t649 t650 a0_0 a0_1 a0_2 a1 t653 t654 t655 true _ A19.out).mono ?_); rintro e w36 ⟨rfl, hb⟩; refine ⟨_, rfl, ?_⟩; replace HO645 := Aside0.mk (Kd.R_below (by (with_reducible repeat (first | apply Kd.R_alloc | apply Kd.R_drewN | apply Kd.R_drew)); exact (Kd.R_mono (Kd.R_far (p := ⟨gb652, 4, none⟩) (Kd.R_far (p := ⟨gb652, 3, none⟩) (Kd.R_far (p := ⟨gb652, 2, none⟩) (Kd.R_far (p := ⟨gb652, 1, none⟩) (Kd.R_far (p := ⟨gb652, 0, none⟩) (Kd.R_types HO645.out BK652.out (by decide)) (fun _ hk => hk.2) (.int .u64 t646)) (fun _ hk => hk.2) (.int .i64 t647)) (fun _ hk => hk.2) (.int .u64 t648)) (fun _ hk => hk.2) (.int .u64 t649)) (fun _ hk => hk.2) (.int .i64 t650)) (fun _ h_ => h_.1))) hb); replace BK640 := Aside0.mk (blk_below (g := gb640) (o := .cells #[.int .u64 a0_0, .int .u32 a0_1, .int .u32 a0_2] 28 (0, 0)) (by (with_reducible repeat (first | refine blk_drewN ?_ _ | refine blk_drew ?_ | refine blk_alloc ?_ _)); refine blk_far ?_ NB640_652.out _; (with_reducible repeat (first | refine blk_drewN ?_ _ | refine blk_drew ?_ | refine blk_alloc ?_ _)); refine blk_far ?_ NB640_652.out _; (with_reducible repeat (first | refine blk_drewN ?_ _ | refine blk_drew ?_ | refine blk_alloc ?_ _)); refine blk_far ?_ NB640_652.out _; (with_reducible repeat (first | refine blk_drewN ?_ _ | refine blk_drew ?_ | refine blk_alloc ?_ _)); refine blk_far ?_ NB640_652.out _; (with_reducible repeat (first | refine blk_drewN ?_ _ | refine blk_drew ?_ | refine blk_alloc ?_ _)); refine blk_far ?_ NB640_652.out _; exact blkt BK640) hb); replace HB := belb HB hb; replace BK652 := Aside0.mk (blk_below (g := gb652) (o := .cells #[.int .u64 t646, .int .i64 t647, .int .u64 t648, .int .u64 t649, .int .i64 t650] 33 (0, 0)) (by (with_reducible repeat (first | refine blk_drewN ?_ _ | refine blk_drew ?_ | refine blk_alloc ?_ _)); refine blk_put (cs := #[.int .u64 t646, .int .i64 t647, .int .u64 t648, .int .u64 t649, .int .i64 0]) ?_ 4 _ rfl; (with_reducible repeat (first | refine blk_drewN ?_ _ | refine blk_drew ?_ | refine blk_alloc ?_ _)); refine blk_put (cs := #[.int .u64 t646, .int .i64 t647, .int .u64 t648, .int .u64 0, .int .i64 0]) ?_ 3 _ rfl; (with_reducible repeat (first | refine blk_drewN ?_ _ | refine blk_drew ?_ | refine blk_alloc ?_ _)); refine blk_put (cs := #[.int .u64 t646, .int .i64 t647, .int .u64 0, .int .u64 0, .int .i64 0]) ?_ 2 _ rfl; (with_reducible repeat (first | refine blk_drewN ?_ _ | refine blk_drew ?_ | refine blk_alloc ?_ _)); refine blk_put (cs := #[.int .u64 t646, .int .i64 0, .int .u64 0, .int .u64 0, .int .i64 0]) ?_ 1 _ rfl; (with_reducible repeat (first | refine blk_drewN ?_ _ | refine blk_drew ?_ | refine blk_alloc ?_ _)); refine blk_put (cs := #[.int .u64 0, .int .i64 0, .int .u64 0, .int .u64 0, .int .i64 0]) ?_ 0 _ rfl; exact blkt BK652) hb); (try clear hb); (try clear hb2); (try clear hk); (try clear hi)) | ((with_reducible refine gate_dst (N := 7) rfl ?_); refine box_event ?hg (N := 7) ?hd (cs := #[.int .u64 0, .int .u32 0, .int .u32 0]) (t := 28) ?hr ?_; (case hd => rfl); (case hg => rfl); (case hr => first | (go_simp; done) | (go_simp; rfl)); intro gb657 hg w37 hbox hb; replace HO645 := Aside0.mk (Kd.R_below (Kd.R_elderB (rt HO645) gb657 (Nat.le_of_eq hg.symm)) hb); have BK657 := Aside0.mk (hbox); have GW657 := bels HB hg; have GE657 := bels HB hg; have NB640_657 := blkl BK640 hg; have NB657_640 := blkg BK640 hg; have NB652_657 := blkl BK652 hg; have NB657_652 := blkg BK652 hg; replace BK640 := blkb BK640 hb; replace BK652 := blkb BK652 hb; replace HB := belb HB hb; clear hb hbox hg; have hnb38 := NB657_640.out; have hnc38 := NB640_657.out; have hnb39 := NB657_652.out; have hnc39 := NB652_657.out; have hcz40_0 : w37.cell? ⟨gb657, 0, none⟩ = some (.int .u64 0) := (blk_cell BK657.out 0).trans rfl; have hcz40_1 : w37.cell? ⟨gb657, 1, none⟩ = some (.int .u32 0) := (blk_cell BK657.out 1).trans rfl; have hcz40_2 : w37.cell? ⟨gb657, 2, none⟩ = some (.int .u32 0) := (blk_cell BK657.out 2).trans rfl; have hfz40_0 := blk_frozen BK657.out 0; have hfz40_1 := blk_frozen BK657.out 1; have hfz40_2 := blk_frozen BK657.out 2; have hcz41_0 : w37.cell? ⟨gb652, 0, none⟩ = some (.int .u64 t646) := (blk_cell BK652.out 0).trans rfl; have hcz41_1 : w37.cell? ⟨gb652, 1, none⟩ = some (.int .i64 t647) := (blk_cell BK652.out 1).trans rfl; have hcz41_2 : w37.cell? ⟨gb652, 2, none⟩ = some (.int .u64 t648) := (blk_cell BK652.out 2).trans rfl; have hcz41_3 : w37.cell? ⟨gb652, 3, none⟩ = some (.int .u64 t649) := (blk_cell BK652.out 3).trans rfl; have hcz41_4 : w37.cell? ⟨gb652, 4, none⟩ = some (.int .i64 t650) := (blk_cell BK652.out 4).trans rfl; have hfz41_0 := blk_frozen BK652.out 0; have hfz41_1 := blk_frozen BK652.out 1; have hfz41_2 := blk_frozen BK652.out 2; have hfz41_3 := blk_frozen BK652.out 3; have hfz41_4 := blk_frozen BK652.out 4; have hcz42_0 : w37.cell? ⟨gb640, 0, none⟩ = some (.int .u64 a0_0) := (blk_cell BK640.out 0).trans rfl; have hcz42_1 : w37.cell? ⟨gb640, 1, none⟩ = some (.int .u32 a0_1) := (blk_cell BK640.out 1).trans rfl; have hcz42_2 : w37.cell? ⟨gb640, 2, none⟩ = some (.int .u32 a0_2) := (blk_cell BK640.out 2).trans rfl; have hfz42_0 := blk_frozen BK640.out 0; have hfz42_1 := blk_frozen BK640.out 1; have hfz42_2 := blk_frozen BK640.out 2) | ((with_reducible refine gate_callee (f := 36) rfl ?_); refine goesL_ (some 45) rfl rfl Tryz.func36 (by kernel_rfl) rfl #[.agg #[.int .u64 t646, .int .i64 t647, .int .u64 t648, .int .u64 t649, .int .i64 t650], .agg #[.int .u64 a0_0, .int .u32 a0_1, .int .u32 a0_2], .agg #[.int .u64 t653, .int .u32 t654, .int .u32 t655]] rfl argt ?_; (with_reducible refine (weigh_Shifted.calls kj4 t646 t647 t648 t649 t650 a0_0 a0_1 a0_2 t653 t654 t655 t658 t659 t660 t661 t662 true _ A20.out).mono ?_); rintro e w43 ⟨rfl, hb⟩; refine ⟨_, rfl, ?_⟩; replace HO645 := Aside0.mk (Kd.R_below (by (with_reducible repeat (first | apply Kd.R_alloc | apply Kd.R_drewN | apply Kd.R_drew)); exact (Kd.R_mono (Kd.R_far (p := ⟨gb657, 2, none⟩) (Kd.R_far (p := ⟨gb657, 1, none⟩) (Kd.R_far (p := ⟨gb657, 0, none⟩) (Kd.R_mono HO645.out (fun k_ hk => (⟨hk, hk.2⟩ : _ ∧ k_ ≠ gb657))) (fun _ hk => hk.2) (.int .u64 t653)) (fun _ hk => hk.2) (.int .u32 t654)) (fun _ hk => hk.2) (.int .u32 t655)) (fun _ h_ => h_.1))) hb); replace BK640 := Aside0.mk (blk_below (g := gb640) (o := .cells #[.int .u64 a0_0, .int .u32 a0_1, .int .u32 a0_2] 28 (0, 0)) (by (with_reducible repeat (first | refine blk_drewN ?_ _ | refine blk_drew ?_ | refine blk_alloc ?_ _)); refine blk_far ?_ NB640_657.out _; (with_reducible repeat (first | refine blk_drewN ?_ _ | refine blk_drew ?_ | refine blk_alloc ?_ _)); refine blk_far ?_ NB640_657.out _; (with_reducible repeat (first | refine blk_drewN ?_ _ | refine blk_drew ?_ | refine blk_alloc ?_ _)); refine blk_far ?_ NB640_657.out _; exact blkt BK640) hb); replace BK652 := Aside0.mk (blk_below (g := gb652) (o := .cells #[.int .u64 t646, .int .i64 t647, .int .u64 t648, .int .u64 t649, .int .i64 t650] 33 (0, 0)) (by (with_reducible repeat (first | refine blk_drewN ?_ _ | refine blk_drew ?_ | refine blk_alloc ?_ _)); refine blk_far ?_ NB652_657.out _; (with_reducible repeat (first | refine blk_drewN ?_ _ | refine blk_drew ?_ | refine blk_alloc ?_ _)); refine blk_far ?_ NB652_657.out _; (with_reducible repeat (first | refine blk_drewN ?_ _ | refine blk_drew ?_ | refine blk_alloc ?_ _)); refine blk_far ?_ NB652_657.out _; exact blkt BK652) hb); replace BK657 := Aside0.mk (blk_below (g := gb657) (o := .cells #[.int .u64 t653, .int .u32 t654, .int .u32 t655] 28 (0, 0)) (by (with_reducible repeat (first | refine blk_drewN ?_ _ | refine blk_drew ?_ | refine blk_alloc ?_ _)); refine blk_put (cs := #[.int .u64 t653, .int .u32 t654, .int .u32 0]) ?_ 2 _ rfl; (with_reducible repeat (first | refine blk_drewN ?_ _ | refine blk_drew ?_ | refine blk_alloc ?_ _)); refine blk_put (cs := #[.int .u64 t653, .int .u32 0, .int .u32 0]) ?_ 1 _ rfl; (with_reducible repeat (first | refine blk_drewN ?_ _ | refine blk_drew ?_ | refine blk_alloc ?_ _)); refine blk_put (cs := #[.int .u64 0, .int .u32 0, .int .u32 0]) ?_ 0 _ rfl; exact blkt BK657) hb); replace HB := belb HB hb; (try clear hb); (try clear hb2); (try clear hk); (try clear hi)) | ((with_reducible refine gate_dst (N := 9) rfl ?_); refine box_event ?hg (N := 9) ?hd (cs := #[.int .u64 0, .int .i64 0, .int .u64 0, .int .u64 0, .int .i64 0]) (t := 33) ?hr ?_; (case hd => rfl); (case hg => rfl); (case hr => first | (go_simp; done) | (go_simp; rfl)); intro gb664 hg w44 hbox hb; replace HO645 := rb HO645 hb; have BK664 := Aside0.mk (hbox); have GW664 := bels HB hg; have GE664 := bels HB hg; have NB640_664 := blkl BK640 hg; have NB664_640 := blkg BK640 hg; have NB652_664 := blkl BK652 hg; have NB664_652 := blkg BK652 hg; have NB657_664 := blkl BK657 hg; have NB664_657 := blkg BK657 hg; replace BK640 := blkb BK640 hb; replace BK652 := blkb BK652 hb; replace BK657 := blkb BK657 hb; replace HB := belb HB hb; clear hb hbox hg; have hnb45 := NB664_640.out; have hnc45 := NB640_664.out; have hnb46 := NB664_652.out; have hnc46 := NB652_664.out; have hnb47 := NB664_657.out; have hnc47 := NB657_664.out; have hcz48_0 : w44.cell? ⟨gb664, 0, none⟩ = some (.int .u64 0) := (blk_cell BK664.out 0).trans rfl; have hcz48_1 : w44.cell? ⟨gb664, 1, none⟩ = some (.int .i64 0) := (blk_cell BK664.out 1).trans rfl; have hcz48_2 : w44.cell? ⟨gb664, 2, none⟩ = some (.int .u64 0) := (blk_cell BK664.out 2).trans rfl; have hcz48_3 : w44.cell? ⟨gb664, 3, none⟩ = some (.int .u64 0) := (blk_cell BK664.out 3).trans rfl; have hcz48_4 : w44.cell? ⟨gb664, 4, none⟩ = some (.int .i64 0) := (blk_cell BK664.out 4).trans rfl; have hfz48_0 := blk_frozen BK664.out 0; have hfz48_1 := blk_frozen BK664.out 1; have hfz48_2 := blk_frozen BK664.out 2; have hfz48_3 := blk_frozen BK664.out 3; have hfz48_4 := blk_frozen BK664.out 4; have hcz49_0 : w44.cell? ⟨gb657, 0, none⟩ = some (.int .u64 t653) := (blk_cell BK657.out 0).trans rfl; have hcz49_1 : w44.cell? ⟨gb657, 1, none⟩ = some (.int .u32 t654) := (blk_cell BK657.out 1).trans rfl; have hcz49_2 : w44.cell? ⟨gb657, 2, none⟩ = some (.int .u32 t655) := (blk_cell BK657.out 2).trans rfl; have hfz49_0 := blk_frozen BK657.out 0; have hfz49_1 := blk_frozen BK657.out 1; have hfz49_2 := blk_frozen BK657.out 2) | ((with_reducible refine gate_callee (f := 37) rfl ?_); refine goesL_ (some 51) rfl rfl Tryz.func37 (by kernel_rfl) rfl #[.agg #[.int .u64 t658, .int .i64 t659, .int .u64 t660, .int .u64 t661, .int .i64 t662], .agg #[.int .u64 t653, .int .u32 t654, .int .u32 t655]] rfl argt ?_; (with_reducible refine (lag_Sign.calls kj4 t658 t659 t660 t661 t662 t653 t654 t655 t665 true _ A21.out).mono ?_); rintro e w50 ⟨rfl, hb⟩; refine ⟨_, rfl, ?_⟩; replace HO645 := Aside0.mk (Kd.R_below (by (with_reducible repeat (first | apply Kd.R_alloc | apply Kd.R_drewN | apply Kd.R_drew)); exact (Kd.R_mono (Kd.R_far (p := ⟨gb664, 4, none⟩) (Kd.R_far (p := ⟨gb664, 3, none⟩) (Kd.R_far (p := ⟨gb664, 2, none⟩) (Kd.R_far (p := ⟨gb664, 1, none⟩) (Kd.R_far (p := ⟨gb664, 0, none⟩) (Kd.R_types HO645.out BK664.out (by decide)) (fun _ hk => hk.2) (.int .u64 t658)) (fun _ hk => hk.2) (.int .i64 t659)) (fun _ hk => hk.2) (.int .u64 t660)) (fun _ hk => hk.2) (.int .u64 t661)) (fun _ hk => hk.2) (.int .i64 t662)) (fun _ h_ => h_.1))) hb); replace BK640 := Aside0.mk (blk_below (g := gb640) (o := .cells #[.int .u64 a0_0, .int .u32 a0_1, .int .u32 a0_2] 28 (0, 0)) (by (with_reducible repeat (first | refine blk_drewN ?_ _ | refine blk_drew ?_ | refine blk_alloc ?_ _)); refine blk_far ?_ NB640_664.out _; (with_reducible repeat (first | refine blk_drewN ?_ _ | refine blk_drew ?_ | refine blk_alloc ?_ _)); refine blk_far ?_ NB640_664.out _; (with_reducible repeat (first | refine blk_drewN ?_ _ | refine blk_drew ?_ | refine blk_alloc ?_ _)); refine blk_far ?_ NB640_664.out _; (with_reducible repeat (first | refine blk_drewN ?_ _ | refine blk_drew ?_ | refine blk_alloc ?_ _)); refine blk_far ?_ NB640_664.out _; (with_reducible repeat (first | refine blk_drewN ?_ _ | refine blk_drew ?_ | refine blk_alloc ?_ _)); refine blk_far ?_ NB640_664.out _; exact blkt BK640) hb); replace BK652 := Aside0.mk (blk_below (g := gb652) (o := .cells #[.int .u64 t646, .int .i64 t647, .int .u64 t648, .int .u64 t649, .int .i64 t650] 33 (0, 0)) (by (with_reducible repeat (first | refine blk_drewN ?_ _ | refine blk_drew ?_ | refine blk_alloc ?_ _)); refine blk_far ?_ NB652_664.out _; (with_reducible repeat (first | refine blk_drewN ?_ _ | refine blk_drew ?_ | refine blk_alloc ?_ _)); refine blk_far ?_ NB652_664.out _; (with_reducible repeat (first | refine blk_drewN ?_ _ | refine blk_drew ?_ | refine blk_alloc ?_ _)); refine blk_far ?_ NB652_664.out _; (with_reducible repeat (first | refine blk_drewN ?_ _ | refine blk_drew ?_ | refine blk_alloc ?_ _)); refine blk_far ?_ NB652_664.out _; (with_reducible repeat (first | refine blk_drewN ?_ _ | refine blk_drew ?_ | refine blk_alloc ?_ _)); refine blk_far ?_ NB652_664.out _; exact blkt BK652) hb); replace BK657 := Aside0.mk (blk_below (g := gb657) (o := .cells #[.int .u64 t653, .int .u32 t654, .int .u32 t655] 28 (0, 0)) (by (with_reducible repeat (first | refine blk_drewN ?_ _ | refine blk_drew ?_ | refine blk_alloc ?_ _)); refine blk_far ?_ NB657_664.out _; (with_reducible repeat (first | refine blk_drewN ?_ _ | refine blk_drew ?_ | refine blk_alloc ?_ _)); refine blk_far ?_ NB657_664.out _; (with_reducible repeat (first | refine blk_drewN ?_ _ | refine blk_drew ?_ | refine blk_alloc ?_ _)); refine blk_far ?_ NB657_664.out _; (with_reducible repeat (first | refine blk_drewN ?_ _ | refine blk_drew ?_ | refine blk_alloc ?_ _)); refine blk_far ?_ NB657_664.out _; (with_reducible repeat (first | refine blk_drewN ?_ _ | refine blk_drew ?_ | refine blk_alloc ?_ _)); refine blk_far ?_ NB657_664.out _; exact blkt BK657) hb); replace HB := belb HB hb; replace BK664 := Aside0.mk (blk_below (g := gb664) (o := .cells #[.int .u64 t658, .int .i64 t659, .int .u64 t660, .int .u64 t661, .int .i64 t662] 33 (0, 0)) (by (with_reducible repeat (first | refine blk_drewN ?_ _ | refine blk_drew ?_ | refine blk_alloc ?_ _)); refine blk_put (cs := #[.int .u64 t658, .int .i64 t659, .int .u64 t660, .int .u64 t661, .int .i64 0]) ?_ 4 _ rfl; (with_reducible repeat (first | refine blk_drewN ?_ _ | refine blk_drew ?_ | refine blk_alloc ?_ _)); refine blk_put (cs := #[.int .u64 t658, .int .i64 t659, .int .u64 t660, .int .u64 0, .int .i64 0]) ?_ 3 _ rfl; (with_reducible repeat (first | refine blk_drewN ?_ _ | refine blk_drew ?_ | refine blk_alloc ?_ _)); refine blk_put (cs := #[.int .u64 t658, .int .i64 t659, .int .u64 0, .int .u64 0, .int .i64 0]) ?_ 2 _ rfl; (with_reducible repeat (first | refine blk_drewN ?_ _ | refine blk_drew ?_ | refine blk_alloc ?_ _)); refine blk_put (cs := #[.int .u64 t658, .int .i64 0, .int .u64 0, .int .u64 0, .int .i64 0]) ?_ 1 _ rfl; (with_reducible repeat (first | refine blk_drewN ?_ _ | refine blk_drew ?_ | refine blk_alloc ?_ _)); refine blk_put (cs := #[.int .u64 0, .int .i64 0, .int .u64 0, .int .u64 0, .int .i64 0]) ?_ 0 _ rfl; exact blkt BK664) hb); (try clear hb); (try clear hb2); (try clear hk); (try clear hi); have hcz51_0 : w50.cell? ⟨gb657, 0, none⟩ = some (.int .u64 t653) := (blk_cell BK657.out 0).trans rfl; have hcz51_1 : w50.cell? ⟨gb657, 1, none⟩ = some (.int .u32 t654) := (blk_cell BK657.out 1).trans rfl; have hcz51_2 : w50.cell? ⟨gb657, 2, none⟩ = some (.int .u32 t655) := (blk_cell BK657.out 2).trans rfl; have hfz51_0 := blk_frozen BK657.out 0; have hfz51_1 := blk_frozen BK657.out 1; have hfz51_2 := blk_frozen BK657.out 2; have hcz52_0 : w50.cell? ⟨gb640, 0, none⟩ = some (.int .u64 a0_0) := (blk_cell BK640.out 0).trans rfl; have hcz52_1 : w50.cell? ⟨gb640, 1, none⟩ = some (.int .u32 a0_1) := (blk_cell BK640.out 1).trans rfl; have hcz52_2 : w50.cell? ⟨gb640, 2, none⟩ = some (.int .u32 a0_2) := (blk_cell BK640.out 2).trans rfl; have hfz52_0 := blk_frozen BK640.out 0; have hfz52_1 := blk_frozen BK640.out 1; have hfz52_2 := blk_frozen BK640.out 2))
          go_ret
          exact ⟨by first | rfl | (simp [errW_none, errW_some] <;> rfl) | (simp [*, errW_none, errW_some] <;> rfl), belt HB⟩
         ·rw [if_neg c26] at H
          exact absurd H (by simp)
        ·replace c25 := Bool.eq_false_iff.mpr c25
         subst c25
         have H1 : (none) = some r := by rw [if_neg (show ¬ (false = true) by decide)] at H; exact H
         clear H
         have H := H1
         clear H1
         exact absurd H (by simp)
       ·replace c24 := Bool.eq_false_iff.mpr c24
        subst c24
        have H1 : (none) = some r := by rw [if_neg (show ¬ (false = true) by decide)] at H; exact H
        clear H
        have H := H1
        clear H1
        exact absurd H (by simp)
      ·replace c23 := Bool.eq_false_iff.mpr c23
       subst c23
       have H1 : (none) = some r := by rw [if_neg (show ¬ (false = true) by decide)] at H; exact H
       clear H
       have H := H1
       clear H1
       exact absurd H (by simp)
     ·replace c22 := Bool.eq_false_iff.mpr c22
      subst c22
      have H1 : (none) = some r := by rw [if_neg (show ¬ (false = true) by decide)] at H; exact H
      clear H
      have H := H1
      clear H1
      exact absurd H (by simp)
 ·replace c4 := Bool.eq_false_iff.mpr c4
  subst c4
  have H1 : (none) = some r := by rw [if_neg (show ¬ (false = true) by decide)] at H; exact H
  clear H
  have H := H1
  clear H1
  exact absurd H (by simp)

/-- THE ONE PURE STATEMENT of turnstonelaw11_WeighAlone. -/
def turnstonelaw11_WeighAlone.Pure : Prop := ∀ (a0_0 : Int) (a0_1 : Int) (a0_2 : Int) (a1 : Int), (Lit.int .u64 a0_0).wf = true → (Lit.int .u32 a0_1).wf = true → (Lit.int .u32 a0_2).wf = true → (Lit.int .u32 a1).wf = true → ∃ k, turnstonelaw11_WeighAlone.f k a0_0 a0_1 a0_2 a1 = some true
theorem turnstonelaw11_WeighAlone.walk (P : turnstonelaw11_WeighAlone.Pure) (a0_0 : Int) (a0_1 : Int) (a0_2 : Int) (a1 : Int) (w : World) (w0_0 : (Lit.int .u64 a0_0).wf = true) (w0_1 : (Lit.int .u32 a0_1).wf = true) (w0_2 : (Lit.int .u32 a0_2).wf = true) (w1 : (Lit.int .u32 a1).wf = true) :
  Calls Tryz.prog 9 #[.agg #[.int .u64 a0_0, .int .u32 a0_1, .int .u32 a0_2], .int .u32 a1] w fun e w' => e = .returned (.bool true) ∧ Below w.heap.size w w' := by
 obtain ⟨k, h⟩ := P a0_0 a0_1 a0_2 a1 w0_0 w0_1 w0_2 w1
 refine (turnstonelaw11_WeighAlone.calls k a0_0 a0_1 a0_2 a1 true w h).mono ?_
 rintro e w' ⟨rfl, hd⟩
 exact ⟨rfl, hd⟩

end Go.Proofs.YtfbkamgdkdnpoaaGreatDoor.Print
