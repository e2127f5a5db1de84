/- What each Go function that is named below answers, as a Lean function, and that its walk comes to just that: for whatever arguments that function gives an answer for. Written by a program of this session (wip/mkpr.py, pr.sh). -/
import Derived.Test.YtfbkamgdkdnpoaaGreatDoorPrint1000
import Derived.Test.YtfbkamgdkdnpoaaGreatDoorPrint1003
import Derived.Test.YtfbkamgdkdnpoaaGreatDoorPrint1006
import Derived.Test.YtfbkamgdkdnpoaaGreatDoorPrint1008
import Derived.Test.YtfbkamgdkdnpoaaGreatDoorPrint1014
import Derived.Test.YtfbkamgdkdnpoaaGreatDoorPrint1015
import Derived.Test.YtfbkamgdkdnpoaaGreatDoorPrint1020
namespace Go.Proofs.YtfbkamgdkdnpoaaGreatDoor.Print
open Go.RowKit Go.Proofs.YtfbkamgdkdnpoaaGreatDoorW.PrintWords Go.Proofs.YtfbkamgdkdnpoaaGreatDoorW.PrintLast Go.Proofs.YtfbkamgdkdnpoaaGreatDoorW.PrintMore
attribute [local go_sem] max2_int min2_int max_two min_two max_three min_three max_four min_four   -- for this text's walks alone
open Go.Proofs.YtfbkamgdkdnpoaaGreatDoor.Bits Go.Proofs.YtfbkamgdkdnpoaaGreatDoor.Short
attribute [local go_sem] add64_run0 sub64_run0 add64_run sub64_run
set_option linter.unusedVariables false
set_option linter.unusedSimpArgs false

/-! ### turnstonelaw10_PlaceZero: function 6 -/
mutual
def turnstonelaw10_PlaceZero.j0 : Nat → List (S28) → Int → Bool → Int → Int → Int → Int → Int → Option (Bool)
 | 0, _, _, _, _, _, _, _, _ => none
 | k + 1, x1, x2, x44, x487000, x487001, x487002, x487003, x487004 => if x44 = true then (some true) else ((place_Place.f k x487000 x487001 x487002 x487003 x487004 0 x2 0).bind fun bt487 => ((mean_Mean_Add.f k x487000 x487001 x487002 x487003 x487004 bt487.1 bt487.2.1 bt487.2.2.1).bind fun bt492 => ((mean_Mean_Floor.f k x487000 x487001 x487002 x487003 x487004).bind fun bt499 => ((mean_Mean_Floor.f k bt492.1 bt492.2.1 bt492.2.2.1 bt492.2.2.2.1 bt492.2.2.2.2.1).bind fun bt501 => (if bt487.2.2.2 = true then (if bt492.2.2.2.2.2 = true then (if bt499.2 = true then (if bt501.2 = true then ((vtime_Time_Since.f bt499.1 bt501.1).bind fun t503 => (if t503 < 0 then (turnstonelaw10_PlaceZero.j1 k x1 true x487000 x487001 x487002 x487003 x487004 bt492.1 bt492.2.1 bt492.2.2.1 bt492.2.2.2.1 bt492.2.2.2.2.1) else (turnstonelaw10_PlaceZero.j1 k x1 (decide (t503 > 1)) x487000 x487001 x487002 x487003 x487004 bt492.1 bt492.2.1 bt492.2.2.1 bt492.2.2.2.1 bt492.2.2.2.2.1))) else (turnstonelaw10_PlaceZero.j1 k x1 true x487000 x487001 x487002 x487003 x487004 bt492.1 bt492.2.1 bt492.2.2.1 bt492.2.2.2.1 bt492.2.2.2.2.1)) else (turnstonelaw10_PlaceZero.j1 k x1 true x487000 x487001 x487002 x487003 x487004 bt492.1 bt492.2.1 bt492.2.2.1 bt492.2.2.2.1 bt492.2.2.2.2.1)) else (turnstonelaw10_PlaceZero.j1 k x1 true x487000 x487001 x487002 x487003 x487004 bt492.1 bt492.2.1 bt492.2.2.1 bt492.2.2.2.1 bt492.2.2.2.2.1)) else (turnstonelaw10_PlaceZero.j1 k x1 true x487000 x487001 x487002 x487003 x487004 bt492.1 bt492.2.1 bt492.2.2.1 bt492.2.2.2.1 bt492.2.2.2.2.1))))))
def turnstonelaw10_PlaceZero.j1 : Nat → List (S28) → Bool → Int → Int → Int → Int → Int → Int → Int → Int → Int → Int → Option (Bool)
 | 0, _, _, _, _, _, _, _, _, _, _, _, _ => none
 | k + 1, x1, x92, x487000, x487001, x487002, x487003, x487004, x499000, x499001, x499002, x499003, x499004 => if x92 = true then (none) else (turnstonelaw10_PlaceZero.l0 k x1 (x1.length : Int) 0 x487000 x487001 x487002 x487003 x487004 x499000 x499001 x499002 x499003 x499004)
def turnstonelaw10_PlaceZero.l0 : Nat → List (S28) → Int → Int → Int → Int → Int → Int → Int → Int → Int → Int → Int → Int → Option (Bool)
 | 0, _, _, _, _, _, _, _, _, _, _, _, _, _ => none
 | k + 1, x93, x94, x95, x487000, x487001, x487002, x487003, x487004, x499000, x499001, x499002, x499003, x499004 => if x95 < x94 then (if 0 ≤ x95 then (if x95 < (x93.length : Int) then ((lag_Read.f k x487000 x487001 x487002 x487003 x487004 ((rd_T28 x93 x95).f0) ((rd_T28 x93 x95).f1) ((rd_T28 x93 x95).f2)).bind fun bt506 => ((lag_Read.f k x499000 x499001 x499002 x499003 x499004 ((rd_T28 x93 x95).f0) ((rd_T28 x93 x95).f1) ((rd_T28 x93 x95).f2)).bind fun bt510 => ((wide_Int_Sub.f bt506.1 bt506.2.1 bt510.1 bt510.2.1).bind fun bt514 => ((wide_Int_Small.f bt514.1 bt514.2.1).bind fun bt518 => (if bt518.2 = true then (if bt518.1 < 0 then (none) else (if bt518.1 > 1 then (none) else (turnstonelaw10_PlaceZero.l0 k x93 x94 (wrap64 (x95 + 1)) x487000 x487001 x487002 x487003 x487004 x499000 x499001 x499002 x499003 x499004))) else (none)))))) else (none)) else (none)) else (some true)
end
def turnstonelaw10_PlaceZero.f (k : Nat) (a0 : Int) (l1 : List (S28)) (a2 : Int) : Option (Bool) := (turnstonelaw10_awake.f).bind fun t479 => (if t479 = true then ((turnstonelaw10_near.f k a0 l1).bind fun bt480 => (if bt480.2.2.2.2.2 = true then (if a2 < 1 then (turnstonelaw10_PlaceZero.j0 k l1 a2 true bt480.1 bt480.2.1 bt480.2.2.1 bt480.2.2.2.1 bt480.2.2.2.2.1) else (turnstonelaw10_PlaceZero.j0 k l1 a2 (decide (a2 > 1048576)) bt480.1 bt480.2.1 bt480.2.2.1 bt480.2.2.2.1 bt480.2.2.2.2.1)) else (turnstonelaw10_PlaceZero.j0 k l1 a2 true bt480.1 bt480.2.1 bt480.2.2.1 bt480.2.2.2.1 bt480.2.2.2.2.1))) else (none))
theorem turnstonelaw10_PlaceZero.mono_l : ∀ k, (∀ y0 y1 y2 y3 y4 y5 y6 y7, LeO (turnstonelaw10_PlaceZero.j0 k y0 y1 y2 y3 y4 y5 y6 y7) (turnstonelaw10_PlaceZero.j0 (k + 1) y0 y1 y2 y3 y4 y5 y6 y7)) ∧ (∀ y0 y1 y2 y3 y4 y5 y6 y7 y8 y9 y10 y11, LeO (turnstonelaw10_PlaceZero.j1 k y0 y1 y2 y3 y4 y5 y6 y7 y8 y9 y10 y11) (turnstonelaw10_PlaceZero.j1 (k + 1) y0 y1 y2 y3 y4 y5 y6 y7 y8 y9 y10 y11)) ∧ (∀ y0 y1 y2 y3 y4 y5 y6 y7 y8 y9 y10 y11 y12, LeO (turnstonelaw10_PlaceZero.l0 k y0 y1 y2 y3 y4 y5 y6 y7 y8 y9 y10 y11 y12) (turnstonelaw10_PlaceZero.l0 (k + 1) y0 y1 y2 y3 y4 y5 y6 y7 y8 y9 y10 y11 y12))
 | 0 => ⟨fun _ _ _ _ _ _ _ _ r h => by simp [turnstonelaw10_PlaceZero.j0] at h, fun _ _ _ _ _ _ _ _ _ _ _ _ r h => by simp [turnstonelaw10_PlaceZero.j1] at h, fun _ _ _ _ _ _ _ _ _ _ _ _ _ r h => by simp [turnstonelaw10_PlaceZero.l0] at h⟩
 | k + 1 => by
  obtain ⟨ih0, ih1, ih2⟩ := turnstonelaw10_PlaceZero.mono_l k
  refine ⟨?_, ?_, ?_⟩
  ·intro y0 y1 y2 y3 y4 y5 y6 y7
   unfold turnstonelaw10_PlaceZero.j0
   repeat' first
   | (with_reducible exact ih0 _ _ _ _ _ _ _ _)
   | (with_reducible exact ih1 _ _ _ _ _ _ _ _ _ _ _ _)
   | (with_reducible exact ih2 _ _ _ _ _ _ _ _ _ _ _ _ _)
   | (with_reducible exact lag_Read.mono _ _ _ _ _ _ _ _ _)
   | (with_reducible exact mean_Mean_Add.mono _ _ _ _ _ _ _ _ _)
   | (with_reducible exact mean_Mean_Floor.mono _ _ _ _ _ _)
   | (with_reducible exact place_Place.mono _ _ _ _ _ _ _ _ _)
   | (with_reducible exact turnstonelaw10_near.mono _ _ _)
   | (with_reducible exact LeO.refl _)
   | (with_reducible exact LeO.none _)
   | (with_reducible refine LeO.ite ?_ ?_)
   | (with_reducible refine LeO.bind ?_ (fun _ => ?_))
   | exact ih0 _ _ _ _ _ _ _ _
   | exact ih1 _ _ _ _ _ _ _ _ _ _ _ _
   | exact ih2 _ _ _ _ _ _ _ _ _ _ _ _ _
   | exact lag_Read.mono _ _ _ _ _ _ _ _ _
   | exact mean_Mean_Add.mono _ _ _ _ _ _ _ _ _
   | exact mean_Mean_Floor.mono _ _ _ _ _ _
   | exact place_Place.mono _ _ _ _ _ _ _ _ _
   | exact turnstonelaw10_near.mono _ _ _
   | exact LeO.none _
   | refine LeO.ite ?_ ?_
   | refine LeO.bind ?_ (fun _ => ?_)
  ·intro y0 y1 y2 y3 y4 y5 y6 y7 y8 y9 y10 y11
   unfold turnstonelaw10_PlaceZero.j1
   repeat' first
   | (with_reducible exact ih0 _ _ _ _ _ _ _ _)
   | (with_reducible exact ih1 _ _ _ _ _ _ _ _ _ _ _ _)
   | (with_reducible exact ih2 _ _ _ _ _ _ _ _ _ _ _ _ _)
   | (with_reducible exact lag_Read.mono _ _ _ _ _ _ _ _ _)
   | (with_reducible exact mean_Mean_Add.mono _ _ _ _ _ _ _ _ _)
   | (with_reducible exact mean_Mean_Floor.mono _ _ _ _ _ _)
   | (with_reducible exact place_Place.mono _ _ _ _ _ _ _ _ _)
   | (with_reducible exact turnstonelaw10_near.mono _ _ _)
   | (with_reducible exact LeO.refl _)
   | (with_reducible exact LeO.none _)
   | (with_reducible refine LeO.ite ?_ ?_)
   | (with_reducible refine LeO.bind ?_ (fun _ => ?_))
   | exact ih0 _ _ _ _ _ _ _ _
   | exact ih1 _ _ _ _ _ _ _ _ _ _ _ _
   | exact ih2 _ _ _ _ _ _ _ _ _ _ _ _ _
   | exact lag_Read.mono _ _ _ _ _ _ _ _ _
   | exact mean_Mean_Add.mono _ _ _ _ _ _ _ _ _
   | exact mean_Mean_Floor.mono _ _ _ _ _ _
   | exact place_Place.mono _ _ _ _ _ _ _ _ _
   | exact turnstonelaw10_near.mono _ _ _
   | exact LeO.none _
   | refine LeO.ite ?_ ?_
   | refine LeO.bind ?_ (fun _ => ?_)
  ·intro y0 y1 y2 y3 y4 y5 y6 y7 y8 y9 y10 y11 y12
   unfold turnstonelaw10_PlaceZero.l0
   repeat' first
   | (with_reducible exact ih0 _ _ _ _ _ _ _ _)
   | (with_reducible exact ih1 _ _ _ _ _ _ _ _ _ _ _ _)
   | (with_reducible exact ih2 _ _ _ _ _ _ _ _ _ _ _ _ _)
   | (with_reducible exact lag_Read.mono _ _ _ _ _ _ _ _ _)
   | (with_reducible exact mean_Mean_Add.mono _ _ _ _ _ _ _ _ _)
   | (with_reducible exact mean_Mean_Floor.mono _ _ _ _ _ _)
   | (with_reducible exact place_Place.mono _ _ _ _ _ _ _ _ _)
   | (with_reducible exact turnstonelaw10_near.mono _ _ _)
   | (with_reducible exact LeO.refl _)
   | (with_reducible exact LeO.none _)
   | (with_reducible refine LeO.ite ?_ ?_)
   | (with_reducible refine LeO.bind ?_ (fun _ => ?_))
   | exact ih0 _ _ _ _ _ _ _ _
   | exact ih1 _ _ _ _ _ _ _ _ _ _ _ _
   | exact ih2 _ _ _ _ _ _ _ _ _ _ _ _ _
   | exact lag_Read.mono _ _ _ _ _ _ _ _ _
   | exact mean_Mean_Add.mono _ _ _ _ _ _ _ _ _
   | exact mean_Mean_Floor.mono _ _ _ _ _ _
   | exact place_Place.mono _ _ _ _ _ _ _ _ _
   | exact turnstonelaw10_near.mono _ _ _
   | exact LeO.none _
   | refine LeO.ite ?_ ?_
   | refine LeO.bind ?_ (fun _ => ?_)
theorem turnstonelaw10_PlaceZero.mono : ∀ a0 a1 a2 k, LeO (turnstonelaw10_PlaceZero.f k a0 a1 a2) (turnstonelaw10_PlaceZero.f (k + 1) a0 a1 a2) := by
 intro a0 a1 a2 k
 obtain ⟨ih0, ih1, ih2⟩ := turnstonelaw10_PlaceZero.mono_l k
 unfold turnstonelaw10_PlaceZero.f
 repeat' first
   | (with_reducible exact ih0 _ _ _ _ _ _ _ _)
   | (with_reducible exact ih1 _ _ _ _ _ _ _ _ _ _ _ _)
   | (with_reducible exact ih2 _ _ _ _ _ _ _ _ _ _ _ _ _)
   | (with_reducible exact lag_Read.mono _ _ _ _ _ _ _ _ _)
   | (with_reducible exact mean_Mean_Add.mono _ _ _ _ _ _ _ _ _)
   | (with_reducible exact mean_Mean_Floor.mono _ _ _ _ _ _)
   | (with_reducible exact place_Place.mono _ _ _ _ _ _ _ _ _)
   | (with_reducible exact turnstonelaw10_near.mono _ _ _)
   | (with_reducible exact LeO.refl _)
   | (with_reducible exact LeO.none _)
   | (with_reducible refine LeO.ite ?_ ?_)
   | (with_reducible refine LeO.bind ?_ (fun _ => ?_))
   | exact ih0 _ _ _ _ _ _ _ _
   | exact ih1 _ _ _ _ _ _ _ _ _ _ _ _
   | exact ih2 _ _ _ _ _ _ _ _ _ _ _ _ _
   | exact lag_Read.mono _ _ _ _ _ _ _ _ _
   | exact mean_Mean_Add.mono _ _ _ _ _ _ _ _ _
   | exact mean_Mean_Floor.mono _ _ _ _ _ _
   | exact place_Place.mono _ _ _ _ _ _ _ _ _
   | exact turnstonelaw10_near.mono _ _ _
   | exact LeO.none _
   | refine LeO.ite ?_ ?_
   | refine LeO.bind ?_ (fun _ => ?_)
set_option maxHeartbeats 8000000 in
set_option maxRecDepth 100000 in
theorem turnstonelaw10_PlaceZero.calls (k : Nat) (a0 : Int) (A1 : Option Addr) (c1 : Nat) (l1 : List (S28)) (a2 : Int) (r : Bool) (w : World) (hr1 : Kd.C k28 w A1 l1.length l1) (hc1 : l1.length ≤ c1) (h : turnstonelaw10_PlaceZero.f k a0 l1 a2 = some r) :
  Calls Tryz.prog 6 #[.int .u64 a0, .slice A1 l1.length c1, .int .u32 a2] w fun e w' => e = .returned (.bool r) ∧ Below w.heap.size w w' := by
 have hu33 := Tryz.underlying33
 have hu28 := Tryz.underlying28
 have hu31 := Tryz.underlying31
 have HR1 := Aside0.mk hr1
 have HC1 := Aside0.mk hc1
 clear hr1 hc1
 have HB := Aside0.mk (Below.refl w.heap.size w)
 have H : ((turnstonelaw10_awake.f).bind fun t479 => (if t479 = true then ((turnstonelaw10_near.f k a0 l1).bind fun bt480 => (if bt480.2.2.2.2.2 = true then (if a2 < 1 then (turnstonelaw10_PlaceZero.j0 k l1 a2 true bt480.1 bt480.2.1 bt480.2.2.1 bt480.2.2.2.1 bt480.2.2.2.2.1) else (turnstonelaw10_PlaceZero.j0 k l1 a2 (decide (a2 > 1048576)) bt480.1 bt480.2.1 bt480.2.2.1 bt480.2.2.2.1 bt480.2.2.2.2.1)) else (turnstonelaw10_PlaceZero.j0 k l1 a2 true bt480.1 bt480.2.1 bt480.2.2.1 bt480.2.2.2.1 bt480.2.2.2.2.1))) else (none))) = some r := h
 clear h
 replace H := Option.bind_eq_some_iff.mp H
 obtain ⟨t479, A40, H⟩ := H
 replace H : (if t479 = true then ((turnstonelaw10_near.f k a0 l1).bind fun bt480 => (if bt480.2.2.2.2.2 = true then (if a2 < 1 then (turnstonelaw10_PlaceZero.j0 k l1 a2 true bt480.1 bt480.2.1 bt480.2.2.1 bt480.2.2.2.1 bt480.2.2.2.2.1) else (turnstonelaw10_PlaceZero.j0 k l1 a2 (decide (a2 > 1048576)) bt480.1 bt480.2.1 bt480.2.2.1 bt480.2.2.2.1 bt480.2.2.2.2.1)) else (turnstonelaw10_PlaceZero.j0 k l1 a2 true bt480.1 bt480.2.1 bt480.2.2.1 bt480.2.2.2.1 bt480.2.2.2.2.1))) else (none)) = some r := H
 have A4 := Aside0.mk A40
 clear A40
 by_cases c5 : t479 = true
 ·subst c5
  have H1 : ((turnstonelaw10_near.f k a0 l1).bind fun bt480 => (if bt480.2.2.2.2.2 = true then (if a2 < 1 then (turnstonelaw10_PlaceZero.j0 k l1 a2 true bt480.1 bt480.2.1 bt480.2.2.1 bt480.2.2.2.1 bt480.2.2.2.2.1) else (turnstonelaw10_PlaceZero.j0 k l1 a2 (decide (a2 > 1048576)) bt480.1 bt480.2.1 bt480.2.2.1 bt480.2.2.2.1 bt480.2.2.2.2.1)) else (turnstonelaw10_PlaceZero.j0 k l1 a2 true bt480.1 bt480.2.1 bt480.2.2.1 bt480.2.2.2.1 bt480.2.2.2.2.1))) = some r := by rw [if_pos rfl] at H; exact H
  clear H
  have H := H1
  clear H1
  replace H := Option.bind_eq_some_iff.mp H
  obtain ⟨⟨t480, t481, t482, t483, t484, t485⟩, A60, H⟩ := H
  replace H : (if t485 = true then (if a2 < 1 then (turnstonelaw10_PlaceZero.j0 k l1 a2 true t480 t481 t482 t483 t484) else (turnstonelaw10_PlaceZero.j0 k l1 a2 (decide (a2 > 1048576)) t480 t481 t482 t483 t484)) else (turnstonelaw10_PlaceZero.j0 k l1 a2 true t480 t481 t482 t483 t484)) = some r := H
  have A6 := Aside0.mk A60
  clear A60
  have HC7 := Aside0.mk H
  clear H
  go_enter Tryz.func6, Tryz.ntmps6
  go_upto_region 4 with (first | ((with_reducible refine gate_callee (f := 28) rfl ?_); refine goesL_ (some 27) rfl rfl Tryz.func28 (by kernel_rfl) rfl #[] rfl argt ?_; (with_reducible refine (turnstonelaw10_awake.calls  true _ A4.out).mono ?_); rintro e w8 ⟨rfl, hb⟩; refine ⟨_, rfl, ?_⟩; replace HB := belb HB hb; (try clear hb); (try clear hb2); (try clear hk); (try clear hi)) | ((with_reducible refine gate_callee (f := 29) rfl ?_); refine goesL_ (some 32) rfl rfl Tryz.func29 (by kernel_rfl) rfl #[.int .u64 a0, .slice A1 l1.length c1] rfl argt ?_; (with_reducible refine (turnstonelaw10_near.calls k a0 _ _ l1 t480 t481 t482 t483 t484 t485 _ ?side1 ?side2 A6.out).mono ?_); (case side1 => exact (ct (Kd.C_below HR1.out HB.out))); (case side2 => exact HC1.out); rintro e w9 ⟨rfl, hb⟩; refine ⟨_, rfl, ?_⟩; replace HB := belb HB hb; (try clear hb); (try clear hb2); (try clear hk); (try clear hi)) | ((with_reducible refine gate_dst (N := 7) rfl ?_); refine box_event ?hg (N := 7) ?hd (cs := #[.int .u64 0, .int .i64 0, .int .u64 0, .int .u64 0, .int .i64 0]) (t := 33) ?hr ?_; (case hd => rfl); (case hg => rfl); (case hr => first | (go_simp; done) | (go_simp; rfl)); intro gb486 hg w10 hbox hb; have BK486 := Aside0.mk (hbox); have GW486 := bels HB hg; have GE486 := bels HB hg; replace HB := belb HB hb; clear hb hbox hg; have hcz11_0 : w10.cell? ⟨gb486, 0, none⟩ = some (.int .u64 0) := (blk_cell BK486.out 0).trans rfl; have hcz11_1 : w10.cell? ⟨gb486, 1, none⟩ = some (.int .i64 0) := (blk_cell BK486.out 1).trans rfl; have hcz11_2 : w10.cell? ⟨gb486, 2, none⟩ = some (.int .u64 0) := (blk_cell BK486.out 2).trans rfl; have hcz11_3 : w10.cell? ⟨gb486, 3, none⟩ = some (.int .u64 0) := (blk_cell BK486.out 3).trans rfl; have hcz11_4 : w10.cell? ⟨gb486, 4, none⟩ = some (.int .i64 0) := (blk_cell BK486.out 4).trans rfl; have hfz11_0 := blk_frozen BK486.out 0; have hfz11_1 := blk_frozen BK486.out 1; have hfz11_2 := blk_frozen BK486.out 2; have hfz11_3 := blk_frozen BK486.out 3; have hfz11_4 := blk_frozen BK486.out 4))
  (try simp only [Act.put, List.setIfInBounds_toArray, List.set_cons_zero, List.set_cons_succ])
  go_cut [44] (fun v44 wc => ∃ (kq : Nat) (x44_6 : Bool), v44 = .bool x44_6 ∧ Aside0 (turnstonelaw10_PlaceZero.j0 kq l1 a2 x44_6 t480 t481 t482 t483 t484 = some r) ∧ Aside0 (kq ≤ k) ∧ Aside0 (wc.heap[gb486]? = some (.cells #[.int .u64 t480, .int .i64 t481, .int .u64 t482, .int .u64 t483, .int .i64 t484] 33 (0, 0))) ∧ Aside0 (Below w.heap.size w wc))
  case first =>
   have H := HC7.out
   clear HC7
   by_cases c12 : t485 = true
   ·subst c12
    have H1 : (if a2 < 1 then (turnstonelaw10_PlaceZero.j0 k l1 a2 true t480 t481 t482 t483 t484) else (turnstonelaw10_PlaceZero.j0 k l1 a2 (decide (a2 > 1048576)) t480 t481 t482 t483 t484)) = some r := by rw [if_pos rfl] at H; exact H
    clear H
    have H := H1
    clear H1
    by_cases c13 : a2 < 1
    ·rw [if_pos c13] at H
     have c13b0 : decide (a2 < 1) = true := decide_eq_true c13
     clear c13
     (first | rw [c13b0] | (simp only [i64_w, i32_w]; rw [c13b0]) | skip)
     have H' := Aside0.mk H
     clear H
     go_wp2
     go_meet
     case rel => exact ⟨_, (true), (by first | rfl | (simp; done) | (simp [*]; done)), H', ⟨by first | omega | exact Nat.le_refl _⟩, ⟨by (with_reducible repeat (first | refine blk_drewN ?_ _ | refine blk_drew ?_ | refine blk_alloc ?_ _)); refine blk_put (cs := #[.int .u64 t480, .int .i64 t481, .int .u64 t482, .int .u64 t483, .int .i64 0]) ?_ 4 _ rfl; (with_reducible repeat (first | refine blk_drewN ?_ _ | refine blk_drew ?_ | refine blk_alloc ?_ _)); refine blk_put (cs := #[.int .u64 t480, .int .i64 t481, .int .u64 t482, .int .u64 0, .int .i64 0]) ?_ 3 _ rfl; (with_reducible repeat (first | refine blk_drewN ?_ _ | refine blk_drew ?_ | refine blk_alloc ?_ _)); refine blk_put (cs := #[.int .u64 t480, .int .i64 t481, .int .u64 0, .int .u64 0, .int .i64 0]) ?_ 2 _ rfl; (with_reducible repeat (first | refine blk_drewN ?_ _ | refine blk_drew ?_ | refine blk_alloc ?_ _)); refine blk_put (cs := #[.int .u64 t480, .int .i64 0, .int .u64 0, .int .u64 0, .int .i64 0]) ?_ 1 _ rfl; (with_reducible repeat (first | refine blk_drewN ?_ _ | refine blk_drew ?_ | refine blk_alloc ?_ _)); refine blk_put (cs := #[.int .u64 0, .int .i64 0, .int .u64 0, .int .u64 0, .int .i64 0]) ?_ 0 _ rfl; exact blkt BK486⟩, ⟨belt HB⟩⟩
    ·rw [if_neg c13] at H
     have c13b0 : decide (a2 < 1) = false := decide_eq_false c13
     clear c13
     (first | rw [c13b0] | (simp only [i64_w, i32_w]; rw [c13b0]) | skip)
     have H' := Aside0.mk H
     clear H
     go_wp2
     go_meet
     case rel => exact ⟨_, (decide (a2 > 1048576)), (by first | rfl | (simp; done) | (simp [*]; done)), H', ⟨by first | omega | exact Nat.le_refl _⟩, ⟨by (with_reducible repeat (first | refine blk_drewN ?_ _ | refine blk_drew ?_ | refine blk_alloc ?_ _)); refine blk_put (cs := #[.int .u64 t480, .int .i64 t481, .int .u64 t482, .int .u64 t483, .int .i64 0]) ?_ 4 _ rfl; (with_reducible repeat (first | refine blk_drewN ?_ _ | refine blk_drew ?_ | refine blk_alloc ?_ _)); refine blk_put (cs := #[.int .u64 t480, .int .i64 t481, .int .u64 t482, .int .u64 0, .int .i64 0]) ?_ 3 _ rfl; (with_reducible repeat (first | refine blk_drewN ?_ _ | refine blk_drew ?_ | refine blk_alloc ?_ _)); refine blk_put (cs := #[.int .u64 t480, .int .i64 t481, .int .u64 0, .int .u64 0, .int .i64 0]) ?_ 2 _ rfl; (with_reducible repeat (first | refine blk_drewN ?_ _ | refine blk_drew ?_ | refine blk_alloc ?_ _)); refine blk_put (cs := #[.int .u64 t480, .int .i64 0, .int .u64 0, .int .u64 0, .int .i64 0]) ?_ 1 _ rfl; (with_reducible repeat (first | refine blk_drewN ?_ _ | refine blk_drew ?_ | refine blk_alloc ?_ _)); refine blk_put (cs := #[.int .u64 0, .int .i64 0, .int .u64 0, .int .u64 0, .int .i64 0]) ?_ 0 _ rfl; exact blkt BK486⟩, ⟨belt HB⟩⟩
   ·replace c12 := Bool.eq_false_iff.mpr c12
    subst c12
    have H1 : (turnstonelaw10_PlaceZero.j0 k l1 a2 true t480 t481 t482 t483 t484) = some r := by rw [if_neg (show ¬ (false = true) by decide)] at H; exact H
    clear H
    have H := H1
    clear H1
    have H' := Aside0.mk H
    clear H
    go_wp2
    go_meet
    case rel => exact ⟨_, (true), (by first | rfl | (simp; done) | (simp [*]; done)), H', ⟨by first | omega | exact Nat.le_refl _⟩, ⟨by (with_reducible repeat (first | refine blk_drewN ?_ _ | refine blk_drew ?_ | refine blk_alloc ?_ _)); refine blk_put (cs := #[.int .u64 t480, .int .i64 t481, .int .u64 t482, .int .u64 t483, .int .i64 0]) ?_ 4 _ rfl; (with_reducible repeat (first | refine blk_drewN ?_ _ | refine blk_drew ?_ | refine blk_alloc ?_ _)); refine blk_put (cs := #[.int .u64 t480, .int .i64 t481, .int .u64 t482, .int .u64 0, .int .i64 0]) ?_ 3 _ rfl; (with_reducible repeat (first | refine blk_drewN ?_ _ | refine blk_drew ?_ | refine blk_alloc ?_ _)); refine blk_put (cs := #[.int .u64 t480, .int .i64 t481, .int .u64 0, .int .u64 0, .int .i64 0]) ?_ 2 _ rfl; (with_reducible repeat (first | refine blk_drewN ?_ _ | refine blk_drew ?_ | refine blk_alloc ?_ _)); refine blk_put (cs := #[.int .u64 t480, .int .i64 0, .int .u64 0, .int .u64 0, .int .i64 0]) ?_ 1 _ rfl; (with_reducible repeat (first | refine blk_drewN ?_ _ | refine blk_drew ?_ | refine blk_alloc ?_ _)); refine blk_put (cs := #[.int .u64 0, .int .i64 0, .int .u64 0, .int .u64 0, .int .i64 0]) ?_ 0 _ rfl; exact blkt BK486⟩, ⟨belt HB⟩⟩
  case rest =>
   clear HC7
   try clear c1
   try clear c2
   try clear p2
   try clear c5
   try clear c6
   try clear c12
   try clear c13
   try clear c13b0
   try clear hcz11_0
   try clear hcz11_1
   try clear hcz11_2
   try clear hcz11_3
   try clear hcz11_4
   try clear hfz11_0
   try clear hfz11_1
   try clear hfz11_2
   try clear hfz11_3
   try clear hfz11_4
   obtain ⟨kq, x44_6, rfl, HA, HJ6, BK486, HB⟩ := hcut
   cases kq with
   | zero => exact absurd HA.out (by simp [turnstonelaw10_PlaceZero.j0])
   | succ kj6 =>
    have H := HA.out
    clear HA
    simp only [turnstonelaw10_PlaceZero.j0] at H
    by_cases c14 : x44_6 = true
    ·subst c14
     have H1 : (some true) = some r := by rw [if_pos rfl] at H; exact H
     clear H
     have H := H1
     clear H1
     obtain rfl := Option.some.inj H
     go_wp2
     go_ret
     exact ⟨by first | rfl | (simp [errW_none, errW_some] <;> rfl) | (simp [*, errW_none, errW_some] <;> rfl), belt HB⟩
    ·replace c14 := Bool.eq_false_iff.mpr c14
     subst c14
     have H1 : ((place_Place.f kj6 t480 t481 t482 t483 t484 0 a2 0).bind fun bt487 => ((mean_Mean_Add.f kj6 t480 t481 t482 t483 t484 bt487.1 bt487.2.1 bt487.2.2.1).bind fun bt492 => ((mean_Mean_Floor.f kj6 t480 t481 t482 t483 t484).bind fun bt499 => ((mean_Mean_Floor.f kj6 bt492.1 bt492.2.1 bt492.2.2.1 bt492.2.2.2.1 bt492.2.2.2.2.1).bind fun bt501 => (if bt487.2.2.2 = true then (if bt492.2.2.2.2.2 = true then (if bt499.2 = true then (if bt501.2 = true then ((vtime_Time_Since.f bt499.1 bt501.1).bind fun t503 => (if t503 < 0 then (turnstonelaw10_PlaceZero.j1 kj6 l1 true t480 t481 t482 t483 t484 bt492.1 bt492.2.1 bt492.2.2.1 bt492.2.2.2.1 bt492.2.2.2.2.1) else (turnstonelaw10_PlaceZero.j1 kj6 l1 (decide (t503 > 1)) t480 t481 t482 t483 t484 bt492.1 bt492.2.1 bt492.2.2.1 bt492.2.2.2.1 bt492.2.2.2.2.1))) else (turnstonelaw10_PlaceZero.j1 kj6 l1 true t480 t481 t482 t483 t484 bt492.1 bt492.2.1 bt492.2.2.1 bt492.2.2.2.1 bt492.2.2.2.2.1)) else (turnstonelaw10_PlaceZero.j1 kj6 l1 true t480 t481 t482 t483 t484 bt492.1 bt492.2.1 bt492.2.2.1 bt492.2.2.2.1 bt492.2.2.2.2.1)) else (turnstonelaw10_PlaceZero.j1 kj6 l1 true t480 t481 t482 t483 t484 bt492.1 bt492.2.1 bt492.2.2.1 bt492.2.2.2.1 bt492.2.2.2.2.1)) else (turnstonelaw10_PlaceZero.j1 kj6 l1 true t480 t481 t482 t483 t484 bt492.1 bt492.2.1 bt492.2.2.1 bt492.2.2.2.1 bt492.2.2.2.2.1)))))) = some r := by rw [if_neg (show ¬ (false = true) by decide)] at H; exact H
     clear H
     have H := H1
     clear H1
     replace H := Option.bind_eq_some_iff.mp H
     obtain ⟨⟨t487, t488, t489, t490⟩, A150, H⟩ := H
     replace H : ((mean_Mean_Add.f kj6 t480 t481 t482 t483 t484 t487 t488 t489).bind fun bt492 => ((mean_Mean_Floor.f kj6 t480 t481 t482 t483 t484).bind fun bt499 => ((mean_Mean_Floor.f kj6 bt492.1 bt492.2.1 bt492.2.2.1 bt492.2.2.2.1 bt492.2.2.2.2.1).bind fun bt501 => (if t490 = true then (if bt492.2.2.2.2.2 = true then (if bt499.2 = true then (if bt501.2 = true then ((vtime_Time_Since.f bt499.1 bt501.1).bind fun t503 => (if t503 < 0 then (turnstonelaw10_PlaceZero.j1 kj6 l1 true t480 t481 t482 t483 t484 bt492.1 bt492.2.1 bt492.2.2.1 bt492.2.2.2.1 bt492.2.2.2.2.1) else (turnstonelaw10_PlaceZero.j1 kj6 l1 (decide (t503 > 1)) t480 t481 t482 t483 t484 bt492.1 bt492.2.1 bt492.2.2.1 bt492.2.2.2.1 bt492.2.2.2.2.1))) else (turnstonelaw10_PlaceZero.j1 kj6 l1 true t480 t481 t482 t483 t484 bt492.1 bt492.2.1 bt492.2.2.1 bt492.2.2.2.1 bt492.2.2.2.2.1)) else (turnstonelaw10_PlaceZero.j1 kj6 l1 true t480 t481 t482 t483 t484 bt492.1 bt492.2.1 bt492.2.2.1 bt492.2.2.2.1 bt492.2.2.2.2.1)) else (turnstonelaw10_PlaceZero.j1 kj6 l1 true t480 t481 t482 t483 t484 bt492.1 bt492.2.1 bt492.2.2.1 bt492.2.2.2.1 bt492.2.2.2.2.1)) else (turnstonelaw10_PlaceZero.j1 kj6 l1 true t480 t481 t482 t483 t484 bt492.1 bt492.2.1 bt492.2.2.1 bt492.2.2.2.1 bt492.2.2.2.2.1))))) = some r := H
     have A15 := Aside0.mk A150
     clear A150
     replace H := Option.bind_eq_some_iff.mp H
     obtain ⟨⟨t492, t493, t494, t495, t496, t497⟩, A160, H⟩ := H
     replace H : ((mean_Mean_Floor.f kj6 t480 t481 t482 t483 t484).bind fun bt499 => ((mean_Mean_Floor.f kj6 t492 t493 t494 t495 t496).bind fun bt501 => (if t490 = true then (if t497 = true then (if bt499.2 = true then (if bt501.2 = true then ((vtime_Time_Since.f bt499.1 bt501.1).bind fun t503 => (if t503 < 0 then (turnstonelaw10_PlaceZero.j1 kj6 l1 true t480 t481 t482 t483 t484 t492 t493 t494 t495 t496) else (turnstonelaw10_PlaceZero.j1 kj6 l1 (decide (t503 > 1)) t480 t481 t482 t483 t484 t492 t493 t494 t495 t496))) else (turnstonelaw10_PlaceZero.j1 kj6 l1 true t480 t481 t482 t483 t484 t492 t493 t494 t495 t496)) else (turnstonelaw10_PlaceZero.j1 kj6 l1 true t480 t481 t482 t483 t484 t492 t493 t494 t495 t496)) else (turnstonelaw10_PlaceZero.j1 kj6 l1 true t480 t481 t482 t483 t484 t492 t493 t494 t495 t496)) else (turnstonelaw10_PlaceZero.j1 kj6 l1 true t480 t481 t482 t483 t484 t492 t493 t494 t495 t496)))) = some r := H
     have A16 := Aside0.mk A160
     clear A160
     replace H := Option.bind_eq_some_iff.mp H
     obtain ⟨⟨t499, t500⟩, A170, H⟩ := H
     replace H : ((mean_Mean_Floor.f kj6 t492 t493 t494 t495 t496).bind fun bt501 => (if t490 = true then (if t497 = true then (if t500 = true then (if bt501.2 = true then ((vtime_Time_Since.f t499 bt501.1).bind fun t503 => (if t503 < 0 then (turnstonelaw10_PlaceZero.j1 kj6 l1 true t480 t481 t482 t483 t484 t492 t493 t494 t495 t496) else (turnstonelaw10_PlaceZero.j1 kj6 l1 (decide (t503 > 1)) t480 t481 t482 t483 t484 t492 t493 t494 t495 t496))) else (turnstonelaw10_PlaceZero.j1 kj6 l1 true t480 t481 t482 t483 t484 t492 t493 t494 t495 t496)) else (turnstonelaw10_PlaceZero.j1 kj6 l1 true t480 t481 t482 t483 t484 t492 t493 t494 t495 t496)) else (turnstonelaw10_PlaceZero.j1 kj6 l1 true t480 t481 t482 t483 t484 t492 t493 t494 t495 t496)) else (turnstonelaw10_PlaceZero.j1 kj6 l1 true t480 t481 t482 t483 t484 t492 t493 t494 t495 t496))) = some r := H
     have A17 := Aside0.mk A170
     clear A170
     replace H := Option.bind_eq_some_iff.mp H
     obtain ⟨⟨t501, t502⟩, A180, H⟩ := H
     replace H : (if t490 = true then (if t497 = true then (if t500 = true then (if t502 = true then ((vtime_Time_Since.f t499 t501).bind fun t503 => (if t503 < 0 then (turnstonelaw10_PlaceZero.j1 kj6 l1 true t480 t481 t482 t483 t484 t492 t493 t494 t495 t496) else (turnstonelaw10_PlaceZero.j1 kj6 l1 (decide (t503 > 1)) t480 t481 t482 t483 t484 t492 t493 t494 t495 t496))) else (turnstonelaw10_PlaceZero.j1 kj6 l1 true t480 t481 t482 t483 t484 t492 t493 t494 t495 t496)) else (turnstonelaw10_PlaceZero.j1 kj6 l1 true t480 t481 t482 t483 t484 t492 t493 t494 t495 t496)) else (turnstonelaw10_PlaceZero.j1 kj6 l1 true t480 t481 t482 t483 t484 t492 t493 t494 t495 t496)) else (turnstonelaw10_PlaceZero.j1 kj6 l1 true t480 t481 t482 t483 t484 t492 t493 t494 t495 t496)) = some r := H
     have A18 := Aside0.mk A180
     clear A180
     have HC19 := Aside0.mk H
     clear H
     have hcz20_0 : wc.cell? ⟨gb486, 0, none⟩ = some (.int .u64 t480) := (blk_cell BK486.out 0).trans rfl
     have hcz20_1 : wc.cell? ⟨gb486, 1, none⟩ = some (.int .i64 t481) := (blk_cell BK486.out 1).trans rfl
     have hcz20_2 : wc.cell? ⟨gb486, 2, none⟩ = some (.int .u64 t482) := (blk_cell BK486.out 2).trans rfl
     have hcz20_3 : wc.cell? ⟨gb486, 3, none⟩ = some (.int .u64 t483) := (blk_cell BK486.out 3).trans rfl
     have hcz20_4 : wc.cell? ⟨gb486, 4, none⟩ = some (.int .i64 t484) := (blk_cell BK486.out 4).trans rfl
     have hfz20_0 := blk_frozen BK486.out 0
     have hfz20_1 := blk_frozen BK486.out 1
     have hfz20_2 := blk_frozen BK486.out 2
     have hfz20_3 := blk_frozen BK486.out 3
     have hfz20_4 := blk_frozen BK486.out 4
     go_upto_region 10 with (first | ((with_reducible refine gate_callee (f := 30) rfl ?_); refine goesL_ (some 48) rfl rfl Tryz.func30 (by kernel_rfl) rfl #[.agg #[.int .u64 t480, .int .i64 t481, .int .u64 t482, .int .u64 t483, .int .i64 t484], .int .u64 0, .int .u32 a2, .int .i64 0] rfl argt ?_; (with_reducible refine (place_Place.calls kj6 t480 t481 t482 t483 t484 0 a2 0 t487 t488 t489 t490 _ A15.out).mono ?_); rintro e w21 ⟨rfl, hb⟩; refine ⟨_, rfl, ?_⟩; replace BK486 := blkb BK486 hb; replace HB := belb HB hb; (try clear hb); (try clear hb2); (try clear hk); (try clear hi)) | ((with_reducible refine gate_dst (N := 9) rfl ?_); refine box_event ?hg (N := 9) ?hd (cs := #[.int .u64 0, .int .u32 0, .int .u32 0]) (t := 28) ?hr ?_; (case hd => rfl); (case hg => rfl); (case hr => first | (go_simp; done) | (go_simp; rfl)); intro gb491 hg w22 hbox hb; have BK491 := Aside0.mk (hbox); have GW491 := bels HB hg; have GE491 := bels HB hg; have NB486_491 := blkl BK486 hg; have NB491_486 := blkg BK486 hg; replace BK486 := blkb BK486 hb; replace HB := belb HB hb; clear hb hbox hg; have hnb23 := NB491_486.out; have hnc23 := NB486_491.out; have hcz24_0 : w22.cell? ⟨gb491, 0, none⟩ = some (.int .u64 0) := (blk_cell BK491.out 0).trans rfl; have hcz24_1 : w22.cell? ⟨gb491, 1, none⟩ = some (.int .u32 0) := (blk_cell BK491.out 1).trans rfl; have hcz24_2 : w22.cell? ⟨gb491, 2, none⟩ = some (.int .u32 0) := (blk_cell BK491.out 2).trans rfl; have hfz24_0 := blk_frozen BK491.out 0; have hfz24_1 := blk_frozen BK491.out 1; have hfz24_2 := blk_frozen BK491.out 2; have hcz25_0 : w22.cell? ⟨gb486, 0, none⟩ = some (.int .u64 t480) := (blk_cell BK486.out 0).trans rfl; have hcz25_1 : w22.cell? ⟨gb486, 1, none⟩ = some (.int .i64 t481) := (blk_cell BK486.out 1).trans rfl; have hcz25_2 : w22.cell? ⟨gb486, 2, none⟩ = some (.int .u64 t482) := (blk_cell BK486.out 2).trans rfl; have hcz25_3 : w22.cell? ⟨gb486, 3, none⟩ = some (.int .u64 t483) := (blk_cell BK486.out 3).trans rfl; have hcz25_4 : w22.cell? ⟨gb486, 4, none⟩ = some (.int .i64 t484) := (blk_cell BK486.out 4).trans rfl; have hfz25_0 := blk_frozen BK486.out 0; have hfz25_1 := blk_frozen BK486.out 1; have hfz25_2 := blk_frozen BK486.out 2; have hfz25_3 := blk_frozen BK486.out 3; have hfz25_4 := blk_frozen BK486.out 4) | ((with_reducible refine gate_callee (f := 25) rfl ?_); refine goesL_ (some 54) rfl rfl Tryz.func25 (by kernel_rfl) rfl #[.agg #[.int .u64 t480, .int .i64 t481, .int .u64 t482, .int .u64 t483, .int .i64 t484], .agg #[.int .u64 t487, .int .u32 t488, .int .u32 t489]] rfl argt ?_; (with_reducible refine (mean_Mean_Add.calls kj6 t480 t481 t482 t483 t484 t487 t488 t489 t492 t493 t494 t495 t496 t497 _ A16.out).mono ?_); rintro e w26 ⟨rfl, hb⟩; refine ⟨_, rfl, ?_⟩; replace BK486 := Aside0.mk (blk_below (g := gb486) (o := .cells #[.int .u64 t480, .int .i64 t481, .int .u64 t482, .int .u64 t483, .int .i64 t484] 33 (0, 0)) (by (with_reducible repeat (first | refine blk_drewN ?_ _ | refine blk_drew ?_ | refine blk_alloc ?_ _)); refine blk_far ?_ NB486_491.out _; (with_reducible repeat (first | refine blk_drewN ?_ _ | refine blk_drew ?_ | refine blk_alloc ?_ _)); refine blk_far ?_ NB486_491.out _; (with_reducible repeat (first | refine blk_drewN ?_ _ | refine blk_drew ?_ | refine blk_alloc ?_ _)); refine blk_far ?_ NB486_491.out _; exact blkt BK486) hb); replace BK491 := Aside0.mk (blk_below (g := gb491) (o := .cells #[.int .u64 t487, .int .u32 t488, .int .u32 t489] 28 (0, 0)) (by (with_reducible repeat (first | refine blk_drewN ?_ _ | refine blk_drew ?_ | refine blk_alloc ?_ _)); refine blk_put (cs := #[.int .u64 t487, .int .u32 t488, .int .u32 0]) ?_ 2 _ rfl; (with_reducible repeat (first | refine blk_drewN ?_ _ | refine blk_drew ?_ | refine blk_alloc ?_ _)); refine blk_put (cs := #[.int .u64 t487, .int .u32 0, .int .u32 0]) ?_ 1 _ rfl; (with_reducible repeat (first | refine blk_drewN ?_ _ | refine blk_drew ?_ | refine blk_alloc ?_ _)); refine blk_put (cs := #[.int .u64 0, .int .u32 0, .int .u32 0]) ?_ 0 _ rfl; exact blkt BK491) hb); replace HB := belb HB hb; (try clear hb); (try clear hb2); (try clear hk); (try clear hi)) | ((with_reducible refine gate_dst (N := 11) rfl ?_); refine box_event ?hg (N := 11) ?hd (cs := #[.int .u64 0, .int .i64 0, .int .u64 0, .int .u64 0, .int .i64 0]) (t := 33) ?hr ?_; (case hd => rfl); (case hg => rfl); (case hr => first | (go_simp; done) | (go_simp; rfl)); intro gb498 hg w27 hbox hb; have BK498 := Aside0.mk (hbox); have GW498 := bels HB hg; have GE498 := bels HB hg; have NB486_498 := blkl BK486 hg; have NB498_486 := blkg BK486 hg; have NB491_498 := blkl BK491 hg; have NB498_491 := blkg BK491 hg; replace BK486 := blkb BK486 hb; replace BK491 := blkb BK491 hb; replace HB := belb HB hb; clear hb hbox hg; have hnb28 := NB498_486.out; have hnc28 := NB486_498.out; have hnb29 := NB498_491.out; have hnc29 := NB491_498.out; have hcz30_0 : w27.cell? ⟨gb498, 0, none⟩ = some (.int .u64 0) := (blk_cell BK498.out 0).trans rfl; have hcz30_1 : w27.cell? ⟨gb498, 1, none⟩ = some (.int .i64 0) := (blk_cell BK498.out 1).trans rfl; have hcz30_2 : w27.cell? ⟨gb498, 2, none⟩ = some (.int .u64 0) := (blk_cell BK498.out 2).trans rfl; have hcz30_3 : w27.cell? ⟨gb498, 3, none⟩ = some (.int .u64 0) := (blk_cell BK498.out 3).trans rfl; have hcz30_4 : w27.cell? ⟨gb498, 4, none⟩ = some (.int .i64 0) := (blk_cell BK498.out 4).trans rfl; have hfz30_0 := blk_frozen BK498.out 0; have hfz30_1 := blk_frozen BK498.out 1; have hfz30_2 := blk_frozen BK498.out 2; have hfz30_3 := blk_frozen BK498.out 3; have hfz30_4 := blk_frozen BK498.out 4; have hcz31_0 : w27.cell? ⟨gb486, 0, none⟩ = some (.int .u64 t480) := (blk_cell BK486.out 0).trans rfl; have hcz31_1 : w27.cell? ⟨gb486, 1, none⟩ = some (.int .i64 t481) := (blk_cell BK486.out 1).trans rfl; have hcz31_2 : w27.cell? ⟨gb486, 2, none⟩ = some (.int .u64 t482) := (blk_cell BK486.out 2).trans rfl; have hcz31_3 : w27.cell? ⟨gb486, 3, none⟩ = some (.int .u64 t483) := (blk_cell BK486.out 3).trans rfl; have hcz31_4 : w27.cell? ⟨gb486, 4, none⟩ = some (.int .i64 t484) := (blk_cell BK486.out 4).trans rfl; have hfz31_0 := blk_frozen BK486.out 0; have hfz31_1 := blk_frozen BK486.out 1; have hfz31_2 := blk_frozen BK486.out 2; have hfz31_3 := blk_frozen BK486.out 3; have hfz31_4 := blk_frozen BK486.out 4) | ((with_reducible refine gate_callee (f := 32) rfl ?_); refine goesL_ (some 59) rfl rfl Tryz.func32 (by kernel_rfl) rfl #[.agg #[.int .u64 t480, .int .i64 t481, .int .u64 t482, .int .u64 t483, .int .i64 t484]] rfl argt ?_; (with_reducible refine (mean_Mean_Floor.calls kj6 t480 t481 t482 t483 t484 t499 t500 _ A17.out).mono ?_); rintro e w32 ⟨rfl, hb⟩; refine ⟨_, rfl, ?_⟩; replace BK486 := Aside0.mk (blk_below (g := gb486) (o := .cells #[.int .u64 t480, .int .i64 t481, .int .u64 t482, .int .u64 t483, .int .i64 t484] 33 (0, 0)) (by (with_reducible repeat (first | refine blk_drewN ?_ _ | refine blk_drew ?_ | refine blk_alloc ?_ _)); refine blk_far ?_ NB486_498.out _; (with_reducible repeat (first | refine blk_drewN ?_ _ | refine blk_drew ?_ | refine blk_alloc ?_ _)); refine blk_far ?_ NB486_498.out _; (with_reducible repeat (first | refine blk_drewN ?_ _ | refine blk_drew ?_ | refine blk_alloc ?_ _)); refine blk_far ?_ NB486_498.out _; (with_reducible repeat (first | refine blk_drewN ?_ _ | refine blk_drew ?_ | refine blk_alloc ?_ _)); refine blk_far ?_ NB486_498.out _; (with_reducible repeat (first | refine blk_drewN ?_ _ | refine blk_drew ?_ | refine blk_alloc ?_ _)); refine blk_far ?_ NB486_498.out _; exact blkt BK486) hb); replace BK491 := Aside0.mk (blk_below (g := gb491) (o := .cells #[.int .u64 t487, .int .u32 t488, .int .u32 t489] 28 (0, 0)) (by (with_reducible repeat (first | refine blk_drewN ?_ _ | refine blk_drew ?_ | refine blk_alloc ?_ _)); refine blk_far ?_ NB491_498.out _; (with_reducible repeat (first | refine blk_drewN ?_ _ | refine blk_drew ?_ | refine blk_alloc ?_ _)); refine blk_far ?_ NB491_498.out _; (with_reducible repeat (first | refine blk_drewN ?_ _ | refine blk_drew ?_ | refine blk_alloc ?_ _)); refine blk_far ?_ NB491_498.out _; (with_reducible repeat (first | refine blk_drewN ?_ _ | refine blk_drew ?_ | refine blk_alloc ?_ _)); refine blk_far ?_ NB491_498.out _; (with_reducible repeat (first | refine blk_drewN ?_ _ | refine blk_drew ?_ | refine blk_alloc ?_ _)); refine blk_far ?_ NB491_498.out _; exact blkt BK491) hb); replace BK498 := Aside0.mk (blk_below (g := gb498) (o := .cells #[.int .u64 t492, .int .i64 t493, .int .u64 t494, .int .u64 t495, .int .i64 t496] 33 (0, 0)) (by (with_reducible repeat (first | refine blk_drewN ?_ _ | refine blk_drew ?_ | refine blk_alloc ?_ _)); refine blk_put (cs := #[.int .u64 t492, .int .i64 t493, .int .u64 t494, .int .u64 t495, .int .i64 0]) ?_ 4 _ rfl; (with_reducible repeat (first | refine blk_drewN ?_ _ | refine blk_drew ?_ | refine blk_alloc ?_ _)); refine blk_put (cs := #[.int .u64 t492, .int .i64 t493, .int .u64 t494, .int .u64 0, .int .i64 0]) ?_ 3 _ rfl; (with_reducible repeat (first | refine blk_drewN ?_ _ | refine blk_drew ?_ | refine blk_alloc ?_ _)); refine blk_put (cs := #[.int .u64 t492, .int .i64 t493, .int .u64 0, .int .u64 0, .int .i64 0]) ?_ 2 _ rfl; (with_reducible repeat (first | refine blk_drewN ?_ _ | refine blk_drew ?_ | refine blk_alloc ?_ _)); refine blk_put (cs := #[.int .u64 t492, .int .i64 0, .int .u64 0, .int .u64 0, .int .i64 0]) ?_ 1 _ rfl; (with_reducible repeat (first | refine blk_drewN ?_ _ | refine blk_drew ?_ | refine blk_alloc ?_ _)); refine blk_put (cs := #[.int .u64 0, .int .i64 0, .int .u64 0, .int .u64 0, .int .i64 0]) ?_ 0 _ rfl; exact blkt BK498) hb); replace HB := belb HB hb; (try clear hb); (try clear hb2); (try clear hk); (try clear hi); have hcz33_0 : w32.cell? ⟨gb498, 0, none⟩ = some (.int .u64 t492) := (blk_cell BK498.out 0).trans rfl; have hcz33_1 : w32.cell? ⟨gb498, 1, none⟩ = some (.int .i64 t493) := (blk_cell BK498.out 1).trans rfl; have hcz33_2 : w32.cell? ⟨gb498, 2, none⟩ = some (.int .u64 t494) := (blk_cell BK498.out 2).trans rfl; have hcz33_3 : w32.cell? ⟨gb498, 3, none⟩ = some (.int .u64 t495) := (blk_cell BK498.out 3).trans rfl; have hcz33_4 : w32.cell? ⟨gb498, 4, none⟩ = some (.int .i64 t496) := (blk_cell BK498.out 4).trans rfl; have hfz33_0 := blk_frozen BK498.out 0; have hfz33_1 := blk_frozen BK498.out 1; have hfz33_2 := blk_frozen BK498.out 2; have hfz33_3 := blk_frozen BK498.out 3; have hfz33_4 := blk_frozen BK498.out 4) | ((with_reducible refine gate_callee (f := 32) rfl ?_); refine goesL_ (some 64) rfl rfl Tryz.func32 (by kernel_rfl) rfl #[.agg #[.int .u64 t492, .int .i64 t493, .int .u64 t494, .int .u64 t495, .int .i64 t496]] rfl argt ?_; (with_reducible refine (mean_Mean_Floor.calls kj6 t492 t493 t494 t495 t496 t501 t502 _ A18.out).mono ?_); rintro e w34 ⟨rfl, hb⟩; refine ⟨_, rfl, ?_⟩; replace BK486 := blkb BK486 hb; replace BK491 := blkb BK491 hb; replace BK498 := blkb BK498 hb; replace HB := belb HB hb; (try clear hb); (try clear hb2); (try clear hk); (try clear hi)))
     (try simp only [Act.put, List.setIfInBounds_toArray, List.set_cons_zero, List.set_cons_succ])
     go_cut [92] (fun v92 wc => ∃ (kq : Nat) (x92_18 : Bool), v92 = .bool x92_18 ∧ Aside0 (turnstonelaw10_PlaceZero.j1 kq l1 x92_18 t480 t481 t482 t483 t484 t492 t493 t494 t495 t496 = some r) ∧ Aside0 (kq ≤ kj6) ∧ Aside0 (wc.heap[gb486]? = some (.cells #[.int .u64 t480, .int .i64 t481, .int .u64 t482, .int .u64 t483, .int .i64 t484] 33 (0, 0))) ∧ Aside0 (wc.heap[gb491]? = some (.cells #[.int .u64 t487, .int .u32 t488, .int .u32 t489] 28 (0, 0))) ∧ Aside0 (wc.heap[gb498]? = some (.cells #[.int .u64 t492, .int .i64 t493, .int .u64 t494, .int .u64 t495, .int .i64 t496] 33 (0, 0))) ∧ Aside0 (Below w.heap.size w wc))
     case first =>
      have H := HC19.out
      clear HC19
      by_cases c35 : t490 = true
      ·subst c35
       have H1 : (if t497 = true then (if t500 = true then (if t502 = true then ((vtime_Time_Since.f t499 t501).bind fun t503 => (if t503 < 0 then (turnstonelaw10_PlaceZero.j1 kj6 l1 true t480 t481 t482 t483 t484 t492 t493 t494 t495 t496) else (turnstonelaw10_PlaceZero.j1 kj6 l1 (decide (t503 > 1)) t480 t481 t482 t483 t484 t492 t493 t494 t495 t496))) else (turnstonelaw10_PlaceZero.j1 kj6 l1 true t480 t481 t482 t483 t484 t492 t493 t494 t495 t496)) else (turnstonelaw10_PlaceZero.j1 kj6 l1 true t480 t481 t482 t483 t484 t492 t493 t494 t495 t496)) else (turnstonelaw10_PlaceZero.j1 kj6 l1 true t480 t481 t482 t483 t484 t492 t493 t494 t495 t496)) = some r := by rw [if_pos rfl] at H; exact H
       clear H
       have H := H1
       clear H1
       by_cases c36 : t497 = true
       ·subst c36
        have H1 : (if t500 = true then (if t502 = true then ((vtime_Time_Since.f t499 t501).bind fun t503 => (if t503 < 0 then (turnstonelaw10_PlaceZero.j1 kj6 l1 true t480 t481 t482 t483 t484 t492 t493 t494 t495 t496) else (turnstonelaw10_PlaceZero.j1 kj6 l1 (decide (t503 > 1)) t480 t481 t482 t483 t484 t492 t493 t494 t495 t496))) else (turnstonelaw10_PlaceZero.j1 kj6 l1 true t480 t481 t482 t483 t484 t492 t493 t494 t495 t496)) else (turnstonelaw10_PlaceZero.j1 kj6 l1 true t480 t481 t482 t483 t484 t492 t493 t494 t495 t496)) = some r := by rw [if_pos rfl] at H; exact H
        clear H
        have H := H1
        clear H1
        by_cases c37 : t500 = true
        ·subst c37
         have H1 : (if t502 = true then ((vtime_Time_Since.f t499 t501).bind fun t503 => (if t503 < 0 then (turnstonelaw10_PlaceZero.j1 kj6 l1 true t480 t481 t482 t483 t484 t492 t493 t494 t495 t496) else (turnstonelaw10_PlaceZero.j1 kj6 l1 (decide (t503 > 1)) t480 t481 t482 t483 t484 t492 t493 t494 t495 t496))) else (turnstonelaw10_PlaceZero.j1 kj6 l1 true t480 t481 t482 t483 t484 t492 t493 t494 t495 t496)) = some r := by rw [if_pos rfl] at H; exact H
         clear H
         have H := H1
         clear H1
         by_cases c38 : t502 = true
         ·subst c38
          have H1 : ((vtime_Time_Since.f t499 t501).bind fun t503 => (if t503 < 0 then (turnstonelaw10_PlaceZero.j1 kj6 l1 true t480 t481 t482 t483 t484 t492 t493 t494 t495 t496) else (turnstonelaw10_PlaceZero.j1 kj6 l1 (decide (t503 > 1)) t480 t481 t482 t483 t484 t492 t493 t494 t495 t496))) = some r := by rw [if_pos rfl] at H; exact H
          clear H
          have H := H1
          clear H1
          replace H := Option.bind_eq_some_iff.mp H
          obtain ⟨t503, A390, H⟩ := H
          replace H : (if t503 < 0 then (turnstonelaw10_PlaceZero.j1 kj6 l1 true t480 t481 t482 t483 t484 t492 t493 t494 t495 t496) else (turnstonelaw10_PlaceZero.j1 kj6 l1 (decide (t503 > 1)) t480 t481 t482 t483 t484 t492 t493 t494 t495 t496)) = some r := H
          have A39 := Aside0.mk A390
          clear A390
          by_cases c40 : t503 < 0
          ·rw [if_pos c40] at H
           have c40b0 : decide (t503 < 0) = true := decide_eq_true c40
           clear c40
           (first | rw [c40b0] | (simp only [i64_w, i32_w]; rw [c40b0]) | skip)
           have H' := Aside0.mk H
           clear H
           go_wp2_with (first | (go_at_call 16; (with_reducible refine (vtime_Time_Since.calls t499 t501 t503 _ A39.out).mono ?_); rintro e w' ⟨rfl, ⟨nd, rfl⟩⟩))
           go_meet
           case rel => exact ⟨_, (true), (by first | rfl | (simp; done) | (simp [*]; done)), H', ⟨by have := HJ6.out; first | omega | exact Nat.le_refl _⟩, ⟨blkt BK486⟩, ⟨blkt BK491⟩, ⟨blkt BK498⟩, ⟨belt HB⟩⟩
          ·rw [if_neg c40] at H
           have c40b0 : decide (t503 < 0) = false := decide_eq_false c40
           clear c40
           (first | rw [c40b0] | (simp only [i64_w, i32_w]; rw [c40b0]) | skip)
           have H' := Aside0.mk H
           clear H
           go_wp2_with (first | (go_at_call 16; (with_reducible refine (vtime_Time_Since.calls t499 t501 t503 _ A39.out).mono ?_); rintro e w' ⟨rfl, ⟨nd, rfl⟩⟩))
           go_meet
           case rel => exact ⟨_, (decide (t503 > 1)), (by first | rfl | (simp; done) | (simp [*]; done)), H', ⟨by have := HJ6.out; first | omega | exact Nat.le_refl _⟩, ⟨blkt BK486⟩, ⟨blkt BK491⟩, ⟨blkt BK498⟩, ⟨belt HB⟩⟩
         ·replace c38 := Bool.eq_false_iff.mpr c38
          subst c38
          have H1 : (turnstonelaw10_PlaceZero.j1 kj6 l1 true t480 t481 t482 t483 t484 t492 t493 t494 t495 t496) = some r := by rw [if_neg (show ¬ (false = true) by decide)] at H; exact H
          clear H
          have H := H1
          clear H1
          have H' := Aside0.mk H
          clear H
          go_wp2
          go_meet
          case rel => exact ⟨_, (true), (by first | rfl | (simp; done) | (simp [*]; done)), H', ⟨by have := HJ6.out; first | omega | exact Nat.le_refl _⟩, ⟨blkt BK486⟩, ⟨blkt BK491⟩, ⟨blkt BK498⟩, ⟨belt HB⟩⟩
        ·replace c37 := Bool.eq_false_iff.mpr c37
         subst c37
         have H1 : (turnstonelaw10_PlaceZero.j1 kj6 l1 true t480 t481 t482 t483 t484 t492 t493 t494 t495 t496) = some r := by rw [if_neg (show ¬ (false = true) by decide)] at H; exact H
         clear H
         have H := H1
         clear H1
         have H' := Aside0.mk H
         clear H
         go_wp2
         go_meet
         case rel => exact ⟨_, (true), (by first | rfl | (simp; done) | (simp [*]; done)), H', ⟨by have := HJ6.out; first | omega | exact Nat.le_refl _⟩, ⟨blkt BK486⟩, ⟨blkt BK491⟩, ⟨blkt BK498⟩, ⟨belt HB⟩⟩
       ·replace c36 := Bool.eq_false_iff.mpr c36
        subst c36
        have H1 : (turnstonelaw10_PlaceZero.j1 kj6 l1 true t480 t481 t482 t483 t484 t492 t493 t494 t495 t496) = some r := by rw [if_neg (show ¬ (false = true) by decide)] at H; exact H
        clear H
        have H := H1
        clear H1
        have H' := Aside0.mk H
        clear H
        go_wp2
        go_meet
        case rel => exact ⟨_, (true), (by first | rfl | (simp; done) | (simp [*]; done)), H', ⟨by have := HJ6.out; first | omega | exact Nat.le_refl _⟩, ⟨blkt BK486⟩, ⟨blkt BK491⟩, ⟨blkt BK498⟩, ⟨belt HB⟩⟩
      ·replace c35 := Bool.eq_false_iff.mpr c35
       subst c35
       have H1 : (turnstonelaw10_PlaceZero.j1 kj6 l1 true t480 t481 t482 t483 t484 t492 t493 t494 t495 t496) = some r := by rw [if_neg (show ¬ (false = true) by decide)] at H; exact H
       clear H
       have H := H1
       clear H1
       have H' := Aside0.mk H
       clear H
       go_wp2
       go_meet
       case rel => exact ⟨_, (true), (by first | rfl | (simp; done) | (simp [*]; done)), H', ⟨by have := HJ6.out; first | omega | exact Nat.le_refl _⟩, ⟨blkt BK486⟩, ⟨blkt BK491⟩, ⟨blkt BK498⟩, ⟨belt HB⟩⟩
     case rest =>
      clear HC19
      try clear c1
      try clear c2
      try clear p2
      try clear c3
      try clear c4
      try clear c5
      try clear c6
      try clear c12
      try clear c13
      try clear c13b0
      try clear c14
      try clear c23
      try clear c25
      try clear c28
      try clear c29
      try clear c30
      try clear c32
      try clear c35
      try clear c36
      try clear c37
      try clear c38
      try clear c40
      try clear c40b0
      try clear hcz11_0
      try clear hcz11_1
      try clear hcz11_2
      try clear hcz11_3
      try clear hcz11_4
      try clear hcz20_0
      try clear hcz20_1
      try clear hcz20_2
      try clear hcz20_3
      try clear hcz20_4
      try clear hcz24_0
      try clear hcz24_1
      try clear hcz24_2
      try clear hcz25_0
      try clear hcz25_1
      try clear hcz25_2
      try clear hcz25_3
      try clear hcz25_4
      try clear hcz30_0
      try clear hcz30_1
      try clear hcz30_2
      try clear hcz30_3
      try clear hcz30_4
      try clear hcz31_0
      try clear hcz31_1
      try clear hcz31_2
      try clear hcz31_3
      try clear hcz31_4
      try clear hcz33_0
      try clear hcz33_1
      try clear hcz33_2
      try clear hcz33_3
      try clear hcz33_4
      try clear hfz11_0
      try clear hfz11_1
      try clear hfz11_2
      try clear hfz11_3
      try clear hfz11_4
      try clear hfz20_0
      try clear hfz20_1
      try clear hfz20_2
      try clear hfz20_3
      try clear hfz20_4
      try clear hfz24_0
      try clear hfz24_1
      try clear hfz24_2
      try clear hfz25_0
      try clear hfz25_1
      try clear hfz25_2
      try clear hfz25_3
      try clear hfz25_4
      try clear hfz30_0
      try clear hfz30_1
      try clear hfz30_2
      try clear hfz30_3
      try clear hfz30_4
      try clear hfz31_0
      try clear hfz31_1
      try clear hfz31_2
      try clear hfz31_3
      try clear hfz31_4
      try clear hfz33_0
      try clear hfz33_1
      try clear hfz33_2
      try clear hfz33_3
      try clear hfz33_4
      try clear p2
      obtain ⟨kq, x92_18, rfl, HA, HJ18, BK486, BK491, BK498, HB⟩ := hcut
      cases kq with
      | zero => exact absurd HA.out (by simp [turnstonelaw10_PlaceZero.j1])
      | succ kj18 =>
       have H := HA.out
       clear HA
       simp only [turnstonelaw10_PlaceZero.j1] at H
       by_cases c41 : x92_18 = true
       ·subst c41
        have H1 : (none) = some r := by rw [if_pos rfl] at H; exact H
        clear H
        have H := H1
        clear H1
        exact absurd H (by simp)
       ·replace c41 := Bool.eq_false_iff.mpr c41
        subst c41
        have H1 : (turnstonelaw10_PlaceZero.l0 kj18 l1 (l1.length : Int) 0 t480 t481 t482 t483 t484 t492 t493 t494 t495 t496) = some r := by rw [if_neg (show ¬ (false = true) by decide)] at H; exact H
        clear H
        have H := H1
        clear H1
        have H' := Aside0.mk H
        clear H
        go_wp2
        (try simp only [Act.put, List.setIfInBounds_toArray, List.set_cons_zero, List.set_cons_succ])
        go_loopg [95] kj18 (fun kq v95 w' => ∃ (x95_3 : Int), v95 = .int .i64 x95_3 ∧ Aside0 (turnstonelaw10_PlaceZero.l0 kq l1 (l1.length : Int) x95_3 t480 t481 t482 t483 t484 t492 t493 t494 t495 t496 = some r) ∧ Aside0 (kq ≤ kj18) ∧ Aside0 (w'.heap[gb486]? = some (.cells #[.int .u64 t480, .int .i64 t481, .int .u64 t482, .int .u64 t483, .int .i64 t484] 33 (0, 0))) ∧ Aside0 (w'.heap[gb491]? = some (.cells #[.int .u64 t487, .int .u32 t488, .int .u32 t489] 28 (0, 0))) ∧ Aside0 (w'.heap[gb498]? = some (.cells #[.int .u64 t492, .int .i64 t493, .int .u64 t494, .int .u64 t495, .int .i64 t496] 33 (0, 0))) ∧ Aside0 (Below w.heap.size w w'))
        case atStart => exact ⟨(0), (by first | rfl | (simp; done) | (simp [*]; done)), H', ⟨Nat.le_refl _⟩, ⟨blkt BK486⟩, ⟨blkt BK491⟩, ⟨blkt BK498⟩, ⟨belt HB⟩⟩
        case round =>
         clear H'
         try clear c1
         try clear c2
         try clear p2
         try clear c3
         try clear c4
         try clear c5
         try clear c6
         try clear c12
         try clear c13
         try clear c13b0
         try clear c14
         try clear c23
         try clear c25
         try clear c28
         try clear c29
         try clear c30
         try clear c32
         try clear c35
         try clear c36
         try clear c37
         try clear c38
         try clear c40
         try clear c40b0
         try clear c41
         try clear hcz11_0
         try clear hcz11_1
         try clear hcz11_2
         try clear hcz11_3
         try clear hcz11_4
         try clear hcz20_0
         try clear hcz20_1
         try clear hcz20_2
         try clear hcz20_3
         try clear hcz20_4
         try clear hcz24_0
         try clear hcz24_1
         try clear hcz24_2
         try clear hcz25_0
         try clear hcz25_1
         try clear hcz25_2
         try clear hcz25_3
         try clear hcz25_4
         try clear hcz30_0
         try clear hcz30_1
         try clear hcz30_2
         try clear hcz30_3
         try clear hcz30_4
         try clear hcz31_0
         try clear hcz31_1
         try clear hcz31_2
         try clear hcz31_3
         try clear hcz31_4
         try clear hcz33_0
         try clear hcz33_1
         try clear hcz33_2
         try clear hcz33_3
         try clear hcz33_4
         try clear hfz11_0
         try clear hfz11_1
         try clear hfz11_2
         try clear hfz11_3
         try clear hfz11_4
         try clear hfz20_0
         try clear hfz20_1
         try clear hfz20_2
         try clear hfz20_3
         try clear hfz20_4
         try clear hfz24_0
         try clear hfz24_1
         try clear hfz24_2
         try clear hfz25_0
         try clear hfz25_1
         try clear hfz25_2
         try clear hfz25_3
         try clear hfz25_4
         try clear hfz30_0
         try clear hfz30_1
         try clear hfz30_2
         try clear hfz30_3
         try clear hfz30_4
         try clear hfz31_0
         try clear hfz31_1
         try clear hfz31_2
         try clear hfz31_3
         try clear hfz31_4
         try clear hfz33_0
         try clear hfz33_1
         try clear hfz33_2
         try clear hfz33_3
         try clear hfz33_4
         try clear p2
         obtain ⟨x95_3, rfl, HA, HK3, BK486, BK491, BK498, HB⟩ := hrel
         cases gk with
         | zero => exact absurd HA.out (by simp [turnstonelaw10_PlaceZero.l0])
         | succ k3 =>
          have H := HA.out
          clear HA
          simp only [turnstonelaw10_PlaceZero.l0] at H
          by_cases c42 : x95_3 < (l1.length : Int)
          ·rw [if_pos c42] at H
           have c42b0 : decide (x95_3 < (l1.length : Int)) = true := decide_eq_true c42
           clear c42
           by_cases c43 : 0 ≤ x95_3
           ·rw [if_pos c43] at H
            have c43b0 : decide (0 ≤ x95_3) = true := decide_eq_true c43
            clear c43
            by_cases c44 : x95_3 < (l1.length : Int)
            ·rw [if_pos c44] at H
             have c44b0 : decide (x95_3 < (l1.length : Int)) = true := decide_eq_true c44
             clear c44
             replace H := Option.bind_eq_some_iff.mp H
             obtain ⟨⟨t506, t507, t508⟩, A450, H⟩ := H
             replace H : ((lag_Read.f k3 t492 t493 t494 t495 t496 ((rd_T28 l1 x95_3).f0) ((rd_T28 l1 x95_3).f1) ((rd_T28 l1 x95_3).f2)).bind fun bt510 => ((wide_Int_Sub.f t506 t507 bt510.1 bt510.2.1).bind fun bt514 => ((wide_Int_Small.f bt514.1 bt514.2.1).bind fun bt518 => (if bt518.2 = true then (if bt518.1 < 0 then (none) else (if bt518.1 > 1 then (none) else (turnstonelaw10_PlaceZero.l0 k3 l1 (l1.length : Int) (wrap64 (x95_3 + 1)) t480 t481 t482 t483 t484 t492 t493 t494 t495 t496))) else (none))))) = some r := H
             have A45 := Aside0.mk A450
             clear A450
             replace H := Option.bind_eq_some_iff.mp H
             obtain ⟨⟨t510, t511, t512⟩, A460, H⟩ := H
             replace H : ((wide_Int_Sub.f t506 t507 t510 t511).bind fun bt514 => ((wide_Int_Small.f bt514.1 bt514.2.1).bind fun bt518 => (if bt518.2 = true then (if bt518.1 < 0 then (none) else (if bt518.1 > 1 then (none) else (turnstonelaw10_PlaceZero.l0 k3 l1 (l1.length : Int) (wrap64 (x95_3 + 1)) t480 t481 t482 t483 t484 t492 t493 t494 t495 t496))) else (none)))) = some r := H
             have A46 := Aside0.mk A460
             clear A460
             replace H := Option.bind_eq_some_iff.mp H
             obtain ⟨⟨t514, t515, t516⟩, A470, H⟩ := H
             replace H : ((wide_Int_Small.f t514 t515).bind fun bt518 => (if bt518.2 = true then (if bt518.1 < 0 then (none) else (if bt518.1 > 1 then (none) else (turnstonelaw10_PlaceZero.l0 k3 l1 (l1.length : Int) (wrap64 (x95_3 + 1)) t480 t481 t482 t483 t484 t492 t493 t494 t495 t496))) else (none))) = some r := H
             have A47 := Aside0.mk A470
             clear A470
             replace H := Option.bind_eq_some_iff.mp H
             obtain ⟨⟨t518, t519⟩, A480, H⟩ := H
             replace H : (if t519 = true then (if t518 < 0 then (none) else (if t518 > 1 then (none) else (turnstonelaw10_PlaceZero.l0 k3 l1 (l1.length : Int) (wrap64 (x95_3 + 1)) t480 t481 t482 t483 t484 t492 t493 t494 t495 t496))) else (none)) = some r := H
             have A48 := Aside0.mk A480
             clear A480
             by_cases c49 : t519 = true
             ·subst c49
              have H1 : (if t518 < 0 then (none) else (if t518 > 1 then (none) else (turnstonelaw10_PlaceZero.l0 k3 l1 (l1.length : Int) (wrap64 (x95_3 + 1)) t480 t481 t482 t483 t484 t492 t493 t494 t495 t496))) = some r := by rw [if_pos rfl] at H; exact H
              clear H
              have H := H1
              clear H1
              by_cases c50 : t518 < 0
              ·rw [if_pos c50] at H
               exact absurd H (by simp)
              ·rw [if_neg c50] at H
               have c50b0 : decide (t518 < 0) = false := decide_eq_false c50
               clear c50
               by_cases c51 : t518 > 1
               ·rw [if_pos c51] at H
                exact absurd H (by simp)
               ·rw [if_neg c51] at H
                have c51b0 : decide (1 < t518) = false := decide_eq_false c51
                clear c51
                have H' := Aside0.mk H
                clear H
                have p504 : 0 ≤ (x95_3 : Int) := of_decide_eq_true (by first | (with_reducible assumption) | assumption)
                have q504 : x95_3 < (l1.length : Int) := of_decide_eq_true (by first | (with_reducible assumption) | assumption)
                obtain ⟨ad504, e504, hx504_0, hx504_1, hx504_2⟩ := at_T28 HR1.out x95_3 p504 q504
                cases e504
                replace hx504_0 := (HB.out.cell (World.block_lt_of_cell? w _ hx504_0)).trans hx504_0
                replace hx504_1 := (HB.out.cell (World.block_lt_of_cell? w _ hx504_1)).trans hx504_1
                replace hx504_2 := (HB.out.cell (World.block_lt_of_cell? w _ hx504_2)).trans hx504_2
                replace p504 := eq_true p504
                replace q504 := eq_true q504
                go_wp2_with (first | ((with_reducible refine gate_dst (N := 18) rfl ?_); refine box_event ?hg (N := 18) ?hd (cs := #[.int .u64 0, .int .u32 0, .int .u32 0]) (t := 28) ?hr ?_; (case hd => rfl); (case hg => rfl); (case hr => first | (go_simp; done) | (go_simp; rfl)); intro gb505 hg w52 hbox hb; have BK505 := Aside0.mk (hbox); have GW505 := bels HB hg; have GE505 := bels HB hg; have NB486_505 := blkl BK486 hg; have NB505_486 := blkg BK486 hg; have NB491_505 := blkl BK491 hg; have NB505_491 := blkg BK491 hg; have NB498_505 := blkl BK498 hg; have NB505_498 := blkg BK498 hg; replace BK486 := blkb BK486 hb; replace BK491 := blkb BK491 hb; replace BK498 := blkb BK498 hb; replace HB := belb HB hb; clear hb hbox hg; have hnb53 := NB505_486.out; have hnc53 := NB486_505.out; have hnb54 := NB505_491.out; have hnc54 := NB491_505.out; have hnb55 := NB505_498.out; have hnc55 := NB498_505.out; have hcz56_0 : w52.cell? ⟨gb505, 0, none⟩ = some (.int .u64 0) := (blk_cell BK505.out 0).trans rfl; have hcz56_1 : w52.cell? ⟨gb505, 1, none⟩ = some (.int .u32 0) := (blk_cell BK505.out 1).trans rfl; have hcz56_2 : w52.cell? ⟨gb505, 2, none⟩ = some (.int .u32 0) := (blk_cell BK505.out 2).trans rfl; have hfz56_0 := blk_frozen BK505.out 0; have hfz56_1 := blk_frozen BK505.out 1; have hfz56_2 := blk_frozen BK505.out 2; have hnb57 := NB486_491.out; have hnc57 := NB491_486.out; have hnb58 := NB486_498.out; have hnc58 := NB498_486.out; have hcz59_0 : w52.cell? ⟨gb486, 0, none⟩ = some (.int .u64 t480) := (blk_cell BK486.out 0).trans rfl; have hcz59_1 : w52.cell? ⟨gb486, 1, none⟩ = some (.int .i64 t481) := (blk_cell BK486.out 1).trans rfl; have hcz59_2 : w52.cell? ⟨gb486, 2, none⟩ = some (.int .u64 t482) := (blk_cell BK486.out 2).trans rfl; have hcz59_3 : w52.cell? ⟨gb486, 3, none⟩ = some (.int .u64 t483) := (blk_cell BK486.out 3).trans rfl; have hcz59_4 : w52.cell? ⟨gb486, 4, none⟩ = some (.int .i64 t484) := (blk_cell BK486.out 4).trans rfl; have hfz59_0 := blk_frozen BK486.out 0; have hfz59_1 := blk_frozen BK486.out 1; have hfz59_2 := blk_frozen BK486.out 2; have hfz59_3 := blk_frozen BK486.out 3; have hfz59_4 := blk_frozen BK486.out 4) | ((with_reducible refine gate_callee (f := 21) rfl ?_); refine goesL_ (some 102) rfl rfl Tryz.func21 (by kernel_rfl) rfl #[.agg #[.int .u64 t480, .int .i64 t481, .int .u64 t482, .int .u64 t483, .int .i64 t484], .agg #[.int .u64 ((rd_T28 l1 x95_3).f0), .int .u32 ((rd_T28 l1 x95_3).f1), .int .u32 ((rd_T28 l1 x95_3).f2)]] rfl argt ?_; (with_reducible refine (lag_Read.calls k3 t480 t481 t482 t483 t484 ((rd_T28 l1 x95_3).f0) ((rd_T28 l1 x95_3).f1) ((rd_T28 l1 x95_3).f2) t506 t507 t508 _ A45.out).mono ?_); rintro e w60 ⟨rfl, hb⟩; refine ⟨_, rfl, ?_⟩; replace BK486 := Aside0.mk (blk_below (g := gb486) (o := .cells #[.int .u64 t480, .int .i64 t481, .int .u64 t482, .int .u64 t483, .int .i64 t484] 33 (0, 0)) (by (with_reducible repeat (first | refine blk_drewN ?_ _ | refine blk_drew ?_ | refine blk_alloc ?_ _)); refine blk_far ?_ NB486_505.out _; (with_reducible repeat (first | refine blk_drewN ?_ _ | refine blk_drew ?_ | refine blk_alloc ?_ _)); refine blk_far ?_ NB486_505.out _; (with_reducible repeat (first | refine blk_drewN ?_ _ | refine blk_drew ?_ | refine blk_alloc ?_ _)); refine blk_far ?_ NB486_505.out _; exact blkt BK486) hb); replace BK491 := Aside0.mk (blk_below (g := gb491) (o := .cells #[.int .u64 t487, .int .u32 t488, .int .u32 t489] 28 (0, 0)) (by (with_reducible repeat (first | refine blk_drewN ?_ _ | refine blk_drew ?_ | refine blk_alloc ?_ _)); refine blk_far ?_ NB491_505.out _; (with_reducible repeat (first | refine blk_drewN ?_ _ | refine blk_drew ?_ | refine blk_alloc ?_ _)); refine blk_far ?_ NB491_505.out _; (with_reducible repeat (first | refine blk_drewN ?_ _ | refine blk_drew ?_ | refine blk_alloc ?_ _)); refine blk_far ?_ NB491_505.out _; exact blkt BK491) hb); replace BK498 := Aside0.mk (blk_below (g := gb498) (o := .cells #[.int .u64 t492, .int .i64 t493, .int .u64 t494, .int .u64 t495, .int .i64 t496] 33 (0, 0)) (by (with_reducible repeat (first | refine blk_drewN ?_ _ | refine blk_drew ?_ | refine blk_alloc ?_ _)); refine blk_far ?_ NB498_505.out _; (with_reducible repeat (first | refine blk_drewN ?_ _ | refine blk_drew ?_ | refine blk_alloc ?_ _)); refine blk_far ?_ NB498_505.out _; (with_reducible repeat (first | refine blk_drewN ?_ _ | refine blk_drew ?_ | refine blk_alloc ?_ _)); refine blk_far ?_ NB498_505.out _; exact blkt BK498) hb); replace BK505 := Aside0.mk (blk_below (g := gb505) (o := .cells #[.int .u64 ((rd_T28 l1 x95_3).f0), .int .u32 ((rd_T28 l1 x95_3).f1), .int .u32 ((rd_T28 l1 x95_3).f2)] 28 (0, 0)) (by (with_reducible repeat (first | refine blk_drewN ?_ _ | refine blk_drew ?_ | refine blk_alloc ?_ _)); refine blk_put (cs := #[.int .u64 ((rd_T28 l1 x95_3).f0), .int .u32 ((rd_T28 l1 x95_3).f1), .int .u32 0]) ?_ 2 _ rfl; (with_reducible repeat (first | refine blk_drewN ?_ _ | refine blk_drew ?_ | refine blk_alloc ?_ _)); refine blk_put (cs := #[.int .u64 ((rd_T28 l1 x95_3).f0), .int .u32 0, .int .u32 0]) ?_ 1 _ rfl; (with_reducible repeat (first | refine blk_drewN ?_ _ | refine blk_drew ?_ | refine blk_alloc ?_ _)); refine blk_put (cs := #[.int .u64 0, .int .u32 0, .int .u32 0]) ?_ 0 _ rfl; exact blkt BK505) hb); replace HB := belb HB hb; (try clear hb); (try clear hb2); (try clear hk); (try clear hi)) | ((with_reducible refine gate_dst (N := 19) rfl ?_); refine box_event ?hg (N := 19) ?hd (cs := #[.int .i64 0, .int .u64 0]) (t := 31) ?hr ?_; (case hd => rfl); (case hg => rfl); (case hr => first | (go_simp; done) | (go_simp; rfl)); intro gb509 hg w61 hbox hb; have BK509 := Aside0.mk (hbox); have GW509 := bels HB hg; have GE509 := bels HB hg; have NB486_509 := blkl BK486 hg; have NB509_486 := blkg BK486 hg; have NB491_509 := blkl BK491 hg; have NB509_491 := blkg BK491 hg; have NB498_509 := blkl BK498 hg; have NB509_498 := blkg BK498 hg; have NB505_509 := blkl BK505 hg; have NB509_505 := blkg BK505 hg; replace BK486 := blkb BK486 hb; replace BK491 := blkb BK491 hb; replace BK498 := blkb BK498 hb; replace BK505 := blkb BK505 hb; replace HB := belb HB hb; clear hb hbox hg; have hnb62 := NB509_486.out; have hnc62 := NB486_509.out; have hnb63 := NB509_491.out; have hnc63 := NB491_509.out; have hnb64 := NB509_498.out; have hnc64 := NB498_509.out; have hnb65 := NB509_505.out; have hnc65 := NB505_509.out; have hcz66_0 : w61.cell? ⟨gb509, 0, none⟩ = some (.int .i64 0) := (blk_cell BK509.out 0).trans rfl; have hcz66_1 : w61.cell? ⟨gb509, 1, none⟩ = some (.int .u64 0) := (blk_cell BK509.out 1).trans rfl; have hfz66_0 := blk_frozen BK509.out 0; have hfz66_1 := blk_frozen BK509.out 1; have hnb67 := NB498_491.out; have hnc67 := NB491_498.out; have hcz68_0 : w61.cell? ⟨gb498, 0, none⟩ = some (.int .u64 t492) := (blk_cell BK498.out 0).trans rfl; have hcz68_1 : w61.cell? ⟨gb498, 1, none⟩ = some (.int .i64 t493) := (blk_cell BK498.out 1).trans rfl; have hcz68_2 : w61.cell? ⟨gb498, 2, none⟩ = some (.int .u64 t494) := (blk_cell BK498.out 2).trans rfl; have hcz68_3 : w61.cell? ⟨gb498, 3, none⟩ = some (.int .u64 t495) := (blk_cell BK498.out 3).trans rfl; have hcz68_4 : w61.cell? ⟨gb498, 4, none⟩ = some (.int .i64 t496) := (blk_cell BK498.out 4).trans rfl; have hfz68_0 := blk_frozen BK498.out 0; have hfz68_1 := blk_frozen BK498.out 1; have hfz68_2 := blk_frozen BK498.out 2; have hfz68_3 := blk_frozen BK498.out 3; have hfz68_4 := blk_frozen BK498.out 4; have hcz69_0 : w61.cell? ⟨gb505, 0, none⟩ = some (.int .u64 ((rd_T28 l1 x95_3).f0)) := (blk_cell BK505.out 0).trans rfl; have hcz69_1 : w61.cell? ⟨gb505, 1, none⟩ = some (.int .u32 ((rd_T28 l1 x95_3).f1)) := (blk_cell BK505.out 1).trans rfl; have hcz69_2 : w61.cell? ⟨gb505, 2, none⟩ = some (.int .u32 ((rd_T28 l1 x95_3).f2)) := (blk_cell BK505.out 2).trans rfl; have hfz69_0 := blk_frozen BK505.out 0; have hfz69_1 := blk_frozen BK505.out 1; have hfz69_2 := blk_frozen BK505.out 2) | ((with_reducible refine gate_callee (f := 21) rfl ?_); refine goesL_ (some 108) rfl rfl Tryz.func21 (by kernel_rfl) rfl #[.agg #[.int .u64 t492, .int .i64 t493, .int .u64 t494, .int .u64 t495, .int .i64 t496], .agg #[.int .u64 ((rd_T28 l1 x95_3).f0), .int .u32 ((rd_T28 l1 x95_3).f1), .int .u32 ((rd_T28 l1 x95_3).f2)]] rfl argt ?_; (with_reducible refine (lag_Read.calls k3 t492 t493 t494 t495 t496 ((rd_T28 l1 x95_3).f0) ((rd_T28 l1 x95_3).f1) ((rd_T28 l1 x95_3).f2) t510 t511 t512 _ A46.out).mono ?_); rintro e w70 ⟨rfl, hb⟩; refine ⟨_, rfl, ?_⟩; replace BK486 := Aside0.mk (blk_below (g := gb486) (o := .cells #[.int .u64 t480, .int .i64 t481, .int .u64 t482, .int .u64 t483, .int .i64 t484] 33 (0, 0)) (by (with_reducible repeat (first | refine blk_drewN ?_ _ | refine blk_drew ?_ | refine blk_alloc ?_ _)); refine blk_far ?_ NB486_509.out _; (with_reducible repeat (first | refine blk_drewN ?_ _ | refine blk_drew ?_ | refine blk_alloc ?_ _)); refine blk_far ?_ NB486_509.out _; exact blkt BK486) hb); replace BK491 := Aside0.mk (blk_below (g := gb491) (o := .cells #[.int .u64 t487, .int .u32 t488, .int .u32 t489] 28 (0, 0)) (by (with_reducible repeat (first | refine blk_drewN ?_ _ | refine blk_drew ?_ | refine blk_alloc ?_ _)); refine blk_far ?_ NB491_509.out _; (with_reducible repeat (first | refine blk_drewN ?_ _ | refine blk_drew ?_ | refine blk_alloc ?_ _)); refine blk_far ?_ NB491_509.out _; exact blkt BK491) hb); replace BK498 := Aside0.mk (blk_below (g := gb498) (o := .cells #[.int .u64 t492, .int .i64 t493, .int .u64 t494, .int .u64 t495, .int .i64 t496] 33 (0, 0)) (by (with_reducible repeat (first | refine blk_drewN ?_ _ | refine blk_drew ?_ | refine blk_alloc ?_ _)); refine blk_far ?_ NB498_509.out _; (with_reducible repeat (first | refine blk_drewN ?_ _ | refine blk_drew ?_ | refine blk_alloc ?_ _)); refine blk_far ?_ NB498_509.out _; exact blkt BK498) hb); replace BK505 := Aside0.mk (blk_below (g := gb505) (o := .cells #[.int .u64 ((rd_T28 l1 x95_3).f0), .int .u32 ((rd_T28 l1 x95_3).f1), .int .u32 ((rd_T28 l1 x95_3).f2)] 28 (0, 0)) (by (with_reducible repeat (first | refine blk_drewN ?_ _ | refine blk_drew ?_ | refine blk_alloc ?_ _)); refine blk_far ?_ NB505_509.out _; (with_reducible repeat (first | refine blk_drewN ?_ _ | refine blk_drew ?_ | refine blk_alloc ?_ _)); refine blk_far ?_ NB505_509.out _; exact blkt BK505) hb); replace BK509 := Aside0.mk (blk_below (g := gb509) (o := .cells #[.int .i64 t506, .int .u64 t507] 31 (0, 0)) (by (with_reducible repeat (first | refine blk_drewN ?_ _ | refine blk_drew ?_ | refine blk_alloc ?_ _)); refine blk_put (cs := #[.int .i64 t506, .int .u64 0]) ?_ 1 _ rfl; (with_reducible repeat (first | refine blk_drewN ?_ _ | refine blk_drew ?_ | refine blk_alloc ?_ _)); refine blk_put (cs := #[.int .i64 0, .int .u64 0]) ?_ 0 _ rfl; exact blkt BK509) hb); replace HB := belb HB hb; (try clear hb); (try clear hb2); (try clear hk); (try clear hi)) | ((with_reducible refine gate_dst (N := 21) rfl ?_); refine box_event ?hg (N := 21) ?hd (cs := #[.int .i64 0, .int .u64 0]) (t := 31) ?hr ?_; (case hd => rfl); (case hg => rfl); (case hr => first | (go_simp; done) | (go_simp; rfl)); intro gb513 hg w71 hbox hb; have BK513 := Aside0.mk (hbox); have GW513 := bels HB hg; have GE513 := bels HB hg; have NB486_513 := blkl BK486 hg; have NB513_486 := blkg BK486 hg; have NB491_513 := blkl BK491 hg; have NB513_491 := blkg BK491 hg; have NB498_513 := blkl BK498 hg; have NB513_498 := blkg BK498 hg; have NB505_513 := blkl BK505 hg; have NB513_505 := blkg BK505 hg; have NB509_513 := blkl BK509 hg; have NB513_509 := blkg BK509 hg; replace BK486 := blkb BK486 hb; replace BK491 := blkb BK491 hb; replace BK498 := blkb BK498 hb; replace BK505 := blkb BK505 hb; replace BK509 := blkb BK509 hb; replace HB := belb HB hb; clear hb hbox hg; have hnb72 := NB513_486.out; have hnc72 := NB486_513.out; have hnb73 := NB513_491.out; have hnc73 := NB491_513.out; have hnb74 := NB513_498.out; have hnc74 := NB498_513.out; have hnb75 := NB513_505.out; have hnc75 := NB505_513.out; have hnb76 := NB513_509.out; have hnc76 := NB509_513.out; have hcz77_0 : w71.cell? ⟨gb513, 0, none⟩ = some (.int .i64 0) := (blk_cell BK513.out 0).trans rfl; have hcz77_1 : w71.cell? ⟨gb513, 1, none⟩ = some (.int .u64 0) := (blk_cell BK513.out 1).trans rfl; have hfz77_0 := blk_frozen BK513.out 0; have hfz77_1 := blk_frozen BK513.out 1; have hcz78_0 : w71.cell? ⟨gb509, 0, none⟩ = some (.int .i64 t506) := (blk_cell BK509.out 0).trans rfl; have hcz78_1 : w71.cell? ⟨gb509, 1, none⟩ = some (.int .u64 t507) := (blk_cell BK509.out 1).trans rfl; have hfz78_0 := blk_frozen BK509.out 0; have hfz78_1 := blk_frozen BK509.out 1) | ((with_reducible refine gate_callee (f := 26) rfl ?_); refine goesL_ (some 114) rfl rfl Tryz.func26 (by kernel_rfl) rfl #[.agg #[.int .i64 t506, .int .u64 t507], .agg #[.int .i64 t510, .int .u64 t511]] rfl argt ?_; (with_reducible refine (wide_Int_Sub.calls t506 t507 t510 t511 t514 t515 t516 _ A47.out).mono ?_); rintro e w79 ⟨rfl, hb⟩; refine ⟨_, rfl, ?_⟩; replace BK486 := Aside0.mk (blk_below (g := gb486) (o := .cells #[.int .u64 t480, .int .i64 t481, .int .u64 t482, .int .u64 t483, .int .i64 t484] 33 (0, 0)) (by (with_reducible repeat (first | refine blk_drewN ?_ _ | refine blk_drew ?_ | refine blk_alloc ?_ _)); refine blk_far ?_ NB486_513.out _; (with_reducible repeat (first | refine blk_drewN ?_ _ | refine blk_drew ?_ | refine blk_alloc ?_ _)); refine blk_far ?_ NB486_513.out _; exact blkt BK486) hb); replace BK491 := Aside0.mk (blk_below (g := gb491) (o := .cells #[.int .u64 t487, .int .u32 t488, .int .u32 t489] 28 (0, 0)) (by (with_reducible repeat (first | refine blk_drewN ?_ _ | refine blk_drew ?_ | refine blk_alloc ?_ _)); refine blk_far ?_ NB491_513.out _; (with_reducible repeat (first | refine blk_drewN ?_ _ | refine blk_drew ?_ | refine blk_alloc ?_ _)); refine blk_far ?_ NB491_513.out _; exact blkt BK491) hb); replace BK498 := Aside0.mk (blk_below (g := gb498) (o := .cells #[.int .u64 t492, .int .i64 t493, .int .u64 t494, .int .u64 t495, .int .i64 t496] 33 (0, 0)) (by (with_reducible repeat (first | refine blk_drewN ?_ _ | refine blk_drew ?_ | refine blk_alloc ?_ _)); refine blk_far ?_ NB498_513.out _; (with_reducible repeat (first | refine blk_drewN ?_ _ | refine blk_drew ?_ | refine blk_alloc ?_ _)); refine blk_far ?_ NB498_513.out _; exact blkt BK498) hb); replace BK505 := Aside0.mk (blk_below (g := gb505) (o := .cells #[.int .u64 ((rd_T28 l1 x95_3).f0), .int .u32 ((rd_T28 l1 x95_3).f1), .int .u32 ((rd_T28 l1 x95_3).f2)] 28 (0, 0)) (by (with_reducible repeat (first | refine blk_drewN ?_ _ | refine blk_drew ?_ | refine blk_alloc ?_ _)); refine blk_far ?_ NB505_513.out _; (with_reducible repeat (first | refine blk_drewN ?_ _ | refine blk_drew ?_ | refine blk_alloc ?_ _)); refine blk_far ?_ NB505_513.out _; exact blkt BK505) hb); replace BK509 := Aside0.mk (blk_below (g := gb509) (o := .cells #[.int .i64 t506, .int .u64 t507] 31 (0, 0)) (by (with_reducible repeat (first | refine blk_drewN ?_ _ | refine blk_drew ?_ | refine blk_alloc ?_ _)); refine blk_far ?_ NB509_513.out _; (with_reducible repeat (first | refine blk_drewN ?_ _ | refine blk_drew ?_ | refine blk_alloc ?_ _)); refine blk_far ?_ NB509_513.out _; exact blkt BK509) hb); replace BK513 := Aside0.mk (blk_below (g := gb513) (o := .cells #[.int .i64 t510, .int .u64 t511] 31 (0, 0)) (by (with_reducible repeat (first | refine blk_drewN ?_ _ | refine blk_drew ?_ | refine blk_alloc ?_ _)); refine blk_put (cs := #[.int .i64 t510, .int .u64 0]) ?_ 1 _ rfl; (with_reducible repeat (first | refine blk_drewN ?_ _ | refine blk_drew ?_ | refine blk_alloc ?_ _)); refine blk_put (cs := #[.int .i64 0, .int .u64 0]) ?_ 0 _ rfl; exact blkt BK513) hb); replace HB := belb HB hb; (try clear hb); (try clear hb2); (try clear hk); (try clear hi)) | ((with_reducible refine gate_dst (N := 23) rfl ?_); refine box_event ?hg (N := 23) ?hd (cs := #[.int .i64 0, .int .u64 0]) (t := 31) ?hr ?_; (case hd => rfl); (case hg => rfl); (case hr => first | (go_simp; done) | (go_simp; rfl)); intro gb517 hg w80 hbox hb; have BK517 := Aside0.mk (hbox); have GW517 := bels HB hg; have GE517 := bels HB hg; have NB486_517 := blkl BK486 hg; have NB517_486 := blkg BK486 hg; have NB491_517 := blkl BK491 hg; have NB517_491 := blkg BK491 hg; have NB498_517 := blkl BK498 hg; have NB517_498 := blkg BK498 hg; have NB505_517 := blkl BK505 hg; have NB517_505 := blkg BK505 hg; have NB509_517 := blkl BK509 hg; have NB517_509 := blkg BK509 hg; have NB513_517 := blkl BK513 hg; have NB517_513 := blkg BK513 hg; replace BK486 := blkb BK486 hb; replace BK491 := blkb BK491 hb; replace BK498 := blkb BK498 hb; replace BK505 := blkb BK505 hb; replace BK509 := blkb BK509 hb; replace BK513 := blkb BK513 hb; replace HB := belb HB hb; clear hb hbox hg; have hnb81 := NB517_486.out; have hnc81 := NB486_517.out; have hnb82 := NB517_491.out; have hnc82 := NB491_517.out; have hnb83 := NB517_498.out; have hnc83 := NB498_517.out; have hnb84 := NB517_505.out; have hnc84 := NB505_517.out; have hnb85 := NB517_509.out; have hnc85 := NB509_517.out; have hnb86 := NB517_513.out; have hnc86 := NB513_517.out; have hcz87_0 : w80.cell? ⟨gb517, 0, none⟩ = some (.int .i64 0) := (blk_cell BK517.out 0).trans rfl; have hcz87_1 : w80.cell? ⟨gb517, 1, none⟩ = some (.int .u64 0) := (blk_cell BK517.out 1).trans rfl; have hfz87_0 := blk_frozen BK517.out 0; have hfz87_1 := blk_frozen BK517.out 1) | ((with_reducible refine gate_callee (f := 27) rfl ?_); refine goesL_ (some 119) rfl rfl Tryz.func27 (by kernel_rfl) rfl #[.agg #[.int .i64 t514, .int .u64 t515]] rfl argt ?_; (with_reducible refine (wide_Int_Small.calls t514 t515 t518 true _ A48.out).mono ?_); rintro e w88 ⟨rfl, hb⟩; refine ⟨_, rfl, ?_⟩; replace BK486 := Aside0.mk (blk_below (g := gb486) (o := .cells #[.int .u64 t480, .int .i64 t481, .int .u64 t482, .int .u64 t483, .int .i64 t484] 33 (0, 0)) (by (with_reducible repeat (first | refine blk_drewN ?_ _ | refine blk_drew ?_ | refine blk_alloc ?_ _)); refine blk_far ?_ NB486_517.out _; (with_reducible repeat (first | refine blk_drewN ?_ _ | refine blk_drew ?_ | refine blk_alloc ?_ _)); refine blk_far ?_ NB486_517.out _; exact blkt BK486) hb); replace BK491 := Aside0.mk (blk_below (g := gb491) (o := .cells #[.int .u64 t487, .int .u32 t488, .int .u32 t489] 28 (0, 0)) (by (with_reducible repeat (first | refine blk_drewN ?_ _ | refine blk_drew ?_ | refine blk_alloc ?_ _)); refine blk_far ?_ NB491_517.out _; (with_reducible repeat (first | refine blk_drewN ?_ _ | refine blk_drew ?_ | refine blk_alloc ?_ _)); refine blk_far ?_ NB491_517.out _; exact blkt BK491) hb); replace BK498 := Aside0.mk (blk_below (g := gb498) (o := .cells #[.int .u64 t492, .int .i64 t493, .int .u64 t494, .int .u64 t495, .int .i64 t496] 33 (0, 0)) (by (with_reducible repeat (first | refine blk_drewN ?_ _ | refine blk_drew ?_ | refine blk_alloc ?_ _)); refine blk_far ?_ NB498_517.out _; (with_reducible repeat (first | refine blk_drewN ?_ _ | refine blk_drew ?_ | refine blk_alloc ?_ _)); refine blk_far ?_ NB498_517.out _; exact blkt BK498) hb); replace BK505 := Aside0.mk (blk_below (g := gb505) (o := .cells #[.int .u64 ((rd_T28 l1 x95_3).f0), .int .u32 ((rd_T28 l1 x95_3).f1), .int .u32 ((rd_T28 l1 x95_3).f2)] 28 (0, 0)) (by (with_reducible repeat (first | refine blk_drewN ?_ _ | refine blk_drew ?_ | refine blk_alloc ?_ _)); refine blk_far ?_ NB505_517.out _; (with_reducible repeat (first | refine blk_drewN ?_ _ | refine blk_drew ?_ | refine blk_alloc ?_ _)); refine blk_far ?_ NB505_517.out _; exact blkt BK505) hb); replace BK509 := Aside0.mk (blk_below (g := gb509) (o := .cells #[.int .i64 t506, .int .u64 t507] 31 (0, 0)) (by (with_reducible repeat (first | refine blk_drewN ?_ _ | refine blk_drew ?_ | refine blk_alloc ?_ _)); refine blk_far ?_ NB509_517.out _; (with_reducible repeat (first | refine blk_drewN ?_ _ | refine blk_drew ?_ | refine blk_alloc ?_ _)); refine blk_far ?_ NB509_517.out _; exact blkt BK509) hb); replace BK513 := Aside0.mk (blk_below (g := gb513) (o := .cells #[.int .i64 t510, .int .u64 t511] 31 (0, 0)) (by (with_reducible repeat (first | refine blk_drewN ?_ _ | refine blk_drew ?_ | refine blk_alloc ?_ _)); refine blk_far ?_ NB513_517.out _; (with_reducible repeat (first | refine blk_drewN ?_ _ | refine blk_drew ?_ | refine blk_alloc ?_ _)); refine blk_far ?_ NB513_517.out _; exact blkt BK513) hb); replace BK517 := Aside0.mk (blk_below (g := gb517) (o := .cells #[.int .i64 t514, .int .u64 t515] 31 (0, 0)) (by (with_reducible repeat (first | refine blk_drewN ?_ _ | refine blk_drew ?_ | refine blk_alloc ?_ _)); refine blk_put (cs := #[.int .i64 t514, .int .u64 0]) ?_ 1 _ rfl; (with_reducible repeat (first | refine blk_drewN ?_ _ | refine blk_drew ?_ | refine blk_alloc ?_ _)); refine blk_put (cs := #[.int .i64 0, .int .u64 0]) ?_ 0 _ rfl; exact blkt BK517) hb); replace HB := belb HB hb; (try clear hb); (try clear hb2); (try clear hk); (try clear hi)))
                go_roundg k3
                case measure => have := HJ6.out; have := HJ18.out; have := HK3.out; omega
                case rel => exact ⟨(wrap64 (x95_3 + 1)), (by first | rfl | (simp; done) | (simp [*]; done)), H', ⟨by have := HJ6.out; have := HJ18.out; have := HK3.out; omega⟩, ⟨blkt BK486⟩, ⟨blkt BK491⟩, ⟨blkt BK498⟩, ⟨belt HB⟩⟩
             ·replace c49 := Bool.eq_false_iff.mpr c49
              subst c49
              have H1 : (none) = some r := by rw [if_neg (show ¬ (false = true) by decide)] at H; exact H
              clear H
              have H := H1
              clear H1
              exact absurd H (by simp)
            ·rw [if_neg c44] at H
             exact absurd H (by simp)
           ·rw [if_neg c43] at H
            exact absurd H (by simp)
          ·rw [if_neg c42] at H
           have c42b0 : decide (x95_3 < (l1.length : Int)) = false := decide_eq_false c42
           clear c42
           obtain rfl := Option.some.inj H
           go_wp2
           go_ret
           exact ⟨by first | rfl | (simp [errW_none, errW_some] <;> rfl) | (simp [*, errW_none, errW_some] <;> rfl), belt HB⟩
 ·replace c5 := Bool.eq_false_iff.mpr c5
  subst c5
  have H1 : (none) = some r := by rw [if_neg (show ¬ (false = true) by decide)] at H; exact H
  clear H
  have H := H1
  clear H1
  exact absurd H (by simp)

/-- THE ONE PURE STATEMENT of turnstonelaw10_PlaceZero. -/
def turnstonelaw10_PlaceZero.Pure : Prop := ∀ (a0 : Int) (l1 : List (S28)) (a2 : Int), (Lit.int .u64 a0).wf = true → l1.length ≤ maxLen → (∀ x ∈ l1, wfS28 x) → (Lit.int .u32 a2).wf = true → ∃ k, turnstonelaw10_PlaceZero.f k a0 l1 a2 = some true
theorem turnstonelaw10_PlaceZero.walk (P : turnstonelaw10_PlaceZero.Pure) (a0 : Int) (A1 : Option Addr) (c1 : Nat) (l1 : List (S28)) (a2 : Int) (w : World) (w0 : (Lit.int .u64 a0).wf = true) (hr1 : Kd.C k28 w A1 l1.length l1) (hc1 : l1.length ≤ c1) (hm1 : l1.length ≤ maxLen) (hw1 : ∀ x ∈ l1, wfS28 x) (w2 : (Lit.int .u32 a2).wf = true) :
  Calls Tryz.prog 6 #[.int .u64 a0, .slice A1 l1.length c1, .int .u32 a2] w fun e w' => e = .returned (.bool true) ∧ Below w.heap.size w w' := by
 obtain ⟨k, h⟩ := P a0 l1 a2 w0 hm1 hw1 w2
 refine (turnstonelaw10_PlaceZero.calls k a0 _ _ l1 a2 true w hr1 hc1 h).mono ?_
 rintro e w' ⟨rfl, hd⟩
 exact ⟨rfl, hd⟩

end Go.Proofs.YtfbkamgdkdnpoaaGreatDoor.Print
