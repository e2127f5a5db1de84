/- What each Go function that is named below answers, as a Lean function, and that its walk comes to just that: for whatever arguments that function gives an answer for. Written by a program of this session (wip/mkpr.py, pr.sh). -/
import Derived.Test.YtfbkamgdkdnpoaaGreatDoorPrint1000
import Derived.Test.YtfbkamgdkdnpoaaGreatDoorPrint1002
import Derived.Test.YtfbkamgdkdnpoaaGreatDoorPrint1003
import Derived.Test.YtfbkamgdkdnpoaaGreatDoorPrint1006
import Derived.Test.YtfbkamgdkdnpoaaGreatDoorPrint1008
import Derived.Test.YtfbkamgdkdnpoaaGreatDoorPrint1014
import Derived.Test.YtfbkamgdkdnpoaaGreatDoorPrint1020
namespace Go.Proofs.YtfbkamgdkdnpoaaGreatDoor.Print
open Go.RowKit Go.Proofs.YtfbkamgdkdnpoaaGreatDoorW.PrintWords Go.Proofs.YtfbkamgdkdnpoaaGreatDoorW.PrintLast Go.Proofs.YtfbkamgdkdnpoaaGreatDoorW.PrintMore
attribute [local go_sem] max2_int min2_int max_two min_two max_three min_three max_four min_four   -- for this text's walks alone
open Go.Proofs.YtfbkamgdkdnpoaaGreatDoor.Bits Go.Proofs.YtfbkamgdkdnpoaaGreatDoor.Short
attribute [local go_sem] add64_run0 sub64_run0 add64_run sub64_run
set_option linter.unusedVariables false
set_option linter.unusedSimpArgs false

attribute [local go_sem high] eqA31
/-! ### turnstonelaw10_PlaceLags: function 5 -/
mutual
def turnstonelaw10_PlaceLags.j0 : Nat → List (S28) → Int → Int → Bool → Int → Int → Int → Int → Int → Option (Bool)
 | 0, _, _, _, _, _, _, _, _, _ => none
 | k + 1, x1, x2, x3, x53, x445000, x445001, x445002, x445003, x445004 => if x53 = true then (some true) else ((place_Place.f k x445000 x445001 x445002 x445003 x445004 0 x2 x3).bind fun bt445 => ((mean_Mean_Add.f k x445000 x445001 x445002 x445003 x445004 bt445.1 bt445.2.1 bt445.2.2.1).bind fun bt450 => ((lag_Read.f k bt450.1 bt450.2.1 bt450.2.2.1 bt450.2.2.2.1 bt450.2.2.2.2.1 bt445.1 bt445.2.1 bt445.2.2.1).bind fun bt457 => (if bt445.2.2.2 = true then (if bt450.2.2.2.2.2 = true then (if bt457.2.2 = true then ((wide_Of.f x3).bind fun bt461 => (turnstonelaw10_PlaceLags.j1 k x1 x3 (!(bt457.1 == bt461.1) || (!(bt457.2.1 == bt461.2))) x445000 x445001 x445002 x445003 x445004 bt450.1 bt450.2.1 bt450.2.2.1 bt450.2.2.2.1 bt450.2.2.2.2.1)) else (turnstonelaw10_PlaceLags.j1 k x1 x3 true x445000 x445001 x445002 x445003 x445004 bt450.1 bt450.2.1 bt450.2.2.1 bt450.2.2.2.1 bt450.2.2.2.2.1)) else (turnstonelaw10_PlaceLags.j1 k x1 x3 true x445000 x445001 x445002 x445003 x445004 bt450.1 bt450.2.1 bt450.2.2.1 bt450.2.2.2.1 bt450.2.2.2.2.1)) else (turnstonelaw10_PlaceLags.j1 k x1 x3 true x445000 x445001 x445002 x445003 x445004 bt450.1 bt450.2.1 bt450.2.2.1 bt450.2.2.2.1 bt450.2.2.2.2.1)))))
def turnstonelaw10_PlaceLags.j1 : Nat → List (S28) → Int → Bool → Int → Int → Int → Int → Int → Int → Int → Int → Int → Int → Option (Bool)
 | 0, _, _, _, _, _, _, _, _, _, _, _, _, _ => none
 | k + 1, x1, x3, x88, x445000, x445001, x445002, x445003, x445004, x457000, x457001, x457002, x457003, x457004 => if x88 = true then (none) else (turnstonelaw10_PlaceLags.l0 k x3 (mx x3 (wrap64 (-x3))) x1 (x1.length : Int) 0 x445000 x445001 x445002 x445003 x445004 x457000 x457001 x457002 x457003 x457004)
def turnstonelaw10_PlaceLags.l0 : Nat → Int → Int → List (S28) → Int → Int → Int → Int → Int → Int → Int → Int → Int → Int → Int → Int → Option (Bool)
 | 0, _, _, _, _, _, _, _, _, _, _, _, _, _, _, _ => none
 | k + 1, x3, x17, x93, x94, x95, x445000, x445001, x445002, x445003, x445004, x457000, x457001, x457002, x457003, x457004 => if x95 < x94 then (if 0 ≤ x95 then (if x95 < (x93.length : Int) then ((lag_Read.f k x445000 x445001 x445002 x445003 x445004 ((rd_T28 x93 x95).f0) ((rd_T28 x93 x95).f1) ((rd_T28 x93 x95).f2)).bind fun bt465 => ((lag_Read.f k x457000 x457001 x457002 x457003 x457004 ((rd_T28 x93 x95).f0) ((rd_T28 x93 x95).f1) ((rd_T28 x93 x95).f2)).bind fun bt469 => ((wide_Int_Sub.f bt469.1 bt469.2.1 bt465.1 bt465.2.1).bind fun bt473 => ((wide_Int_Small.f bt473.1 bt473.2.1).bind fun bt477 => (if bt477.2 = true then (if (mx bt477.1 (wrap64 (-bt477.1))) > (wrap64 (x17 + 2)) then (none) else (if x3 > 0 then (if bt477.1 > 0 then (none) else (if x3 < 0 then (if bt477.1 < (-1) then (none) else (turnstonelaw10_PlaceLags.l0 k x3 x17 x93 x94 (wrap64 (x95 + 1)) x445000 x445001 x445002 x445003 x445004 x457000 x457001 x457002 x457003 x457004)) else (turnstonelaw10_PlaceLags.l0 k x3 x17 x93 x94 (wrap64 (x95 + 1)) x445000 x445001 x445002 x445003 x445004 x457000 x457001 x457002 x457003 x457004))) else (if x3 < 0 then (if bt477.1 < (-1) then (none) else (turnstonelaw10_PlaceLags.l0 k x3 x17 x93 x94 (wrap64 (x95 + 1)) x445000 x445001 x445002 x445003 x445004 x457000 x457001 x457002 x457003 x457004)) else (turnstonelaw10_PlaceLags.l0 k x3 x17 x93 x94 (wrap64 (x95 + 1)) x445000 x445001 x445002 x445003 x445004 x457000 x457001 x457002 x457003 x457004)))) else (none)))))) else (none)) else (none)) else (some true)
end
def turnstonelaw10_PlaceLags.f (k : Nat) (a0 : Int) (l1 : List (S28)) (a2 : Int) (a3 : Int) : Option (Bool) := (turnstonelaw10_awake.f).bind fun t437 => (if t437 = true then ((turnstonelaw10_near.f k a0 l1).bind fun bt438 => (if bt438.2.2.2.2.2 = true then (if a2 < 1 then (turnstonelaw10_PlaceLags.j0 k l1 a2 a3 true bt438.1 bt438.2.1 bt438.2.2.1 bt438.2.2.2.1 bt438.2.2.2.2.1) else (if a2 > 1048576 then (turnstonelaw10_PlaceLags.j0 k l1 a2 a3 true bt438.1 bt438.2.1 bt438.2.2.1 bt438.2.2.2.1 bt438.2.2.2.2.1) else (if a3 ≤ (-1125899906842624) then (turnstonelaw10_PlaceLags.j0 k l1 a2 a3 true bt438.1 bt438.2.1 bt438.2.2.1 bt438.2.2.2.1 bt438.2.2.2.2.1) else (turnstonelaw10_PlaceLags.j0 k l1 a2 a3 (decide (a3 ≥ 1125899906842624)) bt438.1 bt438.2.1 bt438.2.2.1 bt438.2.2.2.1 bt438.2.2.2.2.1)))) else (turnstonelaw10_PlaceLags.j0 k l1 a2 a3 true bt438.1 bt438.2.1 bt438.2.2.1 bt438.2.2.2.1 bt438.2.2.2.2.1))) else (none))
theorem turnstonelaw10_PlaceLags.mono_l : ∀ k, (∀ y0 y1 y2 y3 y4 y5 y6 y7 y8, LeO (turnstonelaw10_PlaceLags.j0 k y0 y1 y2 y3 y4 y5 y6 y7 y8) (turnstonelaw10_PlaceLags.j0 (k + 1) y0 y1 y2 y3 y4 y5 y6 y7 y8)) ∧ (∀ y0 y1 y2 y3 y4 y5 y6 y7 y8 y9 y10 y11 y12, LeO (turnstonelaw10_PlaceLags.j1 k y0 y1 y2 y3 y4 y5 y6 y7 y8 y9 y10 y11 y12) (turnstonelaw10_PlaceLags.j1 (k + 1) y0 y1 y2 y3 y4 y5 y6 y7 y8 y9 y10 y11 y12)) ∧ (∀ y0 y1 y2 y3 y4 y5 y6 y7 y8 y9 y10 y11 y12 y13 y14, LeO (turnstonelaw10_PlaceLags.l0 k y0 y1 y2 y3 y4 y5 y6 y7 y8 y9 y10 y11 y12 y13 y14) (turnstonelaw10_PlaceLags.l0 (k + 1) y0 y1 y2 y3 y4 y5 y6 y7 y8 y9 y10 y11 y12 y13 y14))
 | 0 => ⟨fun _ _ _ _ _ _ _ _ _ r h => by simp [turnstonelaw10_PlaceLags.j0] at h, fun _ _ _ _ _ _ _ _ _ _ _ _ _ r h => by simp [turnstonelaw10_PlaceLags.j1] at h, fun _ _ _ _ _ _ _ _ _ _ _ _ _ _ _ r h => by simp [turnstonelaw10_PlaceLags.l0] at h⟩
 | k + 1 => by
  obtain ⟨ih0, ih1, ih2⟩ := turnstonelaw10_PlaceLags.mono_l k
  refine ⟨?_, ?_, ?_⟩
  ·intro y0 y1 y2 y3 y4 y5 y6 y7 y8
   unfold turnstonelaw10_PlaceLags.j0
   repeat' first
   | (with_reducible exact ih0 _ _ _ _ _ _ _ _ _)
   | (with_reducible exact ih1 _ _ _ _ _ _ _ _ _ _ _ _ _)
   | (with_reducible exact ih2 _ _ _ _ _ _ _ _ _ _ _ _ _ _ _)
   | (with_reducible exact lag_Read.mono _ _ _ _ _ _ _ _ _)
   | (with_reducible exact mean_Mean_Add.mono _ _ _ _ _ _ _ _ _)
   | (with_reducible exact place_Place.mono _ _ _ _ _ _ _ _ _)
   | (with_reducible exact turnstonelaw10_near.mono _ _ _)
   | (with_reducible exact LeO.refl _)
   | (with_reducible exact LeO.none _)
   | (with_reducible refine LeO.ite ?_ ?_)
   | (with_reducible refine LeO.bind ?_ (fun _ => ?_))
   | exact ih0 _ _ _ _ _ _ _ _ _
   | exact ih1 _ _ _ _ _ _ _ _ _ _ _ _ _
   | exact ih2 _ _ _ _ _ _ _ _ _ _ _ _ _ _ _
   | exact lag_Read.mono _ _ _ _ _ _ _ _ _
   | exact mean_Mean_Add.mono _ _ _ _ _ _ _ _ _
   | exact place_Place.mono _ _ _ _ _ _ _ _ _
   | exact turnstonelaw10_near.mono _ _ _
   | exact LeO.none _
   | refine LeO.ite ?_ ?_
   | refine LeO.bind ?_ (fun _ => ?_)
  ·intro y0 y1 y2 y3 y4 y5 y6 y7 y8 y9 y10 y11 y12
   unfold turnstonelaw10_PlaceLags.j1
   repeat' first
   | (with_reducible exact ih0 _ _ _ _ _ _ _ _ _)
   | (with_reducible exact ih1 _ _ _ _ _ _ _ _ _ _ _ _ _)
   | (with_reducible exact ih2 _ _ _ _ _ _ _ _ _ _ _ _ _ _ _)
   | (with_reducible exact lag_Read.mono _ _ _ _ _ _ _ _ _)
   | (with_reducible exact mean_Mean_Add.mono _ _ _ _ _ _ _ _ _)
   | (with_reducible exact place_Place.mono _ _ _ _ _ _ _ _ _)
   | (with_reducible exact turnstonelaw10_near.mono _ _ _)
   | (with_reducible exact LeO.refl _)
   | (with_reducible exact LeO.none _)
   | (with_reducible refine LeO.ite ?_ ?_)
   | (with_reducible refine LeO.bind ?_ (fun _ => ?_))
   | exact ih0 _ _ _ _ _ _ _ _ _
   | exact ih1 _ _ _ _ _ _ _ _ _ _ _ _ _
   | exact ih2 _ _ _ _ _ _ _ _ _ _ _ _ _ _ _
   | exact lag_Read.mono _ _ _ _ _ _ _ _ _
   | exact mean_Mean_Add.mono _ _ _ _ _ _ _ _ _
   | exact place_Place.mono _ _ _ _ _ _ _ _ _
   | exact turnstonelaw10_near.mono _ _ _
   | exact LeO.none _
   | refine LeO.ite ?_ ?_
   | refine LeO.bind ?_ (fun _ => ?_)
  ·intro y0 y1 y2 y3 y4 y5 y6 y7 y8 y9 y10 y11 y12 y13 y14
   unfold turnstonelaw10_PlaceLags.l0
   repeat' first
   | (with_reducible exact ih0 _ _ _ _ _ _ _ _ _)
   | (with_reducible exact ih1 _ _ _ _ _ _ _ _ _ _ _ _ _)
   | (with_reducible exact ih2 _ _ _ _ _ _ _ _ _ _ _ _ _ _ _)
   | (with_reducible exact lag_Read.mono _ _ _ _ _ _ _ _ _)
   | (with_reducible exact mean_Mean_Add.mono _ _ _ _ _ _ _ _ _)
   | (with_reducible exact place_Place.mono _ _ _ _ _ _ _ _ _)
   | (with_reducible exact turnstonelaw10_near.mono _ _ _)
   | (with_reducible exact LeO.refl _)
   | (with_reducible exact LeO.none _)
   | (with_reducible refine LeO.ite ?_ ?_)
   | (with_reducible refine LeO.bind ?_ (fun _ => ?_))
   | exact ih0 _ _ _ _ _ _ _ _ _
   | exact ih1 _ _ _ _ _ _ _ _ _ _ _ _ _
   | exact ih2 _ _ _ _ _ _ _ _ _ _ _ _ _ _ _
   | exact lag_Read.mono _ _ _ _ _ _ _ _ _
   | exact mean_Mean_Add.mono _ _ _ _ _ _ _ _ _
   | exact place_Place.mono _ _ _ _ _ _ _ _ _
   | exact turnstonelaw10_near.mono _ _ _
   | exact LeO.none _
   | refine LeO.ite ?_ ?_
   | refine LeO.bind ?_ (fun _ => ?_)
theorem turnstonelaw10_PlaceLags.mono : ∀ a0 a1 a2 a3 k, LeO (turnstonelaw10_PlaceLags.f k a0 a1 a2 a3) (turnstonelaw10_PlaceLags.f (k + 1) a0 a1 a2 a3) := by
 intro a0 a1 a2 a3 k
 obtain ⟨ih0, ih1, ih2⟩ := turnstonelaw10_PlaceLags.mono_l k
 unfold turnstonelaw10_PlaceLags.f
 repeat' first
   | (with_reducible exact ih0 _ _ _ _ _ _ _ _ _)
   | (with_reducible exact ih1 _ _ _ _ _ _ _ _ _ _ _ _ _)
   | (with_reducible exact ih2 _ _ _ _ _ _ _ _ _ _ _ _ _ _ _)
   | (with_reducible exact lag_Read.mono _ _ _ _ _ _ _ _ _)
   | (with_reducible exact mean_Mean_Add.mono _ _ _ _ _ _ _ _ _)
   | (with_reducible exact place_Place.mono _ _ _ _ _ _ _ _ _)
   | (with_reducible exact turnstonelaw10_near.mono _ _ _)
   | (with_reducible exact LeO.refl _)
   | (with_reducible exact LeO.none _)
   | (with_reducible refine LeO.ite ?_ ?_)
   | (with_reducible refine LeO.bind ?_ (fun _ => ?_))
   | exact ih0 _ _ _ _ _ _ _ _ _
   | exact ih1 _ _ _ _ _ _ _ _ _ _ _ _ _
   | exact ih2 _ _ _ _ _ _ _ _ _ _ _ _ _ _ _
   | exact lag_Read.mono _ _ _ _ _ _ _ _ _
   | exact mean_Mean_Add.mono _ _ _ _ _ _ _ _ _
   | exact place_Place.mono _ _ _ _ _ _ _ _ _
   | exact turnstonelaw10_near.mono _ _ _
   | exact LeO.none _
   | refine LeO.ite ?_ ?_
   | refine LeO.bind ?_ (fun _ => ?_)
def turnstonelaw10_PlaceLags.T9 : Bool × List (List Nat × List Nat) := (true, [([], []), ([0], [0]), ([1], [1]), ([2], [2]), ([3, 2], [2, 3]), ([2, 4], [2, 4]), ([5, 2], [5]), ([6], [6]), ([7, 6], [6, 7]), ([6, 8], [6, 8]), ([9, 6], [9]), ([10], [10]), ([10], [10]), ([12, 10, 10], [10, 12]), ([11, 13, 10], [10, 11, 13]), ([10, 14], [10, 14])])
def turnstonelaw10_PlaceLags.B9 : List Nat := [0, 1, 3, 7, 15, 31, 63, 127, 255, 511, 1023, 2047, 2047, 6143, 16383, 32767]
theorem turnstonelaw10_PlaceLags.tab9 : rtab .any (opsOf Tryz.f5 9) = turnstonelaw10_PlaceLags.T9 := by kernel_rfl
theorem turnstonelaw10_PlaceLags.bits9 : waitsOk turnstonelaw10_PlaceLags.T9.2 turnstonelaw10_PlaceLags.B9 = true := by kernel_rfl
set_option maxHeartbeats 8000000 in
set_option maxRecDepth 100000 in
theorem turnstonelaw10_PlaceLags.calls (k : Nat) (a0 : Int) (A1 : Option Addr) (c1 : Nat) (l1 : List (S28)) (a2 : Int) (a3 : Int) (r : Bool) (w : World) (hr1 : Kd.C k28 w A1 l1.length l1) (hc1 : l1.length ≤ c1) (h : turnstonelaw10_PlaceLags.f k a0 l1 a2 a3 = some r) :
  Calls Tryz.prog 5 #[.int .u64 a0, .slice A1 l1.length c1, .int .u32 a2, .int .i64 a3] w fun e w' => e = .returned (.bool r) ∧ Below w.heap.size w w' := by
 have hu33 := Tryz.underlying33
 have hu28 := Tryz.underlying28
 have hu31 := Tryz.underlying31
 have HR1 := Aside0.mk hr1
 have HC1 := Aside0.mk hc1
 clear hr1 hc1
 have HB := Aside0.mk (Below.refl w.heap.size w)
 have H : ((turnstonelaw10_awake.f).bind fun t437 => (if t437 = true then ((turnstonelaw10_near.f k a0 l1).bind fun bt438 => (if bt438.2.2.2.2.2 = true then (if a2 < 1 then (turnstonelaw10_PlaceLags.j0 k l1 a2 a3 true bt438.1 bt438.2.1 bt438.2.2.1 bt438.2.2.2.1 bt438.2.2.2.2.1) else (if a2 > 1048576 then (turnstonelaw10_PlaceLags.j0 k l1 a2 a3 true bt438.1 bt438.2.1 bt438.2.2.1 bt438.2.2.2.1 bt438.2.2.2.2.1) else (if a3 ≤ (-1125899906842624) then (turnstonelaw10_PlaceLags.j0 k l1 a2 a3 true bt438.1 bt438.2.1 bt438.2.2.1 bt438.2.2.2.1 bt438.2.2.2.2.1) else (turnstonelaw10_PlaceLags.j0 k l1 a2 a3 (decide (a3 ≥ 1125899906842624)) bt438.1 bt438.2.1 bt438.2.2.1 bt438.2.2.2.1 bt438.2.2.2.2.1)))) else (turnstonelaw10_PlaceLags.j0 k l1 a2 a3 true bt438.1 bt438.2.1 bt438.2.2.1 bt438.2.2.2.1 bt438.2.2.2.2.1))) else (none))) = some r := h
 clear h
 replace H := Option.bind_eq_some_iff.mp H
 obtain ⟨t437, A50, H⟩ := H
 replace H : (if t437 = true then ((turnstonelaw10_near.f k a0 l1).bind fun bt438 => (if bt438.2.2.2.2.2 = true then (if a2 < 1 then (turnstonelaw10_PlaceLags.j0 k l1 a2 a3 true bt438.1 bt438.2.1 bt438.2.2.1 bt438.2.2.2.1 bt438.2.2.2.2.1) else (if a2 > 1048576 then (turnstonelaw10_PlaceLags.j0 k l1 a2 a3 true bt438.1 bt438.2.1 bt438.2.2.1 bt438.2.2.2.1 bt438.2.2.2.2.1) else (if a3 ≤ (-1125899906842624) then (turnstonelaw10_PlaceLags.j0 k l1 a2 a3 true bt438.1 bt438.2.1 bt438.2.2.1 bt438.2.2.2.1 bt438.2.2.2.2.1) else (turnstonelaw10_PlaceLags.j0 k l1 a2 a3 (decide (a3 ≥ 1125899906842624)) bt438.1 bt438.2.1 bt438.2.2.1 bt438.2.2.2.1 bt438.2.2.2.2.1)))) else (turnstonelaw10_PlaceLags.j0 k l1 a2 a3 true bt438.1 bt438.2.1 bt438.2.2.1 bt438.2.2.2.1 bt438.2.2.2.2.1))) else (none)) = some r := H
 have A5 := Aside0.mk A50
 clear A50
 by_cases c6 : t437 = true
 ·subst c6
  have H1 : ((turnstonelaw10_near.f k a0 l1).bind fun bt438 => (if bt438.2.2.2.2.2 = true then (if a2 < 1 then (turnstonelaw10_PlaceLags.j0 k l1 a2 a3 true bt438.1 bt438.2.1 bt438.2.2.1 bt438.2.2.2.1 bt438.2.2.2.2.1) else (if a2 > 1048576 then (turnstonelaw10_PlaceLags.j0 k l1 a2 a3 true bt438.1 bt438.2.1 bt438.2.2.1 bt438.2.2.2.1 bt438.2.2.2.2.1) else (if a3 ≤ (-1125899906842624) then (turnstonelaw10_PlaceLags.j0 k l1 a2 a3 true bt438.1 bt438.2.1 bt438.2.2.1 bt438.2.2.2.1 bt438.2.2.2.2.1) else (turnstonelaw10_PlaceLags.j0 k l1 a2 a3 (decide (a3 ≥ 1125899906842624)) bt438.1 bt438.2.1 bt438.2.2.1 bt438.2.2.2.1 bt438.2.2.2.2.1)))) else (turnstonelaw10_PlaceLags.j0 k l1 a2 a3 true bt438.1 bt438.2.1 bt438.2.2.1 bt438.2.2.2.1 bt438.2.2.2.2.1))) = some r := by rw [if_pos rfl] at H; exact H
  clear H
  have H := H1
  clear H1
  replace H := Option.bind_eq_some_iff.mp H
  obtain ⟨⟨t438, t439, t440, t441, t442, t443⟩, A70, H⟩ := H
  replace H : (if t443 = true then (if a2 < 1 then (turnstonelaw10_PlaceLags.j0 k l1 a2 a3 true t438 t439 t440 t441 t442) else (if a2 > 1048576 then (turnstonelaw10_PlaceLags.j0 k l1 a2 a3 true t438 t439 t440 t441 t442) else (if a3 ≤ (-1125899906842624) then (turnstonelaw10_PlaceLags.j0 k l1 a2 a3 true t438 t439 t440 t441 t442) else (turnstonelaw10_PlaceLags.j0 k l1 a2 a3 (decide (a3 ≥ 1125899906842624)) t438 t439 t440 t441 t442)))) else (turnstonelaw10_PlaceLags.j0 k l1 a2 a3 true t438 t439 t440 t441 t442)) = some r := H
  have A7 := Aside0.mk A70
  clear A70
  have HC8 := Aside0.mk H
  clear H
  go_enter Tryz.func5, Tryz.ntmps5
  go_upto_region 4 with (first | ((with_reducible refine gate_callee (f := 28) rfl ?_); refine goesL_ (some 28) rfl rfl Tryz.func28 (by kernel_rfl) rfl #[] rfl argt ?_; (with_reducible refine (turnstonelaw10_awake.calls  true _ A5.out).mono ?_); rintro e w9 ⟨rfl, hb⟩; refine ⟨_, rfl, ?_⟩; replace HB := belb HB hb; (try clear hb); (try clear hb2); (try clear hk); (try clear hi)) | ((with_reducible refine gate_callee (f := 29) rfl ?_); refine goesL_ (some 33) rfl rfl Tryz.func29 (by kernel_rfl) rfl #[.int .u64 a0, .slice A1 l1.length c1] rfl argt ?_; (with_reducible refine (turnstonelaw10_near.calls k a0 _ _ l1 t438 t439 t440 t441 t442 t443 _ ?side1 ?side2 A7.out).mono ?_); (case side1 => exact (ct (Kd.C_below HR1.out HB.out))); (case side2 => exact HC1.out); rintro e w10 ⟨rfl, hb⟩; refine ⟨_, rfl, ?_⟩; replace HB := belb HB hb; (try clear hb); (try clear hb2); (try clear hk); (try clear hi)) | ((with_reducible refine gate_dst (N := 9) rfl ?_); (try (refine gate_guard (by rfl) ?_; dsimp only)); refine box_event ?hg (N := 9) ?hd (cs := #[.int .u64 0, .int .i64 0, .int .u64 0, .int .u64 0, .int .i64 0]) (t := 33) ?hr ?_; (case hd => rfl); (case hg => rfl); (case hr => first | (go_simp; done) | (go_simp; rfl)); intro gb444 hg w11 hbox hb; have BK444 := Aside0.mk (hbox); have GW444 := bels HB hg; have GE444 := bels HB hg; replace HB := belb HB hb; clear hb hbox hg; have hcz12_0 : w11.cell? ⟨gb444, 0, none⟩ = some (.int .u64 0) := (blk_cell BK444.out 0).trans rfl; have hcz12_1 : w11.cell? ⟨gb444, 1, none⟩ = some (.int .i64 0) := (blk_cell BK444.out 1).trans rfl; have hcz12_2 : w11.cell? ⟨gb444, 2, none⟩ = some (.int .u64 0) := (blk_cell BK444.out 2).trans rfl; have hcz12_3 : w11.cell? ⟨gb444, 3, none⟩ = some (.int .u64 0) := (blk_cell BK444.out 3).trans rfl; have hcz12_4 : w11.cell? ⟨gb444, 4, none⟩ = some (.int .i64 0) := (blk_cell BK444.out 4).trans rfl; have hfz12_0 := blk_frozen BK444.out 0; have hfz12_1 := blk_frozen BK444.out 1; have hfz12_2 := blk_frozen BK444.out 2; have hfz12_3 := blk_frozen BK444.out 3; have hfz12_4 := blk_frozen BK444.out 4))
  (try simp only [Act.put, List.setIfInBounds_toArray, List.set_cons_zero, List.set_cons_succ])
  go_cut [53] (fun v53 wc => ∃ (kq : Nat) (x53_7 : Bool), v53 = .bool x53_7 ∧ Aside0 (turnstonelaw10_PlaceLags.j0 kq l1 a2 a3 x53_7 t438 t439 t440 t441 t442 = some r) ∧ Aside0 (kq ≤ k) ∧ Aside0 (wc.heap[gb444]? = some (.cells #[.int .u64 t438, .int .i64 t439, .int .u64 t440, .int .u64 t441, .int .i64 t442] 33 (0, 0))) ∧ Aside0 (Below w.heap.size w wc))
  case first =>
   have H := HC8.out
   clear HC8
   by_cases c13 : t443 = true
   ·subst c13
    have H1 : (if a2 < 1 then (turnstonelaw10_PlaceLags.j0 k l1 a2 a3 true t438 t439 t440 t441 t442) else (if a2 > 1048576 then (turnstonelaw10_PlaceLags.j0 k l1 a2 a3 true t438 t439 t440 t441 t442) else (if a3 ≤ (-1125899906842624) then (turnstonelaw10_PlaceLags.j0 k l1 a2 a3 true t438 t439 t440 t441 t442) else (turnstonelaw10_PlaceLags.j0 k l1 a2 a3 (decide (a3 ≥ 1125899906842624)) t438 t439 t440 t441 t442)))) = some r := by rw [if_pos rfl] at H; exact H
    clear H
    have H := H1
    clear H1
    by_cases c14 : a2 < 1
    ·rw [if_pos c14] at H
     have c14b0 : decide (a2 < 1) = true := decide_eq_true c14
     clear c14
     (first | rw [c14b0] | (simp only [i64_w, i32_w]; rw [c14b0]) | skip)
     have H' := Aside0.mk H
     clear H
     go_wp2
     go_meet
     case rel => exact ⟨_, (true), (by first | rfl | (simp; done) | (simp [*]; done)), H', ⟨by first | omega | exact Nat.le_refl _⟩, ⟨by (with_reducible repeat (first | refine blk_drewN ?_ _ | refine blk_drew ?_ | refine blk_alloc ?_ _)); refine blk_put (cs := #[.int .u64 t438, .int .i64 t439, .int .u64 t440, .int .u64 t441, .int .i64 0]) ?_ 4 _ rfl; (with_reducible repeat (first | refine blk_drewN ?_ _ | refine blk_drew ?_ | refine blk_alloc ?_ _)); refine blk_put (cs := #[.int .u64 t438, .int .i64 t439, .int .u64 t440, .int .u64 0, .int .i64 0]) ?_ 3 _ rfl; (with_reducible repeat (first | refine blk_drewN ?_ _ | refine blk_drew ?_ | refine blk_alloc ?_ _)); refine blk_put (cs := #[.int .u64 t438, .int .i64 t439, .int .u64 0, .int .u64 0, .int .i64 0]) ?_ 2 _ rfl; (with_reducible repeat (first | refine blk_drewN ?_ _ | refine blk_drew ?_ | refine blk_alloc ?_ _)); refine blk_put (cs := #[.int .u64 t438, .int .i64 0, .int .u64 0, .int .u64 0, .int .i64 0]) ?_ 1 _ rfl; (with_reducible repeat (first | refine blk_drewN ?_ _ | refine blk_drew ?_ | refine blk_alloc ?_ _)); refine blk_put (cs := #[.int .u64 0, .int .i64 0, .int .u64 0, .int .u64 0, .int .i64 0]) ?_ 0 _ rfl; exact blkt BK444⟩, ⟨belt HB⟩⟩
    ·rw [if_neg c14] at H
     have c14b0 : decide (a2 < 1) = false := decide_eq_false c14
     clear c14
     (first | rw [c14b0] | (simp only [i64_w, i32_w]; rw [c14b0]) | skip)
     by_cases c15 : a2 > 1048576
     ·rw [if_pos c15] at H
      have c15b0 : decide (1048576 < a2) = true := decide_eq_true c15
      clear c15
      have H' := Aside0.mk H
      clear H
      go_wp2
      go_meet
      case rel => exact ⟨_, (true), (by first | rfl | (simp; done) | (simp [*]; done)), H', ⟨by first | omega | exact Nat.le_refl _⟩, ⟨by (with_reducible repeat (first | refine blk_drewN ?_ _ | refine blk_drew ?_ | refine blk_alloc ?_ _)); refine blk_put (cs := #[.int .u64 t438, .int .i64 t439, .int .u64 t440, .int .u64 t441, .int .i64 0]) ?_ 4 _ rfl; (with_reducible repeat (first | refine blk_drewN ?_ _ | refine blk_drew ?_ | refine blk_alloc ?_ _)); refine blk_put (cs := #[.int .u64 t438, .int .i64 t439, .int .u64 t440, .int .u64 0, .int .i64 0]) ?_ 3 _ rfl; (with_reducible repeat (first | refine blk_drewN ?_ _ | refine blk_drew ?_ | refine blk_alloc ?_ _)); refine blk_put (cs := #[.int .u64 t438, .int .i64 t439, .int .u64 0, .int .u64 0, .int .i64 0]) ?_ 2 _ rfl; (with_reducible repeat (first | refine blk_drewN ?_ _ | refine blk_drew ?_ | refine blk_alloc ?_ _)); refine blk_put (cs := #[.int .u64 t438, .int .i64 0, .int .u64 0, .int .u64 0, .int .i64 0]) ?_ 1 _ rfl; (with_reducible repeat (first | refine blk_drewN ?_ _ | refine blk_drew ?_ | refine blk_alloc ?_ _)); refine blk_put (cs := #[.int .u64 0, .int .i64 0, .int .u64 0, .int .u64 0, .int .i64 0]) ?_ 0 _ rfl; exact blkt BK444⟩, ⟨belt HB⟩⟩
     ·rw [if_neg c15] at H
      have c15b0 : decide (1048576 < a2) = false := decide_eq_false c15
      clear c15
      by_cases c16 : a3 ≤ (-1125899906842624)
      ·rw [if_pos c16] at H
       have c16b0 : decide (a3 ≤ (-1125899906842624)) = true := decide_eq_true c16
       clear c16
       have H' := Aside0.mk H
       clear H
       go_wp2
       go_meet
       case rel => exact ⟨_, (true), (by first | rfl | (simp; done) | (simp [*]; done)), H', ⟨by first | omega | exact Nat.le_refl _⟩, ⟨by (with_reducible repeat (first | refine blk_drewN ?_ _ | refine blk_drew ?_ | refine blk_alloc ?_ _)); refine blk_put (cs := #[.int .u64 t438, .int .i64 t439, .int .u64 t440, .int .u64 t441, .int .i64 0]) ?_ 4 _ rfl; (with_reducible repeat (first | refine blk_drewN ?_ _ | refine blk_drew ?_ | refine blk_alloc ?_ _)); refine blk_put (cs := #[.int .u64 t438, .int .i64 t439, .int .u64 t440, .int .u64 0, .int .i64 0]) ?_ 3 _ rfl; (with_reducible repeat (first | refine blk_drewN ?_ _ | refine blk_drew ?_ | refine blk_alloc ?_ _)); refine blk_put (cs := #[.int .u64 t438, .int .i64 t439, .int .u64 0, .int .u64 0, .int .i64 0]) ?_ 2 _ rfl; (with_reducible repeat (first | refine blk_drewN ?_ _ | refine blk_drew ?_ | refine blk_alloc ?_ _)); refine blk_put (cs := #[.int .u64 t438, .int .i64 0, .int .u64 0, .int .u64 0, .int .i64 0]) ?_ 1 _ rfl; (with_reducible repeat (first | refine blk_drewN ?_ _ | refine blk_drew ?_ | refine blk_alloc ?_ _)); refine blk_put (cs := #[.int .u64 0, .int .i64 0, .int .u64 0, .int .u64 0, .int .i64 0]) ?_ 0 _ rfl; exact blkt BK444⟩, ⟨belt HB⟩⟩
      ·rw [if_neg c16] at H
       have c16b0 : decide (a3 ≤ (-1125899906842624)) = false := decide_eq_false c16
       clear c16
       have H' := Aside0.mk H
       clear H
       go_wp2
       go_meet
       case rel => exact ⟨_, (decide (a3 ≥ 1125899906842624)), (by first | rfl | (simp; done) | (simp [*]; done)), H', ⟨by first | omega | exact Nat.le_refl _⟩, ⟨by (with_reducible repeat (first | refine blk_drewN ?_ _ | refine blk_drew ?_ | refine blk_alloc ?_ _)); refine blk_put (cs := #[.int .u64 t438, .int .i64 t439, .int .u64 t440, .int .u64 t441, .int .i64 0]) ?_ 4 _ rfl; (with_reducible repeat (first | refine blk_drewN ?_ _ | refine blk_drew ?_ | refine blk_alloc ?_ _)); refine blk_put (cs := #[.int .u64 t438, .int .i64 t439, .int .u64 t440, .int .u64 0, .int .i64 0]) ?_ 3 _ rfl; (with_reducible repeat (first | refine blk_drewN ?_ _ | refine blk_drew ?_ | refine blk_alloc ?_ _)); refine blk_put (cs := #[.int .u64 t438, .int .i64 t439, .int .u64 0, .int .u64 0, .int .i64 0]) ?_ 2 _ rfl; (with_reducible repeat (first | refine blk_drewN ?_ _ | refine blk_drew ?_ | refine blk_alloc ?_ _)); refine blk_put (cs := #[.int .u64 t438, .int .i64 0, .int .u64 0, .int .u64 0, .int .i64 0]) ?_ 1 _ rfl; (with_reducible repeat (first | refine blk_drewN ?_ _ | refine blk_drew ?_ | refine blk_alloc ?_ _)); refine blk_put (cs := #[.int .u64 0, .int .i64 0, .int .u64 0, .int .u64 0, .int .i64 0]) ?_ 0 _ rfl; exact blkt BK444⟩, ⟨belt HB⟩⟩
   ·replace c13 := Bool.eq_false_iff.mpr c13
    subst c13
    have H1 : (turnstonelaw10_PlaceLags.j0 k l1 a2 a3 true t438 t439 t440 t441 t442) = some r := by rw [if_neg (show ¬ (false = true) by decide)] at H; exact H
    clear H
    have H := H1
    clear H1
    have H' := Aside0.mk H
    clear H
    go_wp2
    go_meet
    case rel => exact ⟨_, (true), (by first | rfl | (simp; done) | (simp [*]; done)), H', ⟨by first | omega | exact Nat.le_refl _⟩, ⟨by (with_reducible repeat (first | refine blk_drewN ?_ _ | refine blk_drew ?_ | refine blk_alloc ?_ _)); refine blk_put (cs := #[.int .u64 t438, .int .i64 t439, .int .u64 t440, .int .u64 t441, .int .i64 0]) ?_ 4 _ rfl; (with_reducible repeat (first | refine blk_drewN ?_ _ | refine blk_drew ?_ | refine blk_alloc ?_ _)); refine blk_put (cs := #[.int .u64 t438, .int .i64 t439, .int .u64 t440, .int .u64 0, .int .i64 0]) ?_ 3 _ rfl; (with_reducible repeat (first | refine blk_drewN ?_ _ | refine blk_drew ?_ | refine blk_alloc ?_ _)); refine blk_put (cs := #[.int .u64 t438, .int .i64 t439, .int .u64 0, .int .u64 0, .int .i64 0]) ?_ 2 _ rfl; (with_reducible repeat (first | refine blk_drewN ?_ _ | refine blk_drew ?_ | refine blk_alloc ?_ _)); refine blk_put (cs := #[.int .u64 t438, .int .i64 0, .int .u64 0, .int .u64 0, .int .i64 0]) ?_ 1 _ rfl; (with_reducible repeat (first | refine blk_drewN ?_ _ | refine blk_drew ?_ | refine blk_alloc ?_ _)); refine blk_put (cs := #[.int .u64 0, .int .i64 0, .int .u64 0, .int .u64 0, .int .i64 0]) ?_ 0 _ rfl; exact blkt BK444⟩, ⟨belt HB⟩⟩
  case rest =>
   clear HC8
   try clear c1
   try clear c2
   try clear p2
   try clear c5
   try clear c6
   try clear c13
   try clear c14
   try clear c14b0
   try clear c15
   try clear c15b0
   try clear c16
   try clear c16b0
   try clear hcz12_0
   try clear hcz12_1
   try clear hcz12_2
   try clear hcz12_3
   try clear hcz12_4
   try clear hfz12_0
   try clear hfz12_1
   try clear hfz12_2
   try clear hfz12_3
   try clear hfz12_4
   obtain ⟨kq, x53_7, rfl, HA, HJ7, BK444, HB⟩ := hcut
   cases kq with
   | zero => exact absurd HA.out (by simp [turnstonelaw10_PlaceLags.j0])
   | succ kj7 =>
    have H := HA.out
    clear HA
    simp only [turnstonelaw10_PlaceLags.j0] at H
    by_cases c17 : x53_7 = true
    ·subst c17
     have H1 : (some true) = some r := by rw [if_pos rfl] at H; exact H
     clear H
     have H := H1
     clear H1
     obtain rfl := Option.some.inj H
     go_wp2
     go_ret
     exact ⟨by first | rfl | (simp [errW_none, errW_some] <;> rfl) | (simp [*, errW_none, errW_some] <;> rfl), belt HB⟩
    ·replace c17 := Bool.eq_false_iff.mpr c17
     subst c17
     have H1 : ((place_Place.f kj7 t438 t439 t440 t441 t442 0 a2 a3).bind fun bt445 => ((mean_Mean_Add.f kj7 t438 t439 t440 t441 t442 bt445.1 bt445.2.1 bt445.2.2.1).bind fun bt450 => ((lag_Read.f kj7 bt450.1 bt450.2.1 bt450.2.2.1 bt450.2.2.2.1 bt450.2.2.2.2.1 bt445.1 bt445.2.1 bt445.2.2.1).bind fun bt457 => (if bt445.2.2.2 = true then (if bt450.2.2.2.2.2 = true then (if bt457.2.2 = true then ((wide_Of.f a3).bind fun bt461 => (turnstonelaw10_PlaceLags.j1 kj7 l1 a3 (!(bt457.1 == bt461.1) || (!(bt457.2.1 == bt461.2))) t438 t439 t440 t441 t442 bt450.1 bt450.2.1 bt450.2.2.1 bt450.2.2.2.1 bt450.2.2.2.2.1)) else (turnstonelaw10_PlaceLags.j1 kj7 l1 a3 true t438 t439 t440 t441 t442 bt450.1 bt450.2.1 bt450.2.2.1 bt450.2.2.2.1 bt450.2.2.2.2.1)) else (turnstonelaw10_PlaceLags.j1 kj7 l1 a3 true t438 t439 t440 t441 t442 bt450.1 bt450.2.1 bt450.2.2.1 bt450.2.2.2.1 bt450.2.2.2.2.1)) else (turnstonelaw10_PlaceLags.j1 kj7 l1 a3 true t438 t439 t440 t441 t442 bt450.1 bt450.2.1 bt450.2.2.1 bt450.2.2.2.1 bt450.2.2.2.2.1))))) = some r := by rw [if_neg (show ¬ (false = true) by decide)] at H; exact H
     clear H
     have H := H1
     clear H1
     replace H := Option.bind_eq_some_iff.mp H
     obtain ⟨⟨t445, t446, t447, t448⟩, A180, H⟩ := H
     replace H : ((mean_Mean_Add.f kj7 t438 t439 t440 t441 t442 t445 t446 t447).bind fun bt450 => ((lag_Read.f kj7 bt450.1 bt450.2.1 bt450.2.2.1 bt450.2.2.2.1 bt450.2.2.2.2.1 t445 t446 t447).bind fun bt457 => (if t448 = true then (if bt450.2.2.2.2.2 = true then (if bt457.2.2 = true then ((wide_Of.f a3).bind fun bt461 => (turnstonelaw10_PlaceLags.j1 kj7 l1 a3 (!(bt457.1 == bt461.1) || (!(bt457.2.1 == bt461.2))) t438 t439 t440 t441 t442 bt450.1 bt450.2.1 bt450.2.2.1 bt450.2.2.2.1 bt450.2.2.2.2.1)) else (turnstonelaw10_PlaceLags.j1 kj7 l1 a3 true t438 t439 t440 t441 t442 bt450.1 bt450.2.1 bt450.2.2.1 bt450.2.2.2.1 bt450.2.2.2.2.1)) else (turnstonelaw10_PlaceLags.j1 kj7 l1 a3 true t438 t439 t440 t441 t442 bt450.1 bt450.2.1 bt450.2.2.1 bt450.2.2.2.1 bt450.2.2.2.2.1)) else (turnstonelaw10_PlaceLags.j1 kj7 l1 a3 true t438 t439 t440 t441 t442 bt450.1 bt450.2.1 bt450.2.2.1 bt450.2.2.2.1 bt450.2.2.2.2.1)))) = some r := H
     have A18 := Aside0.mk A180
     clear A180
     replace H := Option.bind_eq_some_iff.mp H
     obtain ⟨⟨t450, t451, t452, t453, t454, t455⟩, A190, H⟩ := H
     replace H : ((lag_Read.f kj7 t450 t451 t452 t453 t454 t445 t446 t447).bind fun bt457 => (if t448 = true then (if t455 = true then (if bt457.2.2 = true then ((wide_Of.f a3).bind fun bt461 => (turnstonelaw10_PlaceLags.j1 kj7 l1 a3 (!(bt457.1 == bt461.1) || (!(bt457.2.1 == bt461.2))) t438 t439 t440 t441 t442 t450 t451 t452 t453 t454)) else (turnstonelaw10_PlaceLags.j1 kj7 l1 a3 true t438 t439 t440 t441 t442 t450 t451 t452 t453 t454)) else (turnstonelaw10_PlaceLags.j1 kj7 l1 a3 true t438 t439 t440 t441 t442 t450 t451 t452 t453 t454)) else (turnstonelaw10_PlaceLags.j1 kj7 l1 a3 true t438 t439 t440 t441 t442 t450 t451 t452 t453 t454))) = some r := H
     have A19 := Aside0.mk A190
     clear A190
     replace H := Option.bind_eq_some_iff.mp H
     obtain ⟨⟨t457, t458, t459⟩, A200, H⟩ := H
     replace H : (if t448 = true then (if t455 = true then (if t459 = true then ((wide_Of.f a3).bind fun bt461 => (turnstonelaw10_PlaceLags.j1 kj7 l1 a3 (!(t457 == bt461.1) || (!(t458 == bt461.2))) t438 t439 t440 t441 t442 t450 t451 t452 t453 t454)) else (turnstonelaw10_PlaceLags.j1 kj7 l1 a3 true t438 t439 t440 t441 t442 t450 t451 t452 t453 t454)) else (turnstonelaw10_PlaceLags.j1 kj7 l1 a3 true t438 t439 t440 t441 t442 t450 t451 t452 t453 t454)) else (turnstonelaw10_PlaceLags.j1 kj7 l1 a3 true t438 t439 t440 t441 t442 t450 t451 t452 t453 t454)) = some r := H
     have A20 := Aside0.mk A200
     clear A200
     have HC21 := Aside0.mk H
     clear H
     have hcz22_0 : wc.cell? ⟨gb444, 0, none⟩ = some (.int .u64 t438) := (blk_cell BK444.out 0).trans rfl
     have hcz22_1 : wc.cell? ⟨gb444, 1, none⟩ = some (.int .i64 t439) := (blk_cell BK444.out 1).trans rfl
     have hcz22_2 : wc.cell? ⟨gb444, 2, none⟩ = some (.int .u64 t440) := (blk_cell BK444.out 2).trans rfl
     have hcz22_3 : wc.cell? ⟨gb444, 3, none⟩ = some (.int .u64 t441) := (blk_cell BK444.out 3).trans rfl
     have hcz22_4 : wc.cell? ⟨gb444, 4, none⟩ = some (.int .i64 t442) := (blk_cell BK444.out 4).trans rfl
     have hfz22_0 := blk_frozen BK444.out 0
     have hfz22_1 := blk_frozen BK444.out 1
     have hfz22_2 := blk_frozen BK444.out 2
     have hfz22_3 := blk_frozen BK444.out 3
     have hfz22_4 := blk_frozen BK444.out 4
     go_upto_region 9 with (first | ((with_reducible refine gate_callee (f := 30) rfl ?_); refine goesL_ (some 58) rfl rfl Tryz.func30 (by kernel_rfl) rfl #[.agg #[.int .u64 t438, .int .i64 t439, .int .u64 t440, .int .u64 t441, .int .i64 t442], .int .u64 0, .int .u32 a2, .int .i64 a3] rfl argt ?_; (with_reducible refine (place_Place.calls kj7 t438 t439 t440 t441 t442 0 a2 a3 t445 t446 t447 t448 _ A18.out).mono ?_); rintro e w23 ⟨rfl, hb⟩; refine ⟨_, rfl, ?_⟩; replace BK444 := blkb BK444 hb; replace HB := belb HB hb; (try clear hb); (try clear hb2); (try clear hk); (try clear hi)) | ((with_reducible refine gate_dst (N := 11) rfl ?_); (try (refine gate_guard (by rfl) ?_; dsimp only)); refine box_event ?hg (N := 11) ?hd (cs := #[.int .u64 0, .int .u32 0, .int .u32 0]) (t := 28) ?hr ?_; (case hd => rfl); (case hg => rfl); (case hr => first | (go_simp; done) | (go_simp; rfl)); intro gb449 hg w24 hbox hb; have BK449 := Aside0.mk (hbox); have GW449 := bels HB hg; have GE449 := bels HB hg; have NB444_449 := blkl BK444 hg; have NB449_444 := blkg BK444 hg; replace BK444 := blkb BK444 hb; replace HB := belb HB hb; clear hb hbox hg; have hnb25 := NB449_444.out; have hnc25 := NB444_449.out; have hcz26_0 : w24.cell? ⟨gb449, 0, none⟩ = some (.int .u64 0) := (blk_cell BK449.out 0).trans rfl; have hcz26_1 : w24.cell? ⟨gb449, 1, none⟩ = some (.int .u32 0) := (blk_cell BK449.out 1).trans rfl; have hcz26_2 : w24.cell? ⟨gb449, 2, none⟩ = some (.int .u32 0) := (blk_cell BK449.out 2).trans rfl; have hfz26_0 := blk_frozen BK449.out 0; have hfz26_1 := blk_frozen BK449.out 1; have hfz26_2 := blk_frozen BK449.out 2; have hcz27_0 : w24.cell? ⟨gb444, 0, none⟩ = some (.int .u64 t438) := (blk_cell BK444.out 0).trans rfl; have hcz27_1 : w24.cell? ⟨gb444, 1, none⟩ = some (.int .i64 t439) := (blk_cell BK444.out 1).trans rfl; have hcz27_2 : w24.cell? ⟨gb444, 2, none⟩ = some (.int .u64 t440) := (blk_cell BK444.out 2).trans rfl; have hcz27_3 : w24.cell? ⟨gb444, 3, none⟩ = some (.int .u64 t441) := (blk_cell BK444.out 3).trans rfl; have hcz27_4 : w24.cell? ⟨gb444, 4, none⟩ = some (.int .i64 t442) := (blk_cell BK444.out 4).trans rfl; have hfz27_0 := blk_frozen BK444.out 0; have hfz27_1 := blk_frozen BK444.out 1; have hfz27_2 := blk_frozen BK444.out 2; have hfz27_3 := blk_frozen BK444.out 3; have hfz27_4 := blk_frozen BK444.out 4) | ((with_reducible refine gate_callee (f := 25) rfl ?_); refine goesL_ (some 64) rfl rfl Tryz.func25 (by kernel_rfl) rfl #[.agg #[.int .u64 t438, .int .i64 t439, .int .u64 t440, .int .u64 t441, .int .i64 t442], .agg #[.int .u64 t445, .int .u32 t446, .int .u32 t447]] rfl argt ?_; (with_reducible refine (mean_Mean_Add.calls kj7 t438 t439 t440 t441 t442 t445 t446 t447 t450 t451 t452 t453 t454 t455 _ A19.out).mono ?_); rintro e w28 ⟨rfl, hb⟩; refine ⟨_, rfl, ?_⟩; replace BK444 := Aside0.mk (blk_below (g := gb444) (o := .cells #[.int .u64 t438, .int .i64 t439, .int .u64 t440, .int .u64 t441, .int .i64 t442] 33 (0, 0)) (by (with_reducible repeat (first | refine blk_drewN ?_ _ | refine blk_drew ?_ | refine blk_alloc ?_ _)); refine blk_far ?_ NB444_449.out _; (with_reducible repeat (first | refine blk_drewN ?_ _ | refine blk_drew ?_ | refine blk_alloc ?_ _)); refine blk_far ?_ NB444_449.out _; (with_reducible repeat (first | refine blk_drewN ?_ _ | refine blk_drew ?_ | refine blk_alloc ?_ _)); refine blk_far ?_ NB444_449.out _; exact blkt BK444) hb); replace BK449 := Aside0.mk (blk_below (g := gb449) (o := .cells #[.int .u64 t445, .int .u32 t446, .int .u32 t447] 28 (0, 0)) (by (with_reducible repeat (first | refine blk_drewN ?_ _ | refine blk_drew ?_ | refine blk_alloc ?_ _)); refine blk_put (cs := #[.int .u64 t445, .int .u32 t446, .int .u32 0]) ?_ 2 _ rfl; (with_reducible repeat (first | refine blk_drewN ?_ _ | refine blk_drew ?_ | refine blk_alloc ?_ _)); refine blk_put (cs := #[.int .u64 t445, .int .u32 0, .int .u32 0]) ?_ 1 _ rfl; (with_reducible repeat (first | refine blk_drewN ?_ _ | refine blk_drew ?_ | refine blk_alloc ?_ _)); refine blk_put (cs := #[.int .u64 0, .int .u32 0, .int .u32 0]) ?_ 0 _ rfl; exact blkt BK449) hb); replace HB := belb HB hb; (try clear hb); (try clear hb2); (try clear hk); (try clear hi)) | ((with_reducible refine gate_dst (N := 13) rfl ?_); (try (refine gate_guard (by rfl) ?_; dsimp only)); refine box_event ?hg (N := 13) ?hd (cs := #[.int .u64 0, .int .i64 0, .int .u64 0, .int .u64 0, .int .i64 0]) (t := 33) ?hr ?_; (case hd => rfl); (case hg => rfl); (case hr => first | (go_simp; done) | (go_simp; rfl)); intro gb456 hg w29 hbox hb; have BK456 := Aside0.mk (hbox); have GW456 := bels HB hg; have GE456 := bels HB hg; have NB444_456 := blkl BK444 hg; have NB456_444 := blkg BK444 hg; have NB449_456 := blkl BK449 hg; have NB456_449 := blkg BK449 hg; replace BK444 := blkb BK444 hb; replace BK449 := blkb BK449 hb; replace HB := belb HB hb; clear hb hbox hg; have hnb30 := NB456_444.out; have hnc30 := NB444_456.out; have hnb31 := NB456_449.out; have hnc31 := NB449_456.out; have hcz32_0 : w29.cell? ⟨gb456, 0, none⟩ = some (.int .u64 0) := (blk_cell BK456.out 0).trans rfl; have hcz32_1 : w29.cell? ⟨gb456, 1, none⟩ = some (.int .i64 0) := (blk_cell BK456.out 1).trans rfl; have hcz32_2 : w29.cell? ⟨gb456, 2, none⟩ = some (.int .u64 0) := (blk_cell BK456.out 2).trans rfl; have hcz32_3 : w29.cell? ⟨gb456, 3, none⟩ = some (.int .u64 0) := (blk_cell BK456.out 3).trans rfl; have hcz32_4 : w29.cell? ⟨gb456, 4, none⟩ = some (.int .i64 0) := (blk_cell BK456.out 4).trans rfl; have hfz32_0 := blk_frozen BK456.out 0; have hfz32_1 := blk_frozen BK456.out 1; have hfz32_2 := blk_frozen BK456.out 2; have hfz32_3 := blk_frozen BK456.out 3; have hfz32_4 := blk_frozen BK456.out 4; have hcz33_0 : w29.cell? ⟨gb449, 0, none⟩ = some (.int .u64 t445) := (blk_cell BK449.out 0).trans rfl; have hcz33_1 : w29.cell? ⟨gb449, 1, none⟩ = some (.int .u32 t446) := (blk_cell BK449.out 1).trans rfl; have hcz33_2 : w29.cell? ⟨gb449, 2, none⟩ = some (.int .u32 t447) := (blk_cell BK449.out 2).trans rfl; have hfz33_0 := blk_frozen BK449.out 0; have hfz33_1 := blk_frozen BK449.out 1; have hfz33_2 := blk_frozen BK449.out 2) | ((with_reducible refine gate_callee (f := 21) rfl ?_); refine goesL_ (some 70) rfl rfl Tryz.func21 (by kernel_rfl) rfl #[.agg #[.int .u64 t450, .int .i64 t451, .int .u64 t452, .int .u64 t453, .int .i64 t454], .agg #[.int .u64 t445, .int .u32 t446, .int .u32 t447]] rfl argt ?_; (with_reducible refine (lag_Read.calls kj7 t450 t451 t452 t453 t454 t445 t446 t447 t457 t458 t459 _ A20.out).mono ?_); rintro e w34 ⟨rfl, hb⟩; refine ⟨_, rfl, ?_⟩; replace BK444 := Aside0.mk (blk_below (g := gb444) (o := .cells #[.int .u64 t438, .int .i64 t439, .int .u64 t440, .int .u64 t441, .int .i64 t442] 33 (0, 0)) (by (with_reducible repeat (first | refine blk_drewN ?_ _ | refine blk_drew ?_ | refine blk_alloc ?_ _)); refine blk_far ?_ NB444_456.out _; (with_reducible repeat (first | refine blk_drewN ?_ _ | refine blk_drew ?_ | refine blk_alloc ?_ _)); refine blk_far ?_ NB444_456.out _; (with_reducible repeat (first | refine blk_drewN ?_ _ | refine blk_drew ?_ | refine blk_alloc ?_ _)); refine blk_far ?_ NB444_456.out _; (with_reducible repeat (first | refine blk_drewN ?_ _ | refine blk_drew ?_ | refine blk_alloc ?_ _)); refine blk_far ?_ NB444_456.out _; (with_reducible repeat (first | refine blk_drewN ?_ _ | refine blk_drew ?_ | refine blk_alloc ?_ _)); refine blk_far ?_ NB444_456.out _; exact blkt BK444) hb); replace BK449 := Aside0.mk (blk_below (g := gb449) (o := .cells #[.int .u64 t445, .int .u32 t446, .int .u32 t447] 28 (0, 0)) (by (with_reducible repeat (first | refine blk_drewN ?_ _ | refine blk_drew ?_ | refine blk_alloc ?_ _)); refine blk_far ?_ NB449_456.out _; (with_reducible repeat (first | refine blk_drewN ?_ _ | refine blk_drew ?_ | refine blk_alloc ?_ _)); refine blk_far ?_ NB449_456.out _; (with_reducible repeat (first | refine blk_drewN ?_ _ | refine blk_drew ?_ | refine blk_alloc ?_ _)); refine blk_far ?_ NB449_456.out _; (with_reducible repeat (first | refine blk_drewN ?_ _ | refine blk_drew ?_ | refine blk_alloc ?_ _)); refine blk_far ?_ NB449_456.out _; (with_reducible repeat (first | refine blk_drewN ?_ _ | refine blk_drew ?_ | refine blk_alloc ?_ _)); refine blk_far ?_ NB449_456.out _; exact blkt BK449) hb); replace BK456 := Aside0.mk (blk_below (g := gb456) (o := .cells #[.int .u64 t450, .int .i64 t451, .int .u64 t452, .int .u64 t453, .int .i64 t454] 33 (0, 0)) (by (with_reducible repeat (first | refine blk_drewN ?_ _ | refine blk_drew ?_ | refine blk_alloc ?_ _)); refine blk_put (cs := #[.int .u64 t450, .int .i64 t451, .int .u64 t452, .int .u64 t453, .int .i64 0]) ?_ 4 _ rfl; (with_reducible repeat (first | refine blk_drewN ?_ _ | refine blk_drew ?_ | refine blk_alloc ?_ _)); refine blk_put (cs := #[.int .u64 t450, .int .i64 t451, .int .u64 t452, .int .u64 0, .int .i64 0]) ?_ 3 _ rfl; (with_reducible repeat (first | refine blk_drewN ?_ _ | refine blk_drew ?_ | refine blk_alloc ?_ _)); refine blk_put (cs := #[.int .u64 t450, .int .i64 t451, .int .u64 0, .int .u64 0, .int .i64 0]) ?_ 2 _ rfl; (with_reducible repeat (first | refine blk_drewN ?_ _ | refine blk_drew ?_ | refine blk_alloc ?_ _)); refine blk_put (cs := #[.int .u64 t450, .int .i64 0, .int .u64 0, .int .u64 0, .int .i64 0]) ?_ 1 _ rfl; (with_reducible repeat (first | refine blk_drewN ?_ _ | refine blk_drew ?_ | refine blk_alloc ?_ _)); refine blk_put (cs := #[.int .u64 0, .int .i64 0, .int .u64 0, .int .u64 0, .int .i64 0]) ?_ 0 _ rfl; exact blkt BK456) hb); replace HB := belb HB hb; (try clear hb); (try clear hb2); (try clear hk); (try clear hi)) | ((with_reducible refine gate_dst (N := 15) rfl ?_); (try (refine gate_guard (by rfl) ?_; dsimp only)); refine box_event ?hg (N := 15) ?hd (cs := #[.int .i64 0, .int .u64 0]) (t := 31) ?hr ?_; (case hd => rfl); (case hg => rfl); (case hr => first | (go_simp; done) | (go_simp; rfl)); intro gb460 hg w35 hbox hb; have BK460 := Aside0.mk (hbox); have GW460 := bels HB hg; have GE460 := bels HB hg; have NB444_460 := blkl BK444 hg; have NB460_444 := blkg BK444 hg; have NB449_460 := blkl BK449 hg; have NB460_449 := blkg BK449 hg; have NB456_460 := blkl BK456 hg; have NB460_456 := blkg BK456 hg; replace BK444 := blkb BK444 hb; replace BK449 := blkb BK449 hb; replace BK456 := blkb BK456 hb; replace HB := belb HB hb; clear hb hbox hg; have hnb36 := NB460_444.out; have hnc36 := NB444_460.out; have hnb37 := NB460_449.out; have hnc37 := NB449_460.out; have hnb38 := NB460_456.out; have hnc38 := NB456_460.out; have hcz39_0 : w35.cell? ⟨gb460, 0, none⟩ = some (.int .i64 0) := (blk_cell BK460.out 0).trans rfl; have hcz39_1 : w35.cell? ⟨gb460, 1, none⟩ = some (.int .u64 0) := (blk_cell BK460.out 1).trans rfl; have hfz39_0 := blk_frozen BK460.out 0; have hfz39_1 := blk_frozen BK460.out 1))
     (try simp only [Act.put, List.setIfInBounds_toArray, List.set_cons_zero, List.set_cons_succ])
     go_cut [88] (fun v88 wc => ∃ (kq : Nat) (x88_20 : Bool), v88 = .bool x88_20 ∧ Aside0 (turnstonelaw10_PlaceLags.j1 kq l1 a3 x88_20 t438 t439 t440 t441 t442 t450 t451 t452 t453 t454 = some r) ∧ Aside0 (kq ≤ kj7) ∧ Aside0 (wc.heap[gb444]? = some (.cells #[.int .u64 t438, .int .i64 t439, .int .u64 t440, .int .u64 t441, .int .i64 t442] 33 (0, 0))) ∧ Aside0 (wc.heap[gb449]? = some (.cells #[.int .u64 t445, .int .u32 t446, .int .u32 t447] 28 (0, 0))) ∧ Aside0 (wc.heap[gb456]? = some (.cells #[.int .u64 t450, .int .i64 t451, .int .u64 t452, .int .u64 t453, .int .i64 t454] 33 (0, 0))) ∧ Aside0 (wc.heap[gb460]? = some (.cells #[.int .i64 t457, .int .u64 t458] 31 (0, 0))) ∧ Aside0 (Below w.heap.size w wc))
     case first =>
      have H := HC21.out
      clear HC21
      by_cases c40 : t448 = true
      ·subst c40
       have H1 : (if t455 = true then (if t459 = true then ((wide_Of.f a3).bind fun bt461 => (turnstonelaw10_PlaceLags.j1 kj7 l1 a3 (!(t457 == bt461.1) || (!(t458 == bt461.2))) t438 t439 t440 t441 t442 t450 t451 t452 t453 t454)) else (turnstonelaw10_PlaceLags.j1 kj7 l1 a3 true t438 t439 t440 t441 t442 t450 t451 t452 t453 t454)) else (turnstonelaw10_PlaceLags.j1 kj7 l1 a3 true t438 t439 t440 t441 t442 t450 t451 t452 t453 t454)) = some r := by rw [if_pos rfl] at H; exact H
       clear H
       have H := H1
       clear H1
       by_cases c41 : t455 = true
       ·subst c41
        have H1 : (if t459 = true then ((wide_Of.f a3).bind fun bt461 => (turnstonelaw10_PlaceLags.j1 kj7 l1 a3 (!(t457 == bt461.1) || (!(t458 == bt461.2))) t438 t439 t440 t441 t442 t450 t451 t452 t453 t454)) else (turnstonelaw10_PlaceLags.j1 kj7 l1 a3 true t438 t439 t440 t441 t442 t450 t451 t452 t453 t454)) = some r := by rw [if_pos rfl] at H; exact H
        clear H
        have H := H1
        clear H1
        by_cases c42 : t459 = true
        ·subst c42
         have H1 : ((wide_Of.f a3).bind fun bt461 => (turnstonelaw10_PlaceLags.j1 kj7 l1 a3 (!(t457 == bt461.1) || (!(t458 == bt461.2))) t438 t439 t440 t441 t442 t450 t451 t452 t453 t454)) = some r := by rw [if_pos rfl] at H; exact H
         clear H
         have H := H1
         clear H1
         replace H := Option.bind_eq_some_iff.mp H
         obtain ⟨⟨t461, t462⟩, A430, H⟩ := H
         replace H : (turnstonelaw10_PlaceLags.j1 kj7 l1 a3 (!(t457 == t461) || (!(t458 == t462))) t438 t439 t440 t441 t442 t450 t451 t452 t453 t454) = some r := H
         have A43 := Aside0.mk A430
         clear A430
         have H' := Aside0.mk H
         clear H
         try go_wp2
         have n0_ : Aside0 (((w35.setCell ⟨gb460, 0, none⟩ (.int .i64 t457)).setCell ⟨gb460, 1, none⟩ (.int .u64 t458)).heap[gb444]? = some (.cells #[.int .u64 t438, .int .i64 t439, .int .u64 t440, .int .u64 t441, .int .i64 t442] 33 (0, 0))) := ⟨by (with_reducible repeat (first | refine blk_drewN ?_ _ | refine blk_drew ?_ | refine blk_alloc ?_ _)); refine blk_far ?_ NB444_460.out _; (with_reducible repeat (first | refine blk_drewN ?_ _ | refine blk_drew ?_ | refine blk_alloc ?_ _)); refine blk_far ?_ NB444_460.out _; exact blkt BK444⟩
         have n1_ : Aside0 (((w35.setCell ⟨gb460, 0, none⟩ (.int .i64 t457)).setCell ⟨gb460, 1, none⟩ (.int .u64 t458)).heap[gb449]? = some (.cells #[.int .u64 t445, .int .u32 t446, .int .u32 t447] 28 (0, 0))) := ⟨by (with_reducible repeat (first | refine blk_drewN ?_ _ | refine blk_drew ?_ | refine blk_alloc ?_ _)); refine blk_far ?_ NB449_460.out _; (with_reducible repeat (first | refine blk_drewN ?_ _ | refine blk_drew ?_ | refine blk_alloc ?_ _)); refine blk_far ?_ NB449_460.out _; exact blkt BK449⟩
         have n2_ : Aside0 (((w35.setCell ⟨gb460, 0, none⟩ (.int .i64 t457)).setCell ⟨gb460, 1, none⟩ (.int .u64 t458)).heap[gb456]? = some (.cells #[.int .u64 t450, .int .i64 t451, .int .u64 t452, .int .u64 t453, .int .i64 t454] 33 (0, 0))) := ⟨by (with_reducible repeat (first | refine blk_drewN ?_ _ | refine blk_drew ?_ | refine blk_alloc ?_ _)); refine blk_far ?_ NB456_460.out _; (with_reducible repeat (first | refine blk_drewN ?_ _ | refine blk_drew ?_ | refine blk_alloc ?_ _)); refine blk_far ?_ NB456_460.out _; exact blkt BK456⟩
         have n3_ : Aside0 (((w35.setCell ⟨gb460, 0, none⟩ (.int .i64 t457)).setCell ⟨gb460, 1, none⟩ (.int .u64 t458)).heap[gb460]? = some (.cells #[.int .i64 t457, .int .u64 t458] 31 (0, 0))) := ⟨by (with_reducible repeat (first | refine blk_drewN ?_ _ | refine blk_drew ?_ | refine blk_alloc ?_ _)); refine blk_put (cs := #[.int .i64 t457, .int .u64 0]) ?_ 1 _ rfl; (with_reducible repeat (first | refine blk_drewN ?_ _ | refine blk_drew ?_ | refine blk_alloc ?_ _)); refine blk_put (cs := #[.int .i64 0, .int .u64 0]) ?_ 0 _ rfl; exact blkt BK460⟩
         have n4_ : Aside0 (Below w.heap.size w ((w35.setCell ⟨gb460, 0, none⟩ (.int .i64 t457)).setCell ⟨gb460, 1, none⟩ (.int .u64 t458))) := ⟨belt HB⟩
         (try clear BK444)
         (try clear BK449)
         (try clear BK456)
         (try clear BK460)
         (try clear HB)
         generalize ((w35.setCell ⟨gb460, 0, none⟩ (.int .i64 t457)).setCell ⟨gb460, 1, none⟩ (.int .u64 t458)) = w44 at n0_ n1_ n2_ n3_ n4_ ⊢
         have BK444 := n0_
         have BK449 := n1_
         have BK456 := n2_
         have BK460 := n3_
         have HB := n4_
         clear n0_ n1_ n2_ n3_ n4_
         replace BK444 := Aside0.mk (blk_drew BK444.out)
         replace BK449 := Aside0.mk (blk_drew BK449.out)
         replace BK456 := Aside0.mk (blk_drew BK456.out)
         replace BK460 := Aside0.mk (blk_drew BK460.out)
         replace HB := Aside0.mk (below_drew1 HB.out)
         refine start_ (n := 16) (S := fun w' => w'.cell? ⟨gb460, 0, none⟩ = some (.int .i64 t457) ∧ w'.cell? ⟨gb460, 1, none⟩ = some (.int .u64 t458)) (ds := []) #[false, false, false, false, false, false, false, false, false, false, false, false, false, false, false, false] (by kernel_rfl) rfl rfl ⟨(blk_cell BK460.out 0).trans rfl, (blk_cell BK460.out 1).trans rfl⟩ (fun hHeld => ?_); refine with_tabW turnstonelaw10_PlaceLags.tab9 turnstonelaw10_PlaceLags.bits9 (fun HT_ HW_ => ?_)
         generalize w44.drew = w45 at BK444 BK449 BK456 BK460 HB hHeld ⊢
         refine pure_ (i := 0) (N := some 73) (v := ?_) (a' := ?_) #[true, false, false, false, false, false, false, false, false, false, false, false, false, false, false, false] rfl rfl (any_of HT_.out (by kernel_rfl)) (fun _ _ _ h => h) (Or.inl ⟨by rfl, ?_⟩) ?_ ?_
         rotate_left
         ·intro w'
          go_simp
          with_reducible rfl
         rotate_left
         ·simp only [Act.put, List.setIfInBounds_toArray, List.set_cons_zero, List.set_cons_succ, i64_w, i32_w]
          rfl
         refine pure_ (i := 1) (N := some 74) (v := ?_) (a' := ?_) #[true, true, false, false, false, false, false, false, false, false, false, false, false, false, false, false] rfl rfl (any_of HT_.out (by kernel_rfl)) (fun _ _ _ h => h) (Or.inl ⟨by rfl, ?_⟩) ?_ ?_
         rotate_left
         ·intro w'
          go_simp
          with_reducible rfl
         rotate_left
         ·simp only [Act.put, List.setIfInBounds_toArray, List.set_cons_zero, List.set_cons_succ, i64_w, i32_w]
          rfl
         refine pure_ (i := 2) (N := some 75) (v := ?_) (a' := ?_) #[true, true, true, false, false, false, false, false, false, false, false, false, false, false, false, false] rfl rfl (any_of HT_.out (by kernel_rfl)) (fun _ _ _ h => h) (Or.inl ⟨by rfl, ?_⟩) ?_ ?_
         rotate_left
         ·intro w'
          go_simp
          with_reducible rfl
         rotate_left
         ·simp only [Act.put, List.setIfInBounds_toArray, List.set_cons_zero, List.set_cons_succ, i64_w, i32_w]
          rfl
         refine pure_ (i := 3) (N := some 76) (v := ?_) (a' := ?_) #[true, true, true, true, false, false, false, false, false, false, false, false, false, false, false, false] rfl rfl (any_of HT_.out (by kernel_rfl)) (fun _ _ _ h => h) (Or.inl ⟨by rfl, ?_⟩) ?_ ?_
         rotate_left
         ·intro w'
          go_simp
          with_reducible rfl
         rotate_left
         ·simp only [Act.put, List.setIfInBounds_toArray, List.set_cons_zero, List.set_cons_succ, i64_w, i32_w]
          rfl
         refine pure_ (i := 4) (N := some 77) (v := ?_) (a' := ?_) #[true, true, true, true, true, false, false, false, false, false, false, false, false, false, false, false] rfl rfl (any_of HT_.out (by kernel_rfl)) (fun _ _ _ h => h) (Or.inl ⟨by rfl, ?_⟩) ?_ ?_
         rotate_left
         ·intro w'
          go_simp
          with_reducible rfl
         rotate_left
         ·simp only [Act.put, List.setIfInBounds_toArray, List.set_cons_zero, List.set_cons_succ, i64_w, i32_w]
          rfl
         refine pure_ (i := 5) (N := some 78) (v := ?_) (a' := ?_) #[true, true, true, true, true, true, false, false, false, false, false, false, false, false, false, false] rfl rfl (any_of HT_.out (by kernel_rfl)) (fun _ _ _ h => h) (Or.inl ⟨by rfl, ?_⟩) ?_ ?_
         rotate_left
         ·intro w'
          go_simp
          with_reducible rfl
         rotate_left
         ·simp only [Act.put, List.setIfInBounds_toArray, List.set_cons_zero, List.set_cons_succ, i64_w, i32_w]
          rfl
         refine pure_ (i := 6) (N := some 79) (v := ?_) (a' := ?_) #[true, true, true, true, true, true, true, false, false, false, false, false, false, false, false, false] rfl rfl (any_of HT_.out (by kernel_rfl)) (fun _ _ _ h => h) (Or.inl ⟨by rfl, ?_⟩) ?_ ?_
         rotate_left
         ·intro w'
          go_simp
          with_reducible rfl
         rotate_left
         ·simp only [Act.put, List.setIfInBounds_toArray, List.set_cons_zero, List.set_cons_succ, i64_w, i32_w]
          rfl
         refine pure_ (i := 7) (N := some 80) (v := ?_) (a' := ?_) #[true, true, true, true, true, true, true, true, false, false, false, false, false, false, false, false] rfl rfl (any_of HT_.out (by kernel_rfl)) (fun _ _ _ h => h) (Or.inl ⟨by rfl, ?_⟩) ?_ ?_
         rotate_left
         ·intro w'
          go_simp
          with_reducible rfl
         rotate_left
         ·simp only [Act.put, List.setIfInBounds_toArray, List.set_cons_zero, List.set_cons_succ, i64_w, i32_w]
          rfl
         refine pure_ (i := 8) (N := some 81) (v := ?_) (a' := ?_) #[true, true, true, true, true, true, true, true, true, false, false, false, false, false, false, false] rfl rfl (any_of HT_.out (by kernel_rfl)) (fun _ _ _ h => h) (Or.inl ⟨by rfl, ?_⟩) ?_ ?_
         rotate_left
         ·intro w'
          go_simp
          with_reducible rfl
         rotate_left
         ·simp only [Act.put, List.setIfInBounds_toArray, List.set_cons_zero, List.set_cons_succ, i64_w, i32_w]
          rfl
         refine pure_ (i := 9) (N := some 82) (v := ?_) (a' := ?_) #[true, true, true, true, true, true, true, true, true, true, false, false, false, false, false, false] rfl rfl (any_of HT_.out (by kernel_rfl)) (fun _ _ _ h => h) (Or.inl ⟨by rfl, ?_⟩) ?_ ?_
         rotate_left
         ·intro w'
          go_simp
          with_reducible rfl
         rotate_left
         ·simp only [Act.put, List.setIfInBounds_toArray, List.set_cons_zero, List.set_cons_succ, i64_w, i32_w]
          rfl
         refine pure_ (i := 10) (N := some 83) (v := ?_) (a' := ?_) #[true, true, true, true, true, true, true, true, true, true, true, false, false, false, false, false] rfl rfl (any_of HT_.out (by kernel_rfl)) (fun _ _ _ h => h) (Or.inl ⟨by rfl, ?_⟩) ?_ ?_
         rotate_left
         ·intro w'
          go_simp
          with_reducible rfl
         rotate_left
         ·simp only [Act.put, List.setIfInBounds_toArray, List.set_cons_zero, List.set_cons_succ, i64_w, i32_w]
          rfl
         refine pure_ (i := 12) (N := some 85) (v := ?_) (a' := ?_) #[true, true, true, true, true, true, true, true, true, true, true, false, true, false, false, false] rfl rfl (any_of HT_.out (by kernel_rfl)) (fun _ _ _ h => h) (Or.inl ⟨by rfl, ?_⟩) ?_ ?_
         rotate_left
         ·intro w'
          go_simp
          with_reducible rfl
         rotate_left
         ·simp only [Act.put, List.setIfInBounds_toArray, List.set_cons_zero, List.set_cons_succ, i64_w, i32_w]
          rfl
         refine take_ (i := 11) (N := some 84) (v := ?_) (a' := ?_) #[true, true, true, true, true, true, true, true, true, true, true, true, true, false, false, false] rfl rfl (take_ofW HT_.out HW_.out (by kernel_rfl)) (fun _ _ _ h => h) (Or.inl ⟨by rfl, ?_⟩) hHeld ?_ ?_
         rotate_left
         ·rintro w' ⟨s0, s1⟩
          go_simp
          with_reducible rfl
         rotate_left
         ·simp only [Act.put, List.setIfInBounds_toArray, List.set_cons_zero, List.set_cons_succ, i64_w, i32_w]
          rfl
         refine one_ (i := 13) (N := some 86) #[true, true, true, true, true, true, true, true, true, true, true, true, true, true, false, false] rfl rfl (one_of HT_.out (by kernel_rfl)) (by decide) (fun K hK => ?_)
         refine goes_ Tryz.func31 (by kernel_rfl) rfl #[.int .i64 a3] (by rfl) rfl rfl argt ?_
         with_reducible refine (wide_Of.calls a3 t461 t462 _ A43.out).mono ?_
         rintro e w46 ⟨rfl, hb⟩
         refine ⟨_, rfl, ?_⟩
         replace BK444 := blkb BK444 hb
         replace BK449 := blkb BK449 hb
         replace BK456 := blkb BK456 hb
         replace BK460 := blkb BK460 hb
         replace HB := belb HB hb
         (try clear hb)
         (try clear hb2)
         (try clear hk)
         (try clear hi)
         refine hK.out _ _ ⟨(blk_cell BK460.out 0).trans rfl, (blk_cell BK460.out 1).trans rfl⟩ (fun hHeld => ?_)
         clear hK K
         refine norm_ (a' := ?_) ?_ ?_
         rotate_left
         ·show Act.put _ (some 86) _ = _
          simp only [Act.put, List.setIfInBounds_toArray, List.set_cons_zero, List.set_cons_succ, i64_w, i32_w]
          rfl
         refine pure_ (i := 14) (N := some 87) (v := ?_) (a' := ?_) #[true, true, true, true, true, true, true, true, true, true, true, true, true, true, true, false] rfl rfl (any_of HT_.out (by kernel_rfl)) (fun _ _ _ h => h) (Or.inl ⟨by rfl, ?_⟩) ?_ ?_
         rotate_left
         ·intro w'
          go_simp
          with_reducible rfl
         rotate_left
         ·simp only [Act.put, List.setIfInBounds_toArray, List.set_cons_zero, List.set_cons_succ, i64_w, i32_w]
          rfl
         refine pure_ (i := 15) (N := some 88) (v := ?_) (a' := ?_) #[true, true, true, true, true, true, true, true, true, true, true, true, true, true, true, true] rfl rfl (any_of HT_.out (by kernel_rfl)) (fun _ _ _ h => h) (Or.inl ⟨by rfl, ?_⟩) ?_ ?_
         rotate_left
         ·intro w'
          go_simp
          with_reducible rfl
         rotate_left
         ·simp only [Act.put, List.setIfInBounds_toArray, List.set_cons_zero, List.set_cons_succ, i64_w, i32_w]
          rfl
         refine done_ (done_of HT_.out (by kernel_rfl)) ?_
         try go_wp2
         go_meet
         case rel => exact ⟨_, ((!(t457 == t461) || (!(t458 == t462)))), (by first | rfl | (simp; done) | (simp [*]; done)), H', ⟨by have := HJ7.out; first | omega | exact Nat.le_refl _⟩, ⟨blkt BK444⟩, ⟨blkt BK449⟩, ⟨blkt BK456⟩, ⟨blkt BK460⟩, ⟨belt HB⟩⟩
        ·replace c42 := Bool.eq_false_iff.mpr c42
         subst c42
         have H1 : (turnstonelaw10_PlaceLags.j1 kj7 l1 a3 true t438 t439 t440 t441 t442 t450 t451 t452 t453 t454) = some r := by rw [if_neg (show ¬ (false = true) by decide)] at H; exact H
         clear H
         have H := H1
         clear H1
         have H' := Aside0.mk H
         clear H
         try go_wp2
         have n0_ : Aside0 (((w35.setCell ⟨gb460, 0, none⟩ (.int .i64 t457)).setCell ⟨gb460, 1, none⟩ (.int .u64 t458)).heap[gb444]? = some (.cells #[.int .u64 t438, .int .i64 t439, .int .u64 t440, .int .u64 t441, .int .i64 t442] 33 (0, 0))) := ⟨by (with_reducible repeat (first | refine blk_drewN ?_ _ | refine blk_drew ?_ | refine blk_alloc ?_ _)); refine blk_far ?_ NB444_460.out _; (with_reducible repeat (first | refine blk_drewN ?_ _ | refine blk_drew ?_ | refine blk_alloc ?_ _)); refine blk_far ?_ NB444_460.out _; exact blkt BK444⟩
         have n1_ : Aside0 (((w35.setCell ⟨gb460, 0, none⟩ (.int .i64 t457)).setCell ⟨gb460, 1, none⟩ (.int .u64 t458)).heap[gb449]? = some (.cells #[.int .u64 t445, .int .u32 t446, .int .u32 t447] 28 (0, 0))) := ⟨by (with_reducible repeat (first | refine blk_drewN ?_ _ | refine blk_drew ?_ | refine blk_alloc ?_ _)); refine blk_far ?_ NB449_460.out _; (with_reducible repeat (first | refine blk_drewN ?_ _ | refine blk_drew ?_ | refine blk_alloc ?_ _)); refine blk_far ?_ NB449_460.out _; exact blkt BK449⟩
         have n2_ : Aside0 (((w35.setCell ⟨gb460, 0, none⟩ (.int .i64 t457)).setCell ⟨gb460, 1, none⟩ (.int .u64 t458)).heap[gb456]? = some (.cells #[.int .u64 t450, .int .i64 t451, .int .u64 t452, .int .u64 t453, .int .i64 t454] 33 (0, 0))) := ⟨by (with_reducible repeat (first | refine blk_drewN ?_ _ | refine blk_drew ?_ | refine blk_alloc ?_ _)); refine blk_far ?_ NB456_460.out _; (with_reducible repeat (first | refine blk_drewN ?_ _ | refine blk_drew ?_ | refine blk_alloc ?_ _)); refine blk_far ?_ NB456_460.out _; exact blkt BK456⟩
         have n3_ : Aside0 (((w35.setCell ⟨gb460, 0, none⟩ (.int .i64 t457)).setCell ⟨gb460, 1, none⟩ (.int .u64 t458)).heap[gb460]? = some (.cells #[.int .i64 t457, .int .u64 t458] 31 (0, 0))) := ⟨by (with_reducible repeat (first | refine blk_drewN ?_ _ | refine blk_drew ?_ | refine blk_alloc ?_ _)); refine blk_put (cs := #[.int .i64 t457, .int .u64 0]) ?_ 1 _ rfl; (with_reducible repeat (first | refine blk_drewN ?_ _ | refine blk_drew ?_ | refine blk_alloc ?_ _)); refine blk_put (cs := #[.int .i64 0, .int .u64 0]) ?_ 0 _ rfl; exact blkt BK460⟩
         have n4_ : Aside0 (Below w.heap.size w ((w35.setCell ⟨gb460, 0, none⟩ (.int .i64 t457)).setCell ⟨gb460, 1, none⟩ (.int .u64 t458))) := ⟨belt HB⟩
         (try clear BK444)
         (try clear BK449)
         (try clear BK456)
         (try clear BK460)
         (try clear HB)
         generalize ((w35.setCell ⟨gb460, 0, none⟩ (.int .i64 t457)).setCell ⟨gb460, 1, none⟩ (.int .u64 t458)) = w47 at n0_ n1_ n2_ n3_ n4_ ⊢
         have BK444 := n0_
         have BK449 := n1_
         have BK456 := n2_
         have BK460 := n3_
         have HB := n4_
         clear n0_ n1_ n2_ n3_ n4_
         replace BK444 := Aside0.mk (blk_drew BK444.out)
         replace BK449 := Aside0.mk (blk_drew BK449.out)
         replace BK456 := Aside0.mk (blk_drew BK456.out)
         replace BK460 := Aside0.mk (blk_drew BK460.out)
         replace HB := Aside0.mk (below_drew1 HB.out)
         refine start_ (n := 16) (S := fun w' => True) (ds := []) #[false, false, false, false, false, false, false, false, false, false, false, false, false, false, false, false] (by kernel_rfl) rfl rfl trivial (fun hHeld => ?_); refine with_tabW turnstonelaw10_PlaceLags.tab9 turnstonelaw10_PlaceLags.bits9 (fun HT_ HW_ => ?_)
         generalize w47.drew = w48 at BK444 BK449 BK456 BK460 HB hHeld ⊢
         refine pure_ (i := 0) (N := some 73) (v := ?_) (a' := ?_) #[true, false, false, false, false, false, false, false, false, false, false, false, false, false, false, false] rfl rfl (any_of HT_.out (by kernel_rfl)) (fun _ _ _ h => h) (Or.inl ⟨by rfl, ?_⟩) ?_ ?_
         rotate_left
         ·intro w'
          go_simp
          with_reducible rfl
         rotate_left
         ·simp only [Act.put, List.setIfInBounds_toArray, List.set_cons_zero, List.set_cons_succ, i64_w, i32_w]
          rfl
         refine pure_ (i := 1) (N := some 74) (v := ?_) (a' := ?_) #[true, true, false, false, false, false, false, false, false, false, false, false, false, false, false, false] rfl rfl (any_of HT_.out (by kernel_rfl)) (fun _ _ _ h => h) (Or.inl ⟨by rfl, ?_⟩) ?_ ?_
         rotate_left
         ·intro w'
          go_simp
          with_reducible rfl
         rotate_left
         ·simp only [Act.put, List.setIfInBounds_toArray, List.set_cons_zero, List.set_cons_succ, i64_w, i32_w]
          rfl
         refine pure_ (i := 2) (N := some 75) (v := ?_) (a' := ?_) #[true, true, true, false, false, false, false, false, false, false, false, false, false, false, false, false] rfl rfl (any_of HT_.out (by kernel_rfl)) (fun _ _ _ h => h) (Or.inl ⟨by rfl, ?_⟩) ?_ ?_
         rotate_left
         ·intro w'
          go_simp
          with_reducible rfl
         rotate_left
         ·simp only [Act.put, List.setIfInBounds_toArray, List.set_cons_zero, List.set_cons_succ, i64_w, i32_w]
          rfl
         refine pure_ (i := 3) (N := some 76) (v := ?_) (a' := ?_) #[true, true, true, true, false, false, false, false, false, false, false, false, false, false, false, false] rfl rfl (any_of HT_.out (by kernel_rfl)) (fun _ _ _ h => h) (Or.inl ⟨by rfl, ?_⟩) ?_ ?_
         rotate_left
         ·intro w'
          go_simp
          with_reducible rfl
         rotate_left
         ·simp only [Act.put, List.setIfInBounds_toArray, List.set_cons_zero, List.set_cons_succ, i64_w, i32_w]
          rfl
         refine pure_ (i := 4) (N := some 77) (v := ?_) (a' := ?_) #[true, true, true, true, true, false, false, false, false, false, false, false, false, false, false, false] rfl rfl (any_of HT_.out (by kernel_rfl)) (fun _ _ _ h => h) (Or.inl ⟨by rfl, ?_⟩) ?_ ?_
         rotate_left
         ·intro w'
          go_simp
          with_reducible rfl
         rotate_left
         ·simp only [Act.put, List.setIfInBounds_toArray, List.set_cons_zero, List.set_cons_succ, i64_w, i32_w]
          rfl
         refine pure_ (i := 5) (N := some 78) (v := ?_) (a' := ?_) #[true, true, true, true, true, true, false, false, false, false, false, false, false, false, false, false] rfl rfl (any_of HT_.out (by kernel_rfl)) (fun _ _ _ h => h) (Or.inl ⟨by rfl, ?_⟩) ?_ ?_
         rotate_left
         ·intro w'
          go_simp
          with_reducible rfl
         rotate_left
         ·simp only [Act.put, List.setIfInBounds_toArray, List.set_cons_zero, List.set_cons_succ, i64_w, i32_w]
          rfl
         refine pure_ (i := 6) (N := some 79) (v := ?_) (a' := ?_) #[true, true, true, true, true, true, true, false, false, false, false, false, false, false, false, false] rfl rfl (any_of HT_.out (by kernel_rfl)) (fun _ _ _ h => h) (Or.inl ⟨by rfl, ?_⟩) ?_ ?_
         rotate_left
         ·intro w'
          go_simp
          with_reducible rfl
         rotate_left
         ·simp only [Act.put, List.setIfInBounds_toArray, List.set_cons_zero, List.set_cons_succ, i64_w, i32_w]
          rfl
         refine pure_ (i := 7) (N := some 80) (v := ?_) (a' := ?_) #[true, true, true, true, true, true, true, true, false, false, false, false, false, false, false, false] rfl rfl (any_of HT_.out (by kernel_rfl)) (fun _ _ _ h => h) (Or.inl ⟨by rfl, ?_⟩) ?_ ?_
         rotate_left
         ·intro w'
          go_simp
          with_reducible rfl
         rotate_left
         ·simp only [Act.put, List.setIfInBounds_toArray, List.set_cons_zero, List.set_cons_succ, i64_w, i32_w]
          rfl
         refine pure_ (i := 8) (N := some 81) (v := ?_) (a' := ?_) #[true, true, true, true, true, true, true, true, true, false, false, false, false, false, false, false] rfl rfl (any_of HT_.out (by kernel_rfl)) (fun _ _ _ h => h) (Or.inl ⟨by rfl, ?_⟩) ?_ ?_
         rotate_left
         ·intro w'
          go_simp
          with_reducible rfl
         rotate_left
         ·simp only [Act.put, List.setIfInBounds_toArray, List.set_cons_zero, List.set_cons_succ, i64_w, i32_w]
          rfl
         refine pure_ (i := 9) (N := some 82) (v := ?_) (a' := ?_) #[true, true, true, true, true, true, true, true, true, true, false, false, false, false, false, false] rfl rfl (any_of HT_.out (by kernel_rfl)) (fun _ _ _ h => h) (Or.inl ⟨by rfl, ?_⟩) ?_ ?_
         rotate_left
         ·intro w'
          go_simp
          with_reducible rfl
         rotate_left
         ·simp only [Act.put, List.setIfInBounds_toArray, List.set_cons_zero, List.set_cons_succ, i64_w, i32_w]
          rfl
         refine pure_ (i := 10) (N := some 83) (v := ?_) (a' := ?_) #[true, true, true, true, true, true, true, true, true, true, true, false, false, false, false, false] rfl rfl (any_of HT_.out (by kernel_rfl)) (fun _ _ _ h => h) (Or.inl ⟨by rfl, ?_⟩) ?_ ?_
         rotate_left
         ·intro w'
          go_simp
          with_reducible rfl
         rotate_left
         ·simp only [Act.put, List.setIfInBounds_toArray, List.set_cons_zero, List.set_cons_succ, i64_w, i32_w]
          rfl
         refine pure_ (i := 11) (N := some 84) (v := undef) (a' := ?_) #[true, true, true, true, true, true, true, true, true, true, true, true, false, false, false, false] rfl rfl (any_of HT_.out (by kernel_rfl)) (fun _ _ _ h => h) (Or.inr ⟨by rfl, rfl⟩) ?_ ?_
         rotate_left
         ·simp only [Act.put, List.setIfInBounds_toArray, List.set_cons_zero, List.set_cons_succ, i64_w, i32_w]
          rfl
         refine pure_ (i := 12) (N := some 85) (v := undef) (a' := ?_) #[true, true, true, true, true, true, true, true, true, true, true, true, true, false, false, false] rfl rfl (any_of HT_.out (by kernel_rfl)) (fun _ _ _ h => h) (Or.inr ⟨by rfl, rfl⟩) ?_ ?_
         rotate_left
         ·simp only [Act.put, List.setIfInBounds_toArray, List.set_cons_zero, List.set_cons_succ, i64_w, i32_w]
          rfl
         refine pure_ (i := 13) (N := some 86) (v := undef) (a' := ?_) #[true, true, true, true, true, true, true, true, true, true, true, true, true, true, false, false] rfl rfl (any_of HT_.out (by kernel_rfl)) (fun _ _ _ h => h) (Or.inr ⟨by rfl, rfl⟩) ?_ ?_
         rotate_left
         ·simp only [Act.put, List.setIfInBounds_toArray, List.set_cons_zero, List.set_cons_succ, i64_w, i32_w]
          rfl
         refine pure_ (i := 14) (N := some 87) (v := undef) (a' := ?_) #[true, true, true, true, true, true, true, true, true, true, true, true, true, true, true, false] rfl rfl (any_of HT_.out (by kernel_rfl)) (fun _ _ _ h => h) (Or.inr ⟨by rfl, rfl⟩) ?_ ?_
         rotate_left
         ·simp only [Act.put, List.setIfInBounds_toArray, List.set_cons_zero, List.set_cons_succ, i64_w, i32_w]
          rfl
         refine pure_ (i := 15) (N := some 88) (v := ?_) (a' := ?_) #[true, true, true, true, true, true, true, true, true, true, true, true, true, true, true, true] rfl rfl (any_of HT_.out (by kernel_rfl)) (fun _ _ _ h => h) (Or.inl ⟨by rfl, ?_⟩) ?_ ?_
         rotate_left
         ·intro w'
          go_simp
          with_reducible rfl
         rotate_left
         ·simp only [Act.put, List.setIfInBounds_toArray, List.set_cons_zero, List.set_cons_succ, i64_w, i32_w]
          rfl
         refine done_ (done_of HT_.out (by kernel_rfl)) ?_
         try go_wp2
         go_meet
         case rel => exact ⟨_, (true), (by first | rfl | (simp; done) | (simp [*]; done)), H', ⟨by have := HJ7.out; first | omega | exact Nat.le_refl _⟩, ⟨blkt BK444⟩, ⟨blkt BK449⟩, ⟨blkt BK456⟩, ⟨blkt BK460⟩, ⟨belt HB⟩⟩
       ·replace c41 := Bool.eq_false_iff.mpr c41
        subst c41
        have H1 : (turnstonelaw10_PlaceLags.j1 kj7 l1 a3 true t438 t439 t440 t441 t442 t450 t451 t452 t453 t454) = some r := by rw [if_neg (show ¬ (false = true) by decide)] at H; exact H
        clear H
        have H := H1
        clear H1
        have H' := Aside0.mk H
        clear H
        try go_wp2
        have n0_ : Aside0 (((w35.setCell ⟨gb460, 0, none⟩ (.int .i64 t457)).setCell ⟨gb460, 1, none⟩ (.int .u64 t458)).heap[gb444]? = some (.cells #[.int .u64 t438, .int .i64 t439, .int .u64 t440, .int .u64 t441, .int .i64 t442] 33 (0, 0))) := ⟨by (with_reducible repeat (first | refine blk_drewN ?_ _ | refine blk_drew ?_ | refine blk_alloc ?_ _)); refine blk_far ?_ NB444_460.out _; (with_reducible repeat (first | refine blk_drewN ?_ _ | refine blk_drew ?_ | refine blk_alloc ?_ _)); refine blk_far ?_ NB444_460.out _; exact blkt BK444⟩
        have n1_ : Aside0 (((w35.setCell ⟨gb460, 0, none⟩ (.int .i64 t457)).setCell ⟨gb460, 1, none⟩ (.int .u64 t458)).heap[gb449]? = some (.cells #[.int .u64 t445, .int .u32 t446, .int .u32 t447] 28 (0, 0))) := ⟨by (with_reducible repeat (first | refine blk_drewN ?_ _ | refine blk_drew ?_ | refine blk_alloc ?_ _)); refine blk_far ?_ NB449_460.out _; (with_reducible repeat (first | refine blk_drewN ?_ _ | refine blk_drew ?_ | refine blk_alloc ?_ _)); refine blk_far ?_ NB449_460.out _; exact blkt BK449⟩
        have n2_ : Aside0 (((w35.setCell ⟨gb460, 0, none⟩ (.int .i64 t457)).setCell ⟨gb460, 1, none⟩ (.int .u64 t458)).heap[gb456]? = some (.cells #[.int .u64 t450, .int .i64 t451, .int .u64 t452, .int .u64 t453, .int .i64 t454] 33 (0, 0))) := ⟨by (with_reducible repeat (first | refine blk_drewN ?_ _ | refine blk_drew ?_ | refine blk_alloc ?_ _)); refine blk_far ?_ NB456_460.out _; (with_reducible repeat (first | refine blk_drewN ?_ _ | refine blk_drew ?_ | refine blk_alloc ?_ _)); refine blk_far ?_ NB456_460.out _; exact blkt BK456⟩
        have n3_ : Aside0 (((w35.setCell ⟨gb460, 0, none⟩ (.int .i64 t457)).setCell ⟨gb460, 1, none⟩ (.int .u64 t458)).heap[gb460]? = some (.cells #[.int .i64 t457, .int .u64 t458] 31 (0, 0))) := ⟨by (with_reducible repeat (first | refine blk_drewN ?_ _ | refine blk_drew ?_ | refine blk_alloc ?_ _)); refine blk_put (cs := #[.int .i64 t457, .int .u64 0]) ?_ 1 _ rfl; (with_reducible repeat (first | refine blk_drewN ?_ _ | refine blk_drew ?_ | refine blk_alloc ?_ _)); refine blk_put (cs := #[.int .i64 0, .int .u64 0]) ?_ 0 _ rfl; exact blkt BK460⟩
        have n4_ : Aside0 (Below w.heap.size w ((w35.setCell ⟨gb460, 0, none⟩ (.int .i64 t457)).setCell ⟨gb460, 1, none⟩ (.int .u64 t458))) := ⟨belt HB⟩
        (try clear BK444)
        (try clear BK449)
        (try clear BK456)
        (try clear BK460)
        (try clear HB)
        generalize ((w35.setCell ⟨gb460, 0, none⟩ (.int .i64 t457)).setCell ⟨gb460, 1, none⟩ (.int .u64 t458)) = w49 at n0_ n1_ n2_ n3_ n4_ ⊢
        have BK444 := n0_
        have BK449 := n1_
        have BK456 := n2_
        have BK460 := n3_
        have HB := n4_
        clear n0_ n1_ n2_ n3_ n4_
        replace BK444 := Aside0.mk (blk_drew BK444.out)
        replace BK449 := Aside0.mk (blk_drew BK449.out)
        replace BK456 := Aside0.mk (blk_drew BK456.out)
        replace BK460 := Aside0.mk (blk_drew BK460.out)
        replace HB := Aside0.mk (below_drew1 HB.out)
        refine start_ (n := 16) (S := fun w' => True) (ds := []) #[false, false, false, false, false, false, false, false, false, false, false, false, false, false, false, false] (by kernel_rfl) rfl rfl trivial (fun hHeld => ?_); refine with_tabW turnstonelaw10_PlaceLags.tab9 turnstonelaw10_PlaceLags.bits9 (fun HT_ HW_ => ?_)
        generalize w49.drew = w50 at BK444 BK449 BK456 BK460 HB hHeld ⊢
        refine pure_ (i := 0) (N := some 73) (v := ?_) (a' := ?_) #[true, false, false, false, false, false, false, false, false, false, false, false, false, false, false, false] rfl rfl (any_of HT_.out (by kernel_rfl)) (fun _ _ _ h => h) (Or.inl ⟨by rfl, ?_⟩) ?_ ?_
        rotate_left
        ·intro w'
         go_simp
         with_reducible rfl
        rotate_left
        ·simp only [Act.put, List.setIfInBounds_toArray, List.set_cons_zero, List.set_cons_succ, i64_w, i32_w]
         rfl
        refine pure_ (i := 1) (N := some 74) (v := ?_) (a' := ?_) #[true, true, false, false, false, false, false, false, false, false, false, false, false, false, false, false] rfl rfl (any_of HT_.out (by kernel_rfl)) (fun _ _ _ h => h) (Or.inl ⟨by rfl, ?_⟩) ?_ ?_
        rotate_left
        ·intro w'
         go_simp
         with_reducible rfl
        rotate_left
        ·simp only [Act.put, List.setIfInBounds_toArray, List.set_cons_zero, List.set_cons_succ, i64_w, i32_w]
         rfl
        refine pure_ (i := 2) (N := some 75) (v := ?_) (a' := ?_) #[true, true, true, false, false, false, false, false, false, false, false, false, false, false, false, false] rfl rfl (any_of HT_.out (by kernel_rfl)) (fun _ _ _ h => h) (Or.inl ⟨by rfl, ?_⟩) ?_ ?_
        rotate_left
        ·intro w'
         go_simp
         with_reducible rfl
        rotate_left
        ·simp only [Act.put, List.setIfInBounds_toArray, List.set_cons_zero, List.set_cons_succ, i64_w, i32_w]
         rfl
        refine pure_ (i := 3) (N := some 76) (v := ?_) (a' := ?_) #[true, true, true, true, false, false, false, false, false, false, false, false, false, false, false, false] rfl rfl (any_of HT_.out (by kernel_rfl)) (fun _ _ _ h => h) (Or.inl ⟨by rfl, ?_⟩) ?_ ?_
        rotate_left
        ·intro w'
         go_simp
         with_reducible rfl
        rotate_left
        ·simp only [Act.put, List.setIfInBounds_toArray, List.set_cons_zero, List.set_cons_succ, i64_w, i32_w]
         rfl
        refine pure_ (i := 4) (N := some 77) (v := ?_) (a' := ?_) #[true, true, true, true, true, false, false, false, false, false, false, false, false, false, false, false] rfl rfl (any_of HT_.out (by kernel_rfl)) (fun _ _ _ h => h) (Or.inl ⟨by rfl, ?_⟩) ?_ ?_
        rotate_left
        ·intro w'
         go_simp
         with_reducible rfl
        rotate_left
        ·simp only [Act.put, List.setIfInBounds_toArray, List.set_cons_zero, List.set_cons_succ, i64_w, i32_w]
         rfl
        refine pure_ (i := 5) (N := some 78) (v := ?_) (a' := ?_) #[true, true, true, true, true, true, false, false, false, false, false, false, false, false, false, false] rfl rfl (any_of HT_.out (by kernel_rfl)) (fun _ _ _ h => h) (Or.inl ⟨by rfl, ?_⟩) ?_ ?_
        rotate_left
        ·intro w'
         go_simp
         with_reducible rfl
        rotate_left
        ·simp only [Act.put, List.setIfInBounds_toArray, List.set_cons_zero, List.set_cons_succ, i64_w, i32_w]
         rfl
        refine pure_ (i := 6) (N := some 79) (v := ?_) (a' := ?_) #[true, true, true, true, true, true, true, false, false, false, false, false, false, false, false, false] rfl rfl (any_of HT_.out (by kernel_rfl)) (fun _ _ _ h => h) (Or.inl ⟨by rfl, ?_⟩) ?_ ?_
        rotate_left
        ·intro w'
         go_simp
         with_reducible rfl
        rotate_left
        ·simp only [Act.put, List.setIfInBounds_toArray, List.set_cons_zero, List.set_cons_succ, i64_w, i32_w]
         rfl
        refine pure_ (i := 7) (N := some 80) (v := undef) (a' := ?_) #[true, true, true, true, true, true, true, true, false, false, false, false, false, false, false, false] rfl rfl (any_of HT_.out (by kernel_rfl)) (fun _ _ _ h => h) (Or.inr ⟨by rfl, rfl⟩) ?_ ?_
        rotate_left
        ·simp only [Act.put, List.setIfInBounds_toArray, List.set_cons_zero, List.set_cons_succ, i64_w, i32_w]
         rfl
        refine pure_ (i := 8) (N := some 81) (v := undef) (a' := ?_) #[true, true, true, true, true, true, true, true, true, false, false, false, false, false, false, false] rfl rfl (any_of HT_.out (by kernel_rfl)) (fun _ _ _ h => h) (Or.inr ⟨by rfl, rfl⟩) ?_ ?_
        rotate_left
        ·simp only [Act.put, List.setIfInBounds_toArray, List.set_cons_zero, List.set_cons_succ, i64_w, i32_w]
         rfl
        refine pure_ (i := 9) (N := some 82) (v := ?_) (a' := ?_) #[true, true, true, true, true, true, true, true, true, true, false, false, false, false, false, false] rfl rfl (any_of HT_.out (by kernel_rfl)) (fun _ _ _ h => h) (Or.inl ⟨by rfl, ?_⟩) ?_ ?_
        rotate_left
        ·intro w'
         go_simp
         with_reducible rfl
        rotate_left
        ·simp only [Act.put, List.setIfInBounds_toArray, List.set_cons_zero, List.set_cons_succ, i64_w, i32_w]
         rfl
        refine pure_ (i := 10) (N := some 83) (v := ?_) (a' := ?_) #[true, true, true, true, true, true, true, true, true, true, true, false, false, false, false, false] rfl rfl (any_of HT_.out (by kernel_rfl)) (fun _ _ _ h => h) (Or.inl ⟨by rfl, ?_⟩) ?_ ?_
        rotate_left
        ·intro w'
         go_simp
         with_reducible rfl
        rotate_left
        ·simp only [Act.put, List.setIfInBounds_toArray, List.set_cons_zero, List.set_cons_succ, i64_w, i32_w]
         rfl
        refine pure_ (i := 11) (N := some 84) (v := undef) (a' := ?_) #[true, true, true, true, true, true, true, true, true, true, true, true, false, false, false, false] rfl rfl (any_of HT_.out (by kernel_rfl)) (fun _ _ _ h => h) (Or.inr ⟨by rfl, rfl⟩) ?_ ?_
        rotate_left
        ·simp only [Act.put, List.setIfInBounds_toArray, List.set_cons_zero, List.set_cons_succ, i64_w, i32_w]
         rfl
        refine pure_ (i := 12) (N := some 85) (v := undef) (a' := ?_) #[true, true, true, true, true, true, true, true, true, true, true, true, true, false, false, false] rfl rfl (any_of HT_.out (by kernel_rfl)) (fun _ _ _ h => h) (Or.inr ⟨by rfl, rfl⟩) ?_ ?_
        rotate_left
        ·simp only [Act.put, List.setIfInBounds_toArray, List.set_cons_zero, List.set_cons_succ, i64_w, i32_w]
         rfl
        refine pure_ (i := 13) (N := some 86) (v := undef) (a' := ?_) #[true, true, true, true, true, true, true, true, true, true, true, true, true, true, false, false] rfl rfl (any_of HT_.out (by kernel_rfl)) (fun _ _ _ h => h) (Or.inr ⟨by rfl, rfl⟩) ?_ ?_
        rotate_left
        ·simp only [Act.put, List.setIfInBounds_toArray, List.set_cons_zero, List.set_cons_succ, i64_w, i32_w]
         rfl
        refine pure_ (i := 14) (N := some 87) (v := undef) (a' := ?_) #[true, true, true, true, true, true, true, true, true, true, true, true, true, true, true, false] rfl rfl (any_of HT_.out (by kernel_rfl)) (fun _ _ _ h => h) (Or.inr ⟨by rfl, rfl⟩) ?_ ?_
        rotate_left
        ·simp only [Act.put, List.setIfInBounds_toArray, List.set_cons_zero, List.set_cons_succ, i64_w, i32_w]
         rfl
        refine pure_ (i := 15) (N := some 88) (v := ?_) (a' := ?_) #[true, true, true, true, true, true, true, true, true, true, true, true, true, true, true, true] rfl rfl (any_of HT_.out (by kernel_rfl)) (fun _ _ _ h => h) (Or.inl ⟨by rfl, ?_⟩) ?_ ?_
        rotate_left
        ·intro w'
         go_simp
         with_reducible rfl
        rotate_left
        ·simp only [Act.put, List.setIfInBounds_toArray, List.set_cons_zero, List.set_cons_succ, i64_w, i32_w]
         rfl
        refine done_ (done_of HT_.out (by kernel_rfl)) ?_
        try go_wp2
        go_meet
        case rel => exact ⟨_, (true), (by first | rfl | (simp; done) | (simp [*]; done)), H', ⟨by have := HJ7.out; first | omega | exact Nat.le_refl _⟩, ⟨blkt BK444⟩, ⟨blkt BK449⟩, ⟨blkt BK456⟩, ⟨blkt BK460⟩, ⟨belt HB⟩⟩
      ·replace c40 := Bool.eq_false_iff.mpr c40
       subst c40
       have H1 : (turnstonelaw10_PlaceLags.j1 kj7 l1 a3 true t438 t439 t440 t441 t442 t450 t451 t452 t453 t454) = some r := by rw [if_neg (show ¬ (false = true) by decide)] at H; exact H
       clear H
       have H := H1
       clear H1
       have H' := Aside0.mk H
       clear H
       try go_wp2
       have n0_ : Aside0 (((w35.setCell ⟨gb460, 0, none⟩ (.int .i64 t457)).setCell ⟨gb460, 1, none⟩ (.int .u64 t458)).heap[gb444]? = some (.cells #[.int .u64 t438, .int .i64 t439, .int .u64 t440, .int .u64 t441, .int .i64 t442] 33 (0, 0))) := ⟨by (with_reducible repeat (first | refine blk_drewN ?_ _ | refine blk_drew ?_ | refine blk_alloc ?_ _)); refine blk_far ?_ NB444_460.out _; (with_reducible repeat (first | refine blk_drewN ?_ _ | refine blk_drew ?_ | refine blk_alloc ?_ _)); refine blk_far ?_ NB444_460.out _; exact blkt BK444⟩
       have n1_ : Aside0 (((w35.setCell ⟨gb460, 0, none⟩ (.int .i64 t457)).setCell ⟨gb460, 1, none⟩ (.int .u64 t458)).heap[gb449]? = some (.cells #[.int .u64 t445, .int .u32 t446, .int .u32 t447] 28 (0, 0))) := ⟨by (with_reducible repeat (first | refine blk_drewN ?_ _ | refine blk_drew ?_ | refine blk_alloc ?_ _)); refine blk_far ?_ NB449_460.out _; (with_reducible repeat (first | refine blk_drewN ?_ _ | refine blk_drew ?_ | refine blk_alloc ?_ _)); refine blk_far ?_ NB449_460.out _; exact blkt BK449⟩
       have n2_ : Aside0 (((w35.setCell ⟨gb460, 0, none⟩ (.int .i64 t457)).setCell ⟨gb460, 1, none⟩ (.int .u64 t458)).heap[gb456]? = some (.cells #[.int .u64 t450, .int .i64 t451, .int .u64 t452, .int .u64 t453, .int .i64 t454] 33 (0, 0))) := ⟨by (with_reducible repeat (first | refine blk_drewN ?_ _ | refine blk_drew ?_ | refine blk_alloc ?_ _)); refine blk_far ?_ NB456_460.out _; (with_reducible repeat (first | refine blk_drewN ?_ _ | refine blk_drew ?_ | refine blk_alloc ?_ _)); refine blk_far ?_ NB456_460.out _; exact blkt BK456⟩
       have n3_ : Aside0 (((w35.setCell ⟨gb460, 0, none⟩ (.int .i64 t457)).setCell ⟨gb460, 1, none⟩ (.int .u64 t458)).heap[gb460]? = some (.cells #[.int .i64 t457, .int .u64 t458] 31 (0, 0))) := ⟨by (with_reducible repeat (first | refine blk_drewN ?_ _ | refine blk_drew ?_ | refine blk_alloc ?_ _)); refine blk_put (cs := #[.int .i64 t457, .int .u64 0]) ?_ 1 _ rfl; (with_reducible repeat (first | refine blk_drewN ?_ _ | refine blk_drew ?_ | refine blk_alloc ?_ _)); refine blk_put (cs := #[.int .i64 0, .int .u64 0]) ?_ 0 _ rfl; exact blkt BK460⟩
       have n4_ : Aside0 (Below w.heap.size w ((w35.setCell ⟨gb460, 0, none⟩ (.int .i64 t457)).setCell ⟨gb460, 1, none⟩ (.int .u64 t458))) := ⟨belt HB⟩
       (try clear BK444)
       (try clear BK449)
       (try clear BK456)
       (try clear BK460)
       (try clear HB)
       generalize ((w35.setCell ⟨gb460, 0, none⟩ (.int .i64 t457)).setCell ⟨gb460, 1, none⟩ (.int .u64 t458)) = w51 at n0_ n1_ n2_ n3_ n4_ ⊢
       have BK444 := n0_
       have BK449 := n1_
       have BK456 := n2_
       have BK460 := n3_
       have HB := n4_
       clear n0_ n1_ n2_ n3_ n4_
       replace BK444 := Aside0.mk (blk_drew BK444.out)
       replace BK449 := Aside0.mk (blk_drew BK449.out)
       replace BK456 := Aside0.mk (blk_drew BK456.out)
       replace BK460 := Aside0.mk (blk_drew BK460.out)
       replace HB := Aside0.mk (below_drew1 HB.out)
       refine start_ (n := 16) (S := fun w' => True) (ds := []) #[false, false, false, false, false, false, false, false, false, false, false, false, false, false, false, false] (by kernel_rfl) rfl rfl trivial (fun hHeld => ?_); refine with_tabW turnstonelaw10_PlaceLags.tab9 turnstonelaw10_PlaceLags.bits9 (fun HT_ HW_ => ?_)
       generalize w51.drew = w52 at BK444 BK449 BK456 BK460 HB hHeld ⊢
       refine pure_ (i := 0) (N := some 73) (v := ?_) (a' := ?_) #[true, false, false, false, false, false, false, false, false, false, false, false, false, false, false, false] rfl rfl (any_of HT_.out (by kernel_rfl)) (fun _ _ _ h => h) (Or.inl ⟨by rfl, ?_⟩) ?_ ?_
       rotate_left
       ·intro w'
        go_simp
        with_reducible rfl
       rotate_left
       ·simp only [Act.put, List.setIfInBounds_toArray, List.set_cons_zero, List.set_cons_succ, i64_w, i32_w]
        rfl
       refine pure_ (i := 1) (N := some 74) (v := ?_) (a' := ?_) #[true, true, false, false, false, false, false, false, false, false, false, false, false, false, false, false] rfl rfl (any_of HT_.out (by kernel_rfl)) (fun _ _ _ h => h) (Or.inl ⟨by rfl, ?_⟩) ?_ ?_
       rotate_left
       ·intro w'
        go_simp
        with_reducible rfl
       rotate_left
       ·simp only [Act.put, List.setIfInBounds_toArray, List.set_cons_zero, List.set_cons_succ, i64_w, i32_w]
        rfl
       refine pure_ (i := 2) (N := some 75) (v := ?_) (a' := ?_) #[true, true, true, false, false, false, false, false, false, false, false, false, false, false, false, false] rfl rfl (any_of HT_.out (by kernel_rfl)) (fun _ _ _ h => h) (Or.inl ⟨by rfl, ?_⟩) ?_ ?_
       rotate_left
       ·intro w'
        go_simp
        with_reducible rfl
       rotate_left
       ·simp only [Act.put, List.setIfInBounds_toArray, List.set_cons_zero, List.set_cons_succ, i64_w, i32_w]
        rfl
       refine pure_ (i := 3) (N := some 76) (v := undef) (a' := ?_) #[true, true, true, true, false, false, false, false, false, false, false, false, false, false, false, false] rfl rfl (any_of HT_.out (by kernel_rfl)) (fun _ _ _ h => h) (Or.inr ⟨by rfl, rfl⟩) ?_ ?_
       rotate_left
       ·simp only [Act.put, List.setIfInBounds_toArray, List.set_cons_zero, List.set_cons_succ, i64_w, i32_w]
        rfl
       refine pure_ (i := 4) (N := some 77) (v := undef) (a' := ?_) #[true, true, true, true, true, false, false, false, false, false, false, false, false, false, false, false] rfl rfl (any_of HT_.out (by kernel_rfl)) (fun _ _ _ h => h) (Or.inr ⟨by rfl, rfl⟩) ?_ ?_
       rotate_left
       ·simp only [Act.put, List.setIfInBounds_toArray, List.set_cons_zero, List.set_cons_succ, i64_w, i32_w]
        rfl
       refine pure_ (i := 5) (N := some 78) (v := ?_) (a' := ?_) #[true, true, true, true, true, true, false, false, false, false, false, false, false, false, false, false] rfl rfl (any_of HT_.out (by kernel_rfl)) (fun _ _ _ h => h) (Or.inl ⟨by rfl, ?_⟩) ?_ ?_
       rotate_left
       ·intro w'
        go_simp
        with_reducible rfl
       rotate_left
       ·simp only [Act.put, List.setIfInBounds_toArray, List.set_cons_zero, List.set_cons_succ, i64_w, i32_w]
        rfl
       refine pure_ (i := 6) (N := some 79) (v := ?_) (a' := ?_) #[true, true, true, true, true, true, true, false, false, false, false, false, false, false, false, false] rfl rfl (any_of HT_.out (by kernel_rfl)) (fun _ _ _ h => h) (Or.inl ⟨by rfl, ?_⟩) ?_ ?_
       rotate_left
       ·intro w'
        go_simp
        with_reducible rfl
       rotate_left
       ·simp only [Act.put, List.setIfInBounds_toArray, List.set_cons_zero, List.set_cons_succ, i64_w, i32_w]
        rfl
       refine pure_ (i := 7) (N := some 80) (v := undef) (a' := ?_) #[true, true, true, true, true, true, true, true, false, false, false, false, false, false, false, false] rfl rfl (any_of HT_.out (by kernel_rfl)) (fun _ _ _ h => h) (Or.inr ⟨by rfl, rfl⟩) ?_ ?_
       rotate_left
       ·simp only [Act.put, List.setIfInBounds_toArray, List.set_cons_zero, List.set_cons_succ, i64_w, i32_w]
        rfl
       refine pure_ (i := 8) (N := some 81) (v := undef) (a' := ?_) #[true, true, true, true, true, true, true, true, true, false, false, false, false, false, false, false] rfl rfl (any_of HT_.out (by kernel_rfl)) (fun _ _ _ h => h) (Or.inr ⟨by rfl, rfl⟩) ?_ ?_
       rotate_left
       ·simp only [Act.put, List.setIfInBounds_toArray, List.set_cons_zero, List.set_cons_succ, i64_w, i32_w]
        rfl
       refine pure_ (i := 9) (N := some 82) (v := ?_) (a' := ?_) #[true, true, true, true, true, true, true, true, true, true, false, false, false, false, false, false] rfl rfl (any_of HT_.out (by kernel_rfl)) (fun _ _ _ h => h) (Or.inl ⟨by rfl, ?_⟩) ?_ ?_
       rotate_left
       ·intro w'
        go_simp
        with_reducible rfl
       rotate_left
       ·simp only [Act.put, List.setIfInBounds_toArray, List.set_cons_zero, List.set_cons_succ, i64_w, i32_w]
        rfl
       refine pure_ (i := 10) (N := some 83) (v := ?_) (a' := ?_) #[true, true, true, true, true, true, true, true, true, true, true, false, false, false, false, false] rfl rfl (any_of HT_.out (by kernel_rfl)) (fun _ _ _ h => h) (Or.inl ⟨by rfl, ?_⟩) ?_ ?_
       rotate_left
       ·intro w'
        go_simp
        with_reducible rfl
       rotate_left
       ·simp only [Act.put, List.setIfInBounds_toArray, List.set_cons_zero, List.set_cons_succ, i64_w, i32_w]
        rfl
       refine pure_ (i := 11) (N := some 84) (v := undef) (a' := ?_) #[true, true, true, true, true, true, true, true, true, true, true, true, false, false, false, false] rfl rfl (any_of HT_.out (by kernel_rfl)) (fun _ _ _ h => h) (Or.inr ⟨by rfl, rfl⟩) ?_ ?_
       rotate_left
       ·simp only [Act.put, List.setIfInBounds_toArray, List.set_cons_zero, List.set_cons_succ, i64_w, i32_w]
        rfl
       refine pure_ (i := 12) (N := some 85) (v := undef) (a' := ?_) #[true, true, true, true, true, true, true, true, true, true, true, true, true, false, false, false] rfl rfl (any_of HT_.out (by kernel_rfl)) (fun _ _ _ h => h) (Or.inr ⟨by rfl, rfl⟩) ?_ ?_
       rotate_left
       ·simp only [Act.put, List.setIfInBounds_toArray, List.set_cons_zero, List.set_cons_succ, i64_w, i32_w]
        rfl
       refine pure_ (i := 13) (N := some 86) (v := undef) (a' := ?_) #[true, true, true, true, true, true, true, true, true, true, true, true, true, true, false, false] rfl rfl (any_of HT_.out (by kernel_rfl)) (fun _ _ _ h => h) (Or.inr ⟨by rfl, rfl⟩) ?_ ?_
       rotate_left
       ·simp only [Act.put, List.setIfInBounds_toArray, List.set_cons_zero, List.set_cons_succ, i64_w, i32_w]
        rfl
       refine pure_ (i := 14) (N := some 87) (v := undef) (a' := ?_) #[true, true, true, true, true, true, true, true, true, true, true, true, true, true, true, false] rfl rfl (any_of HT_.out (by kernel_rfl)) (fun _ _ _ h => h) (Or.inr ⟨by rfl, rfl⟩) ?_ ?_
       rotate_left
       ·simp only [Act.put, List.setIfInBounds_toArray, List.set_cons_zero, List.set_cons_succ, i64_w, i32_w]
        rfl
       refine pure_ (i := 15) (N := some 88) (v := ?_) (a' := ?_) #[true, true, true, true, true, true, true, true, true, true, true, true, true, true, true, true] rfl rfl (any_of HT_.out (by kernel_rfl)) (fun _ _ _ h => h) (Or.inl ⟨by rfl, ?_⟩) ?_ ?_
       rotate_left
       ·intro w'
        go_simp
        with_reducible rfl
       rotate_left
       ·simp only [Act.put, List.setIfInBounds_toArray, List.set_cons_zero, List.set_cons_succ, i64_w, i32_w]
        rfl
       refine done_ (done_of HT_.out (by kernel_rfl)) ?_
       try go_wp2
       go_meet
       case rel => exact ⟨_, (true), (by first | rfl | (simp; done) | (simp [*]; done)), H', ⟨by have := HJ7.out; first | omega | exact Nat.le_refl _⟩, ⟨blkt BK444⟩, ⟨blkt BK449⟩, ⟨blkt BK456⟩, ⟨blkt BK460⟩, ⟨belt HB⟩⟩
     case rest =>
      clear HC21
      try clear p2
      try clear c3
      try clear c4
      try clear c31
      try clear c40
      try clear c41
      try clear c42
      obtain ⟨kq, x88_20, rfl, HA, HJ20, BK444, BK449, BK456, BK460, HB⟩ := hcut
      cases kq with
      | zero => exact absurd HA.out (by simp [turnstonelaw10_PlaceLags.j1])
      | succ kj20 =>
       have H := HA.out
       clear HA
       simp only [turnstonelaw10_PlaceLags.j1] at H
       by_cases c53 : x88_20 = true
       ·subst c53
        have H1 : (none) = some r := by rw [if_pos rfl] at H; exact H
        clear H
        have H := H1
        clear H1
        exact absurd H (by simp)
       ·replace c53 := Bool.eq_false_iff.mpr c53
        subst c53
        have H1 : (turnstonelaw10_PlaceLags.l0 kj20 a3 (mx a3 (wrap64 (-a3))) l1 (l1.length : Int) 0 t438 t439 t440 t441 t442 t450 t451 t452 t453 t454) = some r := by rw [if_neg (show ¬ (false = true) by decide)] at H; exact H
        clear H
        have H := H1
        clear H1
        obtain ⟨ji54, hji54⟩ : ∃ j_ : Int, (mx a3 (wrap64 (-a3))) = j_ := ⟨_, rfl⟩
        replace H : (turnstonelaw10_PlaceLags.l0 kj20 a3 ji54 l1 (l1.length : Int) 0 t438 t439 t440 t441 t442 t450 t451 t452 t453 t454) = some r := by first | (rw [hji54] at H; exact H) | (simp only [hji54] at H ⊢; exact H)
        have hji54_ : (if a3 < (wrap64 (-a3)) then (wrap64 (-a3)) else a3) = ji54 := hji54
        have H' := Aside0.mk H
        clear H
        go_wp2
        (try simp only [Act.put, List.setIfInBounds_toArray, List.set_cons_zero, List.set_cons_succ])
        go_loopg [95] kj20 (fun kq v95 w' => ∃ (x95_3 : Int), v95 = .int .i64 x95_3 ∧ Aside0 (turnstonelaw10_PlaceLags.l0 kq a3 ji54 l1 (l1.length : Int) x95_3 t438 t439 t440 t441 t442 t450 t451 t452 t453 t454 = some r) ∧ Aside0 (kq ≤ kj20) ∧ Aside0 (w'.heap[gb444]? = some (.cells #[.int .u64 t438, .int .i64 t439, .int .u64 t440, .int .u64 t441, .int .i64 t442] 33 (0, 0))) ∧ Aside0 (w'.heap[gb449]? = some (.cells #[.int .u64 t445, .int .u32 t446, .int .u32 t447] 28 (0, 0))) ∧ Aside0 (w'.heap[gb456]? = some (.cells #[.int .u64 t450, .int .i64 t451, .int .u64 t452, .int .u64 t453, .int .i64 t454] 33 (0, 0))) ∧ Aside0 (w'.heap[gb460]? = some (.cells #[.int .i64 t457, .int .u64 t458] 31 (0, 0))) ∧ Aside0 (Below w.heap.size w w'))
        case atStart => exact ⟨(0), (by first | rfl | (simp; done) | (simp [*]; done)), H', ⟨Nat.le_refl _⟩, ⟨blkt BK444⟩, ⟨blkt BK449⟩, ⟨blkt BK456⟩, ⟨blkt BK460⟩, ⟨belt HB⟩⟩
        case round =>
         clear H'
         try clear p2
         try clear c3
         try clear c4
         try clear c5
         try clear p6
         try clear c31
         try clear c40
         try clear c41
         try clear c42
         try clear c53
         try clear p2
         obtain ⟨x95_3, rfl, HA, HK3, BK444, BK449, BK456, BK460, HB⟩ := hrel
         cases gk with
         | zero => exact absurd HA.out (by simp [turnstonelaw10_PlaceLags.l0])
         | succ k3 =>
          have H := HA.out
          clear HA
          simp only [turnstonelaw10_PlaceLags.l0] at H
          by_cases c55 : x95_3 < (l1.length : Int)
          ·rw [if_pos c55] at H
           have c55b0 : decide (x95_3 < (l1.length : Int)) = true := decide_eq_true c55
           clear c55
           by_cases c56 : 0 ≤ x95_3
           ·rw [if_pos c56] at H
            have c56b0 : decide (0 ≤ x95_3) = true := decide_eq_true c56
            clear c56
            by_cases c57 : x95_3 < (l1.length : Int)
            ·rw [if_pos c57] at H
             have c57b0 : decide (x95_3 < (l1.length : Int)) = true := decide_eq_true c57
             clear c57
             replace H := Option.bind_eq_some_iff.mp H
             obtain ⟨⟨t465, t466, t467⟩, A580, H⟩ := H
             replace H : ((lag_Read.f k3 t450 t451 t452 t453 t454 ((rd_T28 l1 x95_3).f0) ((rd_T28 l1 x95_3).f1) ((rd_T28 l1 x95_3).f2)).bind fun bt469 => ((wide_Int_Sub.f bt469.1 bt469.2.1 t465 t466).bind fun bt473 => ((wide_Int_Small.f bt473.1 bt473.2.1).bind fun bt477 => (if bt477.2 = true then (if (mx bt477.1 (wrap64 (-bt477.1))) > (wrap64 (ji54 + 2)) then (none) else (if a3 > 0 then (if bt477.1 > 0 then (none) else (if a3 < 0 then (if bt477.1 < (-1) then (none) else (turnstonelaw10_PlaceLags.l0 k3 a3 ji54 l1 (l1.length : Int) (wrap64 (x95_3 + 1)) t438 t439 t440 t441 t442 t450 t451 t452 t453 t454)) else (turnstonelaw10_PlaceLags.l0 k3 a3 ji54 l1 (l1.length : Int) (wrap64 (x95_3 + 1)) t438 t439 t440 t441 t442 t450 t451 t452 t453 t454))) else (if a3 < 0 then (if bt477.1 < (-1) then (none) else (turnstonelaw10_PlaceLags.l0 k3 a3 ji54 l1 (l1.length : Int) (wrap64 (x95_3 + 1)) t438 t439 t440 t441 t442 t450 t451 t452 t453 t454)) else (turnstonelaw10_PlaceLags.l0 k3 a3 ji54 l1 (l1.length : Int) (wrap64 (x95_3 + 1)) t438 t439 t440 t441 t442 t450 t451 t452 t453 t454)))) else (none))))) = some r := H
             have A58 := Aside0.mk A580
             clear A580
             replace H := Option.bind_eq_some_iff.mp H
             obtain ⟨⟨t469, t470, t471⟩, A590, H⟩ := H
             replace H : ((wide_Int_Sub.f t469 t470 t465 t466).bind fun bt473 => ((wide_Int_Small.f bt473.1 bt473.2.1).bind fun bt477 => (if bt477.2 = true then (if (mx bt477.1 (wrap64 (-bt477.1))) > (wrap64 (ji54 + 2)) then (none) else (if a3 > 0 then (if bt477.1 > 0 then (none) else (if a3 < 0 then (if bt477.1 < (-1) then (none) else (turnstonelaw10_PlaceLags.l0 k3 a3 ji54 l1 (l1.length : Int) (wrap64 (x95_3 + 1)) t438 t439 t440 t441 t442 t450 t451 t452 t453 t454)) else (turnstonelaw10_PlaceLags.l0 k3 a3 ji54 l1 (l1.length : Int) (wrap64 (x95_3 + 1)) t438 t439 t440 t441 t442 t450 t451 t452 t453 t454))) else (if a3 < 0 then (if bt477.1 < (-1) then (none) else (turnstonelaw10_PlaceLags.l0 k3 a3 ji54 l1 (l1.length : Int) (wrap64 (x95_3 + 1)) t438 t439 t440 t441 t442 t450 t451 t452 t453 t454)) else (turnstonelaw10_PlaceLags.l0 k3 a3 ji54 l1 (l1.length : Int) (wrap64 (x95_3 + 1)) t438 t439 t440 t441 t442 t450 t451 t452 t453 t454)))) else (none)))) = some r := H
             have A59 := Aside0.mk A590
             clear A590
             replace H := Option.bind_eq_some_iff.mp H
             obtain ⟨⟨t473, t474, t475⟩, A600, H⟩ := H
             replace H : ((wide_Int_Small.f t473 t474).bind fun bt477 => (if bt477.2 = true then (if (mx bt477.1 (wrap64 (-bt477.1))) > (wrap64 (ji54 + 2)) then (none) else (if a3 > 0 then (if bt477.1 > 0 then (none) else (if a3 < 0 then (if bt477.1 < (-1) then (none) else (turnstonelaw10_PlaceLags.l0 k3 a3 ji54 l1 (l1.length : Int) (wrap64 (x95_3 + 1)) t438 t439 t440 t441 t442 t450 t451 t452 t453 t454)) else (turnstonelaw10_PlaceLags.l0 k3 a3 ji54 l1 (l1.length : Int) (wrap64 (x95_3 + 1)) t438 t439 t440 t441 t442 t450 t451 t452 t453 t454))) else (if a3 < 0 then (if bt477.1 < (-1) then (none) else (turnstonelaw10_PlaceLags.l0 k3 a3 ji54 l1 (l1.length : Int) (wrap64 (x95_3 + 1)) t438 t439 t440 t441 t442 t450 t451 t452 t453 t454)) else (turnstonelaw10_PlaceLags.l0 k3 a3 ji54 l1 (l1.length : Int) (wrap64 (x95_3 + 1)) t438 t439 t440 t441 t442 t450 t451 t452 t453 t454)))) else (none))) = some r := H
             have A60 := Aside0.mk A600
             clear A600
             replace H := Option.bind_eq_some_iff.mp H
             obtain ⟨⟨t477, t478⟩, A610, H⟩ := H
             replace H : (if t478 = true then (if (mx t477 (wrap64 (-t477))) > (wrap64 (ji54 + 2)) then (none) else (if a3 > 0 then (if t477 > 0 then (none) else (if a3 < 0 then (if t477 < (-1) then (none) else (turnstonelaw10_PlaceLags.l0 k3 a3 ji54 l1 (l1.length : Int) (wrap64 (x95_3 + 1)) t438 t439 t440 t441 t442 t450 t451 t452 t453 t454)) else (turnstonelaw10_PlaceLags.l0 k3 a3 ji54 l1 (l1.length : Int) (wrap64 (x95_3 + 1)) t438 t439 t440 t441 t442 t450 t451 t452 t453 t454))) else (if a3 < 0 then (if t477 < (-1) then (none) else (turnstonelaw10_PlaceLags.l0 k3 a3 ji54 l1 (l1.length : Int) (wrap64 (x95_3 + 1)) t438 t439 t440 t441 t442 t450 t451 t452 t453 t454)) else (turnstonelaw10_PlaceLags.l0 k3 a3 ji54 l1 (l1.length : Int) (wrap64 (x95_3 + 1)) t438 t439 t440 t441 t442 t450 t451 t452 t453 t454)))) else (none)) = some r := H
             have A61 := Aside0.mk A610
             clear A610
             by_cases c62 : t478 = true
             ·subst c62
              have H1 : (if (mx t477 (wrap64 (-t477))) > (wrap64 (ji54 + 2)) then (none) else (if a3 > 0 then (if t477 > 0 then (none) else (if a3 < 0 then (if t477 < (-1) then (none) else (turnstonelaw10_PlaceLags.l0 k3 a3 ji54 l1 (l1.length : Int) (wrap64 (x95_3 + 1)) t438 t439 t440 t441 t442 t450 t451 t452 t453 t454)) else (turnstonelaw10_PlaceLags.l0 k3 a3 ji54 l1 (l1.length : Int) (wrap64 (x95_3 + 1)) t438 t439 t440 t441 t442 t450 t451 t452 t453 t454))) else (if a3 < 0 then (if t477 < (-1) then (none) else (turnstonelaw10_PlaceLags.l0 k3 a3 ji54 l1 (l1.length : Int) (wrap64 (x95_3 + 1)) t438 t439 t440 t441 t442 t450 t451 t452 t453 t454)) else (turnstonelaw10_PlaceLags.l0 k3 a3 ji54 l1 (l1.length : Int) (wrap64 (x95_3 + 1)) t438 t439 t440 t441 t442 t450 t451 t452 t453 t454)))) = some r := by rw [if_pos rfl] at H; exact H
              clear H
              have H := H1
              clear H1
              obtain ⟨ji63, hji63⟩ : ∃ j_ : Int, (mx t477 (wrap64 (-t477))) = j_ := ⟨_, rfl⟩
              replace H : (if (ji63) > (wrap64 (ji54 + 2)) then (none) else (if a3 > 0 then (if t477 > 0 then (none) else (if a3 < 0 then (if t477 < (-1) then (none) else (turnstonelaw10_PlaceLags.l0 k3 a3 ji54 l1 (l1.length : Int) (wrap64 (x95_3 + 1)) t438 t439 t440 t441 t442 t450 t451 t452 t453 t454)) else (turnstonelaw10_PlaceLags.l0 k3 a3 ji54 l1 (l1.length : Int) (wrap64 (x95_3 + 1)) t438 t439 t440 t441 t442 t450 t451 t452 t453 t454))) else (if a3 < 0 then (if t477 < (-1) then (none) else (turnstonelaw10_PlaceLags.l0 k3 a3 ji54 l1 (l1.length : Int) (wrap64 (x95_3 + 1)) t438 t439 t440 t441 t442 t450 t451 t452 t453 t454)) else (turnstonelaw10_PlaceLags.l0 k3 a3 ji54 l1 (l1.length : Int) (wrap64 (x95_3 + 1)) t438 t439 t440 t441 t442 t450 t451 t452 t453 t454)))) = some r := by first | (rw [hji63] at H; exact H) | (simp only [hji63] at H ⊢; exact H)
              (try rw [hji63] at A58)
              (try rw [hji63] at A59)
              (try rw [hji63] at A60)
              (try rw [hji63] at A61)
              have hji63_ : (if t477 < (wrap64 (-t477)) then (wrap64 (-t477)) else t477) = ji63 := hji63
              by_cases c64 : (ji63) > (wrap64 (ji54 + 2))
              ·rw [if_pos c64] at H
               exact absurd H (by simp)
              ·rw [if_neg c64] at H
               have c64b0 : decide ((wrap64 (ji54 + 2)) < (ji63)) = false := decide_eq_false c64
               clear c64
               by_cases c65 : a3 > 0
               ·rw [if_pos c65] at H
                have c65b0 : decide (0 < a3) = true := decide_eq_true c65
                clear c65
                by_cases c66 : t477 > 0
                ·rw [if_pos c66] at H
                 exact absurd H (by simp)
                ·rw [if_neg c66] at H
                 have c66b0 : decide (0 < t477) = false := decide_eq_false c66
                 clear c66
                 by_cases c67 : a3 < 0
                 ·rw [if_pos c67] at H
                  have c67b0 : decide (a3 < 0) = true := decide_eq_true c67
                  clear c67
                  by_cases c68 : t477 < (-1)
                  ·rw [if_pos c68] at H
                   exact absurd H (by simp)
                  ·rw [if_neg c68] at H
                   have c68b0 : decide (t477 < (-1)) = false := decide_eq_false c68
                   clear c68
                   have H' := Aside0.mk H
                   clear H
                   have p463 : 0 ≤ (x95_3 : Int) := of_decide_eq_true (by first | (with_reducible assumption) | assumption)
                   have q463 : x95_3 < (l1.length : Int) := of_decide_eq_true (by first | (with_reducible assumption) | assumption)
                   obtain ⟨ad463, e463, hx463_0, hx463_1, hx463_2⟩ := at_T28 HR1.out x95_3 p463 q463
                   cases e463
                   replace hx463_0 := (HB.out.cell (World.block_lt_of_cell? w _ hx463_0)).trans hx463_0
                   replace hx463_1 := (HB.out.cell (World.block_lt_of_cell? w _ hx463_1)).trans hx463_1
                   replace hx463_2 := (HB.out.cell (World.block_lt_of_cell? w _ hx463_2)).trans hx463_2
                   replace p463 := eq_true p463
                   replace q463 := eq_true q463
                   go_wp2_with (first | ((with_reducible refine gate_dst (N := 19) rfl ?_); (try (refine gate_guard (by rfl) ?_; dsimp only)); refine box_event ?hg (N := 19) ?hd (cs := #[.int .u64 0, .int .u32 0, .int .u32 0]) (t := 28) ?hr ?_; (case hd => rfl); (case hg => rfl); (case hr => first | (go_simp; done) | (go_simp; rfl)); intro gb464 hg w69 hbox hb; have BK464 := Aside0.mk (hbox); have GW464 := bels HB hg; have GE464 := bels HB hg; have NB444_464 := blkl BK444 hg; have NB464_444 := blkg BK444 hg; have NB449_464 := blkl BK449 hg; have NB464_449 := blkg BK449 hg; have NB456_464 := blkl BK456 hg; have NB464_456 := blkg BK456 hg; have NB460_464 := blkl BK460 hg; have NB464_460 := blkg BK460 hg; replace BK444 := blkb BK444 hb; replace BK449 := blkb BK449 hb; replace BK456 := blkb BK456 hb; replace BK460 := blkb BK460 hb; replace HB := belb HB hb; clear hb hbox hg; have hnb70 := NB464_444.out; have hnc70 := NB444_464.out; have hnb71 := NB464_449.out; have hnc71 := NB449_464.out; have hnb72 := NB464_456.out; have hnc72 := NB456_464.out; have hnb73 := NB464_460.out; have hnc73 := NB460_464.out; have hcz74_0 : w69.cell? ⟨gb464, 0, none⟩ = some (.int .u64 0) := (blk_cell BK464.out 0).trans rfl; have hcz74_1 : w69.cell? ⟨gb464, 1, none⟩ = some (.int .u32 0) := (blk_cell BK464.out 1).trans rfl; have hcz74_2 : w69.cell? ⟨gb464, 2, none⟩ = some (.int .u32 0) := (blk_cell BK464.out 2).trans rfl; have hfz74_0 := blk_frozen BK464.out 0; have hfz74_1 := blk_frozen BK464.out 1; have hfz74_2 := blk_frozen BK464.out 2; have hnb75 := NB444_449.out; have hnc75 := NB449_444.out; have hnb76 := NB444_456.out; have hnc76 := NB456_444.out; have hnb77 := NB444_460.out; have hnc77 := NB460_444.out; have hcz78_0 : w69.cell? ⟨gb444, 0, none⟩ = some (.int .u64 t438) := (blk_cell BK444.out 0).trans rfl; have hcz78_1 : w69.cell? ⟨gb444, 1, none⟩ = some (.int .i64 t439) := (blk_cell BK444.out 1).trans rfl; have hcz78_2 : w69.cell? ⟨gb444, 2, none⟩ = some (.int .u64 t440) := (blk_cell BK444.out 2).trans rfl; have hcz78_3 : w69.cell? ⟨gb444, 3, none⟩ = some (.int .u64 t441) := (blk_cell BK444.out 3).trans rfl; have hcz78_4 : w69.cell? ⟨gb444, 4, none⟩ = some (.int .i64 t442) := (blk_cell BK444.out 4).trans rfl; have hfz78_0 := blk_frozen BK444.out 0; have hfz78_1 := blk_frozen BK444.out 1; have hfz78_2 := blk_frozen BK444.out 2; have hfz78_3 := blk_frozen BK444.out 3; have hfz78_4 := blk_frozen BK444.out 4) | ((with_reducible refine gate_callee (f := 21) rfl ?_); refine goesL_ (some 102) rfl rfl Tryz.func21 (by kernel_rfl) rfl #[.agg #[.int .u64 t438, .int .i64 t439, .int .u64 t440, .int .u64 t441, .int .i64 t442], .agg #[.int .u64 ((rd_T28 l1 x95_3).f0), .int .u32 ((rd_T28 l1 x95_3).f1), .int .u32 ((rd_T28 l1 x95_3).f2)]] rfl argt ?_; (with_reducible refine (lag_Read.calls k3 t438 t439 t440 t441 t442 ((rd_T28 l1 x95_3).f0) ((rd_T28 l1 x95_3).f1) ((rd_T28 l1 x95_3).f2) t465 t466 t467 _ A58.out).mono ?_); rintro e w79 ⟨rfl, hb⟩; refine ⟨_, rfl, ?_⟩; replace BK444 := Aside0.mk (blk_below (g := gb444) (o := .cells #[.int .u64 t438, .int .i64 t439, .int .u64 t440, .int .u64 t441, .int .i64 t442] 33 (0, 0)) (by (with_reducible repeat (first | refine blk_drewN ?_ _ | refine blk_drew ?_ | refine blk_alloc ?_ _)); refine blk_far ?_ NB444_464.out _; (with_reducible repeat (first | refine blk_drewN ?_ _ | refine blk_drew ?_ | refine blk_alloc ?_ _)); refine blk_far ?_ NB444_464.out _; (with_reducible repeat (first | refine blk_drewN ?_ _ | refine blk_drew ?_ | refine blk_alloc ?_ _)); refine blk_far ?_ NB444_464.out _; exact blkt BK444) hb); replace BK449 := Aside0.mk (blk_below (g := gb449) (o := .cells #[.int .u64 t445, .int .u32 t446, .int .u32 t447] 28 (0, 0)) (by (with_reducible repeat (first | refine blk_drewN ?_ _ | refine blk_drew ?_ | refine blk_alloc ?_ _)); refine blk_far ?_ NB449_464.out _; (with_reducible repeat (first | refine blk_drewN ?_ _ | refine blk_drew ?_ | refine blk_alloc ?_ _)); refine blk_far ?_ NB449_464.out _; (with_reducible repeat (first | refine blk_drewN ?_ _ | refine blk_drew ?_ | refine blk_alloc ?_ _)); refine blk_far ?_ NB449_464.out _; exact blkt BK449) hb); replace BK456 := Aside0.mk (blk_below (g := gb456) (o := .cells #[.int .u64 t450, .int .i64 t451, .int .u64 t452, .int .u64 t453, .int .i64 t454] 33 (0, 0)) (by (with_reducible repeat (first | refine blk_drewN ?_ _ | refine blk_drew ?_ | refine blk_alloc ?_ _)); refine blk_far ?_ NB456_464.out _; (with_reducible repeat (first | refine blk_drewN ?_ _ | refine blk_drew ?_ | refine blk_alloc ?_ _)); refine blk_far ?_ NB456_464.out _; (with_reducible repeat (first | refine blk_drewN ?_ _ | refine blk_drew ?_ | refine blk_alloc ?_ _)); refine blk_far ?_ NB456_464.out _; exact blkt BK456) hb); replace BK460 := Aside0.mk (blk_below (g := gb460) (o := .cells #[.int .i64 t457, .int .u64 t458] 31 (0, 0)) (by (with_reducible repeat (first | refine blk_drewN ?_ _ | refine blk_drew ?_ | refine blk_alloc ?_ _)); refine blk_far ?_ NB460_464.out _; (with_reducible repeat (first | refine blk_drewN ?_ _ | refine blk_drew ?_ | refine blk_alloc ?_ _)); refine blk_far ?_ NB460_464.out _; (with_reducible repeat (first | refine blk_drewN ?_ _ | refine blk_drew ?_ | refine blk_alloc ?_ _)); refine blk_far ?_ NB460_464.out _; exact blkt BK460) hb); replace BK464 := Aside0.mk (blk_below (g := gb464) (o := .cells #[.int .u64 ((rd_T28 l1 x95_3).f0), .int .u32 ((rd_T28 l1 x95_3).f1), .int .u32 ((rd_T28 l1 x95_3).f2)] 28 (0, 0)) (by (with_reducible repeat (first | refine blk_drewN ?_ _ | refine blk_drew ?_ | refine blk_alloc ?_ _)); refine blk_put (cs := #[.int .u64 ((rd_T28 l1 x95_3).f0), .int .u32 ((rd_T28 l1 x95_3).f1), .int .u32 0]) ?_ 2 _ rfl; (with_reducible repeat (first | refine blk_drewN ?_ _ | refine blk_drew ?_ | refine blk_alloc ?_ _)); refine blk_put (cs := #[.int .u64 ((rd_T28 l1 x95_3).f0), .int .u32 0, .int .u32 0]) ?_ 1 _ rfl; (with_reducible repeat (first | refine blk_drewN ?_ _ | refine blk_drew ?_ | refine blk_alloc ?_ _)); refine blk_put (cs := #[.int .u64 0, .int .u32 0, .int .u32 0]) ?_ 0 _ rfl; exact blkt BK464) hb); replace HB := belb HB hb; (try clear hb); (try clear hb2); (try clear hk); (try clear hi)) | ((with_reducible refine gate_dst (N := 20) rfl ?_); (try (refine gate_guard (by rfl) ?_; dsimp only)); refine box_event ?hg (N := 20) ?hd (cs := #[.int .i64 0, .int .u64 0]) (t := 31) ?hr ?_; (case hd => rfl); (case hg => rfl); (case hr => first | (go_simp; done) | (go_simp; rfl)); intro gb468 hg w80 hbox hb; have BK468 := Aside0.mk (hbox); have GW468 := bels HB hg; have GE468 := bels HB hg; have NB444_468 := blkl BK444 hg; have NB468_444 := blkg BK444 hg; have NB449_468 := blkl BK449 hg; have NB468_449 := blkg BK449 hg; have NB456_468 := blkl BK456 hg; have NB468_456 := blkg BK456 hg; have NB460_468 := blkl BK460 hg; have NB468_460 := blkg BK460 hg; have NB464_468 := blkl BK464 hg; have NB468_464 := blkg BK464 hg; replace BK444 := blkb BK444 hb; replace BK449 := blkb BK449 hb; replace BK456 := blkb BK456 hb; replace BK460 := blkb BK460 hb; replace BK464 := blkb BK464 hb; replace HB := belb HB hb; clear hb hbox hg; have hnb81 := NB468_444.out; have hnc81 := NB444_468.out; have hnb82 := NB468_449.out; have hnc82 := NB449_468.out; have hnb83 := NB468_456.out; have hnc83 := NB456_468.out; have hnb84 := NB468_460.out; have hnc84 := NB460_468.out; have hnb85 := NB468_464.out; have hnc85 := NB464_468.out; have hcz86_0 : w80.cell? ⟨gb468, 0, none⟩ = some (.int .i64 0) := (blk_cell BK468.out 0).trans rfl; have hcz86_1 : w80.cell? ⟨gb468, 1, none⟩ = some (.int .u64 0) := (blk_cell BK468.out 1).trans rfl; have hfz86_0 := blk_frozen BK468.out 0; have hfz86_1 := blk_frozen BK468.out 1; have hnb87 := NB456_449.out; have hnc87 := NB449_456.out; have hnb88 := NB456_460.out; have hnc88 := NB460_456.out; have hcz89_0 : w80.cell? ⟨gb456, 0, none⟩ = some (.int .u64 t450) := (blk_cell BK456.out 0).trans rfl; have hcz89_1 : w80.cell? ⟨gb456, 1, none⟩ = some (.int .i64 t451) := (blk_cell BK456.out 1).trans rfl; have hcz89_2 : w80.cell? ⟨gb456, 2, none⟩ = some (.int .u64 t452) := (blk_cell BK456.out 2).trans rfl; have hcz89_3 : w80.cell? ⟨gb456, 3, none⟩ = some (.int .u64 t453) := (blk_cell BK456.out 3).trans rfl; have hcz89_4 : w80.cell? ⟨gb456, 4, none⟩ = some (.int .i64 t454) := (blk_cell BK456.out 4).trans rfl; have hfz89_0 := blk_frozen BK456.out 0; have hfz89_1 := blk_frozen BK456.out 1; have hfz89_2 := blk_frozen BK456.out 2; have hfz89_3 := blk_frozen BK456.out 3; have hfz89_4 := blk_frozen BK456.out 4; have hcz90_0 : w80.cell? ⟨gb464, 0, none⟩ = some (.int .u64 ((rd_T28 l1 x95_3).f0)) := (blk_cell BK464.out 0).trans rfl; have hcz90_1 : w80.cell? ⟨gb464, 1, none⟩ = some (.int .u32 ((rd_T28 l1 x95_3).f1)) := (blk_cell BK464.out 1).trans rfl; have hcz90_2 : w80.cell? ⟨gb464, 2, none⟩ = some (.int .u32 ((rd_T28 l1 x95_3).f2)) := (blk_cell BK464.out 2).trans rfl; have hfz90_0 := blk_frozen BK464.out 0; have hfz90_1 := blk_frozen BK464.out 1; have hfz90_2 := blk_frozen BK464.out 2) | ((with_reducible refine gate_callee (f := 21) rfl ?_); refine goesL_ (some 108) rfl rfl Tryz.func21 (by kernel_rfl) rfl #[.agg #[.int .u64 t450, .int .i64 t451, .int .u64 t452, .int .u64 t453, .int .i64 t454], .agg #[.int .u64 ((rd_T28 l1 x95_3).f0), .int .u32 ((rd_T28 l1 x95_3).f1), .int .u32 ((rd_T28 l1 x95_3).f2)]] rfl argt ?_; (with_reducible refine (lag_Read.calls k3 t450 t451 t452 t453 t454 ((rd_T28 l1 x95_3).f0) ((rd_T28 l1 x95_3).f1) ((rd_T28 l1 x95_3).f2) t469 t470 t471 _ A59.out).mono ?_); rintro e w91 ⟨rfl, hb⟩; refine ⟨_, rfl, ?_⟩; replace BK444 := Aside0.mk (blk_below (g := gb444) (o := .cells #[.int .u64 t438, .int .i64 t439, .int .u64 t440, .int .u64 t441, .int .i64 t442] 33 (0, 0)) (by (with_reducible repeat (first | refine blk_drewN ?_ _ | refine blk_drew ?_ | refine blk_alloc ?_ _)); refine blk_far ?_ NB444_468.out _; (with_reducible repeat (first | refine blk_drewN ?_ _ | refine blk_drew ?_ | refine blk_alloc ?_ _)); refine blk_far ?_ NB444_468.out _; exact blkt BK444) hb); replace BK449 := Aside0.mk (blk_below (g := gb449) (o := .cells #[.int .u64 t445, .int .u32 t446, .int .u32 t447] 28 (0, 0)) (by (with_reducible repeat (first | refine blk_drewN ?_ _ | refine blk_drew ?_ | refine blk_alloc ?_ _)); refine blk_far ?_ NB449_468.out _; (with_reducible repeat (first | refine blk_drewN ?_ _ | refine blk_drew ?_ | refine blk_alloc ?_ _)); refine blk_far ?_ NB449_468.out _; exact blkt BK449) hb); replace BK456 := Aside0.mk (blk_below (g := gb456) (o := .cells #[.int .u64 t450, .int .i64 t451, .int .u64 t452, .int .u64 t453, .int .i64 t454] 33 (0, 0)) (by (with_reducible repeat (first | refine blk_drewN ?_ _ | refine blk_drew ?_ | refine blk_alloc ?_ _)); refine blk_far ?_ NB456_468.out _; (with_reducible repeat (first | refine blk_drewN ?_ _ | refine blk_drew ?_ | refine blk_alloc ?_ _)); refine blk_far ?_ NB456_468.out _; exact blkt BK456) hb); replace BK460 := Aside0.mk (blk_below (g := gb460) (o := .cells #[.int .i64 t457, .int .u64 t458] 31 (0, 0)) (by (with_reducible repeat (first | refine blk_drewN ?_ _ | refine blk_drew ?_ | refine blk_alloc ?_ _)); refine blk_far ?_ NB460_468.out _; (with_reducible repeat (first | refine blk_drewN ?_ _ | refine blk_drew ?_ | refine blk_alloc ?_ _)); refine blk_far ?_ NB460_468.out _; exact blkt BK460) hb); replace BK464 := Aside0.mk (blk_below (g := gb464) (o := .cells #[.int .u64 ((rd_T28 l1 x95_3).f0), .int .u32 ((rd_T28 l1 x95_3).f1), .int .u32 ((rd_T28 l1 x95_3).f2)] 28 (0, 0)) (by (with_reducible repeat (first | refine blk_drewN ?_ _ | refine blk_drew ?_ | refine blk_alloc ?_ _)); refine blk_far ?_ NB464_468.out _; (with_reducible repeat (first | refine blk_drewN ?_ _ | refine blk_drew ?_ | refine blk_alloc ?_ _)); refine blk_far ?_ NB464_468.out _; exact blkt BK464) hb); replace BK468 := Aside0.mk (blk_below (g := gb468) (o := .cells #[.int .i64 t465, .int .u64 t466] 31 (0, 0)) (by (with_reducible repeat (first | refine blk_drewN ?_ _ | refine blk_drew ?_ | refine blk_alloc ?_ _)); refine blk_put (cs := #[.int .i64 t465, .int .u64 0]) ?_ 1 _ rfl; (with_reducible repeat (first | refine blk_drewN ?_ _ | refine blk_drew ?_ | refine blk_alloc ?_ _)); refine blk_put (cs := #[.int .i64 0, .int .u64 0]) ?_ 0 _ rfl; exact blkt BK468) hb); replace HB := belb HB hb; (try clear hb); (try clear hb2); (try clear hk); (try clear hi)) | ((with_reducible refine gate_dst (N := 22) rfl ?_); (try (refine gate_guard (by rfl) ?_; dsimp only)); refine box_event ?hg (N := 22) ?hd (cs := #[.int .i64 0, .int .u64 0]) (t := 31) ?hr ?_; (case hd => rfl); (case hg => rfl); (case hr => first | (go_simp; done) | (go_simp; rfl)); intro gb472 hg w92 hbox hb; have BK472 := Aside0.mk (hbox); have GW472 := bels HB hg; have GE472 := bels HB hg; have NB444_472 := blkl BK444 hg; have NB472_444 := blkg BK444 hg; have NB449_472 := blkl BK449 hg; have NB472_449 := blkg BK449 hg; have NB456_472 := blkl BK456 hg; have NB472_456 := blkg BK456 hg; have NB460_472 := blkl BK460 hg; have NB472_460 := blkg BK460 hg; have NB464_472 := blkl BK464 hg; have NB472_464 := blkg BK464 hg; have NB468_472 := blkl BK468 hg; have NB472_468 := blkg BK468 hg; replace BK444 := blkb BK444 hb; replace BK449 := blkb BK449 hb; replace BK456 := blkb BK456 hb; replace BK460 := blkb BK460 hb; replace BK464 := blkb BK464 hb; replace BK468 := blkb BK468 hb; replace HB := belb HB hb; clear hb hbox hg; have hnb93 := NB472_444.out; have hnc93 := NB444_472.out; have hnb94 := NB472_449.out; have hnc94 := NB449_472.out; have hnb95 := NB472_456.out; have hnc95 := NB456_472.out; have hnb96 := NB472_460.out; have hnc96 := NB460_472.out; have hnb97 := NB472_464.out; have hnc97 := NB464_472.out; have hnb98 := NB472_468.out; have hnc98 := NB468_472.out; have hcz99_0 : w92.cell? ⟨gb472, 0, none⟩ = some (.int .i64 0) := (blk_cell BK472.out 0).trans rfl; have hcz99_1 : w92.cell? ⟨gb472, 1, none⟩ = some (.int .u64 0) := (blk_cell BK472.out 1).trans rfl; have hfz99_0 := blk_frozen BK472.out 0; have hfz99_1 := blk_frozen BK472.out 1; have hcz100_0 : w92.cell? ⟨gb468, 0, none⟩ = some (.int .i64 t465) := (blk_cell BK468.out 0).trans rfl; have hcz100_1 : w92.cell? ⟨gb468, 1, none⟩ = some (.int .u64 t466) := (blk_cell BK468.out 1).trans rfl; have hfz100_0 := blk_frozen BK468.out 0; have hfz100_1 := blk_frozen BK468.out 1) | ((with_reducible refine gate_callee (f := 26) rfl ?_); refine goesL_ (some 114) rfl rfl Tryz.func26 (by kernel_rfl) rfl #[.agg #[.int .i64 t469, .int .u64 t470], .agg #[.int .i64 t465, .int .u64 t466]] rfl argt ?_; (with_reducible refine (wide_Int_Sub.calls t469 t470 t465 t466 t473 t474 t475 _ A60.out).mono ?_); rintro e w101 ⟨rfl, hb⟩; refine ⟨_, rfl, ?_⟩; replace BK444 := Aside0.mk (blk_below (g := gb444) (o := .cells #[.int .u64 t438, .int .i64 t439, .int .u64 t440, .int .u64 t441, .int .i64 t442] 33 (0, 0)) (by (with_reducible repeat (first | refine blk_drewN ?_ _ | refine blk_drew ?_ | refine blk_alloc ?_ _)); refine blk_far ?_ NB444_472.out _; (with_reducible repeat (first | refine blk_drewN ?_ _ | refine blk_drew ?_ | refine blk_alloc ?_ _)); refine blk_far ?_ NB444_472.out _; exact blkt BK444) hb); replace BK449 := Aside0.mk (blk_below (g := gb449) (o := .cells #[.int .u64 t445, .int .u32 t446, .int .u32 t447] 28 (0, 0)) (by (with_reducible repeat (first | refine blk_drewN ?_ _ | refine blk_drew ?_ | refine blk_alloc ?_ _)); refine blk_far ?_ NB449_472.out _; (with_reducible repeat (first | refine blk_drewN ?_ _ | refine blk_drew ?_ | refine blk_alloc ?_ _)); refine blk_far ?_ NB449_472.out _; exact blkt BK449) hb); replace BK456 := Aside0.mk (blk_below (g := gb456) (o := .cells #[.int .u64 t450, .int .i64 t451, .int .u64 t452, .int .u64 t453, .int .i64 t454] 33 (0, 0)) (by (with_reducible repeat (first | refine blk_drewN ?_ _ | refine blk_drew ?_ | refine blk_alloc ?_ _)); refine blk_far ?_ NB456_472.out _; (with_reducible repeat (first | refine blk_drewN ?_ _ | refine blk_drew ?_ | refine blk_alloc ?_ _)); refine blk_far ?_ NB456_472.out _; exact blkt BK456) hb); replace BK460 := Aside0.mk (blk_below (g := gb460) (o := .cells #[.int .i64 t457, .int .u64 t458] 31 (0, 0)) (by (with_reducible repeat (first | refine blk_drewN ?_ _ | refine blk_drew ?_ | refine blk_alloc ?_ _)); refine blk_far ?_ NB460_472.out _; (with_reducible repeat (first | refine blk_drewN ?_ _ | refine blk_drew ?_ | refine blk_alloc ?_ _)); refine blk_far ?_ NB460_472.out _; exact blkt BK460) hb); replace BK464 := Aside0.mk (blk_below (g := gb464) (o := .cells #[.int .u64 ((rd_T28 l1 x95_3).f0), .int .u32 ((rd_T28 l1 x95_3).f1), .int .u32 ((rd_T28 l1 x95_3).f2)] 28 (0, 0)) (by (with_reducible repeat (first | refine blk_drewN ?_ _ | refine blk_drew ?_ | refine blk_alloc ?_ _)); refine blk_far ?_ NB464_472.out _; (with_reducible repeat (first | refine blk_drewN ?_ _ | refine blk_drew ?_ | refine blk_alloc ?_ _)); refine blk_far ?_ NB464_472.out _; exact blkt BK464) hb); replace BK468 := Aside0.mk (blk_below (g := gb468) (o := .cells #[.int .i64 t465, .int .u64 t466] 31 (0, 0)) (by (with_reducible repeat (first | refine blk_drewN ?_ _ | refine blk_drew ?_ | refine blk_alloc ?_ _)); refine blk_far ?_ NB468_472.out _; (with_reducible repeat (first | refine blk_drewN ?_ _ | refine blk_drew ?_ | refine blk_alloc ?_ _)); refine blk_far ?_ NB468_472.out _; exact blkt BK468) hb); replace BK472 := Aside0.mk (blk_below (g := gb472) (o := .cells #[.int .i64 t469, .int .u64 t470] 31 (0, 0)) (by (with_reducible repeat (first | refine blk_drewN ?_ _ | refine blk_drew ?_ | refine blk_alloc ?_ _)); refine blk_put (cs := #[.int .i64 t469, .int .u64 0]) ?_ 1 _ rfl; (with_reducible repeat (first | refine blk_drewN ?_ _ | refine blk_drew ?_ | refine blk_alloc ?_ _)); refine blk_put (cs := #[.int .i64 0, .int .u64 0]) ?_ 0 _ rfl; exact blkt BK472) hb); replace HB := belb HB hb; (try clear hb); (try clear hb2); (try clear hk); (try clear hi)) | ((with_reducible refine gate_dst (N := 24) rfl ?_); (try (refine gate_guard (by rfl) ?_; dsimp only)); refine box_event ?hg (N := 24) ?hd (cs := #[.int .i64 0, .int .u64 0]) (t := 31) ?hr ?_; (case hd => rfl); (case hg => rfl); (case hr => first | (go_simp; done) | (go_simp; rfl)); intro gb476 hg w102 hbox hb; have BK476 := Aside0.mk (hbox); have GW476 := bels HB hg; have GE476 := bels HB hg; have NB444_476 := blkl BK444 hg; have NB476_444 := blkg BK444 hg; have NB449_476 := blkl BK449 hg; have NB476_449 := blkg BK449 hg; have NB456_476 := blkl BK456 hg; have NB476_456 := blkg BK456 hg; have NB460_476 := blkl BK460 hg; have NB476_460 := blkg BK460 hg; have NB464_476 := blkl BK464 hg; have NB476_464 := blkg BK464 hg; have NB468_476 := blkl BK468 hg; have NB476_468 := blkg BK468 hg; have NB472_476 := blkl BK472 hg; have NB476_472 := blkg BK472 hg; replace BK444 := blkb BK444 hb; replace BK449 := blkb BK449 hb; replace BK456 := blkb BK456 hb; replace BK460 := blkb BK460 hb; replace BK464 := blkb BK464 hb; replace BK468 := blkb BK468 hb; replace BK472 := blkb BK472 hb; replace HB := belb HB hb; clear hb hbox hg; have hnb103 := NB476_444.out; have hnc103 := NB444_476.out; have hnb104 := NB476_449.out; have hnc104 := NB449_476.out; have hnb105 := NB476_456.out; have hnc105 := NB456_476.out; have hnb106 := NB476_460.out; have hnc106 := NB460_476.out; have hnb107 := NB476_464.out; have hnc107 := NB464_476.out; have hnb108 := NB476_468.out; have hnc108 := NB468_476.out; have hnb109 := NB476_472.out; have hnc109 := NB472_476.out; have hcz110_0 : w102.cell? ⟨gb476, 0, none⟩ = some (.int .i64 0) := (blk_cell BK476.out 0).trans rfl; have hcz110_1 : w102.cell? ⟨gb476, 1, none⟩ = some (.int .u64 0) := (blk_cell BK476.out 1).trans rfl; have hfz110_0 := blk_frozen BK476.out 0; have hfz110_1 := blk_frozen BK476.out 1) | ((with_reducible refine gate_callee (f := 27) rfl ?_); refine goesL_ (some 119) rfl rfl Tryz.func27 (by kernel_rfl) rfl #[.agg #[.int .i64 t473, .int .u64 t474]] rfl argt ?_; (with_reducible refine (wide_Int_Small.calls t473 t474 t477 true _ A61.out).mono ?_); rintro e w111 ⟨rfl, hb⟩; refine ⟨_, rfl, ?_⟩; replace BK444 := Aside0.mk (blk_below (g := gb444) (o := .cells #[.int .u64 t438, .int .i64 t439, .int .u64 t440, .int .u64 t441, .int .i64 t442] 33 (0, 0)) (by (with_reducible repeat (first | refine blk_drewN ?_ _ | refine blk_drew ?_ | refine blk_alloc ?_ _)); refine blk_far ?_ NB444_476.out _; (with_reducible repeat (first | refine blk_drewN ?_ _ | refine blk_drew ?_ | refine blk_alloc ?_ _)); refine blk_far ?_ NB444_476.out _; exact blkt BK444) hb); replace BK449 := Aside0.mk (blk_below (g := gb449) (o := .cells #[.int .u64 t445, .int .u32 t446, .int .u32 t447] 28 (0, 0)) (by (with_reducible repeat (first | refine blk_drewN ?_ _ | refine blk_drew ?_ | refine blk_alloc ?_ _)); refine blk_far ?_ NB449_476.out _; (with_reducible repeat (first | refine blk_drewN ?_ _ | refine blk_drew ?_ | refine blk_alloc ?_ _)); refine blk_far ?_ NB449_476.out _; exact blkt BK449) hb); replace BK456 := Aside0.mk (blk_below (g := gb456) (o := .cells #[.int .u64 t450, .int .i64 t451, .int .u64 t452, .int .u64 t453, .int .i64 t454] 33 (0, 0)) (by (with_reducible repeat (first | refine blk_drewN ?_ _ | refine blk_drew ?_ | refine blk_alloc ?_ _)); refine blk_far ?_ NB456_476.out _; (with_reducible repeat (first | refine blk_drewN ?_ _ | refine blk_drew ?_ | refine blk_alloc ?_ _)); refine blk_far ?_ NB456_476.out _; exact blkt BK456) hb); replace BK460 := Aside0.mk (blk_below (g := gb460) (o := .cells #[.int .i64 t457, .int .u64 t458] 31 (0, 0)) (by (with_reducible repeat (first | refine blk_drewN ?_ _ | refine blk_drew ?_ | refine blk_alloc ?_ _)); refine blk_far ?_ NB460_476.out _; (with_reducible repeat (first | refine blk_drewN ?_ _ | refine blk_drew ?_ | refine blk_alloc ?_ _)); refine blk_far ?_ NB460_476.out _; exact blkt BK460) hb); replace BK464 := Aside0.mk (blk_below (g := gb464) (o := .cells #[.int .u64 ((rd_T28 l1 x95_3).f0), .int .u32 ((rd_T28 l1 x95_3).f1), .int .u32 ((rd_T28 l1 x95_3).f2)] 28 (0, 0)) (by (with_reducible repeat (first | refine blk_drewN ?_ _ | refine blk_drew ?_ | refine blk_alloc ?_ _)); refine blk_far ?_ NB464_476.out _; (with_reducible repeat (first | refine blk_drewN ?_ _ | refine blk_drew ?_ | refine blk_alloc ?_ _)); refine blk_far ?_ NB464_476.out _; exact blkt BK464) hb); replace BK468 := Aside0.mk (blk_below (g := gb468) (o := .cells #[.int .i64 t465, .int .u64 t466] 31 (0, 0)) (by (with_reducible repeat (first | refine blk_drewN ?_ _ | refine blk_drew ?_ | refine blk_alloc ?_ _)); refine blk_far ?_ NB468_476.out _; (with_reducible repeat (first | refine blk_drewN ?_ _ | refine blk_drew ?_ | refine blk_alloc ?_ _)); refine blk_far ?_ NB468_476.out _; exact blkt BK468) hb); replace BK472 := Aside0.mk (blk_below (g := gb472) (o := .cells #[.int .i64 t469, .int .u64 t470] 31 (0, 0)) (by (with_reducible repeat (first | refine blk_drewN ?_ _ | refine blk_drew ?_ | refine blk_alloc ?_ _)); refine blk_far ?_ NB472_476.out _; (with_reducible repeat (first | refine blk_drewN ?_ _ | refine blk_drew ?_ | refine blk_alloc ?_ _)); refine blk_far ?_ NB472_476.out _; exact blkt BK472) hb); replace BK476 := Aside0.mk (blk_below (g := gb476) (o := .cells #[.int .i64 t473, .int .u64 t474] 31 (0, 0)) (by (with_reducible repeat (first | refine blk_drewN ?_ _ | refine blk_drew ?_ | refine blk_alloc ?_ _)); refine blk_put (cs := #[.int .i64 t473, .int .u64 0]) ?_ 1 _ rfl; (with_reducible repeat (first | refine blk_drewN ?_ _ | refine blk_drew ?_ | refine blk_alloc ?_ _)); refine blk_put (cs := #[.int .i64 0, .int .u64 0]) ?_ 0 _ rfl; exact blkt BK476) hb); replace HB := belb HB hb; (try clear hb); (try clear hb2); (try clear hk); (try clear hi)))
                   go_roundg k3
                   case measure => have := HJ7.out; have := HJ20.out; have := HK3.out; omega
                   case rel => exact ⟨(wrap64 (x95_3 + 1)), (by first | rfl | (simp; done) | (simp [*]; done)), H', ⟨by have := HJ7.out; have := HJ20.out; have := HK3.out; omega⟩, ⟨blkt BK444⟩, ⟨blkt BK449⟩, ⟨blkt BK456⟩, ⟨blkt BK460⟩, ⟨belt HB⟩⟩
                 ·rw [if_neg c67] at H
                  have c67b0 : decide (a3 < 0) = false := decide_eq_false c67
                  clear c67
                  have H' := Aside0.mk H
                  clear H
                  have p463 : 0 ≤ (x95_3 : Int) := of_decide_eq_true (by first | (with_reducible assumption) | assumption)
                  have q463 : x95_3 < (l1.length : Int) := of_decide_eq_true (by first | (with_reducible assumption) | assumption)
                  obtain ⟨ad463, e463, hx463_0, hx463_1, hx463_2⟩ := at_T28 HR1.out x95_3 p463 q463
                  cases e463
                  replace hx463_0 := (HB.out.cell (World.block_lt_of_cell? w _ hx463_0)).trans hx463_0
                  replace hx463_1 := (HB.out.cell (World.block_lt_of_cell? w _ hx463_1)).trans hx463_1
                  replace hx463_2 := (HB.out.cell (World.block_lt_of_cell? w _ hx463_2)).trans hx463_2
                  replace p463 := eq_true p463
                  replace q463 := eq_true q463
                  go_wp2_with (first | ((with_reducible refine gate_dst (N := 19) rfl ?_); (try (refine gate_guard (by rfl) ?_; dsimp only)); refine box_event ?hg (N := 19) ?hd (cs := #[.int .u64 0, .int .u32 0, .int .u32 0]) (t := 28) ?hr ?_; (case hd => rfl); (case hg => rfl); (case hr => first | (go_simp; done) | (go_simp; rfl)); intro gb464 hg w112 hbox hb; have BK464 := Aside0.mk (hbox); have GW464 := bels HB hg; have GE464 := bels HB hg; have NB444_464 := blkl BK444 hg; have NB464_444 := blkg BK444 hg; have NB449_464 := blkl BK449 hg; have NB464_449 := blkg BK449 hg; have NB456_464 := blkl BK456 hg; have NB464_456 := blkg BK456 hg; have NB460_464 := blkl BK460 hg; have NB464_460 := blkg BK460 hg; replace BK444 := blkb BK444 hb; replace BK449 := blkb BK449 hb; replace BK456 := blkb BK456 hb; replace BK460 := blkb BK460 hb; replace HB := belb HB hb; clear hb hbox hg; have hnb113 := NB464_444.out; have hnc113 := NB444_464.out; have hnb114 := NB464_449.out; have hnc114 := NB449_464.out; have hnb115 := NB464_456.out; have hnc115 := NB456_464.out; have hnb116 := NB464_460.out; have hnc116 := NB460_464.out; have hcz117_0 : w112.cell? ⟨gb464, 0, none⟩ = some (.int .u64 0) := (blk_cell BK464.out 0).trans rfl; have hcz117_1 : w112.cell? ⟨gb464, 1, none⟩ = some (.int .u32 0) := (blk_cell BK464.out 1).trans rfl; have hcz117_2 : w112.cell? ⟨gb464, 2, none⟩ = some (.int .u32 0) := (blk_cell BK464.out 2).trans rfl; have hfz117_0 := blk_frozen BK464.out 0; have hfz117_1 := blk_frozen BK464.out 1; have hfz117_2 := blk_frozen BK464.out 2; have hnb118 := NB444_449.out; have hnc118 := NB449_444.out; have hnb119 := NB444_456.out; have hnc119 := NB456_444.out; have hnb120 := NB444_460.out; have hnc120 := NB460_444.out; have hcz121_0 : w112.cell? ⟨gb444, 0, none⟩ = some (.int .u64 t438) := (blk_cell BK444.out 0).trans rfl; have hcz121_1 : w112.cell? ⟨gb444, 1, none⟩ = some (.int .i64 t439) := (blk_cell BK444.out 1).trans rfl; have hcz121_2 : w112.cell? ⟨gb444, 2, none⟩ = some (.int .u64 t440) := (blk_cell BK444.out 2).trans rfl; have hcz121_3 : w112.cell? ⟨gb444, 3, none⟩ = some (.int .u64 t441) := (blk_cell BK444.out 3).trans rfl; have hcz121_4 : w112.cell? ⟨gb444, 4, none⟩ = some (.int .i64 t442) := (blk_cell BK444.out 4).trans rfl; have hfz121_0 := blk_frozen BK444.out 0; have hfz121_1 := blk_frozen BK444.out 1; have hfz121_2 := blk_frozen BK444.out 2; have hfz121_3 := blk_frozen BK444.out 3; have hfz121_4 := blk_frozen BK444.out 4) | ((with_reducible refine gate_callee (f := 21) rfl ?_); refine goesL_ (some 102) rfl rfl Tryz.func21 (by kernel_rfl) rfl #[.agg #[.int .u64 t438, .int .i64 t439, .int .u64 t440, .int .u64 t441, .int .i64 t442], .agg #[.int .u64 ((rd_T28 l1 x95_3).f0), .int .u32 ((rd_T28 l1 x95_3).f1), .int .u32 ((rd_T28 l1 x95_3).f2)]] rfl argt ?_; (with_reducible refine (lag_Read.calls k3 t438 t439 t440 t441 t442 ((rd_T28 l1 x95_3).f0) ((rd_T28 l1 x95_3).f1) ((rd_T28 l1 x95_3).f2) t465 t466 t467 _ A58.out).mono ?_); rintro e w122 ⟨rfl, hb⟩; refine ⟨_, rfl, ?_⟩; replace BK444 := Aside0.mk (blk_below (g := gb444) (o := .cells #[.int .u64 t438, .int .i64 t439, .int .u64 t440, .int .u64 t441, .int .i64 t442] 33 (0, 0)) (by (with_reducible repeat (first | refine blk_drewN ?_ _ | refine blk_drew ?_ | refine blk_alloc ?_ _)); refine blk_far ?_ NB444_464.out _; (with_reducible repeat (first | refine blk_drewN ?_ _ | refine blk_drew ?_ | refine blk_alloc ?_ _)); refine blk_far ?_ NB444_464.out _; (with_reducible repeat (first | refine blk_drewN ?_ _ | refine blk_drew ?_ | refine blk_alloc ?_ _)); refine blk_far ?_ NB444_464.out _; exact blkt BK444) hb); replace BK449 := Aside0.mk (blk_below (g := gb449) (o := .cells #[.int .u64 t445, .int .u32 t446, .int .u32 t447] 28 (0, 0)) (by (with_reducible repeat (first | refine blk_drewN ?_ _ | refine blk_drew ?_ | refine blk_alloc ?_ _)); refine blk_far ?_ NB449_464.out _; (with_reducible repeat (first | refine blk_drewN ?_ _ | refine blk_drew ?_ | refine blk_alloc ?_ _)); refine blk_far ?_ NB449_464.out _; (with_reducible repeat (first | refine blk_drewN ?_ _ | refine blk_drew ?_ | refine blk_alloc ?_ _)); refine blk_far ?_ NB449_464.out _; exact blkt BK449) hb); replace BK456 := Aside0.mk (blk_below (g := gb456) (o := .cells #[.int .u64 t450, .int .i64 t451, .int .u64 t452, .int .u64 t453, .int .i64 t454] 33 (0, 0)) (by (with_reducible repeat (first | refine blk_drewN ?_ _ | refine blk_drew ?_ | refine blk_alloc ?_ _)); refine blk_far ?_ NB456_464.out _; (with_reducible repeat (first | refine blk_drewN ?_ _ | refine blk_drew ?_ | refine blk_alloc ?_ _)); refine blk_far ?_ NB456_464.out _; (with_reducible repeat (first | refine blk_drewN ?_ _ | refine blk_drew ?_ | refine blk_alloc ?_ _)); refine blk_far ?_ NB456_464.out _; exact blkt BK456) hb); replace BK460 := Aside0.mk (blk_below (g := gb460) (o := .cells #[.int .i64 t457, .int .u64 t458] 31 (0, 0)) (by (with_reducible repeat (first | refine blk_drewN ?_ _ | refine blk_drew ?_ | refine blk_alloc ?_ _)); refine blk_far ?_ NB460_464.out _; (with_reducible repeat (first | refine blk_drewN ?_ _ | refine blk_drew ?_ | refine blk_alloc ?_ _)); refine blk_far ?_ NB460_464.out _; (with_reducible repeat (first | refine blk_drewN ?_ _ | refine blk_drew ?_ | refine blk_alloc ?_ _)); refine blk_far ?_ NB460_464.out _; exact blkt BK460) hb); replace BK464 := Aside0.mk (blk_below (g := gb464) (o := .cells #[.int .u64 ((rd_T28 l1 x95_3).f0), .int .u32 ((rd_T28 l1 x95_3).f1), .int .u32 ((rd_T28 l1 x95_3).f2)] 28 (0, 0)) (by (with_reducible repeat (first | refine blk_drewN ?_ _ | refine blk_drew ?_ | refine blk_alloc ?_ _)); refine blk_put (cs := #[.int .u64 ((rd_T28 l1 x95_3).f0), .int .u32 ((rd_T28 l1 x95_3).f1), .int .u32 0]) ?_ 2 _ rfl; (with_reducible repeat (first | refine blk_drewN ?_ _ | refine blk_drew ?_ | refine blk_alloc ?_ _)); refine blk_put (cs := #[.int .u64 ((rd_T28 l1 x95_3).f0), .int .u32 0, .int .u32 0]) ?_ 1 _ rfl; (with_reducible repeat (first | refine blk_drewN ?_ _ | refine blk_drew ?_ | refine blk_alloc ?_ _)); refine blk_put (cs := #[.int .u64 0, .int .u32 0, .int .u32 0]) ?_ 0 _ rfl; exact blkt BK464) hb); replace HB := belb HB hb; (try clear hb); (try clear hb2); (try clear hk); (try clear hi)) | ((with_reducible refine gate_dst (N := 20) rfl ?_); (try (refine gate_guard (by rfl) ?_; dsimp only)); refine box_event ?hg (N := 20) ?hd (cs := #[.int .i64 0, .int .u64 0]) (t := 31) ?hr ?_; (case hd => rfl); (case hg => rfl); (case hr => first | (go_simp; done) | (go_simp; rfl)); intro gb468 hg w123 hbox hb; have BK468 := Aside0.mk (hbox); have GW468 := bels HB hg; have GE468 := bels HB hg; have NB444_468 := blkl BK444 hg; have NB468_444 := blkg BK444 hg; have NB449_468 := blkl BK449 hg; have NB468_449 := blkg BK449 hg; have NB456_468 := blkl BK456 hg; have NB468_456 := blkg BK456 hg; have NB460_468 := blkl BK460 hg; have NB468_460 := blkg BK460 hg; have NB464_468 := blkl BK464 hg; have NB468_464 := blkg BK464 hg; replace BK444 := blkb BK444 hb; replace BK449 := blkb BK449 hb; replace BK456 := blkb BK456 hb; replace BK460 := blkb BK460 hb; replace BK464 := blkb BK464 hb; replace HB := belb HB hb; clear hb hbox hg; have hnb124 := NB468_444.out; have hnc124 := NB444_468.out; have hnb125 := NB468_449.out; have hnc125 := NB449_468.out; have hnb126 := NB468_456.out; have hnc126 := NB456_468.out; have hnb127 := NB468_460.out; have hnc127 := NB460_468.out; have hnb128 := NB468_464.out; have hnc128 := NB464_468.out; have hcz129_0 : w123.cell? ⟨gb468, 0, none⟩ = some (.int .i64 0) := (blk_cell BK468.out 0).trans rfl; have hcz129_1 : w123.cell? ⟨gb468, 1, none⟩ = some (.int .u64 0) := (blk_cell BK468.out 1).trans rfl; have hfz129_0 := blk_frozen BK468.out 0; have hfz129_1 := blk_frozen BK468.out 1; have hnb130 := NB456_449.out; have hnc130 := NB449_456.out; have hnb131 := NB456_460.out; have hnc131 := NB460_456.out; have hcz132_0 : w123.cell? ⟨gb456, 0, none⟩ = some (.int .u64 t450) := (blk_cell BK456.out 0).trans rfl; have hcz132_1 : w123.cell? ⟨gb456, 1, none⟩ = some (.int .i64 t451) := (blk_cell BK456.out 1).trans rfl; have hcz132_2 : w123.cell? ⟨gb456, 2, none⟩ = some (.int .u64 t452) := (blk_cell BK456.out 2).trans rfl; have hcz132_3 : w123.cell? ⟨gb456, 3, none⟩ = some (.int .u64 t453) := (blk_cell BK456.out 3).trans rfl; have hcz132_4 : w123.cell? ⟨gb456, 4, none⟩ = some (.int .i64 t454) := (blk_cell BK456.out 4).trans rfl; have hfz132_0 := blk_frozen BK456.out 0; have hfz132_1 := blk_frozen BK456.out 1; have hfz132_2 := blk_frozen BK456.out 2; have hfz132_3 := blk_frozen BK456.out 3; have hfz132_4 := blk_frozen BK456.out 4; have hcz133_0 : w123.cell? ⟨gb464, 0, none⟩ = some (.int .u64 ((rd_T28 l1 x95_3).f0)) := (blk_cell BK464.out 0).trans rfl; have hcz133_1 : w123.cell? ⟨gb464, 1, none⟩ = some (.int .u32 ((rd_T28 l1 x95_3).f1)) := (blk_cell BK464.out 1).trans rfl; have hcz133_2 : w123.cell? ⟨gb464, 2, none⟩ = some (.int .u32 ((rd_T28 l1 x95_3).f2)) := (blk_cell BK464.out 2).trans rfl; have hfz133_0 := blk_frozen BK464.out 0; have hfz133_1 := blk_frozen BK464.out 1; have hfz133_2 := blk_frozen BK464.out 2) | ((with_reducible refine gate_callee (f := 21) rfl ?_); refine goesL_ (some 108) rfl rfl Tryz.func21 (by kernel_rfl) rfl #[.agg #[.int .u64 t450, .int .i64 t451, .int .u64 t452, .int .u64 t453, .int .i64 t454], .agg #[.int .u64 ((rd_T28 l1 x95_3).f0), .int .u32 ((rd_T28 l1 x95_3).f1), .int .u32 ((rd_T28 l1 x95_3).f2)]] rfl argt ?_; (with_reducible refine (lag_Read.calls k3 t450 t451 t452 t453 t454 ((rd_T28 l1 x95_3).f0) ((rd_T28 l1 x95_3).f1) ((rd_T28 l1 x95_3).f2) t469 t470 t471 _ A59.out).mono ?_); rintro e w134 ⟨rfl, hb⟩; refine ⟨_, rfl, ?_⟩; replace BK444 := Aside0.mk (blk_below (g := gb444) (o := .cells #[.int .u64 t438, .int .i64 t439, .int .u64 t440, .int .u64 t441, .int .i64 t442] 33 (0, 0)) (by (with_reducible repeat (first | refine blk_drewN ?_ _ | refine blk_drew ?_ | refine blk_alloc ?_ _)); refine blk_far ?_ NB444_468.out _; (with_reducible repeat (first | refine blk_drewN ?_ _ | refine blk_drew ?_ | refine blk_alloc ?_ _)); refine blk_far ?_ NB444_468.out _; exact blkt BK444) hb); replace BK449 := Aside0.mk (blk_below (g := gb449) (o := .cells #[.int .u64 t445, .int .u32 t446, .int .u32 t447] 28 (0, 0)) (by (with_reducible repeat (first | refine blk_drewN ?_ _ | refine blk_drew ?_ | refine blk_alloc ?_ _)); refine blk_far ?_ NB449_468.out _; (with_reducible repeat (first | refine blk_drewN ?_ _ | refine blk_drew ?_ | refine blk_alloc ?_ _)); refine blk_far ?_ NB449_468.out _; exact blkt BK449) hb); replace BK456 := Aside0.mk (blk_below (g := gb456) (o := .cells #[.int .u64 t450, .int .i64 t451, .int .u64 t452, .int .u64 t453, .int .i64 t454] 33 (0, 0)) (by (with_reducible repeat (first | refine blk_drewN ?_ _ | refine blk_drew ?_ | refine blk_alloc ?_ _)); refine blk_far ?_ NB456_468.out _; (with_reducible repeat (first | refine blk_drewN ?_ _ | refine blk_drew ?_ | refine blk_alloc ?_ _)); refine blk_far ?_ NB456_468.out _; exact blkt BK456) hb); replace BK460 := Aside0.mk (blk_below (g := gb460) (o := .cells #[.int .i64 t457, .int .u64 t458] 31 (0, 0)) (by (with_reducible repeat (first | refine blk_drewN ?_ _ | refine blk_drew ?_ | refine blk_alloc ?_ _)); refine blk_far ?_ NB460_468.out _; (with_reducible repeat (first | refine blk_drewN ?_ _ | refine blk_drew ?_ | refine blk_alloc ?_ _)); refine blk_far ?_ NB460_468.out _; exact blkt BK460) hb); replace BK464 := Aside0.mk (blk_below (g := gb464) (o := .cells #[.int .u64 ((rd_T28 l1 x95_3).f0), .int .u32 ((rd_T28 l1 x95_3).f1), .int .u32 ((rd_T28 l1 x95_3).f2)] 28 (0, 0)) (by (with_reducible repeat (first | refine blk_drewN ?_ _ | refine blk_drew ?_ | refine blk_alloc ?_ _)); refine blk_far ?_ NB464_468.out _; (with_reducible repeat (first | refine blk_drewN ?_ _ | refine blk_drew ?_ | refine blk_alloc ?_ _)); refine blk_far ?_ NB464_468.out _; exact blkt BK464) hb); replace BK468 := Aside0.mk (blk_below (g := gb468) (o := .cells #[.int .i64 t465, .int .u64 t466] 31 (0, 0)) (by (with_reducible repeat (first | refine blk_drewN ?_ _ | refine blk_drew ?_ | refine blk_alloc ?_ _)); refine blk_put (cs := #[.int .i64 t465, .int .u64 0]) ?_ 1 _ rfl; (with_reducible repeat (first | refine blk_drewN ?_ _ | refine blk_drew ?_ | refine blk_alloc ?_ _)); refine blk_put (cs := #[.int .i64 0, .int .u64 0]) ?_ 0 _ rfl; exact blkt BK468) hb); replace HB := belb HB hb; (try clear hb); (try clear hb2); (try clear hk); (try clear hi)) | ((with_reducible refine gate_dst (N := 22) rfl ?_); (try (refine gate_guard (by rfl) ?_; dsimp only)); refine box_event ?hg (N := 22) ?hd (cs := #[.int .i64 0, .int .u64 0]) (t := 31) ?hr ?_; (case hd => rfl); (case hg => rfl); (case hr => first | (go_simp; done) | (go_simp; rfl)); intro gb472 hg w135 hbox hb; have BK472 := Aside0.mk (hbox); have GW472 := bels HB hg; have GE472 := bels HB hg; have NB444_472 := blkl BK444 hg; have NB472_444 := blkg BK444 hg; have NB449_472 := blkl BK449 hg; have NB472_449 := blkg BK449 hg; have NB456_472 := blkl BK456 hg; have NB472_456 := blkg BK456 hg; have NB460_472 := blkl BK460 hg; have NB472_460 := blkg BK460 hg; have NB464_472 := blkl BK464 hg; have NB472_464 := blkg BK464 hg; have NB468_472 := blkl BK468 hg; have NB472_468 := blkg BK468 hg; replace BK444 := blkb BK444 hb; replace BK449 := blkb BK449 hb; replace BK456 := blkb BK456 hb; replace BK460 := blkb BK460 hb; replace BK464 := blkb BK464 hb; replace BK468 := blkb BK468 hb; replace HB := belb HB hb; clear hb hbox hg; have hnb136 := NB472_444.out; have hnc136 := NB444_472.out; have hnb137 := NB472_449.out; have hnc137 := NB449_472.out; have hnb138 := NB472_456.out; have hnc138 := NB456_472.out; have hnb139 := NB472_460.out; have hnc139 := NB460_472.out; have hnb140 := NB472_464.out; have hnc140 := NB464_472.out; have hnb141 := NB472_468.out; have hnc141 := NB468_472.out; have hcz142_0 : w135.cell? ⟨gb472, 0, none⟩ = some (.int .i64 0) := (blk_cell BK472.out 0).trans rfl; have hcz142_1 : w135.cell? ⟨gb472, 1, none⟩ = some (.int .u64 0) := (blk_cell BK472.out 1).trans rfl; have hfz142_0 := blk_frozen BK472.out 0; have hfz142_1 := blk_frozen BK472.out 1; have hcz143_0 : w135.cell? ⟨gb468, 0, none⟩ = some (.int .i64 t465) := (blk_cell BK468.out 0).trans rfl; have hcz143_1 : w135.cell? ⟨gb468, 1, none⟩ = some (.int .u64 t466) := (blk_cell BK468.out 1).trans rfl; have hfz143_0 := blk_frozen BK468.out 0; have hfz143_1 := blk_frozen BK468.out 1) | ((with_reducible refine gate_callee (f := 26) rfl ?_); refine goesL_ (some 114) rfl rfl Tryz.func26 (by kernel_rfl) rfl #[.agg #[.int .i64 t469, .int .u64 t470], .agg #[.int .i64 t465, .int .u64 t466]] rfl argt ?_; (with_reducible refine (wide_Int_Sub.calls t469 t470 t465 t466 t473 t474 t475 _ A60.out).mono ?_); rintro e w144 ⟨rfl, hb⟩; refine ⟨_, rfl, ?_⟩; replace BK444 := Aside0.mk (blk_below (g := gb444) (o := .cells #[.int .u64 t438, .int .i64 t439, .int .u64 t440, .int .u64 t441, .int .i64 t442] 33 (0, 0)) (by (with_reducible repeat (first | refine blk_drewN ?_ _ | refine blk_drew ?_ | refine blk_alloc ?_ _)); refine blk_far ?_ NB444_472.out _; (with_reducible repeat (first | refine blk_drewN ?_ _ | refine blk_drew ?_ | refine blk_alloc ?_ _)); refine blk_far ?_ NB444_472.out _; exact blkt BK444) hb); replace BK449 := Aside0.mk (blk_below (g := gb449) (o := .cells #[.int .u64 t445, .int .u32 t446, .int .u32 t447] 28 (0, 0)) (by (with_reducible repeat (first | refine blk_drewN ?_ _ | refine blk_drew ?_ | refine blk_alloc ?_ _)); refine blk_far ?_ NB449_472.out _; (with_reducible repeat (first | refine blk_drewN ?_ _ | refine blk_drew ?_ | refine blk_alloc ?_ _)); refine blk_far ?_ NB449_472.out _; exact blkt BK449) hb); replace BK456 := Aside0.mk (blk_below (g := gb456) (o := .cells #[.int .u64 t450, .int .i64 t451, .int .u64 t452, .int .u64 t453, .int .i64 t454] 33 (0, 0)) (by (with_reducible repeat (first | refine blk_drewN ?_ _ | refine blk_drew ?_ | refine blk_alloc ?_ _)); refine blk_far ?_ NB456_472.out _; (with_reducible repeat (first | refine blk_drewN ?_ _ | refine blk_drew ?_ | refine blk_alloc ?_ _)); refine blk_far ?_ NB456_472.out _; exact blkt BK456) hb); replace BK460 := Aside0.mk (blk_below (g := gb460) (o := .cells #[.int .i64 t457, .int .u64 t458] 31 (0, 0)) (by (with_reducible repeat (first | refine blk_drewN ?_ _ | refine blk_drew ?_ | refine blk_alloc ?_ _)); refine blk_far ?_ NB460_472.out _; (with_reducible repeat (first | refine blk_drewN ?_ _ | refine blk_drew ?_ | refine blk_alloc ?_ _)); refine blk_far ?_ NB460_472.out _; exact blkt BK460) hb); replace BK464 := Aside0.mk (blk_below (g := gb464) (o := .cells #[.int .u64 ((rd_T28 l1 x95_3).f0), .int .u32 ((rd_T28 l1 x95_3).f1), .int .u32 ((rd_T28 l1 x95_3).f2)] 28 (0, 0)) (by (with_reducible repeat (first | refine blk_drewN ?_ _ | refine blk_drew ?_ | refine blk_alloc ?_ _)); refine blk_far ?_ NB464_472.out _; (with_reducible repeat (first | refine blk_drewN ?_ _ | refine blk_drew ?_ | refine blk_alloc ?_ _)); refine blk_far ?_ NB464_472.out _; exact blkt BK464) hb); replace BK468 := Aside0.mk (blk_below (g := gb468) (o := .cells #[.int .i64 t465, .int .u64 t466] 31 (0, 0)) (by (with_reducible repeat (first | refine blk_drewN ?_ _ | refine blk_drew ?_ | refine blk_alloc ?_ _)); refine blk_far ?_ NB468_472.out _; (with_reducible repeat (first | refine blk_drewN ?_ _ | refine blk_drew ?_ | refine blk_alloc ?_ _)); refine blk_far ?_ NB468_472.out _; exact blkt BK468) hb); replace BK472 := Aside0.mk (blk_below (g := gb472) (o := .cells #[.int .i64 t469, .int .u64 t470] 31 (0, 0)) (by (with_reducible repeat (first | refine blk_drewN ?_ _ | refine blk_drew ?_ | refine blk_alloc ?_ _)); refine blk_put (cs := #[.int .i64 t469, .int .u64 0]) ?_ 1 _ rfl; (with_reducible repeat (first | refine blk_drewN ?_ _ | refine blk_drew ?_ | refine blk_alloc ?_ _)); refine blk_put (cs := #[.int .i64 0, .int .u64 0]) ?_ 0 _ rfl; exact blkt BK472) hb); replace HB := belb HB hb; (try clear hb); (try clear hb2); (try clear hk); (try clear hi)) | ((with_reducible refine gate_dst (N := 24) rfl ?_); (try (refine gate_guard (by rfl) ?_; dsimp only)); refine box_event ?hg (N := 24) ?hd (cs := #[.int .i64 0, .int .u64 0]) (t := 31) ?hr ?_; (case hd => rfl); (case hg => rfl); (case hr => first | (go_simp; done) | (go_simp; rfl)); intro gb476 hg w145 hbox hb; have BK476 := Aside0.mk (hbox); have GW476 := bels HB hg; have GE476 := bels HB hg; have NB444_476 := blkl BK444 hg; have NB476_444 := blkg BK444 hg; have NB449_476 := blkl BK449 hg; have NB476_449 := blkg BK449 hg; have NB456_476 := blkl BK456 hg; have NB476_456 := blkg BK456 hg; have NB460_476 := blkl BK460 hg; have NB476_460 := blkg BK460 hg; have NB464_476 := blkl BK464 hg; have NB476_464 := blkg BK464 hg; have NB468_476 := blkl BK468 hg; have NB476_468 := blkg BK468 hg; have NB472_476 := blkl BK472 hg; have NB476_472 := blkg BK472 hg; replace BK444 := blkb BK444 hb; replace BK449 := blkb BK449 hb; replace BK456 := blkb BK456 hb; replace BK460 := blkb BK460 hb; replace BK464 := blkb BK464 hb; replace BK468 := blkb BK468 hb; replace BK472 := blkb BK472 hb; replace HB := belb HB hb; clear hb hbox hg; have hnb146 := NB476_444.out; have hnc146 := NB444_476.out; have hnb147 := NB476_449.out; have hnc147 := NB449_476.out; have hnb148 := NB476_456.out; have hnc148 := NB456_476.out; have hnb149 := NB476_460.out; have hnc149 := NB460_476.out; have hnb150 := NB476_464.out; have hnc150 := NB464_476.out; have hnb151 := NB476_468.out; have hnc151 := NB468_476.out; have hnb152 := NB476_472.out; have hnc152 := NB472_476.out; have hcz153_0 : w145.cell? ⟨gb476, 0, none⟩ = some (.int .i64 0) := (blk_cell BK476.out 0).trans rfl; have hcz153_1 : w145.cell? ⟨gb476, 1, none⟩ = some (.int .u64 0) := (blk_cell BK476.out 1).trans rfl; have hfz153_0 := blk_frozen BK476.out 0; have hfz153_1 := blk_frozen BK476.out 1) | ((with_reducible refine gate_callee (f := 27) rfl ?_); refine goesL_ (some 119) rfl rfl Tryz.func27 (by kernel_rfl) rfl #[.agg #[.int .i64 t473, .int .u64 t474]] rfl argt ?_; (with_reducible refine (wide_Int_Small.calls t473 t474 t477 true _ A61.out).mono ?_); rintro e w154 ⟨rfl, hb⟩; refine ⟨_, rfl, ?_⟩; replace BK444 := Aside0.mk (blk_below (g := gb444) (o := .cells #[.int .u64 t438, .int .i64 t439, .int .u64 t440, .int .u64 t441, .int .i64 t442] 33 (0, 0)) (by (with_reducible repeat (first | refine blk_drewN ?_ _ | refine blk_drew ?_ | refine blk_alloc ?_ _)); refine blk_far ?_ NB444_476.out _; (with_reducible repeat (first | refine blk_drewN ?_ _ | refine blk_drew ?_ | refine blk_alloc ?_ _)); refine blk_far ?_ NB444_476.out _; exact blkt BK444) hb); replace BK449 := Aside0.mk (blk_below (g := gb449) (o := .cells #[.int .u64 t445, .int .u32 t446, .int .u32 t447] 28 (0, 0)) (by (with_reducible repeat (first | refine blk_drewN ?_ _ | refine blk_drew ?_ | refine blk_alloc ?_ _)); refine blk_far ?_ NB449_476.out _; (with_reducible repeat (first | refine blk_drewN ?_ _ | refine blk_drew ?_ | refine blk_alloc ?_ _)); refine blk_far ?_ NB449_476.out _; exact blkt BK449) hb); replace BK456 := Aside0.mk (blk_below (g := gb456) (o := .cells #[.int .u64 t450, .int .i64 t451, .int .u64 t452, .int .u64 t453, .int .i64 t454] 33 (0, 0)) (by (with_reducible repeat (first | refine blk_drewN ?_ _ | refine blk_drew ?_ | refine blk_alloc ?_ _)); refine blk_far ?_ NB456_476.out _; (with_reducible repeat (first | refine blk_drewN ?_ _ | refine blk_drew ?_ | refine blk_alloc ?_ _)); refine blk_far ?_ NB456_476.out _; exact blkt BK456) hb); replace BK460 := Aside0.mk (blk_below (g := gb460) (o := .cells #[.int .i64 t457, .int .u64 t458] 31 (0, 0)) (by (with_reducible repeat (first | refine blk_drewN ?_ _ | refine blk_drew ?_ | refine blk_alloc ?_ _)); refine blk_far ?_ NB460_476.out _; (with_reducible repeat (first | refine blk_drewN ?_ _ | refine blk_drew ?_ | refine blk_alloc ?_ _)); refine blk_far ?_ NB460_476.out _; exact blkt BK460) hb); replace BK464 := Aside0.mk (blk_below (g := gb464) (o := .cells #[.int .u64 ((rd_T28 l1 x95_3).f0), .int .u32 ((rd_T28 l1 x95_3).f1), .int .u32 ((rd_T28 l1 x95_3).f2)] 28 (0, 0)) (by (with_reducible repeat (first | refine blk_drewN ?_ _ | refine blk_drew ?_ | refine blk_alloc ?_ _)); refine blk_far ?_ NB464_476.out _; (with_reducible repeat (first | refine blk_drewN ?_ _ | refine blk_drew ?_ | refine blk_alloc ?_ _)); refine blk_far ?_ NB464_476.out _; exact blkt BK464) hb); replace BK468 := Aside0.mk (blk_below (g := gb468) (o := .cells #[.int .i64 t465, .int .u64 t466] 31 (0, 0)) (by (with_reducible repeat (first | refine blk_drewN ?_ _ | refine blk_drew ?_ | refine blk_alloc ?_ _)); refine blk_far ?_ NB468_476.out _; (with_reducible repeat (first | refine blk_drewN ?_ _ | refine blk_drew ?_ | refine blk_alloc ?_ _)); refine blk_far ?_ NB468_476.out _; exact blkt BK468) hb); replace BK472 := Aside0.mk (blk_below (g := gb472) (o := .cells #[.int .i64 t469, .int .u64 t470] 31 (0, 0)) (by (with_reducible repeat (first | refine blk_drewN ?_ _ | refine blk_drew ?_ | refine blk_alloc ?_ _)); refine blk_far ?_ NB472_476.out _; (with_reducible repeat (first | refine blk_drewN ?_ _ | refine blk_drew ?_ | refine blk_alloc ?_ _)); refine blk_far ?_ NB472_476.out _; exact blkt BK472) hb); replace BK476 := Aside0.mk (blk_below (g := gb476) (o := .cells #[.int .i64 t473, .int .u64 t474] 31 (0, 0)) (by (with_reducible repeat (first | refine blk_drewN ?_ _ | refine blk_drew ?_ | refine blk_alloc ?_ _)); refine blk_put (cs := #[.int .i64 t473, .int .u64 0]) ?_ 1 _ rfl; (with_reducible repeat (first | refine blk_drewN ?_ _ | refine blk_drew ?_ | refine blk_alloc ?_ _)); refine blk_put (cs := #[.int .i64 0, .int .u64 0]) ?_ 0 _ rfl; exact blkt BK476) hb); replace HB := belb HB hb; (try clear hb); (try clear hb2); (try clear hk); (try clear hi)))
                  go_roundg k3
                  case measure => have := HJ7.out; have := HJ20.out; have := HK3.out; omega
                  case rel => exact ⟨(wrap64 (x95_3 + 1)), (by first | rfl | (simp; done) | (simp [*]; done)), H', ⟨by have := HJ7.out; have := HJ20.out; have := HK3.out; omega⟩, ⟨blkt BK444⟩, ⟨blkt BK449⟩, ⟨blkt BK456⟩, ⟨blkt BK460⟩, ⟨belt HB⟩⟩
               ·rw [if_neg c65] at H
                have c65b0 : decide (0 < a3) = false := decide_eq_false c65
                clear c65
                by_cases c155 : a3 < 0
                ·rw [if_pos c155] at H
                 have c155b0 : decide (a3 < 0) = true := decide_eq_true c155
                 clear c155
                 by_cases c156 : t477 < (-1)
                 ·rw [if_pos c156] at H
                  exact absurd H (by simp)
                 ·rw [if_neg c156] at H
                  have c156b0 : decide (t477 < (-1)) = false := decide_eq_false c156
                  clear c156
                  have H' := Aside0.mk H
                  clear H
                  have p463 : 0 ≤ (x95_3 : Int) := of_decide_eq_true (by first | (with_reducible assumption) | assumption)
                  have q463 : x95_3 < (l1.length : Int) := of_decide_eq_true (by first | (with_reducible assumption) | assumption)
                  obtain ⟨ad463, e463, hx463_0, hx463_1, hx463_2⟩ := at_T28 HR1.out x95_3 p463 q463
                  cases e463
                  replace hx463_0 := (HB.out.cell (World.block_lt_of_cell? w _ hx463_0)).trans hx463_0
                  replace hx463_1 := (HB.out.cell (World.block_lt_of_cell? w _ hx463_1)).trans hx463_1
                  replace hx463_2 := (HB.out.cell (World.block_lt_of_cell? w _ hx463_2)).trans hx463_2
                  replace p463 := eq_true p463
                  replace q463 := eq_true q463
                  go_wp2_with (first | ((with_reducible refine gate_dst (N := 19) rfl ?_); (try (refine gate_guard (by rfl) ?_; dsimp only)); refine box_event ?hg (N := 19) ?hd (cs := #[.int .u64 0, .int .u32 0, .int .u32 0]) (t := 28) ?hr ?_; (case hd => rfl); (case hg => rfl); (case hr => first | (go_simp; done) | (go_simp; rfl)); intro gb464 hg w157 hbox hb; have BK464 := Aside0.mk (hbox); have GW464 := bels HB hg; have GE464 := bels HB hg; have NB444_464 := blkl BK444 hg; have NB464_444 := blkg BK444 hg; have NB449_464 := blkl BK449 hg; have NB464_449 := blkg BK449 hg; have NB456_464 := blkl BK456 hg; have NB464_456 := blkg BK456 hg; have NB460_464 := blkl BK460 hg; have NB464_460 := blkg BK460 hg; replace BK444 := blkb BK444 hb; replace BK449 := blkb BK449 hb; replace BK456 := blkb BK456 hb; replace BK460 := blkb BK460 hb; replace HB := belb HB hb; clear hb hbox hg; have hnb158 := NB464_444.out; have hnc158 := NB444_464.out; have hnb159 := NB464_449.out; have hnc159 := NB449_464.out; have hnb160 := NB464_456.out; have hnc160 := NB456_464.out; have hnb161 := NB464_460.out; have hnc161 := NB460_464.out; have hcz162_0 : w157.cell? ⟨gb464, 0, none⟩ = some (.int .u64 0) := (blk_cell BK464.out 0).trans rfl; have hcz162_1 : w157.cell? ⟨gb464, 1, none⟩ = some (.int .u32 0) := (blk_cell BK464.out 1).trans rfl; have hcz162_2 : w157.cell? ⟨gb464, 2, none⟩ = some (.int .u32 0) := (blk_cell BK464.out 2).trans rfl; have hfz162_0 := blk_frozen BK464.out 0; have hfz162_1 := blk_frozen BK464.out 1; have hfz162_2 := blk_frozen BK464.out 2; have hnb163 := NB444_449.out; have hnc163 := NB449_444.out; have hnb164 := NB444_456.out; have hnc164 := NB456_444.out; have hnb165 := NB444_460.out; have hnc165 := NB460_444.out; have hcz166_0 : w157.cell? ⟨gb444, 0, none⟩ = some (.int .u64 t438) := (blk_cell BK444.out 0).trans rfl; have hcz166_1 : w157.cell? ⟨gb444, 1, none⟩ = some (.int .i64 t439) := (blk_cell BK444.out 1).trans rfl; have hcz166_2 : w157.cell? ⟨gb444, 2, none⟩ = some (.int .u64 t440) := (blk_cell BK444.out 2).trans rfl; have hcz166_3 : w157.cell? ⟨gb444, 3, none⟩ = some (.int .u64 t441) := (blk_cell BK444.out 3).trans rfl; have hcz166_4 : w157.cell? ⟨gb444, 4, none⟩ = some (.int .i64 t442) := (blk_cell BK444.out 4).trans rfl; have hfz166_0 := blk_frozen BK444.out 0; have hfz166_1 := blk_frozen BK444.out 1; have hfz166_2 := blk_frozen BK444.out 2; have hfz166_3 := blk_frozen BK444.out 3; have hfz166_4 := blk_frozen BK444.out 4) | ((with_reducible refine gate_callee (f := 21) rfl ?_); refine goesL_ (some 102) rfl rfl Tryz.func21 (by kernel_rfl) rfl #[.agg #[.int .u64 t438, .int .i64 t439, .int .u64 t440, .int .u64 t441, .int .i64 t442], .agg #[.int .u64 ((rd_T28 l1 x95_3).f0), .int .u32 ((rd_T28 l1 x95_3).f1), .int .u32 ((rd_T28 l1 x95_3).f2)]] rfl argt ?_; (with_reducible refine (lag_Read.calls k3 t438 t439 t440 t441 t442 ((rd_T28 l1 x95_3).f0) ((rd_T28 l1 x95_3).f1) ((rd_T28 l1 x95_3).f2) t465 t466 t467 _ A58.out).mono ?_); rintro e w167 ⟨rfl, hb⟩; refine ⟨_, rfl, ?_⟩; replace BK444 := Aside0.mk (blk_below (g := gb444) (o := .cells #[.int .u64 t438, .int .i64 t439, .int .u64 t440, .int .u64 t441, .int .i64 t442] 33 (0, 0)) (by (with_reducible repeat (first | refine blk_drewN ?_ _ | refine blk_drew ?_ | refine blk_alloc ?_ _)); refine blk_far ?_ NB444_464.out _; (with_reducible repeat (first | refine blk_drewN ?_ _ | refine blk_drew ?_ | refine blk_alloc ?_ _)); refine blk_far ?_ NB444_464.out _; (with_reducible repeat (first | refine blk_drewN ?_ _ | refine blk_drew ?_ | refine blk_alloc ?_ _)); refine blk_far ?_ NB444_464.out _; exact blkt BK444) hb); replace BK449 := Aside0.mk (blk_below (g := gb449) (o := .cells #[.int .u64 t445, .int .u32 t446, .int .u32 t447] 28 (0, 0)) (by (with_reducible repeat (first | refine blk_drewN ?_ _ | refine blk_drew ?_ | refine blk_alloc ?_ _)); refine blk_far ?_ NB449_464.out _; (with_reducible repeat (first | refine blk_drewN ?_ _ | refine blk_drew ?_ | refine blk_alloc ?_ _)); refine blk_far ?_ NB449_464.out _; (with_reducible repeat (first | refine blk_drewN ?_ _ | refine blk_drew ?_ | refine blk_alloc ?_ _)); refine blk_far ?_ NB449_464.out _; exact blkt BK449) hb); replace BK456 := Aside0.mk (blk_below (g := gb456) (o := .cells #[.int .u64 t450, .int .i64 t451, .int .u64 t452, .int .u64 t453, .int .i64 t454] 33 (0, 0)) (by (with_reducible repeat (first | refine blk_drewN ?_ _ | refine blk_drew ?_ | refine blk_alloc ?_ _)); refine blk_far ?_ NB456_464.out _; (with_reducible repeat (first | refine blk_drewN ?_ _ | refine blk_drew ?_ | refine blk_alloc ?_ _)); refine blk_far ?_ NB456_464.out _; (with_reducible repeat (first | refine blk_drewN ?_ _ | refine blk_drew ?_ | refine blk_alloc ?_ _)); refine blk_far ?_ NB456_464.out _; exact blkt BK456) hb); replace BK460 := Aside0.mk (blk_below (g := gb460) (o := .cells #[.int .i64 t457, .int .u64 t458] 31 (0, 0)) (by (with_reducible repeat (first | refine blk_drewN ?_ _ | refine blk_drew ?_ | refine blk_alloc ?_ _)); refine blk_far ?_ NB460_464.out _; (with_reducible repeat (first | refine blk_drewN ?_ _ | refine blk_drew ?_ | refine blk_alloc ?_ _)); refine blk_far ?_ NB460_464.out _; (with_reducible repeat (first | refine blk_drewN ?_ _ | refine blk_drew ?_ | refine blk_alloc ?_ _)); refine blk_far ?_ NB460_464.out _; exact blkt BK460) hb); replace BK464 := Aside0.mk (blk_below (g := gb464) (o := .cells #[.int .u64 ((rd_T28 l1 x95_3).f0), .int .u32 ((rd_T28 l1 x95_3).f1), .int .u32 ((rd_T28 l1 x95_3).f2)] 28 (0, 0)) (by (with_reducible repeat (first | refine blk_drewN ?_ _ | refine blk_drew ?_ | refine blk_alloc ?_ _)); refine blk_put (cs := #[.int .u64 ((rd_T28 l1 x95_3).f0), .int .u32 ((rd_T28 l1 x95_3).f1), .int .u32 0]) ?_ 2 _ rfl; (with_reducible repeat (first | refine blk_drewN ?_ _ | refine blk_drew ?_ | refine blk_alloc ?_ _)); refine blk_put (cs := #[.int .u64 ((rd_T28 l1 x95_3).f0), .int .u32 0, .int .u32 0]) ?_ 1 _ rfl; (with_reducible repeat (first | refine blk_drewN ?_ _ | refine blk_drew ?_ | refine blk_alloc ?_ _)); refine blk_put (cs := #[.int .u64 0, .int .u32 0, .int .u32 0]) ?_ 0 _ rfl; exact blkt BK464) hb); replace HB := belb HB hb; (try clear hb); (try clear hb2); (try clear hk); (try clear hi)) | ((with_reducible refine gate_dst (N := 20) rfl ?_); (try (refine gate_guard (by rfl) ?_; dsimp only)); refine box_event ?hg (N := 20) ?hd (cs := #[.int .i64 0, .int .u64 0]) (t := 31) ?hr ?_; (case hd => rfl); (case hg => rfl); (case hr => first | (go_simp; done) | (go_simp; rfl)); intro gb468 hg w168 hbox hb; have BK468 := Aside0.mk (hbox); have GW468 := bels HB hg; have GE468 := bels HB hg; have NB444_468 := blkl BK444 hg; have NB468_444 := blkg BK444 hg; have NB449_468 := blkl BK449 hg; have NB468_449 := blkg BK449 hg; have NB456_468 := blkl BK456 hg; have NB468_456 := blkg BK456 hg; have NB460_468 := blkl BK460 hg; have NB468_460 := blkg BK460 hg; have NB464_468 := blkl BK464 hg; have NB468_464 := blkg BK464 hg; replace BK444 := blkb BK444 hb; replace BK449 := blkb BK449 hb; replace BK456 := blkb BK456 hb; replace BK460 := blkb BK460 hb; replace BK464 := blkb BK464 hb; replace HB := belb HB hb; clear hb hbox hg; have hnb169 := NB468_444.out; have hnc169 := NB444_468.out; have hnb170 := NB468_449.out; have hnc170 := NB449_468.out; have hnb171 := NB468_456.out; have hnc171 := NB456_468.out; have hnb172 := NB468_460.out; have hnc172 := NB460_468.out; have hnb173 := NB468_464.out; have hnc173 := NB464_468.out; have hcz174_0 : w168.cell? ⟨gb468, 0, none⟩ = some (.int .i64 0) := (blk_cell BK468.out 0).trans rfl; have hcz174_1 : w168.cell? ⟨gb468, 1, none⟩ = some (.int .u64 0) := (blk_cell BK468.out 1).trans rfl; have hfz174_0 := blk_frozen BK468.out 0; have hfz174_1 := blk_frozen BK468.out 1; have hnb175 := NB456_449.out; have hnc175 := NB449_456.out; have hnb176 := NB456_460.out; have hnc176 := NB460_456.out; have hcz177_0 : w168.cell? ⟨gb456, 0, none⟩ = some (.int .u64 t450) := (blk_cell BK456.out 0).trans rfl; have hcz177_1 : w168.cell? ⟨gb456, 1, none⟩ = some (.int .i64 t451) := (blk_cell BK456.out 1).trans rfl; have hcz177_2 : w168.cell? ⟨gb456, 2, none⟩ = some (.int .u64 t452) := (blk_cell BK456.out 2).trans rfl; have hcz177_3 : w168.cell? ⟨gb456, 3, none⟩ = some (.int .u64 t453) := (blk_cell BK456.out 3).trans rfl; have hcz177_4 : w168.cell? ⟨gb456, 4, none⟩ = some (.int .i64 t454) := (blk_cell BK456.out 4).trans rfl; have hfz177_0 := blk_frozen BK456.out 0; have hfz177_1 := blk_frozen BK456.out 1; have hfz177_2 := blk_frozen BK456.out 2; have hfz177_3 := blk_frozen BK456.out 3; have hfz177_4 := blk_frozen BK456.out 4; have hcz178_0 : w168.cell? ⟨gb464, 0, none⟩ = some (.int .u64 ((rd_T28 l1 x95_3).f0)) := (blk_cell BK464.out 0).trans rfl; have hcz178_1 : w168.cell? ⟨gb464, 1, none⟩ = some (.int .u32 ((rd_T28 l1 x95_3).f1)) := (blk_cell BK464.out 1).trans rfl; have hcz178_2 : w168.cell? ⟨gb464, 2, none⟩ = some (.int .u32 ((rd_T28 l1 x95_3).f2)) := (blk_cell BK464.out 2).trans rfl; have hfz178_0 := blk_frozen BK464.out 0; have hfz178_1 := blk_frozen BK464.out 1; have hfz178_2 := blk_frozen BK464.out 2) | ((with_reducible refine gate_callee (f := 21) rfl ?_); refine goesL_ (some 108) rfl rfl Tryz.func21 (by kernel_rfl) rfl #[.agg #[.int .u64 t450, .int .i64 t451, .int .u64 t452, .int .u64 t453, .int .i64 t454], .agg #[.int .u64 ((rd_T28 l1 x95_3).f0), .int .u32 ((rd_T28 l1 x95_3).f1), .int .u32 ((rd_T28 l1 x95_3).f2)]] rfl argt ?_; (with_reducible refine (lag_Read.calls k3 t450 t451 t452 t453 t454 ((rd_T28 l1 x95_3).f0) ((rd_T28 l1 x95_3).f1) ((rd_T28 l1 x95_3).f2) t469 t470 t471 _ A59.out).mono ?_); rintro e w179 ⟨rfl, hb⟩; refine ⟨_, rfl, ?_⟩; replace BK444 := Aside0.mk (blk_below (g := gb444) (o := .cells #[.int .u64 t438, .int .i64 t439, .int .u64 t440, .int .u64 t441, .int .i64 t442] 33 (0, 0)) (by (with_reducible repeat (first | refine blk_drewN ?_ _ | refine blk_drew ?_ | refine blk_alloc ?_ _)); refine blk_far ?_ NB444_468.out _; (with_reducible repeat (first | refine blk_drewN ?_ _ | refine blk_drew ?_ | refine blk_alloc ?_ _)); refine blk_far ?_ NB444_468.out _; exact blkt BK444) hb); replace BK449 := Aside0.mk (blk_below (g := gb449) (o := .cells #[.int .u64 t445, .int .u32 t446, .int .u32 t447] 28 (0, 0)) (by (with_reducible repeat (first | refine blk_drewN ?_ _ | refine blk_drew ?_ | refine blk_alloc ?_ _)); refine blk_far ?_ NB449_468.out _; (with_reducible repeat (first | refine blk_drewN ?_ _ | refine blk_drew ?_ | refine blk_alloc ?_ _)); refine blk_far ?_ NB449_468.out _; exact blkt BK449) hb); replace BK456 := Aside0.mk (blk_below (g := gb456) (o := .cells #[.int .u64 t450, .int .i64 t451, .int .u64 t452, .int .u64 t453, .int .i64 t454] 33 (0, 0)) (by (with_reducible repeat (first | refine blk_drewN ?_ _ | refine blk_drew ?_ | refine blk_alloc ?_ _)); refine blk_far ?_ NB456_468.out _; (with_reducible repeat (first | refine blk_drewN ?_ _ | refine blk_drew ?_ | refine blk_alloc ?_ _)); refine blk_far ?_ NB456_468.out _; exact blkt BK456) hb); replace BK460 := Aside0.mk (blk_below (g := gb460) (o := .cells #[.int .i64 t457, .int .u64 t458] 31 (0, 0)) (by (with_reducible repeat (first | refine blk_drewN ?_ _ | refine blk_drew ?_ | refine blk_alloc ?_ _)); refine blk_far ?_ NB460_468.out _; (with_reducible repeat (first | refine blk_drewN ?_ _ | refine blk_drew ?_ | refine blk_alloc ?_ _)); refine blk_far ?_ NB460_468.out _; exact blkt BK460) hb); replace BK464 := Aside0.mk (blk_below (g := gb464) (o := .cells #[.int .u64 ((rd_T28 l1 x95_3).f0), .int .u32 ((rd_T28 l1 x95_3).f1), .int .u32 ((rd_T28 l1 x95_3).f2)] 28 (0, 0)) (by (with_reducible repeat (first | refine blk_drewN ?_ _ | refine blk_drew ?_ | refine blk_alloc ?_ _)); refine blk_far ?_ NB464_468.out _; (with_reducible repeat (first | refine blk_drewN ?_ _ | refine blk_drew ?_ | refine blk_alloc ?_ _)); refine blk_far ?_ NB464_468.out _; exact blkt BK464) hb); replace BK468 := Aside0.mk (blk_below (g := gb468) (o := .cells #[.int .i64 t465, .int .u64 t466] 31 (0, 0)) (by (with_reducible repeat (first | refine blk_drewN ?_ _ | refine blk_drew ?_ | refine blk_alloc ?_ _)); refine blk_put (cs := #[.int .i64 t465, .int .u64 0]) ?_ 1 _ rfl; (with_reducible repeat (first | refine blk_drewN ?_ _ | refine blk_drew ?_ | refine blk_alloc ?_ _)); refine blk_put (cs := #[.int .i64 0, .int .u64 0]) ?_ 0 _ rfl; exact blkt BK468) hb); replace HB := belb HB hb; (try clear hb); (try clear hb2); (try clear hk); (try clear hi)) | ((with_reducible refine gate_dst (N := 22) rfl ?_); (try (refine gate_guard (by rfl) ?_; dsimp only)); refine box_event ?hg (N := 22) ?hd (cs := #[.int .i64 0, .int .u64 0]) (t := 31) ?hr ?_; (case hd => rfl); (case hg => rfl); (case hr => first | (go_simp; done) | (go_simp; rfl)); intro gb472 hg w180 hbox hb; have BK472 := Aside0.mk (hbox); have GW472 := bels HB hg; have GE472 := bels HB hg; have NB444_472 := blkl BK444 hg; have NB472_444 := blkg BK444 hg; have NB449_472 := blkl BK449 hg; have NB472_449 := blkg BK449 hg; have NB456_472 := blkl BK456 hg; have NB472_456 := blkg BK456 hg; have NB460_472 := blkl BK460 hg; have NB472_460 := blkg BK460 hg; have NB464_472 := blkl BK464 hg; have NB472_464 := blkg BK464 hg; have NB468_472 := blkl BK468 hg; have NB472_468 := blkg BK468 hg; replace BK444 := blkb BK444 hb; replace BK449 := blkb BK449 hb; replace BK456 := blkb BK456 hb; replace BK460 := blkb BK460 hb; replace BK464 := blkb BK464 hb; replace BK468 := blkb BK468 hb; replace HB := belb HB hb; clear hb hbox hg; have hnb181 := NB472_444.out; have hnc181 := NB444_472.out; have hnb182 := NB472_449.out; have hnc182 := NB449_472.out; have hnb183 := NB472_456.out; have hnc183 := NB456_472.out; have hnb184 := NB472_460.out; have hnc184 := NB460_472.out; have hnb185 := NB472_464.out; have hnc185 := NB464_472.out; have hnb186 := NB472_468.out; have hnc186 := NB468_472.out; have hcz187_0 : w180.cell? ⟨gb472, 0, none⟩ = some (.int .i64 0) := (blk_cell BK472.out 0).trans rfl; have hcz187_1 : w180.cell? ⟨gb472, 1, none⟩ = some (.int .u64 0) := (blk_cell BK472.out 1).trans rfl; have hfz187_0 := blk_frozen BK472.out 0; have hfz187_1 := blk_frozen BK472.out 1; have hcz188_0 : w180.cell? ⟨gb468, 0, none⟩ = some (.int .i64 t465) := (blk_cell BK468.out 0).trans rfl; have hcz188_1 : w180.cell? ⟨gb468, 1, none⟩ = some (.int .u64 t466) := (blk_cell BK468.out 1).trans rfl; have hfz188_0 := blk_frozen BK468.out 0; have hfz188_1 := blk_frozen BK468.out 1) | ((with_reducible refine gate_callee (f := 26) rfl ?_); refine goesL_ (some 114) rfl rfl Tryz.func26 (by kernel_rfl) rfl #[.agg #[.int .i64 t469, .int .u64 t470], .agg #[.int .i64 t465, .int .u64 t466]] rfl argt ?_; (with_reducible refine (wide_Int_Sub.calls t469 t470 t465 t466 t473 t474 t475 _ A60.out).mono ?_); rintro e w189 ⟨rfl, hb⟩; refine ⟨_, rfl, ?_⟩; replace BK444 := Aside0.mk (blk_below (g := gb444) (o := .cells #[.int .u64 t438, .int .i64 t439, .int .u64 t440, .int .u64 t441, .int .i64 t442] 33 (0, 0)) (by (with_reducible repeat (first | refine blk_drewN ?_ _ | refine blk_drew ?_ | refine blk_alloc ?_ _)); refine blk_far ?_ NB444_472.out _; (with_reducible repeat (first | refine blk_drewN ?_ _ | refine blk_drew ?_ | refine blk_alloc ?_ _)); refine blk_far ?_ NB444_472.out _; exact blkt BK444) hb); replace BK449 := Aside0.mk (blk_below (g := gb449) (o := .cells #[.int .u64 t445, .int .u32 t446, .int .u32 t447] 28 (0, 0)) (by (with_reducible repeat (first | refine blk_drewN ?_ _ | refine blk_drew ?_ | refine blk_alloc ?_ _)); refine blk_far ?_ NB449_472.out _; (with_reducible repeat (first | refine blk_drewN ?_ _ | refine blk_drew ?_ | refine blk_alloc ?_ _)); refine blk_far ?_ NB449_472.out _; exact blkt BK449) hb); replace BK456 := Aside0.mk (blk_below (g := gb456) (o := .cells #[.int .u64 t450, .int .i64 t451, .int .u64 t452, .int .u64 t453, .int .i64 t454] 33 (0, 0)) (by (with_reducible repeat (first | refine blk_drewN ?_ _ | refine blk_drew ?_ | refine blk_alloc ?_ _)); refine blk_far ?_ NB456_472.out _; (with_reducible repeat (first | refine blk_drewN ?_ _ | refine blk_drew ?_ | refine blk_alloc ?_ _)); refine blk_far ?_ NB456_472.out _; exact blkt BK456) hb); replace BK460 := Aside0.mk (blk_below (g := gb460) (o := .cells #[.int .i64 t457, .int .u64 t458] 31 (0, 0)) (by (with_reducible repeat (first | refine blk_drewN ?_ _ | refine blk_drew ?_ | refine blk_alloc ?_ _)); refine blk_far ?_ NB460_472.out _; (with_reducible repeat (first | refine blk_drewN ?_ _ | refine blk_drew ?_ | refine blk_alloc ?_ _)); refine blk_far ?_ NB460_472.out _; exact blkt BK460) hb); replace BK464 := Aside0.mk (blk_below (g := gb464) (o := .cells #[.int .u64 ((rd_T28 l1 x95_3).f0), .int .u32 ((rd_T28 l1 x95_3).f1), .int .u32 ((rd_T28 l1 x95_3).f2)] 28 (0, 0)) (by (with_reducible repeat (first | refine blk_drewN ?_ _ | refine blk_drew ?_ | refine blk_alloc ?_ _)); refine blk_far ?_ NB464_472.out _; (with_reducible repeat (first | refine blk_drewN ?_ _ | refine blk_drew ?_ | refine blk_alloc ?_ _)); refine blk_far ?_ NB464_472.out _; exact blkt BK464) hb); replace BK468 := Aside0.mk (blk_below (g := gb468) (o := .cells #[.int .i64 t465, .int .u64 t466] 31 (0, 0)) (by (with_reducible repeat (first | refine blk_drewN ?_ _ | refine blk_drew ?_ | refine blk_alloc ?_ _)); refine blk_far ?_ NB468_472.out _; (with_reducible repeat (first | refine blk_drewN ?_ _ | refine blk_drew ?_ | refine blk_alloc ?_ _)); refine blk_far ?_ NB468_472.out _; exact blkt BK468) hb); replace BK472 := Aside0.mk (blk_below (g := gb472) (o := .cells #[.int .i64 t469, .int .u64 t470] 31 (0, 0)) (by (with_reducible repeat (first | refine blk_drewN ?_ _ | refine blk_drew ?_ | refine blk_alloc ?_ _)); refine blk_put (cs := #[.int .i64 t469, .int .u64 0]) ?_ 1 _ rfl; (with_reducible repeat (first | refine blk_drewN ?_ _ | refine blk_drew ?_ | refine blk_alloc ?_ _)); refine blk_put (cs := #[.int .i64 0, .int .u64 0]) ?_ 0 _ rfl; exact blkt BK472) hb); replace HB := belb HB hb; (try clear hb); (try clear hb2); (try clear hk); (try clear hi)) | ((with_reducible refine gate_dst (N := 24) rfl ?_); (try (refine gate_guard (by rfl) ?_; dsimp only)); refine box_event ?hg (N := 24) ?hd (cs := #[.int .i64 0, .int .u64 0]) (t := 31) ?hr ?_; (case hd => rfl); (case hg => rfl); (case hr => first | (go_simp; done) | (go_simp; rfl)); intro gb476 hg w190 hbox hb; have BK476 := Aside0.mk (hbox); have GW476 := bels HB hg; have GE476 := bels HB hg; have NB444_476 := blkl BK444 hg; have NB476_444 := blkg BK444 hg; have NB449_476 := blkl BK449 hg; have NB476_449 := blkg BK449 hg; have NB456_476 := blkl BK456 hg; have NB476_456 := blkg BK456 hg; have NB460_476 := blkl BK460 hg; have NB476_460 := blkg BK460 hg; have NB464_476 := blkl BK464 hg; have NB476_464 := blkg BK464 hg; have NB468_476 := blkl BK468 hg; have NB476_468 := blkg BK468 hg; have NB472_476 := blkl BK472 hg; have NB476_472 := blkg BK472 hg; replace BK444 := blkb BK444 hb; replace BK449 := blkb BK449 hb; replace BK456 := blkb BK456 hb; replace BK460 := blkb BK460 hb; replace BK464 := blkb BK464 hb; replace BK468 := blkb BK468 hb; replace BK472 := blkb BK472 hb; replace HB := belb HB hb; clear hb hbox hg; have hnb191 := NB476_444.out; have hnc191 := NB444_476.out; have hnb192 := NB476_449.out; have hnc192 := NB449_476.out; have hnb193 := NB476_456.out; have hnc193 := NB456_476.out; have hnb194 := NB476_460.out; have hnc194 := NB460_476.out; have hnb195 := NB476_464.out; have hnc195 := NB464_476.out; have hnb196 := NB476_468.out; have hnc196 := NB468_476.out; have hnb197 := NB476_472.out; have hnc197 := NB472_476.out; have hcz198_0 : w190.cell? ⟨gb476, 0, none⟩ = some (.int .i64 0) := (blk_cell BK476.out 0).trans rfl; have hcz198_1 : w190.cell? ⟨gb476, 1, none⟩ = some (.int .u64 0) := (blk_cell BK476.out 1).trans rfl; have hfz198_0 := blk_frozen BK476.out 0; have hfz198_1 := blk_frozen BK476.out 1) | ((with_reducible refine gate_callee (f := 27) rfl ?_); refine goesL_ (some 119) rfl rfl Tryz.func27 (by kernel_rfl) rfl #[.agg #[.int .i64 t473, .int .u64 t474]] rfl argt ?_; (with_reducible refine (wide_Int_Small.calls t473 t474 t477 true _ A61.out).mono ?_); rintro e w199 ⟨rfl, hb⟩; refine ⟨_, rfl, ?_⟩; replace BK444 := Aside0.mk (blk_below (g := gb444) (o := .cells #[.int .u64 t438, .int .i64 t439, .int .u64 t440, .int .u64 t441, .int .i64 t442] 33 (0, 0)) (by (with_reducible repeat (first | refine blk_drewN ?_ _ | refine blk_drew ?_ | refine blk_alloc ?_ _)); refine blk_far ?_ NB444_476.out _; (with_reducible repeat (first | refine blk_drewN ?_ _ | refine blk_drew ?_ | refine blk_alloc ?_ _)); refine blk_far ?_ NB444_476.out _; exact blkt BK444) hb); replace BK449 := Aside0.mk (blk_below (g := gb449) (o := .cells #[.int .u64 t445, .int .u32 t446, .int .u32 t447] 28 (0, 0)) (by (with_reducible repeat (first | refine blk_drewN ?_ _ | refine blk_drew ?_ | refine blk_alloc ?_ _)); refine blk_far ?_ NB449_476.out _; (with_reducible repeat (first | refine blk_drewN ?_ _ | refine blk_drew ?_ | refine blk_alloc ?_ _)); refine blk_far ?_ NB449_476.out _; exact blkt BK449) hb); replace BK456 := Aside0.mk (blk_below (g := gb456) (o := .cells #[.int .u64 t450, .int .i64 t451, .int .u64 t452, .int .u64 t453, .int .i64 t454] 33 (0, 0)) (by (with_reducible repeat (first | refine blk_drewN ?_ _ | refine blk_drew ?_ | refine blk_alloc ?_ _)); refine blk_far ?_ NB456_476.out _; (with_reducible repeat (first | refine blk_drewN ?_ _ | refine blk_drew ?_ | refine blk_alloc ?_ _)); refine blk_far ?_ NB456_476.out _; exact blkt BK456) hb); replace BK460 := Aside0.mk (blk_below (g := gb460) (o := .cells #[.int .i64 t457, .int .u64 t458] 31 (0, 0)) (by (with_reducible repeat (first | refine blk_drewN ?_ _ | refine blk_drew ?_ | refine blk_alloc ?_ _)); refine blk_far ?_ NB460_476.out _; (with_reducible repeat (first | refine blk_drewN ?_ _ | refine blk_drew ?_ | refine blk_alloc ?_ _)); refine blk_far ?_ NB460_476.out _; exact blkt BK460) hb); replace BK464 := Aside0.mk (blk_below (g := gb464) (o := .cells #[.int .u64 ((rd_T28 l1 x95_3).f0), .int .u32 ((rd_T28 l1 x95_3).f1), .int .u32 ((rd_T28 l1 x95_3).f2)] 28 (0, 0)) (by (with_reducible repeat (first | refine blk_drewN ?_ _ | refine blk_drew ?_ | refine blk_alloc ?_ _)); refine blk_far ?_ NB464_476.out _; (with_reducible repeat (first | refine blk_drewN ?_ _ | refine blk_drew ?_ | refine blk_alloc ?_ _)); refine blk_far ?_ NB464_476.out _; exact blkt BK464) hb); replace BK468 := Aside0.mk (blk_below (g := gb468) (o := .cells #[.int .i64 t465, .int .u64 t466] 31 (0, 0)) (by (with_reducible repeat (first | refine blk_drewN ?_ _ | refine blk_drew ?_ | refine blk_alloc ?_ _)); refine blk_far ?_ NB468_476.out _; (with_reducible repeat (first | refine blk_drewN ?_ _ | refine blk_drew ?_ | refine blk_alloc ?_ _)); refine blk_far ?_ NB468_476.out _; exact blkt BK468) hb); replace BK472 := Aside0.mk (blk_below (g := gb472) (o := .cells #[.int .i64 t469, .int .u64 t470] 31 (0, 0)) (by (with_reducible repeat (first | refine blk_drewN ?_ _ | refine blk_drew ?_ | refine blk_alloc ?_ _)); refine blk_far ?_ NB472_476.out _; (with_reducible repeat (first | refine blk_drewN ?_ _ | refine blk_drew ?_ | refine blk_alloc ?_ _)); refine blk_far ?_ NB472_476.out _; exact blkt BK472) hb); replace BK476 := Aside0.mk (blk_below (g := gb476) (o := .cells #[.int .i64 t473, .int .u64 t474] 31 (0, 0)) (by (with_reducible repeat (first | refine blk_drewN ?_ _ | refine blk_drew ?_ | refine blk_alloc ?_ _)); refine blk_put (cs := #[.int .i64 t473, .int .u64 0]) ?_ 1 _ rfl; (with_reducible repeat (first | refine blk_drewN ?_ _ | refine blk_drew ?_ | refine blk_alloc ?_ _)); refine blk_put (cs := #[.int .i64 0, .int .u64 0]) ?_ 0 _ rfl; exact blkt BK476) hb); replace HB := belb HB hb; (try clear hb); (try clear hb2); (try clear hk); (try clear hi)))
                  go_roundg k3
                  case measure => have := HJ7.out; have := HJ20.out; have := HK3.out; omega
                  case rel => exact ⟨(wrap64 (x95_3 + 1)), (by first | rfl | (simp; done) | (simp [*]; done)), H', ⟨by have := HJ7.out; have := HJ20.out; have := HK3.out; omega⟩, ⟨blkt BK444⟩, ⟨blkt BK449⟩, ⟨blkt BK456⟩, ⟨blkt BK460⟩, ⟨belt HB⟩⟩
                ·rw [if_neg c155] at H
                 have c155b0 : decide (a3 < 0) = false := decide_eq_false c155
                 clear c155
                 have H' := Aside0.mk H
                 clear H
                 have p463 : 0 ≤ (x95_3 : Int) := of_decide_eq_true (by first | (with_reducible assumption) | assumption)
                 have q463 : x95_3 < (l1.length : Int) := of_decide_eq_true (by first | (with_reducible assumption) | assumption)
                 obtain ⟨ad463, e463, hx463_0, hx463_1, hx463_2⟩ := at_T28 HR1.out x95_3 p463 q463
                 cases e463
                 replace hx463_0 := (HB.out.cell (World.block_lt_of_cell? w _ hx463_0)).trans hx463_0
                 replace hx463_1 := (HB.out.cell (World.block_lt_of_cell? w _ hx463_1)).trans hx463_1
                 replace hx463_2 := (HB.out.cell (World.block_lt_of_cell? w _ hx463_2)).trans hx463_2
                 replace p463 := eq_true p463
                 replace q463 := eq_true q463
                 go_wp2_with (first | ((with_reducible refine gate_dst (N := 19) rfl ?_); (try (refine gate_guard (by rfl) ?_; dsimp only)); refine box_event ?hg (N := 19) ?hd (cs := #[.int .u64 0, .int .u32 0, .int .u32 0]) (t := 28) ?hr ?_; (case hd => rfl); (case hg => rfl); (case hr => first | (go_simp; done) | (go_simp; rfl)); intro gb464 hg w200 hbox hb; have BK464 := Aside0.mk (hbox); have GW464 := bels HB hg; have GE464 := bels HB hg; have NB444_464 := blkl BK444 hg; have NB464_444 := blkg BK444 hg; have NB449_464 := blkl BK449 hg; have NB464_449 := blkg BK449 hg; have NB456_464 := blkl BK456 hg; have NB464_456 := blkg BK456 hg; have NB460_464 := blkl BK460 hg; have NB464_460 := blkg BK460 hg; replace BK444 := blkb BK444 hb; replace BK449 := blkb BK449 hb; replace BK456 := blkb BK456 hb; replace BK460 := blkb BK460 hb; replace HB := belb HB hb; clear hb hbox hg; have hnb201 := NB464_444.out; have hnc201 := NB444_464.out; have hnb202 := NB464_449.out; have hnc202 := NB449_464.out; have hnb203 := NB464_456.out; have hnc203 := NB456_464.out; have hnb204 := NB464_460.out; have hnc204 := NB460_464.out; have hcz205_0 : w200.cell? ⟨gb464, 0, none⟩ = some (.int .u64 0) := (blk_cell BK464.out 0).trans rfl; have hcz205_1 : w200.cell? ⟨gb464, 1, none⟩ = some (.int .u32 0) := (blk_cell BK464.out 1).trans rfl; have hcz205_2 : w200.cell? ⟨gb464, 2, none⟩ = some (.int .u32 0) := (blk_cell BK464.out 2).trans rfl; have hfz205_0 := blk_frozen BK464.out 0; have hfz205_1 := blk_frozen BK464.out 1; have hfz205_2 := blk_frozen BK464.out 2; have hnb206 := NB444_449.out; have hnc206 := NB449_444.out; have hnb207 := NB444_456.out; have hnc207 := NB456_444.out; have hnb208 := NB444_460.out; have hnc208 := NB460_444.out; have hcz209_0 : w200.cell? ⟨gb444, 0, none⟩ = some (.int .u64 t438) := (blk_cell BK444.out 0).trans rfl; have hcz209_1 : w200.cell? ⟨gb444, 1, none⟩ = some (.int .i64 t439) := (blk_cell BK444.out 1).trans rfl; have hcz209_2 : w200.cell? ⟨gb444, 2, none⟩ = some (.int .u64 t440) := (blk_cell BK444.out 2).trans rfl; have hcz209_3 : w200.cell? ⟨gb444, 3, none⟩ = some (.int .u64 t441) := (blk_cell BK444.out 3).trans rfl; have hcz209_4 : w200.cell? ⟨gb444, 4, none⟩ = some (.int .i64 t442) := (blk_cell BK444.out 4).trans rfl; have hfz209_0 := blk_frozen BK444.out 0; have hfz209_1 := blk_frozen BK444.out 1; have hfz209_2 := blk_frozen BK444.out 2; have hfz209_3 := blk_frozen BK444.out 3; have hfz209_4 := blk_frozen BK444.out 4) | ((with_reducible refine gate_callee (f := 21) rfl ?_); refine goesL_ (some 102) rfl rfl Tryz.func21 (by kernel_rfl) rfl #[.agg #[.int .u64 t438, .int .i64 t439, .int .u64 t440, .int .u64 t441, .int .i64 t442], .agg #[.int .u64 ((rd_T28 l1 x95_3).f0), .int .u32 ((rd_T28 l1 x95_3).f1), .int .u32 ((rd_T28 l1 x95_3).f2)]] rfl argt ?_; (with_reducible refine (lag_Read.calls k3 t438 t439 t440 t441 t442 ((rd_T28 l1 x95_3).f0) ((rd_T28 l1 x95_3).f1) ((rd_T28 l1 x95_3).f2) t465 t466 t467 _ A58.out).mono ?_); rintro e w210 ⟨rfl, hb⟩; refine ⟨_, rfl, ?_⟩; replace BK444 := Aside0.mk (blk_below (g := gb444) (o := .cells #[.int .u64 t438, .int .i64 t439, .int .u64 t440, .int .u64 t441, .int .i64 t442] 33 (0, 0)) (by (with_reducible repeat (first | refine blk_drewN ?_ _ | refine blk_drew ?_ | refine blk_alloc ?_ _)); refine blk_far ?_ NB444_464.out _; (with_reducible repeat (first | refine blk_drewN ?_ _ | refine blk_drew ?_ | refine blk_alloc ?_ _)); refine blk_far ?_ NB444_464.out _; (with_reducible repeat (first | refine blk_drewN ?_ _ | refine blk_drew ?_ | refine blk_alloc ?_ _)); refine blk_far ?_ NB444_464.out _; exact blkt BK444) hb); replace BK449 := Aside0.mk (blk_below (g := gb449) (o := .cells #[.int .u64 t445, .int .u32 t446, .int .u32 t447] 28 (0, 0)) (by (with_reducible repeat (first | refine blk_drewN ?_ _ | refine blk_drew ?_ | refine blk_alloc ?_ _)); refine blk_far ?_ NB449_464.out _; (with_reducible repeat (first | refine blk_drewN ?_ _ | refine blk_drew ?_ | refine blk_alloc ?_ _)); refine blk_far ?_ NB449_464.out _; (with_reducible repeat (first | refine blk_drewN ?_ _ | refine blk_drew ?_ | refine blk_alloc ?_ _)); refine blk_far ?_ NB449_464.out _; exact blkt BK449) hb); replace BK456 := Aside0.mk (blk_below (g := gb456) (o := .cells #[.int .u64 t450, .int .i64 t451, .int .u64 t452, .int .u64 t453, .int .i64 t454] 33 (0, 0)) (by (with_reducible repeat (first | refine blk_drewN ?_ _ | refine blk_drew ?_ | refine blk_alloc ?_ _)); refine blk_far ?_ NB456_464.out _; (with_reducible repeat (first | refine blk_drewN ?_ _ | refine blk_drew ?_ | refine blk_alloc ?_ _)); refine blk_far ?_ NB456_464.out _; (with_reducible repeat (first | refine blk_drewN ?_ _ | refine blk_drew ?_ | refine blk_alloc ?_ _)); refine blk_far ?_ NB456_464.out _; exact blkt BK456) hb); replace BK460 := Aside0.mk (blk_below (g := gb460) (o := .cells #[.int .i64 t457, .int .u64 t458] 31 (0, 0)) (by (with_reducible repeat (first | refine blk_drewN ?_ _ | refine blk_drew ?_ | refine blk_alloc ?_ _)); refine blk_far ?_ NB460_464.out _; (with_reducible repeat (first | refine blk_drewN ?_ _ | refine blk_drew ?_ | refine blk_alloc ?_ _)); refine blk_far ?_ NB460_464.out _; (with_reducible repeat (first | refine blk_drewN ?_ _ | refine blk_drew ?_ | refine blk_alloc ?_ _)); refine blk_far ?_ NB460_464.out _; exact blkt BK460) hb); replace BK464 := Aside0.mk (blk_below (g := gb464) (o := .cells #[.int .u64 ((rd_T28 l1 x95_3).f0), .int .u32 ((rd_T28 l1 x95_3).f1), .int .u32 ((rd_T28 l1 x95_3).f2)] 28 (0, 0)) (by (with_reducible repeat (first | refine blk_drewN ?_ _ | refine blk_drew ?_ | refine blk_alloc ?_ _)); refine blk_put (cs := #[.int .u64 ((rd_T28 l1 x95_3).f0), .int .u32 ((rd_T28 l1 x95_3).f1), .int .u32 0]) ?_ 2 _ rfl; (with_reducible repeat (first | refine blk_drewN ?_ _ | refine blk_drew ?_ | refine blk_alloc ?_ _)); refine blk_put (cs := #[.int .u64 ((rd_T28 l1 x95_3).f0), .int .u32 0, .int .u32 0]) ?_ 1 _ rfl; (with_reducible repeat (first | refine blk_drewN ?_ _ | refine blk_drew ?_ | refine blk_alloc ?_ _)); refine blk_put (cs := #[.int .u64 0, .int .u32 0, .int .u32 0]) ?_ 0 _ rfl; exact blkt BK464) hb); replace HB := belb HB hb; (try clear hb); (try clear hb2); (try clear hk); (try clear hi)) | ((with_reducible refine gate_dst (N := 20) rfl ?_); (try (refine gate_guard (by rfl) ?_; dsimp only)); refine box_event ?hg (N := 20) ?hd (cs := #[.int .i64 0, .int .u64 0]) (t := 31) ?hr ?_; (case hd => rfl); (case hg => rfl); (case hr => first | (go_simp; done) | (go_simp; rfl)); intro gb468 hg w211 hbox hb; have BK468 := Aside0.mk (hbox); have GW468 := bels HB hg; have GE468 := bels HB hg; have NB444_468 := blkl BK444 hg; have NB468_444 := blkg BK444 hg; have NB449_468 := blkl BK449 hg; have NB468_449 := blkg BK449 hg; have NB456_468 := blkl BK456 hg; have NB468_456 := blkg BK456 hg; have NB460_468 := blkl BK460 hg; have NB468_460 := blkg BK460 hg; have NB464_468 := blkl BK464 hg; have NB468_464 := blkg BK464 hg; replace BK444 := blkb BK444 hb; replace BK449 := blkb BK449 hb; replace BK456 := blkb BK456 hb; replace BK460 := blkb BK460 hb; replace BK464 := blkb BK464 hb; replace HB := belb HB hb; clear hb hbox hg; have hnb212 := NB468_444.out; have hnc212 := NB444_468.out; have hnb213 := NB468_449.out; have hnc213 := NB449_468.out; have hnb214 := NB468_456.out; have hnc214 := NB456_468.out; have hnb215 := NB468_460.out; have hnc215 := NB460_468.out; have hnb216 := NB468_464.out; have hnc216 := NB464_468.out; have hcz217_0 : w211.cell? ⟨gb468, 0, none⟩ = some (.int .i64 0) := (blk_cell BK468.out 0).trans rfl; have hcz217_1 : w211.cell? ⟨gb468, 1, none⟩ = some (.int .u64 0) := (blk_cell BK468.out 1).trans rfl; have hfz217_0 := blk_frozen BK468.out 0; have hfz217_1 := blk_frozen BK468.out 1; have hnb218 := NB456_449.out; have hnc218 := NB449_456.out; have hnb219 := NB456_460.out; have hnc219 := NB460_456.out; have hcz220_0 : w211.cell? ⟨gb456, 0, none⟩ = some (.int .u64 t450) := (blk_cell BK456.out 0).trans rfl; have hcz220_1 : w211.cell? ⟨gb456, 1, none⟩ = some (.int .i64 t451) := (blk_cell BK456.out 1).trans rfl; have hcz220_2 : w211.cell? ⟨gb456, 2, none⟩ = some (.int .u64 t452) := (blk_cell BK456.out 2).trans rfl; have hcz220_3 : w211.cell? ⟨gb456, 3, none⟩ = some (.int .u64 t453) := (blk_cell BK456.out 3).trans rfl; have hcz220_4 : w211.cell? ⟨gb456, 4, none⟩ = some (.int .i64 t454) := (blk_cell BK456.out 4).trans rfl; have hfz220_0 := blk_frozen BK456.out 0; have hfz220_1 := blk_frozen BK456.out 1; have hfz220_2 := blk_frozen BK456.out 2; have hfz220_3 := blk_frozen BK456.out 3; have hfz220_4 := blk_frozen BK456.out 4; have hcz221_0 : w211.cell? ⟨gb464, 0, none⟩ = some (.int .u64 ((rd_T28 l1 x95_3).f0)) := (blk_cell BK464.out 0).trans rfl; have hcz221_1 : w211.cell? ⟨gb464, 1, none⟩ = some (.int .u32 ((rd_T28 l1 x95_3).f1)) := (blk_cell BK464.out 1).trans rfl; have hcz221_2 : w211.cell? ⟨gb464, 2, none⟩ = some (.int .u32 ((rd_T28 l1 x95_3).f2)) := (blk_cell BK464.out 2).trans rfl; have hfz221_0 := blk_frozen BK464.out 0; have hfz221_1 := blk_frozen BK464.out 1; have hfz221_2 := blk_frozen BK464.out 2) | ((with_reducible refine gate_callee (f := 21) rfl ?_); refine goesL_ (some 108) rfl rfl Tryz.func21 (by kernel_rfl) rfl #[.agg #[.int .u64 t450, .int .i64 t451, .int .u64 t452, .int .u64 t453, .int .i64 t454], .agg #[.int .u64 ((rd_T28 l1 x95_3).f0), .int .u32 ((rd_T28 l1 x95_3).f1), .int .u32 ((rd_T28 l1 x95_3).f2)]] rfl argt ?_; (with_reducible refine (lag_Read.calls k3 t450 t451 t452 t453 t454 ((rd_T28 l1 x95_3).f0) ((rd_T28 l1 x95_3).f1) ((rd_T28 l1 x95_3).f2) t469 t470 t471 _ A59.out).mono ?_); rintro e w222 ⟨rfl, hb⟩; refine ⟨_, rfl, ?_⟩; replace BK444 := Aside0.mk (blk_below (g := gb444) (o := .cells #[.int .u64 t438, .int .i64 t439, .int .u64 t440, .int .u64 t441, .int .i64 t442] 33 (0, 0)) (by (with_reducible repeat (first | refine blk_drewN ?_ _ | refine blk_drew ?_ | refine blk_alloc ?_ _)); refine blk_far ?_ NB444_468.out _; (with_reducible repeat (first | refine blk_drewN ?_ _ | refine blk_drew ?_ | refine blk_alloc ?_ _)); refine blk_far ?_ NB444_468.out _; exact blkt BK444) hb); replace BK449 := Aside0.mk (blk_below (g := gb449) (o := .cells #[.int .u64 t445, .int .u32 t446, .int .u32 t447] 28 (0, 0)) (by (with_reducible repeat (first | refine blk_drewN ?_ _ | refine blk_drew ?_ | refine blk_alloc ?_ _)); refine blk_far ?_ NB449_468.out _; (with_reducible repeat (first | refine blk_drewN ?_ _ | refine blk_drew ?_ | refine blk_alloc ?_ _)); refine blk_far ?_ NB449_468.out _; exact blkt BK449) hb); replace BK456 := Aside0.mk (blk_below (g := gb456) (o := .cells #[.int .u64 t450, .int .i64 t451, .int .u64 t452, .int .u64 t453, .int .i64 t454] 33 (0, 0)) (by (with_reducible repeat (first | refine blk_drewN ?_ _ | refine blk_drew ?_ | refine blk_alloc ?_ _)); refine blk_far ?_ NB456_468.out _; (with_reducible repeat (first | refine blk_drewN ?_ _ | refine blk_drew ?_ | refine blk_alloc ?_ _)); refine blk_far ?_ NB456_468.out _; exact blkt BK456) hb); replace BK460 := Aside0.mk (blk_below (g := gb460) (o := .cells #[.int .i64 t457, .int .u64 t458] 31 (0, 0)) (by (with_reducible repeat (first | refine blk_drewN ?_ _ | refine blk_drew ?_ | refine blk_alloc ?_ _)); refine blk_far ?_ NB460_468.out _; (with_reducible repeat (first | refine blk_drewN ?_ _ | refine blk_drew ?_ | refine blk_alloc ?_ _)); refine blk_far ?_ NB460_468.out _; exact blkt BK460) hb); replace BK464 := Aside0.mk (blk_below (g := gb464) (o := .cells #[.int .u64 ((rd_T28 l1 x95_3).f0), .int .u32 ((rd_T28 l1 x95_3).f1), .int .u32 ((rd_T28 l1 x95_3).f2)] 28 (0, 0)) (by (with_reducible repeat (first | refine blk_drewN ?_ _ | refine blk_drew ?_ | refine blk_alloc ?_ _)); refine blk_far ?_ NB464_468.out _; (with_reducible repeat (first | refine blk_drewN ?_ _ | refine blk_drew ?_ | refine blk_alloc ?_ _)); refine blk_far ?_ NB464_468.out _; exact blkt BK464) hb); replace BK468 := Aside0.mk (blk_below (g := gb468) (o := .cells #[.int .i64 t465, .int .u64 t466] 31 (0, 0)) (by (with_reducible repeat (first | refine blk_drewN ?_ _ | refine blk_drew ?_ | refine blk_alloc ?_ _)); refine blk_put (cs := #[.int .i64 t465, .int .u64 0]) ?_ 1 _ rfl; (with_reducible repeat (first | refine blk_drewN ?_ _ | refine blk_drew ?_ | refine blk_alloc ?_ _)); refine blk_put (cs := #[.int .i64 0, .int .u64 0]) ?_ 0 _ rfl; exact blkt BK468) hb); replace HB := belb HB hb; (try clear hb); (try clear hb2); (try clear hk); (try clear hi)) | ((with_reducible refine gate_dst (N := 22) rfl ?_); (try (refine gate_guard (by rfl) ?_; dsimp only)); refine box_event ?hg (N := 22) ?hd (cs := #[.int .i64 0, .int .u64 0]) (t := 31) ?hr ?_; (case hd => rfl); (case hg => rfl); (case hr => first | (go_simp; done) | (go_simp; rfl)); intro gb472 hg w223 hbox hb; have BK472 := Aside0.mk (hbox); have GW472 := bels HB hg; have GE472 := bels HB hg; have NB444_472 := blkl BK444 hg; have NB472_444 := blkg BK444 hg; have NB449_472 := blkl BK449 hg; have NB472_449 := blkg BK449 hg; have NB456_472 := blkl BK456 hg; have NB472_456 := blkg BK456 hg; have NB460_472 := blkl BK460 hg; have NB472_460 := blkg BK460 hg; have NB464_472 := blkl BK464 hg; have NB472_464 := blkg BK464 hg; have NB468_472 := blkl BK468 hg; have NB472_468 := blkg BK468 hg; replace BK444 := blkb BK444 hb; replace BK449 := blkb BK449 hb; replace BK456 := blkb BK456 hb; replace BK460 := blkb BK460 hb; replace BK464 := blkb BK464 hb; replace BK468 := blkb BK468 hb; replace HB := belb HB hb; clear hb hbox hg; have hnb224 := NB472_444.out; have hnc224 := NB444_472.out; have hnb225 := NB472_449.out; have hnc225 := NB449_472.out; have hnb226 := NB472_456.out; have hnc226 := NB456_472.out; have hnb227 := NB472_460.out; have hnc227 := NB460_472.out; have hnb228 := NB472_464.out; have hnc228 := NB464_472.out; have hnb229 := NB472_468.out; have hnc229 := NB468_472.out; have hcz230_0 : w223.cell? ⟨gb472, 0, none⟩ = some (.int .i64 0) := (blk_cell BK472.out 0).trans rfl; have hcz230_1 : w223.cell? ⟨gb472, 1, none⟩ = some (.int .u64 0) := (blk_cell BK472.out 1).trans rfl; have hfz230_0 := blk_frozen BK472.out 0; have hfz230_1 := blk_frozen BK472.out 1; have hcz231_0 : w223.cell? ⟨gb468, 0, none⟩ = some (.int .i64 t465) := (blk_cell BK468.out 0).trans rfl; have hcz231_1 : w223.cell? ⟨gb468, 1, none⟩ = some (.int .u64 t466) := (blk_cell BK468.out 1).trans rfl; have hfz231_0 := blk_frozen BK468.out 0; have hfz231_1 := blk_frozen BK468.out 1) | ((with_reducible refine gate_callee (f := 26) rfl ?_); refine goesL_ (some 114) rfl rfl Tryz.func26 (by kernel_rfl) rfl #[.agg #[.int .i64 t469, .int .u64 t470], .agg #[.int .i64 t465, .int .u64 t466]] rfl argt ?_; (with_reducible refine (wide_Int_Sub.calls t469 t470 t465 t466 t473 t474 t475 _ A60.out).mono ?_); rintro e w232 ⟨rfl, hb⟩; refine ⟨_, rfl, ?_⟩; replace BK444 := Aside0.mk (blk_below (g := gb444) (o := .cells #[.int .u64 t438, .int .i64 t439, .int .u64 t440, .int .u64 t441, .int .i64 t442] 33 (0, 0)) (by (with_reducible repeat (first | refine blk_drewN ?_ _ | refine blk_drew ?_ | refine blk_alloc ?_ _)); refine blk_far ?_ NB444_472.out _; (with_reducible repeat (first | refine blk_drewN ?_ _ | refine blk_drew ?_ | refine blk_alloc ?_ _)); refine blk_far ?_ NB444_472.out _; exact blkt BK444) hb); replace BK449 := Aside0.mk (blk_below (g := gb449) (o := .cells #[.int .u64 t445, .int .u32 t446, .int .u32 t447] 28 (0, 0)) (by (with_reducible repeat (first | refine blk_drewN ?_ _ | refine blk_drew ?_ | refine blk_alloc ?_ _)); refine blk_far ?_ NB449_472.out _; (with_reducible repeat (first | refine blk_drewN ?_ _ | refine blk_drew ?_ | refine blk_alloc ?_ _)); refine blk_far ?_ NB449_472.out _; exact blkt BK449) hb); replace BK456 := Aside0.mk (blk_below (g := gb456) (o := .cells #[.int .u64 t450, .int .i64 t451, .int .u64 t452, .int .u64 t453, .int .i64 t454] 33 (0, 0)) (by (with_reducible repeat (first | refine blk_drewN ?_ _ | refine blk_drew ?_ | refine blk_alloc ?_ _)); refine blk_far ?_ NB456_472.out _; (with_reducible repeat (first | refine blk_drewN ?_ _ | refine blk_drew ?_ | refine blk_alloc ?_ _)); refine blk_far ?_ NB456_472.out _; exact blkt BK456) hb); replace BK460 := Aside0.mk (blk_below (g := gb460) (o := .cells #[.int .i64 t457, .int .u64 t458] 31 (0, 0)) (by (with_reducible repeat (first | refine blk_drewN ?_ _ | refine blk_drew ?_ | refine blk_alloc ?_ _)); refine blk_far ?_ NB460_472.out _; (with_reducible repeat (first | refine blk_drewN ?_ _ | refine blk_drew ?_ | refine blk_alloc ?_ _)); refine blk_far ?_ NB460_472.out _; exact blkt BK460) hb); replace BK464 := Aside0.mk (blk_below (g := gb464) (o := .cells #[.int .u64 ((rd_T28 l1 x95_3).f0), .int .u32 ((rd_T28 l1 x95_3).f1), .int .u32 ((rd_T28 l1 x95_3).f2)] 28 (0, 0)) (by (with_reducible repeat (first | refine blk_drewN ?_ _ | refine blk_drew ?_ | refine blk_alloc ?_ _)); refine blk_far ?_ NB464_472.out _; (with_reducible repeat (first | refine blk_drewN ?_ _ | refine blk_drew ?_ | refine blk_alloc ?_ _)); refine blk_far ?_ NB464_472.out _; exact blkt BK464) hb); replace BK468 := Aside0.mk (blk_below (g := gb468) (o := .cells #[.int .i64 t465, .int .u64 t466] 31 (0, 0)) (by (with_reducible repeat (first | refine blk_drewN ?_ _ | refine blk_drew ?_ | refine blk_alloc ?_ _)); refine blk_far ?_ NB468_472.out _; (with_reducible repeat (first | refine blk_drewN ?_ _ | refine blk_drew ?_ | refine blk_alloc ?_ _)); refine blk_far ?_ NB468_472.out _; exact blkt BK468) hb); replace BK472 := Aside0.mk (blk_below (g := gb472) (o := .cells #[.int .i64 t469, .int .u64 t470] 31 (0, 0)) (by (with_reducible repeat (first | refine blk_drewN ?_ _ | refine blk_drew ?_ | refine blk_alloc ?_ _)); refine blk_put (cs := #[.int .i64 t469, .int .u64 0]) ?_ 1 _ rfl; (with_reducible repeat (first | refine blk_drewN ?_ _ | refine blk_drew ?_ | refine blk_alloc ?_ _)); refine blk_put (cs := #[.int .i64 0, .int .u64 0]) ?_ 0 _ rfl; exact blkt BK472) hb); replace HB := belb HB hb; (try clear hb); (try clear hb2); (try clear hk); (try clear hi)) | ((with_reducible refine gate_dst (N := 24) rfl ?_); (try (refine gate_guard (by rfl) ?_; dsimp only)); refine box_event ?hg (N := 24) ?hd (cs := #[.int .i64 0, .int .u64 0]) (t := 31) ?hr ?_; (case hd => rfl); (case hg => rfl); (case hr => first | (go_simp; done) | (go_simp; rfl)); intro gb476 hg w233 hbox hb; have BK476 := Aside0.mk (hbox); have GW476 := bels HB hg; have GE476 := bels HB hg; have NB444_476 := blkl BK444 hg; have NB476_444 := blkg BK444 hg; have NB449_476 := blkl BK449 hg; have NB476_449 := blkg BK449 hg; have NB456_476 := blkl BK456 hg; have NB476_456 := blkg BK456 hg; have NB460_476 := blkl BK460 hg; have NB476_460 := blkg BK460 hg; have NB464_476 := blkl BK464 hg; have NB476_464 := blkg BK464 hg; have NB468_476 := blkl BK468 hg; have NB476_468 := blkg BK468 hg; have NB472_476 := blkl BK472 hg; have NB476_472 := blkg BK472 hg; replace BK444 := blkb BK444 hb; replace BK449 := blkb BK449 hb; replace BK456 := blkb BK456 hb; replace BK460 := blkb BK460 hb; replace BK464 := blkb BK464 hb; replace BK468 := blkb BK468 hb; replace BK472 := blkb BK472 hb; replace HB := belb HB hb; clear hb hbox hg; have hnb234 := NB476_444.out; have hnc234 := NB444_476.out; have hnb235 := NB476_449.out; have hnc235 := NB449_476.out; have hnb236 := NB476_456.out; have hnc236 := NB456_476.out; have hnb237 := NB476_460.out; have hnc237 := NB460_476.out; have hnb238 := NB476_464.out; have hnc238 := NB464_476.out; have hnb239 := NB476_468.out; have hnc239 := NB468_476.out; have hnb240 := NB476_472.out; have hnc240 := NB472_476.out; have hcz241_0 : w233.cell? ⟨gb476, 0, none⟩ = some (.int .i64 0) := (blk_cell BK476.out 0).trans rfl; have hcz241_1 : w233.cell? ⟨gb476, 1, none⟩ = some (.int .u64 0) := (blk_cell BK476.out 1).trans rfl; have hfz241_0 := blk_frozen BK476.out 0; have hfz241_1 := blk_frozen BK476.out 1) | ((with_reducible refine gate_callee (f := 27) rfl ?_); refine goesL_ (some 119) rfl rfl Tryz.func27 (by kernel_rfl) rfl #[.agg #[.int .i64 t473, .int .u64 t474]] rfl argt ?_; (with_reducible refine (wide_Int_Small.calls t473 t474 t477 true _ A61.out).mono ?_); rintro e w242 ⟨rfl, hb⟩; refine ⟨_, rfl, ?_⟩; replace BK444 := Aside0.mk (blk_below (g := gb444) (o := .cells #[.int .u64 t438, .int .i64 t439, .int .u64 t440, .int .u64 t441, .int .i64 t442] 33 (0, 0)) (by (with_reducible repeat (first | refine blk_drewN ?_ _ | refine blk_drew ?_ | refine blk_alloc ?_ _)); refine blk_far ?_ NB444_476.out _; (with_reducible repeat (first | refine blk_drewN ?_ _ | refine blk_drew ?_ | refine blk_alloc ?_ _)); refine blk_far ?_ NB444_476.out _; exact blkt BK444) hb); replace BK449 := Aside0.mk (blk_below (g := gb449) (o := .cells #[.int .u64 t445, .int .u32 t446, .int .u32 t447] 28 (0, 0)) (by (with_reducible repeat (first | refine blk_drewN ?_ _ | refine blk_drew ?_ | refine blk_alloc ?_ _)); refine blk_far ?_ NB449_476.out _; (with_reducible repeat (first | refine blk_drewN ?_ _ | refine blk_drew ?_ | refine blk_alloc ?_ _)); refine blk_far ?_ NB449_476.out _; exact blkt BK449) hb); replace BK456 := Aside0.mk (blk_below (g := gb456) (o := .cells #[.int .u64 t450, .int .i64 t451, .int .u64 t452, .int .u64 t453, .int .i64 t454] 33 (0, 0)) (by (with_reducible repeat (first | refine blk_drewN ?_ _ | refine blk_drew ?_ | refine blk_alloc ?_ _)); refine blk_far ?_ NB456_476.out _; (with_reducible repeat (first | refine blk_drewN ?_ _ | refine blk_drew ?_ | refine blk_alloc ?_ _)); refine blk_far ?_ NB456_476.out _; exact blkt BK456) hb); replace BK460 := Aside0.mk (blk_below (g := gb460) (o := .cells #[.int .i64 t457, .int .u64 t458] 31 (0, 0)) (by (with_reducible repeat (first | refine blk_drewN ?_ _ | refine blk_drew ?_ | refine blk_alloc ?_ _)); refine blk_far ?_ NB460_476.out _; (with_reducible repeat (first | refine blk_drewN ?_ _ | refine blk_drew ?_ | refine blk_alloc ?_ _)); refine blk_far ?_ NB460_476.out _; exact blkt BK460) hb); replace BK464 := Aside0.mk (blk_below (g := gb464) (o := .cells #[.int .u64 ((rd_T28 l1 x95_3).f0), .int .u32 ((rd_T28 l1 x95_3).f1), .int .u32 ((rd_T28 l1 x95_3).f2)] 28 (0, 0)) (by (with_reducible repeat (first | refine blk_drewN ?_ _ | refine blk_drew ?_ | refine blk_alloc ?_ _)); refine blk_far ?_ NB464_476.out _; (with_reducible repeat (first | refine blk_drewN ?_ _ | refine blk_drew ?_ | refine blk_alloc ?_ _)); refine blk_far ?_ NB464_476.out _; exact blkt BK464) hb); replace BK468 := Aside0.mk (blk_below (g := gb468) (o := .cells #[.int .i64 t465, .int .u64 t466] 31 (0, 0)) (by (with_reducible repeat (first | refine blk_drewN ?_ _ | refine blk_drew ?_ | refine blk_alloc ?_ _)); refine blk_far ?_ NB468_476.out _; (with_reducible repeat (first | refine blk_drewN ?_ _ | refine blk_drew ?_ | refine blk_alloc ?_ _)); refine blk_far ?_ NB468_476.out _; exact blkt BK468) hb); replace BK472 := Aside0.mk (blk_below (g := gb472) (o := .cells #[.int .i64 t469, .int .u64 t470] 31 (0, 0)) (by (with_reducible repeat (first | refine blk_drewN ?_ _ | refine blk_drew ?_ | refine blk_alloc ?_ _)); refine blk_far ?_ NB472_476.out _; (with_reducible repeat (first | refine blk_drewN ?_ _ | refine blk_drew ?_ | refine blk_alloc ?_ _)); refine blk_far ?_ NB472_476.out _; exact blkt BK472) hb); replace BK476 := Aside0.mk (blk_below (g := gb476) (o := .cells #[.int .i64 t473, .int .u64 t474] 31 (0, 0)) (by (with_reducible repeat (first | refine blk_drewN ?_ _ | refine blk_drew ?_ | refine blk_alloc ?_ _)); refine blk_put (cs := #[.int .i64 t473, .int .u64 0]) ?_ 1 _ rfl; (with_reducible repeat (first | refine blk_drewN ?_ _ | refine blk_drew ?_ | refine blk_alloc ?_ _)); refine blk_put (cs := #[.int .i64 0, .int .u64 0]) ?_ 0 _ rfl; exact blkt BK476) hb); replace HB := belb HB hb; (try clear hb); (try clear hb2); (try clear hk); (try clear hi)))
                 go_roundg k3
                 case measure => have := HJ7.out; have := HJ20.out; have := HK3.out; omega
                 case rel => exact ⟨(wrap64 (x95_3 + 1)), (by first | rfl | (simp; done) | (simp [*]; done)), H', ⟨by have := HJ7.out; have := HJ20.out; have := HK3.out; omega⟩, ⟨blkt BK444⟩, ⟨blkt BK449⟩, ⟨blkt BK456⟩, ⟨blkt BK460⟩, ⟨belt HB⟩⟩
             ·replace c62 := Bool.eq_false_iff.mpr c62
              subst c62
              have H1 : (none) = some r := by rw [if_neg (show ¬ (false = true) by decide)] at H; exact H
              clear H
              have H := H1
              clear H1
              exact absurd H (by simp)
            ·rw [if_neg c57] at H
             exact absurd H (by simp)
           ·rw [if_neg c56] at H
            exact absurd H (by simp)
          ·rw [if_neg c55] at H
           have c55b0 : decide (x95_3 < (l1.length : Int)) = false := decide_eq_false c55
           clear c55
           obtain rfl := Option.some.inj H
           go_wp2
           go_ret
           exact ⟨by first | rfl | (simp [errW_none, errW_some] <;> rfl) | (simp only [← hji54]; first | rfl | (simp [errW_none, errW_some] <;> rfl)) | (simp [*, errW_none, errW_some] <;> rfl), belt HB⟩
 ·replace c6 := Bool.eq_false_iff.mpr c6
  subst c6
  have H1 : (none) = some r := by rw [if_neg (show ¬ (false = true) by decide)] at H; exact H
  clear H
  have H := H1
  clear H1
  exact absurd H (by simp)

/-- THE ONE PURE STATEMENT of turnstonelaw10_PlaceLags. -/
def turnstonelaw10_PlaceLags.Pure : Prop := ∀ (a0 : Int) (l1 : List (S28)) (a2 : Int) (a3 : Int), (Lit.int .u64 a0).wf = true → l1.length ≤ maxLen → (∀ x ∈ l1, wfS28 x) → (Lit.int .u32 a2).wf = true → (Lit.int .i64 a3).wf = true → ∃ k, turnstonelaw10_PlaceLags.f k a0 l1 a2 a3 = some true
theorem turnstonelaw10_PlaceLags.walk (P : turnstonelaw10_PlaceLags.Pure) (a0 : Int) (A1 : Option Addr) (c1 : Nat) (l1 : List (S28)) (a2 : Int) (a3 : Int) (w : World) (w0 : (Lit.int .u64 a0).wf = true) (hr1 : Kd.C k28 w A1 l1.length l1) (hc1 : l1.length ≤ c1) (hm1 : l1.length ≤ maxLen) (hw1 : ∀ x ∈ l1, wfS28 x) (w2 : (Lit.int .u32 a2).wf = true) (w3 : (Lit.int .i64 a3).wf = true) :
  Calls Tryz.prog 5 #[.int .u64 a0, .slice A1 l1.length c1, .int .u32 a2, .int .i64 a3] w fun e w' => e = .returned (.bool true) ∧ Below w.heap.size w w' := by
 obtain ⟨k, h⟩ := P a0 l1 a2 a3 w0 hm1 hw1 w2 w3
 refine (turnstonelaw10_PlaceLags.calls k a0 _ _ l1 a2 a3 true w hr1 hc1 h).mono ?_
 rintro e w' ⟨rfl, hd⟩
 exact ⟨rfl, hd⟩

end Go.Proofs.YtfbkamgdkdnpoaaGreatDoor.Print
