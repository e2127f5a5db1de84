/- What each Go function that is named below answers, as a Lean function, and that its walk comes to just that: for whatever arguments that function gives an answer for. Written by a program of this session (wip/mkpr.py, pr.sh). -/
import Derived.Test.YtfbkamgdkdnpoaaGreatDoorPrint1000
import Derived.Test.YtfbkamgdkdnpoaaGreatDoorPrint1001
import Derived.Test.YtfbkamgdkdnpoaaGreatDoorPrint1003
namespace Go.Proofs.YtfbkamgdkdnpoaaGreatDoor.Print
open Go.RowKit Go.Proofs.YtfbkamgdkdnpoaaGreatDoorW.PrintWords Go.Proofs.YtfbkamgdkdnpoaaGreatDoorW.PrintLast Go.Proofs.YtfbkamgdkdnpoaaGreatDoorW.PrintMore
attribute [local go_sem] max2_int min2_int max_two min_two max_three min_three max_four min_four   -- for this text's walks alone
open Go.Proofs.YtfbkamgdkdnpoaaGreatDoor.Bits Go.Proofs.YtfbkamgdkdnpoaaGreatDoor.Short
attribute [local go_sem] add64_run0 sub64_run0 add64_run sub64_run
set_option linter.unusedVariables false
set_option linter.unusedSimpArgs false

/-! ### turnstonelaw09_LagMoves: function 4 -/
mutual
def turnstonelaw09_LagMoves.j0 : Nat → Int → List (S28) → Int → Int → Bool → Option (Bool)
 | 0, _, _, _, _, _ => none
 | k + 1, x0, x1, x2, x3, x45 => if x45 = true then (some true) else (turnstonelaw09_LagMoves.l0 k x0 x1 x2 x3 x1 (x1.length : Int) 0)
def turnstonelaw09_LagMoves.l0 : Nat → Int → List (S28) → Int → Int → List (S28) → Int → Int → Option (Bool)
 | 0, _, _, _, _, _, _, _ => none
 | k + 1, x0, x1, x2, x3, x46, x47, x48 => if x48 < x47 then (if 0 ≤ x48 then (if x48 < (x46.length : Int) then ((vtime_Time_Since.f ((rd_T28 x46 x48).f0) x0).bind fun t277 => ((pos_Pos_Right.f ((rd_T28 x46 x48).f0) ((rd_T28 x46 x48).f1) ((rd_T28 x46 x48).f2)).bind fun t278 => (if t278 = true then (if t277 ≤ (-576460752303423488) then (some true) else (if t277 ≥ 576460752303423488 then (some true) else (turnstonelaw09_LagMoves.l0 k x0 x1 x2 x3 x46 x47 (wrap64 (x48 + 1))))) else (some true)))) else (none)) else (none)) else (if (x1.length : Int) = 0 then (none) else (if 0 ≤ (Int.tmod (wrap64 (x2)) (x1.length : Int)) then (if (Int.tmod (wrap64 (x2)) (x1.length : Int)) < (x1.length : Int) then ((pos_Pos_Move.f k ((rd_T28 x1 (Int.tmod (wrap64 (x2)) (x1.length : Int))).f0) ((rd_T28 x1 (Int.tmod (wrap64 (x2)) (x1.length : Int))).f1) ((rd_T28 x1 (Int.tmod (wrap64 (x2)) (x1.length : Int))).f2) x3).bind fun bt280 => ((mean_Of.f k x0 x1).bind fun bt285 => ((mean_Mean_Take.f k bt285.1 bt285.2.1 bt285.2.2.1 bt285.2.2.2.1 bt285.2.2.2.2.1 ((rd_T28 x1 (Int.tmod (wrap64 (x2)) (x1.length : Int))).f0) ((rd_T28 x1 (Int.tmod (wrap64 (x2)) (x1.length : Int))).f1) ((rd_T28 x1 (Int.tmod (wrap64 (x2)) (x1.length : Int))).f2)).bind fun bt293 => ((mean_Mean_Add.f k bt293.1 bt293.2.1 bt293.2.2.1 bt293.2.2.2.1 bt293.2.2.2.2.1 bt280.1 bt280.2.1 bt280.2.2.1).bind fun bt300 => (if bt280.2.2.2 = true then (if bt285.2.2.2.2.2 = true then (if bt293.2.2.2.2.2 = true then (turnstonelaw09_LagMoves.j2 k x1 x3 (Int.tmod (wrap64 (x2)) (x1.length : Int)) (!bt300.2.2.2.2.2) bt280.1 bt280.2.1 bt280.2.2.1 bt285.1 bt285.2.1 bt285.2.2.1 bt285.2.2.2.1 bt285.2.2.2.2.1 bt300.1 bt300.2.1 bt300.2.2.1 bt300.2.2.2.1 bt300.2.2.2.2.1) else (turnstonelaw09_LagMoves.j2 k x1 x3 (Int.tmod (wrap64 (x2)) (x1.length : Int)) true bt280.1 bt280.2.1 bt280.2.2.1 bt285.1 bt285.2.1 bt285.2.2.1 bt285.2.2.2.1 bt285.2.2.2.2.1 bt300.1 bt300.2.1 bt300.2.2.1 bt300.2.2.2.1 bt300.2.2.2.2.1)) else (turnstonelaw09_LagMoves.j2 k x1 x3 (Int.tmod (wrap64 (x2)) (x1.length : Int)) true bt280.1 bt280.2.1 bt280.2.2.1 bt285.1 bt285.2.1 bt285.2.2.1 bt285.2.2.2.1 bt285.2.2.2.2.1 bt300.1 bt300.2.1 bt300.2.2.1 bt300.2.2.2.1 bt300.2.2.2.2.1)) else (turnstonelaw09_LagMoves.j2 k x1 x3 (Int.tmod (wrap64 (x2)) (x1.length : Int)) true bt280.1 bt280.2.1 bt280.2.2.1 bt285.1 bt285.2.1 bt285.2.2.1 bt285.2.2.2.1 bt285.2.2.2.2.1 bt300.1 bt300.2.1 bt300.2.2.1 bt300.2.2.2.1 bt300.2.2.2.2.1)))))) else (none)) else (none)))
def turnstonelaw09_LagMoves.j2 : Nat → List (S28) → Int → Int → Bool → Int → Int → Int → Int → Int → Int → Int → Int → Int → Int → Int → Int → Int → Option (Bool)
 | 0, _, _, _, _, _, _, _, _, _, _, _, _, _, _, _, _, _ => none
 | k + 1, x1, x3, x12, x116, x285000, x285001, x285002, x292000, x292001, x292002, x292003, x292004, x307000, x307001, x307002, x307003, x307004 => if x116 = true then (none) else (turnstonelaw09_LagMoves.l1 k x3 x12 x1 (x1.length : Int) 0 x285000 x285001 x285002 x292000 x292001 x292002 x292003 x292004 x307000 x307001 x307002 x307003 x307004)
def turnstonelaw09_LagMoves.l1 : Nat → Int → Int → List (S28) → Int → Int → Int → Int → Int → Int → Int → Int → Int → Int → Int → Int → Int → Int → Int → Option (Bool)
 | 0, _, _, _, _, _, _, _, _, _, _, _, _, _, _, _, _, _, _ => none
 | k + 1, x3, x12, x117, x118, x119, x285000, x285001, x285002, x292000, x292001, x292002, x292003, x292004, x307000, x307001, x307002, x307003, x307004 => if x119 < x118 then (if 0 ≤ x119 then (if x119 < (x117.length : Int) then (if x119 = x12 then (turnstonelaw09_LagMoves.j4 k x3 x12 x119 x117 x118 x119 x285000 x285001 x285002 x292000 x292001 x292002 x292003 x292004 x307000 x307001 x307002 x307003 x307004 ((rd_T28 x117 x119).f0) ((rd_T28 x117 x119).f1) ((rd_T28 x117 x119).f2) x285000 x285001 x285002) else (turnstonelaw09_LagMoves.j4 k x3 x12 x119 x117 x118 x119 x285000 x285001 x285002 x292000 x292001 x292002 x292003 x292004 x307000 x307001 x307002 x307003 x307004 ((rd_T28 x117 x119).f0) ((rd_T28 x117 x119).f1) ((rd_T28 x117 x119).f2) ((rd_T28 x117 x119).f0) ((rd_T28 x117 x119).f1) ((rd_T28 x117 x119).f2))) else (none)) else (none)) else (some true)
def turnstonelaw09_LagMoves.j4 : Nat → Int → Int → Int → List (S28) → Int → Int → Int → Int → Int → Int → Int → Int → Int → Int → Int → Int → Int → Int → Int → Int → Int → Int → Int → Int → Int → Option (Bool)
 | 0, _, _, _, _, _, _, _, _, _, _, _, _, _, _, _, _, _, _, _, _, _, _, _, _, _ => none
 | k + 1, x3, x12, x21, x117, x118, x119, x285000, x285001, x285002, x292000, x292001, x292002, x292003, x292004, x307000, x307001, x307002, x307003, x307004, x309000, x309001, x309002, x310000, x310001, x310002 => (lag_Read.f k x292000 x292001 x292002 x292003 x292004 x309000 x309001 x309002).bind fun bt310 => ((lag_Read.f k x307000 x307001 x307002 x307003 x307004 x310000 x310001 x310002).bind fun bt314 => ((wide_Int_Sub.f bt314.1 bt314.2.1 bt310.1 bt310.2.1).bind fun bt318 => ((wide_Int_Small.f bt318.1 bt318.2.1).bind fun bt322 => (if bt322.2 = true then (if x21 = x12 then (if bt322.1 > 0 then (none) else (if bt322.1 < (wrap64 (-(wrap64 (x3)))) then (none) else (turnstonelaw09_LagMoves.l1 k x3 x12 x117 x118 (wrap64 (x119 + 1)) x285000 x285001 x285002 x292000 x292001 x292002 x292003 x292004 x307000 x307001 x307002 x307003 x307004))) else (if bt322.1 < 0 then (none) else (if bt322.1 > (wrap64 ((wrap64 (x3)) + 1)) then (none) else (turnstonelaw09_LagMoves.l1 k x3 x12 x117 x118 (wrap64 (x119 + 1)) x285000 x285001 x285002 x292000 x292001 x292002 x292003 x292004 x307000 x307001 x307002 x307003 x307004)))) else (none)))))
end
def turnstonelaw09_LagMoves.f (k : Nat) (a0 : Int) (l1 : List (S28)) (a2 : Int) (a3 : Int) : Option (Bool) := (turnstonelaw09_awake.f).bind fun t274 => (if t274 = true then (if (l1.length : Int) > 32 then (turnstonelaw09_LagMoves.j0 k a0 l1 a2 a3 true) else (if (l1.length : Int) = 0 then (turnstonelaw09_LagMoves.j0 k a0 l1 a2 a3 true) else (turnstonelaw09_LagMoves.j0 k a0 l1 a2 a3 (decide (a3 > 288230376151711744))))) else (none))
theorem turnstonelaw09_LagMoves.mono_l : ∀ k, (∀ y0 y1 y2 y3 y4, LeO (turnstonelaw09_LagMoves.j0 k y0 y1 y2 y3 y4) (turnstonelaw09_LagMoves.j0 (k + 1) y0 y1 y2 y3 y4)) ∧ (∀ y0 y1 y2 y3 y4 y5 y6, LeO (turnstonelaw09_LagMoves.l0 k y0 y1 y2 y3 y4 y5 y6) (turnstonelaw09_LagMoves.l0 (k + 1) y0 y1 y2 y3 y4 y5 y6)) ∧ (∀ y0 y1 y2 y3 y4 y5 y6 y7 y8 y9 y10 y11 y12 y13 y14 y15 y16, LeO (turnstonelaw09_LagMoves.j2 k y0 y1 y2 y3 y4 y5 y6 y7 y8 y9 y10 y11 y12 y13 y14 y15 y16) (turnstonelaw09_LagMoves.j2 (k + 1) y0 y1 y2 y3 y4 y5 y6 y7 y8 y9 y10 y11 y12 y13 y14 y15 y16)) ∧ (∀ y0 y1 y2 y3 y4 y5 y6 y7 y8 y9 y10 y11 y12 y13 y14 y15 y16 y17, LeO (turnstonelaw09_LagMoves.l1 k y0 y1 y2 y3 y4 y5 y6 y7 y8 y9 y10 y11 y12 y13 y14 y15 y16 y17) (turnstonelaw09_LagMoves.l1 (k + 1) y0 y1 y2 y3 y4 y5 y6 y7 y8 y9 y10 y11 y12 y13 y14 y15 y16 y17)) ∧ (∀ y0 y1 y2 y3 y4 y5 y6 y7 y8 y9 y10 y11 y12 y13 y14 y15 y16 y17 y18 y19 y20 y21 y22 y23 y24, LeO (turnstonelaw09_LagMoves.j4 k y0 y1 y2 y3 y4 y5 y6 y7 y8 y9 y10 y11 y12 y13 y14 y15 y16 y17 y18 y19 y20 y21 y22 y23 y24) (turnstonelaw09_LagMoves.j4 (k + 1) y0 y1 y2 y3 y4 y5 y6 y7 y8 y9 y10 y11 y12 y13 y14 y15 y16 y17 y18 y19 y20 y21 y22 y23 y24))
 | 0 => ⟨fun _ _ _ _ _ r h => by simp [turnstonelaw09_LagMoves.j0] at h, fun _ _ _ _ _ _ _ r h => by simp [turnstonelaw09_LagMoves.l0] at h, fun _ _ _ _ _ _ _ _ _ _ _ _ _ _ _ _ _ r h => by simp [turnstonelaw09_LagMoves.j2] at h, fun _ _ _ _ _ _ _ _ _ _ _ _ _ _ _ _ _ _ r h => by simp [turnstonelaw09_LagMoves.l1] at h, fun _ _ _ _ _ _ _ _ _ _ _ _ _ _ _ _ _ _ _ _ _ _ _ _ _ r h => by simp [turnstonelaw09_LagMoves.j4] at h⟩
 | k + 1 => by
  obtain ⟨ih0, ih1, ih2, ih3, ih4⟩ := turnstonelaw09_LagMoves.mono_l k
  refine ⟨?_, ?_, ?_, ?_, ?_⟩
  ·intro y0 y1 y2 y3 y4
   unfold turnstonelaw09_LagMoves.j0
   repeat' first
   | (with_reducible exact ih0 _ _ _ _ _)
   | (with_reducible exact ih1 _ _ _ _ _ _ _)
   | (with_reducible exact ih2 _ _ _ _ _ _ _ _ _ _ _ _ _ _ _ _ _)
   | (with_reducible exact ih3 _ _ _ _ _ _ _ _ _ _ _ _ _ _ _ _ _ _)
   | (with_reducible exact ih4 _ _ _ _ _ _ _ _ _ _ _ _ _ _ _ _ _ _ _ _ _ _ _ _ _)
   | (with_reducible exact lag_Read.mono _ _ _ _ _ _ _ _ _)
   | (with_reducible exact mean_Mean_Add.mono _ _ _ _ _ _ _ _ _)
   | (with_reducible exact mean_Mean_Take.mono _ _ _ _ _ _ _ _ _)
   | (with_reducible exact mean_Of.mono _ _ _)
   | (with_reducible exact pos_Pos_Move.mono _ _ _ _ _)
   | (with_reducible exact LeO.refl _)
   | (with_reducible exact LeO.none _)
   | (with_reducible refine LeO.ite ?_ ?_)
   | (with_reducible refine LeO.bind ?_ (fun _ => ?_))
   | exact ih0 _ _ _ _ _
   | exact ih1 _ _ _ _ _ _ _
   | exact ih2 _ _ _ _ _ _ _ _ _ _ _ _ _ _ _ _ _
   | exact ih3 _ _ _ _ _ _ _ _ _ _ _ _ _ _ _ _ _ _
   | exact ih4 _ _ _ _ _ _ _ _ _ _ _ _ _ _ _ _ _ _ _ _ _ _ _ _ _
   | exact lag_Read.mono _ _ _ _ _ _ _ _ _
   | exact mean_Mean_Add.mono _ _ _ _ _ _ _ _ _
   | exact mean_Mean_Take.mono _ _ _ _ _ _ _ _ _
   | exact mean_Of.mono _ _ _
   | exact pos_Pos_Move.mono _ _ _ _ _
   | exact LeO.none _
   | refine LeO.ite ?_ ?_
   | refine LeO.bind ?_ (fun _ => ?_)
  ·intro y0 y1 y2 y3 y4 y5 y6
   unfold turnstonelaw09_LagMoves.l0
   repeat' first
   | (with_reducible exact ih0 _ _ _ _ _)
   | (with_reducible exact ih1 _ _ _ _ _ _ _)
   | (with_reducible exact ih2 _ _ _ _ _ _ _ _ _ _ _ _ _ _ _ _ _)
   | (with_reducible exact ih3 _ _ _ _ _ _ _ _ _ _ _ _ _ _ _ _ _ _)
   | (with_reducible exact ih4 _ _ _ _ _ _ _ _ _ _ _ _ _ _ _ _ _ _ _ _ _ _ _ _ _)
   | (with_reducible exact lag_Read.mono _ _ _ _ _ _ _ _ _)
   | (with_reducible exact mean_Mean_Add.mono _ _ _ _ _ _ _ _ _)
   | (with_reducible exact mean_Mean_Take.mono _ _ _ _ _ _ _ _ _)
   | (with_reducible exact mean_Of.mono _ _ _)
   | (with_reducible exact pos_Pos_Move.mono _ _ _ _ _)
   | (with_reducible exact LeO.refl _)
   | (with_reducible exact LeO.none _)
   | (with_reducible refine LeO.ite ?_ ?_)
   | (with_reducible refine LeO.bind ?_ (fun _ => ?_))
   | exact ih0 _ _ _ _ _
   | exact ih1 _ _ _ _ _ _ _
   | exact ih2 _ _ _ _ _ _ _ _ _ _ _ _ _ _ _ _ _
   | exact ih3 _ _ _ _ _ _ _ _ _ _ _ _ _ _ _ _ _ _
   | exact ih4 _ _ _ _ _ _ _ _ _ _ _ _ _ _ _ _ _ _ _ _ _ _ _ _ _
   | exact lag_Read.mono _ _ _ _ _ _ _ _ _
   | exact mean_Mean_Add.mono _ _ _ _ _ _ _ _ _
   | exact mean_Mean_Take.mono _ _ _ _ _ _ _ _ _
   | exact mean_Of.mono _ _ _
   | exact pos_Pos_Move.mono _ _ _ _ _
   | exact LeO.none _
   | refine LeO.ite ?_ ?_
   | refine LeO.bind ?_ (fun _ => ?_)
  ·intro y0 y1 y2 y3 y4 y5 y6 y7 y8 y9 y10 y11 y12 y13 y14 y15 y16
   unfold turnstonelaw09_LagMoves.j2
   repeat' first
   | (with_reducible exact ih0 _ _ _ _ _)
   | (with_reducible exact ih1 _ _ _ _ _ _ _)
   | (with_reducible exact ih2 _ _ _ _ _ _ _ _ _ _ _ _ _ _ _ _ _)
   | (with_reducible exact ih3 _ _ _ _ _ _ _ _ _ _ _ _ _ _ _ _ _ _)
   | (with_reducible exact ih4 _ _ _ _ _ _ _ _ _ _ _ _ _ _ _ _ _ _ _ _ _ _ _ _ _)
   | (with_reducible exact lag_Read.mono _ _ _ _ _ _ _ _ _)
   | (with_reducible exact mean_Mean_Add.mono _ _ _ _ _ _ _ _ _)
   | (with_reducible exact mean_Mean_Take.mono _ _ _ _ _ _ _ _ _)
   | (with_reducible exact mean_Of.mono _ _ _)
   | (with_reducible exact pos_Pos_Move.mono _ _ _ _ _)
   | (with_reducible exact LeO.refl _)
   | (with_reducible exact LeO.none _)
   | (with_reducible refine LeO.ite ?_ ?_)
   | (with_reducible refine LeO.bind ?_ (fun _ => ?_))
   | exact ih0 _ _ _ _ _
   | exact ih1 _ _ _ _ _ _ _
   | exact ih2 _ _ _ _ _ _ _ _ _ _ _ _ _ _ _ _ _
   | exact ih3 _ _ _ _ _ _ _ _ _ _ _ _ _ _ _ _ _ _
   | exact ih4 _ _ _ _ _ _ _ _ _ _ _ _ _ _ _ _ _ _ _ _ _ _ _ _ _
   | exact lag_Read.mono _ _ _ _ _ _ _ _ _
   | exact mean_Mean_Add.mono _ _ _ _ _ _ _ _ _
   | exact mean_Mean_Take.mono _ _ _ _ _ _ _ _ _
   | exact mean_Of.mono _ _ _
   | exact pos_Pos_Move.mono _ _ _ _ _
   | exact LeO.none _
   | refine LeO.ite ?_ ?_
   | refine LeO.bind ?_ (fun _ => ?_)
  ·intro y0 y1 y2 y3 y4 y5 y6 y7 y8 y9 y10 y11 y12 y13 y14 y15 y16 y17
   unfold turnstonelaw09_LagMoves.l1
   repeat' first
   | (with_reducible exact ih0 _ _ _ _ _)
   | (with_reducible exact ih1 _ _ _ _ _ _ _)
   | (with_reducible exact ih2 _ _ _ _ _ _ _ _ _ _ _ _ _ _ _ _ _)
   | (with_reducible exact ih3 _ _ _ _ _ _ _ _ _ _ _ _ _ _ _ _ _ _)
   | (with_reducible exact ih4 _ _ _ _ _ _ _ _ _ _ _ _ _ _ _ _ _ _ _ _ _ _ _ _ _)
   | (with_reducible exact lag_Read.mono _ _ _ _ _ _ _ _ _)
   | (with_reducible exact mean_Mean_Add.mono _ _ _ _ _ _ _ _ _)
   | (with_reducible exact mean_Mean_Take.mono _ _ _ _ _ _ _ _ _)
   | (with_reducible exact mean_Of.mono _ _ _)
   | (with_reducible exact pos_Pos_Move.mono _ _ _ _ _)
   | (with_reducible exact LeO.refl _)
   | (with_reducible exact LeO.none _)
   | (with_reducible refine LeO.ite ?_ ?_)
   | (with_reducible refine LeO.bind ?_ (fun _ => ?_))
   | exact ih0 _ _ _ _ _
   | exact ih1 _ _ _ _ _ _ _
   | exact ih2 _ _ _ _ _ _ _ _ _ _ _ _ _ _ _ _ _
   | exact ih3 _ _ _ _ _ _ _ _ _ _ _ _ _ _ _ _ _ _
   | exact ih4 _ _ _ _ _ _ _ _ _ _ _ _ _ _ _ _ _ _ _ _ _ _ _ _ _
   | exact lag_Read.mono _ _ _ _ _ _ _ _ _
   | exact mean_Mean_Add.mono _ _ _ _ _ _ _ _ _
   | exact mean_Mean_Take.mono _ _ _ _ _ _ _ _ _
   | exact mean_Of.mono _ _ _
   | exact pos_Pos_Move.mono _ _ _ _ _
   | exact LeO.none _
   | refine LeO.ite ?_ ?_
   | refine LeO.bind ?_ (fun _ => ?_)
  intro y0 y1 y2 y3 y4 y5 y6 y7 y8 y9 y10 y11 y12 y13 y14 y15 y16 y17 y18 y19 y20 y21 y22 y23 y24
  unfold turnstonelaw09_LagMoves.j4
  repeat' first
  | (with_reducible exact ih0 _ _ _ _ _)
  | (with_reducible exact ih1 _ _ _ _ _ _ _)
  | (with_reducible exact ih2 _ _ _ _ _ _ _ _ _ _ _ _ _ _ _ _ _)
  | (with_reducible exact ih3 _ _ _ _ _ _ _ _ _ _ _ _ _ _ _ _ _ _)
  | (with_reducible exact ih4 _ _ _ _ _ _ _ _ _ _ _ _ _ _ _ _ _ _ _ _ _ _ _ _ _)
  | (with_reducible exact lag_Read.mono _ _ _ _ _ _ _ _ _)
  | (with_reducible exact mean_Mean_Add.mono _ _ _ _ _ _ _ _ _)
  | (with_reducible exact mean_Mean_Take.mono _ _ _ _ _ _ _ _ _)
  | (with_reducible exact mean_Of.mono _ _ _)
  | (with_reducible exact pos_Pos_Move.mono _ _ _ _ _)
  | (with_reducible exact LeO.refl _)
  | (with_reducible exact LeO.none _)
  | (with_reducible refine LeO.ite ?_ ?_)
  | (with_reducible refine LeO.bind ?_ (fun _ => ?_))
  | exact ih0 _ _ _ _ _
  | exact ih1 _ _ _ _ _ _ _
  | exact ih2 _ _ _ _ _ _ _ _ _ _ _ _ _ _ _ _ _
  | exact ih3 _ _ _ _ _ _ _ _ _ _ _ _ _ _ _ _ _ _
  | exact ih4 _ _ _ _ _ _ _ _ _ _ _ _ _ _ _ _ _ _ _ _ _ _ _ _ _
  | exact lag_Read.mono _ _ _ _ _ _ _ _ _
  | exact mean_Mean_Add.mono _ _ _ _ _ _ _ _ _
  | exact mean_Mean_Take.mono _ _ _ _ _ _ _ _ _
  | exact mean_Of.mono _ _ _
  | exact pos_Pos_Move.mono _ _ _ _ _
  | exact LeO.none _
  | refine LeO.ite ?_ ?_
  | refine LeO.bind ?_ (fun _ => ?_)
theorem turnstonelaw09_LagMoves.mono : ∀ a0 a1 a2 a3 k, LeO (turnstonelaw09_LagMoves.f k a0 a1 a2 a3) (turnstonelaw09_LagMoves.f (k + 1) a0 a1 a2 a3) := by
 intro a0 a1 a2 a3 k
 obtain ⟨ih0, ih1, ih2, ih3, ih4⟩ := turnstonelaw09_LagMoves.mono_l k
 unfold turnstonelaw09_LagMoves.f
 repeat' first
   | (with_reducible exact ih0 _ _ _ _ _)
   | (with_reducible exact ih1 _ _ _ _ _ _ _)
   | (with_reducible exact ih2 _ _ _ _ _ _ _ _ _ _ _ _ _ _ _ _ _)
   | (with_reducible exact ih3 _ _ _ _ _ _ _ _ _ _ _ _ _ _ _ _ _ _)
   | (with_reducible exact ih4 _ _ _ _ _ _ _ _ _ _ _ _ _ _ _ _ _ _ _ _ _ _ _ _ _)
   | (with_reducible exact lag_Read.mono _ _ _ _ _ _ _ _ _)
   | (with_reducible exact mean_Mean_Add.mono _ _ _ _ _ _ _ _ _)
   | (with_reducible exact mean_Mean_Take.mono _ _ _ _ _ _ _ _ _)
   | (with_reducible exact mean_Of.mono _ _ _)
   | (with_reducible exact pos_Pos_Move.mono _ _ _ _ _)
   | (with_reducible exact LeO.refl _)
   | (with_reducible exact LeO.none _)
   | (with_reducible refine LeO.ite ?_ ?_)
   | (with_reducible refine LeO.bind ?_ (fun _ => ?_))
   | exact ih0 _ _ _ _ _
   | exact ih1 _ _ _ _ _ _ _
   | exact ih2 _ _ _ _ _ _ _ _ _ _ _ _ _ _ _ _ _
   | exact ih3 _ _ _ _ _ _ _ _ _ _ _ _ _ _ _ _ _ _
   | exact ih4 _ _ _ _ _ _ _ _ _ _ _ _ _ _ _ _ _ _ _ _ _ _ _ _ _
   | exact lag_Read.mono _ _ _ _ _ _ _ _ _
   | exact mean_Mean_Add.mono _ _ _ _ _ _ _ _ _
   | exact mean_Mean_Take.mono _ _ _ _ _ _ _ _ _
   | exact mean_Of.mono _ _ _
   | exact pos_Pos_Move.mono _ _ _ _ _
   | exact LeO.none _
   | refine LeO.ite ?_ ?_
   | refine LeO.bind ?_ (fun _ => ?_)
def turnstonelaw09_LagMoves.T15 : Bool × List (List Nat × List Nat) := (true, [([], []), ([], []), ([], []), ([1, 2], [1, 2]), ([3], [3]), ([0, 4], [0, 4]), ([5], [5]), ([6], [6]), ([6], [6]), ([], []), ([9, 7, 5, 0, 1, 2, 3, 4, 5, 6, 7, 9], [7, 9]), ([8, 10, 0, 1, 2, 3, 4, 5, 6, 7, 8, 9, 10], [8])])
def turnstonelaw09_LagMoves.B15 : List Nat := [0, 0, 0, 6, 14, 31, 63, 127, 127, 0, 767, 2047]
theorem turnstonelaw09_LagMoves.tab15 : rtab .any (opsOf Tryz.f4 15) = turnstonelaw09_LagMoves.T15 := by kernel_rfl
theorem turnstonelaw09_LagMoves.bits15 : waitsOk turnstonelaw09_LagMoves.T15.2 turnstonelaw09_LagMoves.B15 = true := by kernel_rfl
set_option maxHeartbeats 8000000 in
set_option maxRecDepth 100000 in
theorem turnstonelaw09_LagMoves.calls (k : Nat) (a0 : Int) (A1 : Option Addr) (c1 : Nat) (l1 : List (S28)) (a2 : Int) (a3 : Int) (r : Bool) (w : World) (hr1 : Kd.C k28 w A1 l1.length l1) (hc1 : l1.length ≤ c1) (h : turnstonelaw09_LagMoves.f k a0 l1 a2 a3 = some r) :
  Calls Tryz.prog 4 #[.int .u64 a0, .slice A1 l1.length c1, .int .u8 a2, .int .u64 a3] w fun e w' => e = .returned (.bool r) ∧ Below w.heap.size w w' := by
 have hu28 := Tryz.underlying28
 have hu33 := Tryz.underlying33
 have hu31 := Tryz.underlying31
 have HR1 := Aside0.mk hr1
 have HC1 := Aside0.mk hc1
 clear hr1 hc1
 have HB := Aside0.mk (Below.refl w.heap.size w)
 have H : ((turnstonelaw09_awake.f).bind fun t274 => (if t274 = true then (if (l1.length : Int) > 32 then (turnstonelaw09_LagMoves.j0 k a0 l1 a2 a3 true) else (if (l1.length : Int) = 0 then (turnstonelaw09_LagMoves.j0 k a0 l1 a2 a3 true) else (turnstonelaw09_LagMoves.j0 k a0 l1 a2 a3 (decide (a3 > 288230376151711744))))) else (none))) = some r := h
 clear h
 replace H := Option.bind_eq_some_iff.mp H
 obtain ⟨t274, A50, H⟩ := H
 replace H : (if t274 = true then (if (l1.length : Int) > 32 then (turnstonelaw09_LagMoves.j0 k a0 l1 a2 a3 true) else (if (l1.length : Int) = 0 then (turnstonelaw09_LagMoves.j0 k a0 l1 a2 a3 true) else (turnstonelaw09_LagMoves.j0 k a0 l1 a2 a3 (decide (a3 > 288230376151711744))))) else (none)) = some r := H
 have A5 := Aside0.mk A50
 clear A50
 by_cases c6 : t274 = true
 ·subst c6
  have H1 : (if (l1.length : Int) > 32 then (turnstonelaw09_LagMoves.j0 k a0 l1 a2 a3 true) else (if (l1.length : Int) = 0 then (turnstonelaw09_LagMoves.j0 k a0 l1 a2 a3 true) else (turnstonelaw09_LagMoves.j0 k a0 l1 a2 a3 (decide (a3 > 288230376151711744))))) = some r := by rw [if_pos rfl] at H; exact H
  clear H
  have H := H1
  clear H1
  have HC7 := Aside0.mk H
  clear H
  go_enter Tryz.func4, Tryz.ntmps4
  go_upto_region 3 with (first | ((with_reducible refine gate_callee (f := 15) rfl ?_); refine goesL_ (some 32) rfl rfl Tryz.func15 (by kernel_rfl) rfl #[] rfl argt ?_; (with_reducible refine (turnstonelaw09_awake.calls  true _ A5.out).mono ?_); rintro e w8 ⟨rfl, hb⟩; refine ⟨_, rfl, ?_⟩; replace HB := belb HB hb; (try clear hb); (try clear hb2); (try clear hk); (try clear hi)))
  (try simp only [Act.put, List.setIfInBounds_toArray, List.set_cons_zero, List.set_cons_succ])
  go_cut [45] (fun v45 wc => ∃ (kq : Nat) (x45_6 : Bool), v45 = .bool x45_6 ∧ Aside0 (turnstonelaw09_LagMoves.j0 kq a0 l1 a2 a3 x45_6 = some r) ∧ Aside0 (kq ≤ k) ∧ Aside0 (Below w.heap.size w wc))
  case first =>
   have H := HC7.out
   clear HC7
   by_cases c9 : (l1.length : Int) > 32
   ·rw [if_pos c9] at H
    have c9b0 : decide (32 < (l1.length : Int)) = true := decide_eq_true c9
    have c9b1 : decide (32 < l1.length) = true := decide_eq_true (by omega)
    clear c9
    (first | rw [c9b0] | (simp only [i64_w, i32_w]; rw [c9b0]) | skip)
    have H' := Aside0.mk H
    clear H
    go_wp2
    go_meet
    case rel => exact ⟨_, (true), (by first | rfl | (simp; done) | (simp [*]; done)), H', ⟨by first | omega | exact Nat.le_refl _⟩, ⟨belt HB⟩⟩
   rw [if_neg c9] at H
   have c9b0 : decide (32 < (l1.length : Int)) = false := decide_eq_false c9
   have c9b1 : decide (32 < l1.length) = false := decide_eq_false (by omega)
   clear c9
   (first | rw [c9b0] | (simp only [i64_w, i32_w]; rw [c9b0]) | skip)
   by_cases c10 : (l1.length : Int) = 0
   ·rw [if_pos c10] at H
    have c10b0 : ((l1.length : Int) == 0) = true := beq_iff_eq.mpr c10
    have c10b1 : ((l1.length : Int) != 0) = false := bne_eq_false_iff_eq.mpr c10
    clear c10
    have H' := Aside0.mk H
    clear H
    go_wp2
    go_meet
    case rel => exact ⟨_, (true), (by first | rfl | (simp; done) | (simp [*]; done)), H', ⟨by first | omega | exact Nat.le_refl _⟩, ⟨belt HB⟩⟩
   rw [if_neg c10] at H
   have c10b0 : ((l1.length : Int) == 0) = false := beq_eq_false_iff_ne.mpr c10
   have c10b1 : ((l1.length : Int) != 0) = true := bne_iff_ne.mpr c10
   have c10b2 : ¬ (l1 = []) := fun h_ => c10 (by rw [h_]; rfl)
   have H' := Aside0.mk H
   clear H
   go_wp2
   go_meet
   case rel => exact ⟨_, (decide (a3 > 288230376151711744)), (by first | rfl | (simp; done) | (simp [*]; done)), H', ⟨by first | omega | exact Nat.le_refl _⟩, ⟨belt HB⟩⟩
  case rest =>
   clear HC7
   try clear c1
   try clear p2
   try clear c4
   try clear c6
   try clear c9
   try clear c9b0
   try clear c9b1
   try clear c10
   try clear c10b0
   try clear c10b1
   try clear c10b2
   obtain ⟨kq, x45_6, rfl, HA, HJ6, HB⟩ := hcut
   cases kq with
   | zero => exact absurd HA.out (by simp [turnstonelaw09_LagMoves.j0])
   | succ kj6 =>
    have H := HA.out
    clear HA
    simp only [turnstonelaw09_LagMoves.j0] at H
    by_cases c11 : x45_6 = true
    ·subst c11
     have H1 : (some true) = some r := by rw [if_pos rfl] at H; exact H
     clear H
     have H := H1
     clear H1
     obtain rfl := Option.some.inj H
     go_wp2
     go_ret
     exact ⟨by first | rfl | (simp [errW_none, errW_some] <;> rfl) | (simp [*, errW_none, errW_some] <;> rfl), belt HB⟩
    replace c11 := Bool.eq_false_iff.mpr c11
    subst c11
    have H1 : (turnstonelaw09_LagMoves.l0 kj6 a0 l1 a2 a3 l1 (l1.length : Int) 0) = some r := by rw [if_neg (show ¬ (false = true) by decide)] at H; exact H
    clear H
    have H := H1
    clear H1
    have H' := Aside0.mk H
    clear H
    go_wp2
    (try simp only [Act.put, List.setIfInBounds_toArray, List.set_cons_zero, List.set_cons_succ])
    go_loopg [48] kj6 (fun kq v48 w' => ∃ (x48_2 : Int), v48 = .int .i64 x48_2 ∧ Aside0 (turnstonelaw09_LagMoves.l0 kq a0 l1 a2 a3 l1 (l1.length : Int) x48_2 = some r) ∧ Aside0 (kq ≤ kj6) ∧ Aside0 (Below w.heap.size w w'))
    case atStart => exact ⟨(0), (by first | rfl | (simp; done) | (simp [*]; done)), H', ⟨Nat.le_refl _⟩, ⟨belt HB⟩⟩
    case round =>
     clear H'
     try clear c1
     try clear p2
     try clear c4
     try clear c6
     try clear c9
     try clear c9b0
     try clear c9b1
     try clear c10
     try clear c10b0
     try clear c10b1
     try clear c10b2
     try clear c11
     try clear p2
     obtain ⟨x48_2, rfl, HA, HK2, HB⟩ := hrel
     cases gk with
     | zero => exact absurd HA.out (by simp [turnstonelaw09_LagMoves.l0])
     | succ k2 =>
      have H := HA.out
      clear HA
      simp only [turnstonelaw09_LagMoves.l0] at H
      by_cases c12 : x48_2 < (l1.length : Int)
      ·rw [if_pos c12] at H
       have c12b0 : decide (x48_2 < (l1.length : Int)) = true := decide_eq_true c12
       clear c12
       by_cases c13 : 0 ≤ x48_2
       ·rw [if_pos c13] at H
        have c13b0 : decide (0 ≤ x48_2) = true := decide_eq_true c13
        clear c13
        by_cases c14 : x48_2 < (l1.length : Int)
        ·rw [if_pos c14] at H
         have c14b0 : decide (x48_2 < (l1.length : Int)) = true := decide_eq_true c14
         clear c14
         replace H := Option.bind_eq_some_iff.mp H
         obtain ⟨t277, A150, H⟩ := H
         replace H : ((pos_Pos_Right.f ((rd_T28 l1 x48_2).f0) ((rd_T28 l1 x48_2).f1) ((rd_T28 l1 x48_2).f2)).bind fun t278 => (if t278 = true then (if t277 ≤ (-576460752303423488) then (some true) else (if t277 ≥ 576460752303423488 then (some true) else (turnstonelaw09_LagMoves.l0 k2 a0 l1 a2 a3 l1 (l1.length : Int) (wrap64 (x48_2 + 1))))) else (some true))) = some r := H
         have A15 := Aside0.mk A150
         clear A150
         replace H := Option.bind_eq_some_iff.mp H
         obtain ⟨t278, A160, H⟩ := H
         replace H : (if t278 = true then (if t277 ≤ (-576460752303423488) then (some true) else (if t277 ≥ 576460752303423488 then (some true) else (turnstonelaw09_LagMoves.l0 k2 a0 l1 a2 a3 l1 (l1.length : Int) (wrap64 (x48_2 + 1))))) else (some true)) = some r := H
         have A16 := Aside0.mk A160
         clear A160
         by_cases c17 : t278 = true
         ·subst c17
          have H1 : (if t277 ≤ (-576460752303423488) then (some true) else (if t277 ≥ 576460752303423488 then (some true) else (turnstonelaw09_LagMoves.l0 k2 a0 l1 a2 a3 l1 (l1.length : Int) (wrap64 (x48_2 + 1))))) = some r := by rw [if_pos rfl] at H; exact H
          clear H
          have H := H1
          clear H1
          by_cases c18 : t277 ≤ (-576460752303423488)
          ·rw [if_pos c18] at H
           have c18b0 : decide (t277 ≤ (-576460752303423488)) = true := decide_eq_true c18
           clear c18
           obtain rfl := Option.some.inj H
           have p275 : 0 ≤ (x48_2 : Int) := of_decide_eq_true (by first | (with_reducible assumption) | assumption)
           have q275 : x48_2 < (l1.length : Int) := of_decide_eq_true (by first | (with_reducible assumption) | assumption)
           obtain ⟨ad275, e275, hx275_0, hx275_1, hx275_2⟩ := at_T28 HR1.out x48_2 p275 q275
           cases e275
           replace hx275_0 := (HB.out.cell (World.block_lt_of_cell? w _ hx275_0)).trans hx275_0
           replace hx275_1 := (HB.out.cell (World.block_lt_of_cell? w _ hx275_1)).trans hx275_1
           replace hx275_2 := (HB.out.cell (World.block_lt_of_cell? w _ hx275_2)).trans hx275_2
           replace p275 := eq_true p275
           replace q275 := eq_true q275
           go_wp2_with (first | ((with_reducible refine gate_dst (N := 10) rfl ?_); (try (refine gate_guard (by rfl) ?_; dsimp only)); refine box_event ?hg (N := 10) ?hd (cs := #[.int .u64 0, .int .u32 0, .int .u32 0]) (t := 28) ?hr ?_; (case hd => rfl); (case hg => rfl); (case hr => first | (go_simp; done) | (go_simp; rfl)); intro gb276 hg w19 hbox hb; have BK276 := Aside0.mk (hbox); have GW276 := bels HB hg; have GE276 := bels HB hg; replace HB := belb HB hb; clear hb hbox hg; have hcz20_0 : w19.cell? ⟨gb276, 0, none⟩ = some (.int .u64 0) := bc BK276 0; have hcz20_1 : w19.cell? ⟨gb276, 1, none⟩ = some (.int .u32 0) := bc BK276 1; have hcz20_2 : w19.cell? ⟨gb276, 2, none⟩ = some (.int .u32 0) := bc BK276 2; have hfz20_0 := blk_frozen BK276.out 0; have hfz20_1 := blk_frozen BK276.out 1; have hfz20_2 := blk_frozen BK276.out 2) | ((with_reducible refine gate_callee (f := 16) rfl ?_); refine goesL_ (some 55) rfl rfl Tryz.func16 (by kernel_rfl) rfl #[.int .u64 ((rd_T28 l1 x48_2).f0), .int .u64 a0] rfl argt ?_; (with_reducible refine (vtime_Time_Since.calls ((rd_T28 l1 x48_2).f0) a0 t277 _ A15.out).mono ?_); rintro e w' ⟨rfl, ⟨nd, rfl⟩⟩; refine ⟨_, rfl, ?_⟩) | ((with_reducible refine gate_callee (f := 17) rfl ?_); refine goesL_ (some 57) rfl rfl Tryz.func17 (by kernel_rfl) rfl #[.agg #[.int .u64 ((rd_T28 l1 x48_2).f0), .int .u32 ((rd_T28 l1 x48_2).f1), .int .u32 ((rd_T28 l1 x48_2).f2)]] rfl argt ?_; (with_reducible refine (pos_Pos_Right.calls ((rd_T28 l1 x48_2).f0) ((rd_T28 l1 x48_2).f1) ((rd_T28 l1 x48_2).f2) true _ A16.out).mono ?_); rintro e w21 ⟨rfl, hb⟩; refine ⟨_, rfl, ?_⟩; replace BK276 := Aside0.mk (blk_below (g := gb276) (o := .cells #[.int .u64 ((rd_T28 l1 x48_2).f0), .int .u32 ((rd_T28 l1 x48_2).f1), .int .u32 ((rd_T28 l1 x48_2).f2)] 28 (0, 0)) (by (with_reducible repeat (first | refine blk_drewN ?_ _ | refine blk_drew ?_ | refine blk_alloc ?_ _)); refine blk_put (cs := #[.int .u64 ((rd_T28 l1 x48_2).f0), .int .u32 ((rd_T28 l1 x48_2).f1), .int .u32 0]) ?_ 2 _ rfl; (with_reducible repeat (first | refine blk_drewN ?_ _ | refine blk_drew ?_ | refine blk_alloc ?_ _)); refine blk_put (cs := #[.int .u64 ((rd_T28 l1 x48_2).f0), .int .u32 0, .int .u32 0]) ?_ 1 _ rfl; (with_reducible repeat (first | refine blk_drewN ?_ _ | refine blk_drew ?_ | refine blk_alloc ?_ _)); refine blk_put (cs := #[.int .u64 0, .int .u32 0, .int .u32 0]) ?_ 0 _ rfl; exact blkt BK276) hb); replace HB := belb HB hb; (try clear hb); (try clear hb2); (try clear hk); (try clear hi)))
           go_ret
           exact ⟨by first | rfl | (simp [errW_none, errW_some] <;> rfl) | (simp [*, errW_none, errW_some] <;> rfl), belt HB⟩
          rw [if_neg c18] at H
          have c18b0 : decide (t277 ≤ (-576460752303423488)) = false := decide_eq_false c18
          clear c18
          by_cases c22 : t277 ≥ 576460752303423488
          ·rw [if_pos c22] at H
           have c22b0 : decide (576460752303423488 ≤ t277) = true := decide_eq_true c22
           clear c22
           obtain rfl := Option.some.inj H
           have p275 : 0 ≤ (x48_2 : Int) := of_decide_eq_true (by first | (with_reducible assumption) | assumption)
           have q275 : x48_2 < (l1.length : Int) := of_decide_eq_true (by first | (with_reducible assumption) | assumption)
           obtain ⟨ad275, e275, hx275_0, hx275_1, hx275_2⟩ := at_T28 HR1.out x48_2 p275 q275
           cases e275
           replace hx275_0 := (HB.out.cell (World.block_lt_of_cell? w _ hx275_0)).trans hx275_0
           replace hx275_1 := (HB.out.cell (World.block_lt_of_cell? w _ hx275_1)).trans hx275_1
           replace hx275_2 := (HB.out.cell (World.block_lt_of_cell? w _ hx275_2)).trans hx275_2
           replace p275 := eq_true p275
           replace q275 := eq_true q275
           go_wp2_with (first | ((with_reducible refine gate_dst (N := 10) rfl ?_); (try (refine gate_guard (by rfl) ?_; dsimp only)); refine box_event ?hg (N := 10) ?hd (cs := #[.int .u64 0, .int .u32 0, .int .u32 0]) (t := 28) ?hr ?_; (case hd => rfl); (case hg => rfl); (case hr => first | (go_simp; done) | (go_simp; rfl)); intro gb276 hg w23 hbox hb; have BK276 := Aside0.mk (hbox); have GW276 := bels HB hg; have GE276 := bels HB hg; replace HB := belb HB hb; clear hb hbox hg; have hcz24_0 : w23.cell? ⟨gb276, 0, none⟩ = some (.int .u64 0) := bc BK276 0; have hcz24_1 : w23.cell? ⟨gb276, 1, none⟩ = some (.int .u32 0) := bc BK276 1; have hcz24_2 : w23.cell? ⟨gb276, 2, none⟩ = some (.int .u32 0) := bc BK276 2; have hfz24_0 := blk_frozen BK276.out 0; have hfz24_1 := blk_frozen BK276.out 1; have hfz24_2 := blk_frozen BK276.out 2) | ((with_reducible refine gate_callee (f := 16) rfl ?_); refine goesL_ (some 55) rfl rfl Tryz.func16 (by kernel_rfl) rfl #[.int .u64 ((rd_T28 l1 x48_2).f0), .int .u64 a0] rfl argt ?_; (with_reducible refine (vtime_Time_Since.calls ((rd_T28 l1 x48_2).f0) a0 t277 _ A15.out).mono ?_); rintro e w' ⟨rfl, ⟨nd, rfl⟩⟩; refine ⟨_, rfl, ?_⟩) | ((with_reducible refine gate_callee (f := 17) rfl ?_); refine goesL_ (some 57) rfl rfl Tryz.func17 (by kernel_rfl) rfl #[.agg #[.int .u64 ((rd_T28 l1 x48_2).f0), .int .u32 ((rd_T28 l1 x48_2).f1), .int .u32 ((rd_T28 l1 x48_2).f2)]] rfl argt ?_; (with_reducible refine (pos_Pos_Right.calls ((rd_T28 l1 x48_2).f0) ((rd_T28 l1 x48_2).f1) ((rd_T28 l1 x48_2).f2) true _ A16.out).mono ?_); rintro e w25 ⟨rfl, hb⟩; refine ⟨_, rfl, ?_⟩; replace BK276 := Aside0.mk (blk_below (g := gb276) (o := .cells #[.int .u64 ((rd_T28 l1 x48_2).f0), .int .u32 ((rd_T28 l1 x48_2).f1), .int .u32 ((rd_T28 l1 x48_2).f2)] 28 (0, 0)) (by (with_reducible repeat (first | refine blk_drewN ?_ _ | refine blk_drew ?_ | refine blk_alloc ?_ _)); refine blk_put (cs := #[.int .u64 ((rd_T28 l1 x48_2).f0), .int .u32 ((rd_T28 l1 x48_2).f1), .int .u32 0]) ?_ 2 _ rfl; (with_reducible repeat (first | refine blk_drewN ?_ _ | refine blk_drew ?_ | refine blk_alloc ?_ _)); refine blk_put (cs := #[.int .u64 ((rd_T28 l1 x48_2).f0), .int .u32 0, .int .u32 0]) ?_ 1 _ rfl; (with_reducible repeat (first | refine blk_drewN ?_ _ | refine blk_drew ?_ | refine blk_alloc ?_ _)); refine blk_put (cs := #[.int .u64 0, .int .u32 0, .int .u32 0]) ?_ 0 _ rfl; exact blkt BK276) hb); replace HB := belb HB hb; (try clear hb); (try clear hb2); (try clear hk); (try clear hi)))
           go_ret
           exact ⟨by first | rfl | (simp [errW_none, errW_some] <;> rfl) | (simp [*, errW_none, errW_some] <;> rfl), belt HB⟩
          rw [if_neg c22] at H
          have c22b0 : decide (576460752303423488 ≤ t277) = false := decide_eq_false c22
          clear c22
          have H' := Aside0.mk H
          clear H
          have p275 : 0 ≤ (x48_2 : Int) := of_decide_eq_true (by first | (with_reducible assumption) | assumption)
          have q275 : x48_2 < (l1.length : Int) := of_decide_eq_true (by first | (with_reducible assumption) | assumption)
          obtain ⟨ad275, e275, hx275_0, hx275_1, hx275_2⟩ := at_T28 HR1.out x48_2 p275 q275
          cases e275
          replace hx275_0 := (HB.out.cell (World.block_lt_of_cell? w _ hx275_0)).trans hx275_0
          replace hx275_1 := (HB.out.cell (World.block_lt_of_cell? w _ hx275_1)).trans hx275_1
          replace hx275_2 := (HB.out.cell (World.block_lt_of_cell? w _ hx275_2)).trans hx275_2
          replace p275 := eq_true p275
          replace q275 := eq_true q275
          go_wp2_with (first | ((with_reducible refine gate_dst (N := 10) rfl ?_); (try (refine gate_guard (by rfl) ?_; dsimp only)); refine box_event ?hg (N := 10) ?hd (cs := #[.int .u64 0, .int .u32 0, .int .u32 0]) (t := 28) ?hr ?_; (case hd => rfl); (case hg => rfl); (case hr => first | (go_simp; done) | (go_simp; rfl)); intro gb276 hg w26 hbox hb; have BK276 := Aside0.mk (hbox); have GW276 := bels HB hg; have GE276 := bels HB hg; replace HB := belb HB hb; clear hb hbox hg; have hcz27_0 : w26.cell? ⟨gb276, 0, none⟩ = some (.int .u64 0) := bc BK276 0; have hcz27_1 : w26.cell? ⟨gb276, 1, none⟩ = some (.int .u32 0) := bc BK276 1; have hcz27_2 : w26.cell? ⟨gb276, 2, none⟩ = some (.int .u32 0) := bc BK276 2; have hfz27_0 := blk_frozen BK276.out 0; have hfz27_1 := blk_frozen BK276.out 1; have hfz27_2 := blk_frozen BK276.out 2) | ((with_reducible refine gate_callee (f := 16) rfl ?_); refine goesL_ (some 55) rfl rfl Tryz.func16 (by kernel_rfl) rfl #[.int .u64 ((rd_T28 l1 x48_2).f0), .int .u64 a0] rfl argt ?_; (with_reducible refine (vtime_Time_Since.calls ((rd_T28 l1 x48_2).f0) a0 t277 _ A15.out).mono ?_); rintro e w' ⟨rfl, ⟨nd, rfl⟩⟩; refine ⟨_, rfl, ?_⟩) | ((with_reducible refine gate_callee (f := 17) rfl ?_); refine goesL_ (some 57) rfl rfl Tryz.func17 (by kernel_rfl) rfl #[.agg #[.int .u64 ((rd_T28 l1 x48_2).f0), .int .u32 ((rd_T28 l1 x48_2).f1), .int .u32 ((rd_T28 l1 x48_2).f2)]] rfl argt ?_; (with_reducible refine (pos_Pos_Right.calls ((rd_T28 l1 x48_2).f0) ((rd_T28 l1 x48_2).f1) ((rd_T28 l1 x48_2).f2) true _ A16.out).mono ?_); rintro e w28 ⟨rfl, hb⟩; refine ⟨_, rfl, ?_⟩; replace BK276 := Aside0.mk (blk_below (g := gb276) (o := .cells #[.int .u64 ((rd_T28 l1 x48_2).f0), .int .u32 ((rd_T28 l1 x48_2).f1), .int .u32 ((rd_T28 l1 x48_2).f2)] 28 (0, 0)) (by (with_reducible repeat (first | refine blk_drewN ?_ _ | refine blk_drew ?_ | refine blk_alloc ?_ _)); refine blk_put (cs := #[.int .u64 ((rd_T28 l1 x48_2).f0), .int .u32 ((rd_T28 l1 x48_2).f1), .int .u32 0]) ?_ 2 _ rfl; (with_reducible repeat (first | refine blk_drewN ?_ _ | refine blk_drew ?_ | refine blk_alloc ?_ _)); refine blk_put (cs := #[.int .u64 ((rd_T28 l1 x48_2).f0), .int .u32 0, .int .u32 0]) ?_ 1 _ rfl; (with_reducible repeat (first | refine blk_drewN ?_ _ | refine blk_drew ?_ | refine blk_alloc ?_ _)); refine blk_put (cs := #[.int .u64 0, .int .u32 0, .int .u32 0]) ?_ 0 _ rfl; exact blkt BK276) hb); replace HB := belb HB hb; (try clear hb); (try clear hb2); (try clear hk); (try clear hi)))
          go_roundg k2
          case measure => have := HJ6.out; have := HK2.out; omega
          case rel => exact ⟨(wrap64 (x48_2 + 1)), (by first | rfl | (simp; done) | (simp [*]; done)), H', ⟨by have := HJ6.out; have := HK2.out; omega⟩, ⟨belt HB⟩⟩
         replace c17 := Bool.eq_false_iff.mpr c17
         subst c17
         have H1 : (some true) = some r := by rw [if_neg (show ¬ (false = true) by decide)] at H; exact H
         clear H
         have H := H1
         clear H1
         obtain rfl := Option.some.inj H
         have p275 : 0 ≤ (x48_2 : Int) := of_decide_eq_true (by first | (with_reducible assumption) | assumption)
         have q275 : x48_2 < (l1.length : Int) := of_decide_eq_true (by first | (with_reducible assumption) | assumption)
         obtain ⟨ad275, e275, hx275_0, hx275_1, hx275_2⟩ := at_T28 HR1.out x48_2 p275 q275
         cases e275
         replace hx275_0 := (HB.out.cell (World.block_lt_of_cell? w _ hx275_0)).trans hx275_0
         replace hx275_1 := (HB.out.cell (World.block_lt_of_cell? w _ hx275_1)).trans hx275_1
         replace hx275_2 := (HB.out.cell (World.block_lt_of_cell? w _ hx275_2)).trans hx275_2
         replace p275 := eq_true p275
         replace q275 := eq_true q275
         go_wp2_with (first | ((with_reducible refine gate_dst (N := 10) rfl ?_); (try (refine gate_guard (by rfl) ?_; dsimp only)); refine box_event ?hg (N := 10) ?hd (cs := #[.int .u64 0, .int .u32 0, .int .u32 0]) (t := 28) ?hr ?_; (case hd => rfl); (case hg => rfl); (case hr => first | (go_simp; done) | (go_simp; rfl)); intro gb276 hg w29 hbox hb; have BK276 := Aside0.mk (hbox); have GW276 := bels HB hg; have GE276 := bels HB hg; replace HB := belb HB hb; clear hb hbox hg; have hcz30_0 : w29.cell? ⟨gb276, 0, none⟩ = some (.int .u64 0) := bc BK276 0; have hcz30_1 : w29.cell? ⟨gb276, 1, none⟩ = some (.int .u32 0) := bc BK276 1; have hcz30_2 : w29.cell? ⟨gb276, 2, none⟩ = some (.int .u32 0) := bc BK276 2; have hfz30_0 := blk_frozen BK276.out 0; have hfz30_1 := blk_frozen BK276.out 1; have hfz30_2 := blk_frozen BK276.out 2) | ((with_reducible refine gate_callee (f := 16) rfl ?_); refine goesL_ (some 55) rfl rfl Tryz.func16 (by kernel_rfl) rfl #[.int .u64 ((rd_T28 l1 x48_2).f0), .int .u64 a0] rfl argt ?_; (with_reducible refine (vtime_Time_Since.calls ((rd_T28 l1 x48_2).f0) a0 t277 _ A15.out).mono ?_); rintro e w' ⟨rfl, ⟨nd, rfl⟩⟩; refine ⟨_, rfl, ?_⟩) | ((with_reducible refine gate_callee (f := 17) rfl ?_); refine goesL_ (some 57) rfl rfl Tryz.func17 (by kernel_rfl) rfl #[.agg #[.int .u64 ((rd_T28 l1 x48_2).f0), .int .u32 ((rd_T28 l1 x48_2).f1), .int .u32 ((rd_T28 l1 x48_2).f2)]] rfl argt ?_; (with_reducible refine (pos_Pos_Right.calls ((rd_T28 l1 x48_2).f0) ((rd_T28 l1 x48_2).f1) ((rd_T28 l1 x48_2).f2) false _ A16.out).mono ?_); rintro e w31 ⟨rfl, hb⟩; refine ⟨_, rfl, ?_⟩; replace BK276 := Aside0.mk (blk_below (g := gb276) (o := .cells #[.int .u64 ((rd_T28 l1 x48_2).f0), .int .u32 ((rd_T28 l1 x48_2).f1), .int .u32 ((rd_T28 l1 x48_2).f2)] 28 (0, 0)) (by (with_reducible repeat (first | refine blk_drewN ?_ _ | refine blk_drew ?_ | refine blk_alloc ?_ _)); refine blk_put (cs := #[.int .u64 ((rd_T28 l1 x48_2).f0), .int .u32 ((rd_T28 l1 x48_2).f1), .int .u32 0]) ?_ 2 _ rfl; (with_reducible repeat (first | refine blk_drewN ?_ _ | refine blk_drew ?_ | refine blk_alloc ?_ _)); refine blk_put (cs := #[.int .u64 ((rd_T28 l1 x48_2).f0), .int .u32 0, .int .u32 0]) ?_ 1 _ rfl; (with_reducible repeat (first | refine blk_drewN ?_ _ | refine blk_drew ?_ | refine blk_alloc ?_ _)); refine blk_put (cs := #[.int .u64 0, .int .u32 0, .int .u32 0]) ?_ 0 _ rfl; exact blkt BK276) hb); replace HB := belb HB hb; (try clear hb); (try clear hb2); (try clear hk); (try clear hi)))
         go_ret
         exact ⟨by first | rfl | (simp [errW_none, errW_some] <;> rfl) | (simp [*, errW_none, errW_some] <;> rfl), belt HB⟩
        rw [if_neg c14] at H
        exact absurd H (by simp)
       rw [if_neg c13] at H
       exact absurd H (by simp)
      rw [if_neg c12] at H
      have c12b0 : decide (x48_2 < (l1.length : Int)) = false := decide_eq_false c12
      clear c12
      by_cases c32 : (l1.length : Int) = 0
      ·rw [if_pos c32] at H
       exact absurd H (by simp)
      rw [if_neg c32] at H
      have c32b0 : ((l1.length : Int) == 0) = false := beq_eq_false_iff_ne.mpr c32
      have c32b1 : ((l1.length : Int) != 0) = true := bne_iff_ne.mpr c32
      have c32b2 : ¬ (l1 = []) := fun h_ => c32 (by rw [h_]; rfl)
      obtain ⟨ji33, hji33⟩ : ∃ j_ : Int, (Int.tmod (wrap64 (a2)) (l1.length : Int)) = j_ := ⟨_, rfl⟩
      replace H : (if 0 ≤ (ji33) then (if (ji33) < (l1.length : Int) then ((pos_Pos_Move.f k2 ((rd_T28 l1 (ji33)).f0) ((rd_T28 l1 (ji33)).f1) ((rd_T28 l1 (ji33)).f2) a3).bind fun bt280 => ((mean_Of.f k2 a0 l1).bind fun bt285 => ((mean_Mean_Take.f k2 bt285.1 bt285.2.1 bt285.2.2.1 bt285.2.2.2.1 bt285.2.2.2.2.1 ((rd_T28 l1 (ji33)).f0) ((rd_T28 l1 (ji33)).f1) ((rd_T28 l1 (ji33)).f2)).bind fun bt293 => ((mean_Mean_Add.f k2 bt293.1 bt293.2.1 bt293.2.2.1 bt293.2.2.2.1 bt293.2.2.2.2.1 bt280.1 bt280.2.1 bt280.2.2.1).bind fun bt300 => (if bt280.2.2.2 = true then (if bt285.2.2.2.2.2 = true then (if bt293.2.2.2.2.2 = true then (turnstonelaw09_LagMoves.j2 k2 l1 a3 ji33 (!bt300.2.2.2.2.2) bt280.1 bt280.2.1 bt280.2.2.1 bt285.1 bt285.2.1 bt285.2.2.1 bt285.2.2.2.1 bt285.2.2.2.2.1 bt300.1 bt300.2.1 bt300.2.2.1 bt300.2.2.2.1 bt300.2.2.2.2.1) else (turnstonelaw09_LagMoves.j2 k2 l1 a3 ji33 true bt280.1 bt280.2.1 bt280.2.2.1 bt285.1 bt285.2.1 bt285.2.2.1 bt285.2.2.2.1 bt285.2.2.2.2.1 bt300.1 bt300.2.1 bt300.2.2.1 bt300.2.2.2.1 bt300.2.2.2.2.1)) else (turnstonelaw09_LagMoves.j2 k2 l1 a3 ji33 true bt280.1 bt280.2.1 bt280.2.2.1 bt285.1 bt285.2.1 bt285.2.2.1 bt285.2.2.2.1 bt285.2.2.2.2.1 bt300.1 bt300.2.1 bt300.2.2.1 bt300.2.2.2.1 bt300.2.2.2.2.1)) else (turnstonelaw09_LagMoves.j2 k2 l1 a3 ji33 true bt280.1 bt280.2.1 bt280.2.2.1 bt285.1 bt285.2.1 bt285.2.2.1 bt285.2.2.2.1 bt285.2.2.2.2.1 bt300.1 bt300.2.1 bt300.2.2.1 bt300.2.2.2.1 bt300.2.2.2.2.1)))))) else (none)) else (none)) = some r := by first | (rw [hji33] at H; exact H) | (simp only [hji33] at H ⊢; exact H)
      by_cases c34 : 0 ≤ (ji33)
      ·rw [if_pos c34] at H
       have c34b0 : decide (0 ≤ (ji33)) = true := decide_eq_true c34
       clear c34
       by_cases c35 : (ji33) < (l1.length : Int)
       ·rw [if_pos c35] at H
        have c35b0 : decide ((ji33) < (l1.length : Int)) = true := decide_eq_true c35
        clear c35
        replace H := Option.bind_eq_some_iff.mp H
        obtain ⟨⟨t280, t281, t282, t283⟩, A360, H⟩ := H
        replace H : ((mean_Of.f k2 a0 l1).bind fun bt285 => ((mean_Mean_Take.f k2 bt285.1 bt285.2.1 bt285.2.2.1 bt285.2.2.2.1 bt285.2.2.2.2.1 ((rd_T28 l1 (ji33)).f0) ((rd_T28 l1 (ji33)).f1) ((rd_T28 l1 (ji33)).f2)).bind fun bt293 => ((mean_Mean_Add.f k2 bt293.1 bt293.2.1 bt293.2.2.1 bt293.2.2.2.1 bt293.2.2.2.2.1 t280 t281 t282).bind fun bt300 => (if t283 = true then (if bt285.2.2.2.2.2 = true then (if bt293.2.2.2.2.2 = true then (turnstonelaw09_LagMoves.j2 k2 l1 a3 ji33 (!bt300.2.2.2.2.2) t280 t281 t282 bt285.1 bt285.2.1 bt285.2.2.1 bt285.2.2.2.1 bt285.2.2.2.2.1 bt300.1 bt300.2.1 bt300.2.2.1 bt300.2.2.2.1 bt300.2.2.2.2.1) else (turnstonelaw09_LagMoves.j2 k2 l1 a3 ji33 true t280 t281 t282 bt285.1 bt285.2.1 bt285.2.2.1 bt285.2.2.2.1 bt285.2.2.2.2.1 bt300.1 bt300.2.1 bt300.2.2.1 bt300.2.2.2.1 bt300.2.2.2.2.1)) else (turnstonelaw09_LagMoves.j2 k2 l1 a3 ji33 true t280 t281 t282 bt285.1 bt285.2.1 bt285.2.2.1 bt285.2.2.2.1 bt285.2.2.2.2.1 bt300.1 bt300.2.1 bt300.2.2.1 bt300.2.2.2.1 bt300.2.2.2.2.1)) else (turnstonelaw09_LagMoves.j2 k2 l1 a3 ji33 true t280 t281 t282 bt285.1 bt285.2.1 bt285.2.2.1 bt285.2.2.2.1 bt285.2.2.2.2.1 bt300.1 bt300.2.1 bt300.2.2.1 bt300.2.2.2.1 bt300.2.2.2.2.1))))) = some r := H
        have A36 := Aside0.mk A360
        clear A360
        replace H := Option.bind_eq_some_iff.mp H
        obtain ⟨⟨t285, t286, t287, t288, t289, t290⟩, A370, H⟩ := H
        replace H : ((mean_Mean_Take.f k2 t285 t286 t287 t288 t289 ((rd_T28 l1 (ji33)).f0) ((rd_T28 l1 (ji33)).f1) ((rd_T28 l1 (ji33)).f2)).bind fun bt293 => ((mean_Mean_Add.f k2 bt293.1 bt293.2.1 bt293.2.2.1 bt293.2.2.2.1 bt293.2.2.2.2.1 t280 t281 t282).bind fun bt300 => (if t283 = true then (if t290 = true then (if bt293.2.2.2.2.2 = true then (turnstonelaw09_LagMoves.j2 k2 l1 a3 ji33 (!bt300.2.2.2.2.2) t280 t281 t282 t285 t286 t287 t288 t289 bt300.1 bt300.2.1 bt300.2.2.1 bt300.2.2.2.1 bt300.2.2.2.2.1) else (turnstonelaw09_LagMoves.j2 k2 l1 a3 ji33 true t280 t281 t282 t285 t286 t287 t288 t289 bt300.1 bt300.2.1 bt300.2.2.1 bt300.2.2.2.1 bt300.2.2.2.2.1)) else (turnstonelaw09_LagMoves.j2 k2 l1 a3 ji33 true t280 t281 t282 t285 t286 t287 t288 t289 bt300.1 bt300.2.1 bt300.2.2.1 bt300.2.2.2.1 bt300.2.2.2.2.1)) else (turnstonelaw09_LagMoves.j2 k2 l1 a3 ji33 true t280 t281 t282 t285 t286 t287 t288 t289 bt300.1 bt300.2.1 bt300.2.2.1 bt300.2.2.2.1 bt300.2.2.2.2.1)))) = some r := H
        have A37 := Aside0.mk A370
        clear A370
        replace H := Option.bind_eq_some_iff.mp H
        obtain ⟨⟨t293, t294, t295, t296, t297, t298⟩, A380, H⟩ := H
        replace H : ((mean_Mean_Add.f k2 t293 t294 t295 t296 t297 t280 t281 t282).bind fun bt300 => (if t283 = true then (if t290 = true then (if t298 = true then (turnstonelaw09_LagMoves.j2 k2 l1 a3 ji33 (!bt300.2.2.2.2.2) t280 t281 t282 t285 t286 t287 t288 t289 bt300.1 bt300.2.1 bt300.2.2.1 bt300.2.2.2.1 bt300.2.2.2.2.1) else (turnstonelaw09_LagMoves.j2 k2 l1 a3 ji33 true t280 t281 t282 t285 t286 t287 t288 t289 bt300.1 bt300.2.1 bt300.2.2.1 bt300.2.2.2.1 bt300.2.2.2.2.1)) else (turnstonelaw09_LagMoves.j2 k2 l1 a3 ji33 true t280 t281 t282 t285 t286 t287 t288 t289 bt300.1 bt300.2.1 bt300.2.2.1 bt300.2.2.2.1 bt300.2.2.2.2.1)) else (turnstonelaw09_LagMoves.j2 k2 l1 a3 ji33 true t280 t281 t282 t285 t286 t287 t288 t289 bt300.1 bt300.2.1 bt300.2.2.1 bt300.2.2.2.1 bt300.2.2.2.2.1))) = some r := H
        have A38 := Aside0.mk A380
        clear A380
        replace H := Option.bind_eq_some_iff.mp H
        obtain ⟨⟨t300, t301, t302, t303, t304, t305⟩, A390, H⟩ := H
        replace H : (if t283 = true then (if t290 = true then (if t298 = true then (turnstonelaw09_LagMoves.j2 k2 l1 a3 ji33 (!t305) t280 t281 t282 t285 t286 t287 t288 t289 t300 t301 t302 t303 t304) else (turnstonelaw09_LagMoves.j2 k2 l1 a3 ji33 true t280 t281 t282 t285 t286 t287 t288 t289 t300 t301 t302 t303 t304)) else (turnstonelaw09_LagMoves.j2 k2 l1 a3 ji33 true t280 t281 t282 t285 t286 t287 t288 t289 t300 t301 t302 t303 t304)) else (turnstonelaw09_LagMoves.j2 k2 l1 a3 ji33 true t280 t281 t282 t285 t286 t287 t288 t289 t300 t301 t302 t303 t304)) = some r := H
        have A39 := Aside0.mk A390
        clear A390
        have HC40 := Aside0.mk H
        clear H
        have p279 : 0 ≤ ((ji33) : Int) := of_decide_eq_true (by first | (with_reducible assumption) | assumption)
        have q279 : (ji33) < (l1.length : Int) := of_decide_eq_true (by first | (with_reducible assumption) | assumption)
        obtain ⟨ad279, e279, hx279_0, hx279_1, hx279_2⟩ := at_T28 HR1.out (ji33) p279 q279
        cases e279
        replace hx279_0 := (HB.out.cell (World.block_lt_of_cell? w _ hx279_0)).trans hx279_0
        replace hx279_1 := (HB.out.cell (World.block_lt_of_cell? w _ hx279_1)).trans hx279_1
        replace hx279_2 := (HB.out.cell (World.block_lt_of_cell? w _ hx279_2)).trans hx279_2
        replace p279 := eq_true p279
        replace q279 := eq_true q279
        try go_wp2_with (first | ((with_reducible refine gate_callee (f := 23) rfl ?_); refine goesL_ (some 79) rfl rfl Tryz.func23 (by kernel_rfl) rfl #[.agg #[.int .u64 ((rd_T28 l1 (ji33)).f0), .int .u32 ((rd_T28 l1 (ji33)).f1), .int .u32 ((rd_T28 l1 (ji33)).f2)], .int .u64 a3] rfl (by (try simp only [List.map_toArray, List.map_cons, List.map_nil]); first | done | (simp only [hji33]; rfl) | rfl | (simp only [List.length_drop, List.length_take]; rfl)) ?_; (with_reducible refine (pos_Pos_Move.calls k2 ((rd_T28 l1 (ji33)).f0) ((rd_T28 l1 (ji33)).f1) ((rd_T28 l1 (ji33)).f2) a3 t280 t281 t282 t283 _ A36.out).mono ?_); rintro e w41 ⟨rfl, hb⟩; refine ⟨_, rfl, ?_⟩; replace HB := belb HB hb; (try clear hb); (try clear hb2); (try clear hk); (try clear hi)) | ((with_reducible refine gate_dst (N := 13) rfl ?_); (try (refine gate_guard (by rfl) ?_; dsimp only)); refine box_event ?hg (N := 13) ?hd (cs := #[.int .u64 0, .int .u32 0, .int .u32 0]) (t := 28) ?hr ?_; (case hd => rfl); (case hg => rfl); (case hr => first | (go_simp; done) | (go_simp; rfl)); intro gb284 hg w42 hbox hb; have BK284 := Aside0.mk (hbox); have GW284 := bels HB hg; have GE284 := bels HB hg; replace HB := belb HB hb; clear hb hbox hg; have hcz43_0 : w42.cell? ⟨gb284, 0, none⟩ = some (.int .u64 0) := bc BK284 0; have hcz43_1 : w42.cell? ⟨gb284, 1, none⟩ = some (.int .u32 0) := bc BK284 1; have hcz43_2 : w42.cell? ⟨gb284, 2, none⟩ = some (.int .u32 0) := bc BK284 2; have hfz43_0 := blk_frozen BK284.out 0; have hfz43_1 := blk_frozen BK284.out 1; have hfz43_2 := blk_frozen BK284.out 2) | ((with_reducible refine gate_callee (f := 18) rfl ?_); refine goesL_ (some 85) rfl rfl Tryz.func18 (by kernel_rfl) rfl #[.int .u64 a0, .slice (some ad279) l1.length c1] rfl argt ?_; (with_reducible refine (mean_Of.calls k2 a0 _ _ l1 t285 t286 t287 t288 t289 t290 _ ?side1 ?side2 A37.out).mono ?_); (case side1 => exact Kd.C_below HR1.out (belt HB)); (case side2 => exact HC1.out); rintro e w44 ⟨rfl, hb⟩; refine ⟨_, rfl, ?_⟩; replace BK284 := Aside0.mk (blk_below (g := gb284) (o := .cells #[.int .u64 t280, .int .u32 t281, .int .u32 t282] 28 (0, 0)) (by (with_reducible repeat (first | refine blk_drewN ?_ _ | refine blk_drew ?_ | refine blk_alloc ?_ _)); refine blk_put (cs := #[.int .u64 t280, .int .u32 t281, .int .u32 0]) ?_ 2 _ rfl; (with_reducible repeat (first | refine blk_drewN ?_ _ | refine blk_drew ?_ | refine blk_alloc ?_ _)); refine blk_put (cs := #[.int .u64 t280, .int .u32 0, .int .u32 0]) ?_ 1 _ rfl; (with_reducible repeat (first | refine blk_drewN ?_ _ | refine blk_drew ?_ | refine blk_alloc ?_ _)); refine blk_put (cs := #[.int .u64 0, .int .u32 0, .int .u32 0]) ?_ 0 _ rfl; exact blkt BK284) hb); replace HB := belb HB hb; (try clear hb); (try clear hb2); (try clear hk); (try clear hi)) | ((with_reducible refine gate_dst (N := 15) rfl ?_); (try (refine gate_guard (by rfl) ?_; dsimp only)); refine box_event ?hg (N := 15) ?hd (cs := #[.int .u64 0, .int .i64 0, .int .u64 0, .int .u64 0, .int .i64 0]) (t := 33) ?hr ?_; (case hd => rfl); (case hg => rfl); (case hr => first | (go_simp; done) | (go_simp; rfl)); intro gb291 hg w45 hbox hb; have BK291 := Aside0.mk (hbox); have GW291 := bels HB hg; have GE291 := bels HB hg; have NB284_291 := blkl BK284 hg; have NB291_284 := blkg BK284 hg; replace BK284 := blkb BK284 hb; replace HB := belb HB hb; clear hb hbox hg; have hnb46 := NB291_284.out; have hnc46 := NB284_291.out; have hcz47_0 : w45.cell? ⟨gb291, 0, none⟩ = some (.int .u64 0) := bc BK291 0; have hcz47_1 : w45.cell? ⟨gb291, 1, none⟩ = some (.int .i64 0) := bc BK291 1; have hcz47_2 : w45.cell? ⟨gb291, 2, none⟩ = some (.int .u64 0) := bc BK291 2; have hcz47_3 : w45.cell? ⟨gb291, 3, none⟩ = some (.int .u64 0) := bc BK291 3; have hcz47_4 : w45.cell? ⟨gb291, 4, none⟩ = some (.int .i64 0) := bc BK291 4; have hfz47_0 := blk_frozen BK291.out 0; have hfz47_1 := blk_frozen BK291.out 1; have hfz47_2 := blk_frozen BK291.out 2; have hfz47_3 := blk_frozen BK291.out 3; have hfz47_4 := blk_frozen BK291.out 4))
        have n0_ : Aside0 ((((((w45.setCell ⟨gb291, 0, none⟩ (.int .u64 t285)).setCell ⟨gb291, 1, none⟩ (.int .i64 t286)).setCell ⟨gb291, 2, none⟩ (.int .u64 t287)).setCell ⟨gb291, 3, none⟩ (.int .u64 t288)).setCell ⟨gb291, 4, none⟩ (.int .i64 t289)).heap[gb284]? = some (.cells #[.int .u64 t280, .int .u32 t281, .int .u32 t282] 28 (0, 0))) := ⟨by (with_reducible repeat (first | refine blk_drewN ?_ _ | refine blk_drew ?_ | refine blk_alloc ?_ _)); refine blk_far ?_ NB284_291.out _; (with_reducible repeat (first | refine blk_drewN ?_ _ | refine blk_drew ?_ | refine blk_alloc ?_ _)); refine blk_far ?_ NB284_291.out _; (with_reducible repeat (first | refine blk_drewN ?_ _ | refine blk_drew ?_ | refine blk_alloc ?_ _)); refine blk_far ?_ NB284_291.out _; (with_reducible repeat (first | refine blk_drewN ?_ _ | refine blk_drew ?_ | refine blk_alloc ?_ _)); refine blk_far ?_ NB284_291.out _; (with_reducible repeat (first | refine blk_drewN ?_ _ | refine blk_drew ?_ | refine blk_alloc ?_ _)); refine blk_far ?_ NB284_291.out _; exact blkt BK284⟩
        have n1_ : Aside0 ((((((w45.setCell ⟨gb291, 0, none⟩ (.int .u64 t285)).setCell ⟨gb291, 1, none⟩ (.int .i64 t286)).setCell ⟨gb291, 2, none⟩ (.int .u64 t287)).setCell ⟨gb291, 3, none⟩ (.int .u64 t288)).setCell ⟨gb291, 4, none⟩ (.int .i64 t289)).heap[gb291]? = some (.cells #[.int .u64 t285, .int .i64 t286, .int .u64 t287, .int .u64 t288, .int .i64 t289] 33 (0, 0))) := ⟨by (with_reducible repeat (first | refine blk_drewN ?_ _ | refine blk_drew ?_ | refine blk_alloc ?_ _)); refine blk_put (cs := #[.int .u64 t285, .int .i64 t286, .int .u64 t287, .int .u64 t288, .int .i64 0]) ?_ 4 _ rfl; (with_reducible repeat (first | refine blk_drewN ?_ _ | refine blk_drew ?_ | refine blk_alloc ?_ _)); refine blk_put (cs := #[.int .u64 t285, .int .i64 t286, .int .u64 t287, .int .u64 0, .int .i64 0]) ?_ 3 _ rfl; (with_reducible repeat (first | refine blk_drewN ?_ _ | refine blk_drew ?_ | refine blk_alloc ?_ _)); refine blk_put (cs := #[.int .u64 t285, .int .i64 t286, .int .u64 0, .int .u64 0, .int .i64 0]) ?_ 2 _ rfl; (with_reducible repeat (first | refine blk_drewN ?_ _ | refine blk_drew ?_ | refine blk_alloc ?_ _)); refine blk_put (cs := #[.int .u64 t285, .int .i64 0, .int .u64 0, .int .u64 0, .int .i64 0]) ?_ 1 _ rfl; (with_reducible repeat (first | refine blk_drewN ?_ _ | refine blk_drew ?_ | refine blk_alloc ?_ _)); refine blk_put (cs := #[.int .u64 0, .int .i64 0, .int .u64 0, .int .u64 0, .int .i64 0]) ?_ 0 _ rfl; exact blkt BK291⟩
        have n2_ : Aside0 (Below w.heap.size w (((((w45.setCell ⟨gb291, 0, none⟩ (.int .u64 t285)).setCell ⟨gb291, 1, none⟩ (.int .i64 t286)).setCell ⟨gb291, 2, none⟩ (.int .u64 t287)).setCell ⟨gb291, 3, none⟩ (.int .u64 t288)).setCell ⟨gb291, 4, none⟩ (.int .i64 t289))) := ⟨belt HB⟩
        (try clear BK284)
        (try clear BK291)
        (try clear HB)
        generalize (((((w45.setCell ⟨gb291, 0, none⟩ (.int .u64 t285)).setCell ⟨gb291, 1, none⟩ (.int .i64 t286)).setCell ⟨gb291, 2, none⟩ (.int .u64 t287)).setCell ⟨gb291, 3, none⟩ (.int .u64 t288)).setCell ⟨gb291, 4, none⟩ (.int .i64 t289)) = w48 at n0_ n1_ n2_ ⊢
        have BK284 := n0_
        have BK291 := n1_
        have HB := n2_
        clear n0_ n1_ n2_
        replace BK284 := Aside0.mk (blk_drew BK284.out)
        replace BK291 := Aside0.mk (blk_drew BK291.out)
        replace HB := Aside0.mk (below_drew1 HB.out)
        have p292 : 0 ≤ ((ji33) : Int) := of_decide_eq_true (by first | (with_reducible assumption) | assumption)
        have q292 : (ji33) < (l1.length : Int) := of_decide_eq_true (by first | (with_reducible assumption) | assumption)
        obtain ⟨ad292, e292, hx292_0, hx292_1, hx292_2⟩ := at_T28 HR1.out (ji33) p292 q292
        have hw292_2 := hx292_2
        have hw292_1 := hx292_1
        have hw292_0 := hx292_0
        obtain rfl : ad279 = ad292 := (by injection e292)
        replace hx292_0 := (HB.out.cell (World.block_lt_of_cell? w _ hx292_0)).trans hx292_0
        replace hx292_1 := (HB.out.cell (World.block_lt_of_cell? w _ hx292_1)).trans hx292_1
        replace hx292_2 := (HB.out.cell (World.block_lt_of_cell? w _ hx292_2)).trans hx292_2
        replace p292 := eq_true p292
        replace q292 := eq_true q292
        refine start_ (n := 12) (S := fun w' => w'.cell? ⟨gb291, 0, none⟩ = some (.int .u64 t285) ∧ w'.cell? ⟨gb291, 1, none⟩ = some (.int .i64 t286) ∧ w'.cell? ⟨gb291, 2, none⟩ = some (.int .u64 t287) ∧ w'.cell? ⟨gb291, 3, none⟩ = some (.int .u64 t288) ∧ w'.cell? ⟨gb291, 4, none⟩ = some (.int .i64 t289) ∧ w'.cell? (ad279.add (((ji33)).toNat * 3)) = some (.int .u64 ((rd_T28 l1 (ji33)).f0)) ∧ w'.cell? ⟨(ad279.add (((ji33)).toNat * 3)).block, (ad279.add (((ji33)).toNat * 3)).off + 1, none⟩ = some (.int .u32 ((rd_T28 l1 (ji33)).f1)) ∧ w'.cell? ⟨(ad279.add (((ji33)).toNat * 3)).block, (ad279.add (((ji33)).toNat * 3)).off + 2, none⟩ = some (.int .u32 ((rd_T28 l1 (ji33)).f2))) (ds := []) #[false, false, false, false, false, false, false, false, false, false, false, false] (by kernel_rfl) rfl rfl ⟨bc BK291 0, bc BK291 1, bc BK291 2, bc BK291 3, bc BK291 4, ((HB.out.cell (World.block_lt_of_cell? w _ hw292_0)).trans hw292_0), ((HB.out.cell (World.block_lt_of_cell? w _ hw292_1)).trans hw292_1), ((HB.out.cell (World.block_lt_of_cell? w _ hw292_2)).trans hw292_2)⟩ (fun hHeld => ?_); refine with_tabW turnstonelaw09_LagMoves.tab15 turnstonelaw09_LagMoves.bits15 (fun HT_ HW_ => ?_)
        generalize w48.drew = w49 at BK284 BK291 HB hx292_0 hx292_1 hx292_2 hHeld ⊢
        refine pure_ (i := 1) (N := some 90) (v := ?_) (a' := ?_) #[false, true, false, false, false, false, false, false, false, false, false, false] rfl rfl (any_of HT_.out (by kernel_rfl)) (fun _ _ _ h => h) (Or.inl ⟨by rfl, ?_⟩) ?_ ?_
        rotate_left
        ·intro w'
         go_simp
         with_reducible rfl
        rotate_left
        ·simp only [Act.put, List.setIfInBounds_toArray, List.set_cons_zero, List.set_cons_succ, i64_w, i32_w]
         rfl
        refine pure_ (i := 2) (N := some 91) (v := ?_) (a' := ?_) #[false, true, true, false, false, false, false, false, false, false, false, false] rfl rfl (any_of HT_.out (by kernel_rfl)) (fun _ _ _ h => h) (Or.inl ⟨by rfl, ?_⟩) ?_ ?_
        rotate_left
        ·intro w'
         go_simp
         with_reducible rfl
        rotate_left
        ·simp only [Act.put, List.setIfInBounds_toArray, List.set_cons_zero, List.set_cons_succ, i64_w, i32_w]
         rfl
        refine pure_ (i := 3) (N := some 92) (v := ?_) (a' := ?_) #[false, true, true, true, false, false, false, false, false, false, false, false] rfl rfl (any_of HT_.out (by kernel_rfl)) (fun _ _ _ h => h) (Or.inl ⟨by rfl, ?_⟩) ?_ ?_
        rotate_left
        ·intro w'
         go_simp
         with_reducible rfl
        rotate_left
        ·simp only [Act.put, List.setIfInBounds_toArray, List.set_cons_zero, List.set_cons_succ, i64_w, i32_w]
         rfl
        refine take_ (i := 0) (N := some 89) (v := ?_) (a' := ?_) #[true, true, true, true, false, false, false, false, false, false, false, false] rfl rfl (take_ofW HT_.out HW_.out (by kernel_rfl)) (fun _ _ _ h => h) (Or.inl ⟨by rfl, ?_⟩) hHeld ?_ ?_
        rotate_left
        ·rintro w' ⟨s0, s1, s2, s3, s4, s5, s6, s7⟩
         go_simp
         with_reducible rfl
        rotate_left
        ·simp only [Act.put, List.setIfInBounds_toArray, List.set_cons_zero, List.set_cons_succ, i64_w, i32_w]
         rfl
        refine take_ (i := 4) (N := some 93) (v := ?_) (a' := ?_) #[true, true, true, true, true, false, false, false, false, false, false, false] rfl rfl (take_ofW HT_.out HW_.out (by kernel_rfl)) (fun _ _ _ h => h) (Or.inl ⟨by rfl, ?_⟩) hHeld ?_ ?_
        rotate_left
        ·rintro w' ⟨s0, s1, s2, s3, s4, s5, s6, s7⟩
         go_simp
         with_reducible rfl
        rotate_left
        ·simp only [Act.put, List.setIfInBounds_toArray, List.set_cons_zero, List.set_cons_succ, i64_w, i32_w]
         rfl
        refine join_ (σ := Nat) 2 #[true, true, true, true, true, true, true, true, true, true, false, false] (fun s_ => [(94, .tuple #[.agg #[.int .u64 t293, .int .i64 t294, .int .u64 t295, .int .u64 t296, .int .i64 t297], .bool t298]), (17, .pointer (some ⟨s_, 0, none⟩)), (88, .tuple #[.agg #[.int .u64 t293, .int .i64 t294, .int .u64 t295, .int .u64 t296, .int .i64 t297], .bool t298]), (95, .agg #[.int .u64 t293, .int .i64 t294, .int .u64 t295, .int .u64 t296, .int .i64 t297]), (96, .bool t298)]) (fun s_ w' => (w'.cell? ⟨gb291, 0, none⟩ = some (.int .u64 t285) ∧ w'.cell? ⟨gb291, 1, none⟩ = some (.int .i64 t286) ∧ w'.cell? ⟨gb291, 2, none⟩ = some (.int .u64 t287) ∧ w'.cell? ⟨gb291, 3, none⟩ = some (.int .u64 t288) ∧ w'.cell? ⟨gb291, 4, none⟩ = some (.int .i64 t289) ∧ w'.cell? (ad279.add (((ji33)).toNat * 3)) = some (.int .u64 ((rd_T28 l1 (ji33)).f0)) ∧ w'.cell? ⟨(ad279.add (((ji33)).toNat * 3)).block, (ad279.add (((ji33)).toNat * 3)).off + 1, none⟩ = some (.int .u32 ((rd_T28 l1 (ji33)).f1)) ∧ w'.cell? ⟨(ad279.add (((ji33)).toNat * 3)).block, (ad279.add (((ji33)).toNat * 3)).off + 2, none⟩ = some (.int .u32 ((rd_T28 l1 (ji33)).f2))) ∧ (w'.heap[gb284]? = some (.cells #[.int .u64 t280, .int .u32 t281, .int .u32 t282] 28 (0, 0))) ∧ (w'.heap[gb291]? = some (.cells #[.int .u64 t285, .int .i64 t286, .int .u64 t287, .int .u64 t288, .int .i64 t289] 33 (0, 0))) ∧ (w'.heap[s_]? = some (.cells #[.int .u64 0, .int .i64 0, .int .u64 0, .int .u64 0, .int .i64 0] 33 (0, 0))) ∧ (w.heap.size ≤ s_) ∧ (w.heap.size ≤ s_) ∧ (gb284 ≠ s_) ∧ (s_ ≠ gb284) ∧ (gb291 ≠ s_) ∧ (s_ ≠ gb291) ∧ (Below w.heap.size w w')) ?_ ?_
        rotate_left
        ·intro hCont
         refine two_ (i := 5) (j := 9) (Ni := some 94) (Nj := some 17) #[true, true, true, true, true, true, false, false, false, false, false, false] #[true, true, true, true, true, false, false, false, false, true, false, false] rfl rfl rfl rfl (two_of HT_.out (by kernel_rfl)) (by decide) (by decide) (fun K hK => ?_) (fun K hK => ?_)
         ·skip
          refine goes_ Tryz.func24 (by kernel_rfl) rfl #[.agg #[.int .u64 t285, .int .i64 t286, .int .u64 t287, .int .u64 t288, .int .i64 t289], .agg #[.int .u64 ((rd_T28 l1 (ji33)).f0), .int .u32 ((rd_T28 l1 (ji33)).f1), .int .u32 ((rd_T28 l1 (ji33)).f2)]] (by rfl) rfl rfl (by (try simp only [List.map_toArray, List.map_cons, List.map_nil]); first | done | (simp only [hji33]; rfl) | rfl | (simp only [List.length_drop, List.length_take]; rfl)) ?_
          with_reducible refine (mean_Mean_Take.calls k2 t285 t286 t287 t288 t289 ((rd_T28 l1 (ji33)).f0) ((rd_T28 l1 (ji33)).f1) ((rd_T28 l1 (ji33)).f2) t293 t294 t295 t296 t297 t298 _ A38.out).mono ?_
          rintro e w50 ⟨rfl, hb⟩
          refine ⟨_, rfl, ?_⟩
          replace BK284 := blkb BK284 hb
          replace BK291 := blkb BK291 hb
          replace HB := belb HB hb
          (try clear hb)
          (try clear hb2)
          (try clear hk)
          (try clear hi)
          refine hK.out _ _ ⟨bc BK291 0, bc BK291 1, bc BK291 2, bc BK291 3, bc BK291 4, ((HB.out.cell (World.block_lt_of_cell? w _ hw292_0)).trans hw292_0), ((HB.out.cell (World.block_lt_of_cell? w _ hw292_1)).trans hw292_1), ((HB.out.cell (World.block_lt_of_cell? w _ hw292_2)).trans hw292_2)⟩ (fun hHeld => ?_)
          clear hK K
          refine norm_ (a' := ?_) ?_ ?_
          rotate_left
          ·show Act.put _ (some 94) _ = _
           simp only [Act.put, List.setIfInBounds_toArray, List.set_cons_zero, List.set_cons_succ, i64_w, i32_w]
           rfl
          refine pure_ (i := 6) (N := some 88) (v := ?_) (a' := ?_) #[true, true, true, true, true, true, true, false, false, false, false, false] rfl rfl (any_of HT_.out (by kernel_rfl)) (fun _ _ _ h => h) (Or.inl ⟨by rfl, ?_⟩) ?_ ?_
          rotate_left
          ·intro w'
           go_simp
           with_reducible rfl
          rotate_left
          ·simp only [Act.put, List.setIfInBounds_toArray, List.set_cons_zero, List.set_cons_succ, i64_w, i32_w]
           rfl
          refine pure_ (i := 7) (N := some 95) (v := ?_) (a' := ?_) #[true, true, true, true, true, true, true, true, false, false, false, false] rfl rfl (any_of HT_.out (by kernel_rfl)) (fun _ _ _ h => h) (Or.inl ⟨by rfl, ?_⟩) ?_ ?_
          rotate_left
          ·intro w'
           go_simp
           with_reducible rfl
          rotate_left
          ·simp only [Act.put, List.setIfInBounds_toArray, List.set_cons_zero, List.set_cons_succ, i64_w, i32_w]
           rfl
          refine pure_ (i := 8) (N := some 96) (v := ?_) (a' := ?_) #[true, true, true, true, true, true, true, true, true, false, false, false] rfl rfl (any_of HT_.out (by kernel_rfl)) (fun _ _ _ h => h) (Or.inl ⟨by rfl, ?_⟩) ?_ ?_
          rotate_left
          ·intro w'
           go_simp
           with_reducible rfl
          rotate_left
          ·simp only [Act.put, List.setIfInBounds_toArray, List.set_cons_zero, List.set_cons_succ, i64_w, i32_w]
           rfl
          refine one_ (i := 9) (N := some 17) #[true, true, true, true, true, true, true, true, true, true, false, false] rfl rfl (one_of HT_.out (by kernel_rfl)) (by decide) (fun K hK => ?_)
          refine box_step ?hg (N := 17) ?hd (cs := #[.int .u64 0, .int .i64 0, .int .u64 0, .int .u64 0, .int .i64 0]) (t := 33) ?hr ?_; (case hd => rfl); (case hg => rfl); (case hr => first | (go_simp; done) | (go_simp; rfl))
          intro gb299 hg w51 hbox hb
          have BK299 := Aside0.mk (hbox)
          have GW299 := bels HB hg
          have GE299 := bels HB hg
          have NB284_299 := blkl BK284 hg
          have NB299_284 := blkg BK284 hg
          have NB291_299 := blkl BK291 hg
          have NB299_291 := blkg BK291 hg
          replace BK284 := blkb BK284 hb
          replace BK291 := blkb BK291 hb
          replace HB := belb HB hb
          clear hb hbox hg
          refine hK.out _ _ ⟨bc BK291 0, bc BK291 1, bc BK291 2, bc BK291 3, bc BK291 4, ((HB.out.cell (World.block_lt_of_cell? w _ hw292_0)).trans hw292_0), ((HB.out.cell (World.block_lt_of_cell? w _ hw292_1)).trans hw292_1), ((HB.out.cell (World.block_lt_of_cell? w _ hw292_2)).trans hw292_2)⟩ (fun hHeld => ?_)
          clear hK K
          refine norm_ (a' := ?_) ?_ ?_
          rotate_left
          ·show Act.put _ (some 17) _ = _
           simp only [Act.put, List.setIfInBounds_toArray, List.set_cons_zero, List.set_cons_succ, i64_w, i32_w]
           rfl
          exact norm_ (by simp only [putAll, Act.put, List.setIfInBounds_toArray, List.set_cons_zero, List.set_cons_succ]) (hCont (gb299) _ ⟨hHeld, (blkt BK284), (blkt BK291), (blkt BK299), GW299.out, GE299.out, NB284_299.out, NB299_284.out, NB291_299.out, NB299_291.out, (belt HB)⟩)
         skip
         refine box_step ?hg (N := 17) ?hd (cs := #[.int .u64 0, .int .i64 0, .int .u64 0, .int .u64 0, .int .i64 0]) (t := 33) ?hr ?_; (case hd => rfl); (case hg => rfl); (case hr => first | (go_simp; done) | (go_simp; rfl))
         intro gb299 hg w50 hbox hb
         have BK299 := Aside0.mk (hbox)
         have GW299 := bels HB hg
         have GE299 := bels HB hg
         have NB284_299 := blkl BK284 hg
         have NB299_284 := blkg BK284 hg
         have NB291_299 := blkl BK291 hg
         have NB299_291 := blkg BK291 hg
         replace BK284 := blkb BK284 hb
         replace BK291 := blkb BK291 hb
         replace HB := belb HB hb
         clear hb hbox hg
         refine hK.out _ _ ⟨bc BK291 0, bc BK291 1, bc BK291 2, bc BK291 3, bc BK291 4, ((HB.out.cell (World.block_lt_of_cell? w _ hw292_0)).trans hw292_0), ((HB.out.cell (World.block_lt_of_cell? w _ hw292_1)).trans hw292_1), ((HB.out.cell (World.block_lt_of_cell? w _ hw292_2)).trans hw292_2)⟩ (fun hHeld => ?_)
         clear hK K
         refine norm_ (a' := ?_) ?_ ?_
         rotate_left
         ·show Act.put _ (some 17) _ = _
          simp only [Act.put, List.setIfInBounds_toArray, List.set_cons_zero, List.set_cons_succ, i64_w, i32_w]
          rfl
         refine one_ (i := 5) (N := some 94) #[true, true, true, true, true, true, false, false, false, true, false, false] rfl rfl (one_of HT_.out (by kernel_rfl)) (by decide) (fun K hK => ?_)
         refine goes_ Tryz.func24 (by kernel_rfl) rfl #[.agg #[.int .u64 t285, .int .i64 t286, .int .u64 t287, .int .u64 t288, .int .i64 t289], .agg #[.int .u64 ((rd_T28 l1 (ji33)).f0), .int .u32 ((rd_T28 l1 (ji33)).f1), .int .u32 ((rd_T28 l1 (ji33)).f2)]] (by rfl) rfl rfl (by (try simp only [List.map_toArray, List.map_cons, List.map_nil]); first | done | (simp only [hji33]; rfl) | rfl | (simp only [List.length_drop, List.length_take]; rfl)) ?_
         with_reducible refine (mean_Mean_Take.calls k2 t285 t286 t287 t288 t289 ((rd_T28 l1 (ji33)).f0) ((rd_T28 l1 (ji33)).f1) ((rd_T28 l1 (ji33)).f2) t293 t294 t295 t296 t297 t298 _ A38.out).mono ?_
         rintro e w51 ⟨rfl, hb⟩
         refine ⟨_, rfl, ?_⟩
         replace BK284 := blkb BK284 hb
         replace BK291 := blkb BK291 hb
         replace BK299 := blkb BK299 hb
         replace HB := belb HB hb
         (try clear hb)
         (try clear hb2)
         (try clear hk)
         (try clear hi)
         refine hK.out _ _ ⟨bc BK291 0, bc BK291 1, bc BK291 2, bc BK291 3, bc BK291 4, ((HB.out.cell (World.block_lt_of_cell? w _ hw292_0)).trans hw292_0), ((HB.out.cell (World.block_lt_of_cell? w _ hw292_1)).trans hw292_1), ((HB.out.cell (World.block_lt_of_cell? w _ hw292_2)).trans hw292_2)⟩ (fun hHeld => ?_)
         clear hK K
         refine norm_ (a' := ?_) ?_ ?_
         rotate_left
         ·show Act.put _ (some 94) _ = _
          simp only [Act.put, List.setIfInBounds_toArray, List.set_cons_zero, List.set_cons_succ, i64_w, i32_w]
          rfl
         refine pure_ (i := 6) (N := some 88) (v := ?_) (a' := ?_) #[true, true, true, true, true, true, true, false, false, true, false, false] rfl rfl (any_of HT_.out (by kernel_rfl)) (fun _ _ _ h => h) (Or.inl ⟨by rfl, ?_⟩) ?_ ?_
         rotate_left
         ·intro w'
          go_simp
          with_reducible rfl
         rotate_left
         ·simp only [Act.put, List.setIfInBounds_toArray, List.set_cons_zero, List.set_cons_succ, i64_w, i32_w]
          rfl
         refine pure_ (i := 7) (N := some 95) (v := ?_) (a' := ?_) #[true, true, true, true, true, true, true, true, false, true, false, false] rfl rfl (any_of HT_.out (by kernel_rfl)) (fun _ _ _ h => h) (Or.inl ⟨by rfl, ?_⟩) ?_ ?_
         rotate_left
         ·intro w'
          go_simp
          with_reducible rfl
         rotate_left
         ·simp only [Act.put, List.setIfInBounds_toArray, List.set_cons_zero, List.set_cons_succ, i64_w, i32_w]
          rfl
         refine pure_ (i := 8) (N := some 96) (v := ?_) (a' := ?_) #[true, true, true, true, true, true, true, true, true, true, false, false] rfl rfl (any_of HT_.out (by kernel_rfl)) (fun _ _ _ h => h) (Or.inl ⟨by rfl, ?_⟩) ?_ ?_
         rotate_left
         ·intro w'
          go_simp
          with_reducible rfl
         rotate_left
         ·simp only [Act.put, List.setIfInBounds_toArray, List.set_cons_zero, List.set_cons_succ, i64_w, i32_w]
          rfl
         exact norm_ (by simp only [putAll, Act.put, List.setIfInBounds_toArray, List.set_cons_zero, List.set_cons_succ]) (hCont (gb299) _ ⟨hHeld, (blkt BK284), (blkt BK291), (blkt BK299), GW299.out, GE299.out, NB284_299.out, NB299_284.out, NB291_299.out, NB299_291.out, (belt HB)⟩)
        rintro gb299 w52 ⟨hS_, h0_, h1_, h2_, h3_, h4_, h5_, h6_, h7_, h8_, h9_⟩
        replace BK284 : Aside0 (w52.heap[gb284]? = some (.cells #[.int .u64 t280, .int .u32 t281, .int .u32 t282] 28 (0, 0))) := ⟨h0_⟩
        replace BK291 : Aside0 (w52.heap[gb291]? = some (.cells #[.int .u64 t285, .int .i64 t286, .int .u64 t287, .int .u64 t288, .int .i64 t289] 33 (0, 0))) := ⟨h1_⟩
        have BK299 : Aside0 (w52.heap[gb299]? = some (.cells #[.int .u64 0, .int .i64 0, .int .u64 0, .int .u64 0, .int .i64 0] 33 (0, 0))) := ⟨h2_⟩
        have GW299 : Aside0 (w.heap.size ≤ gb299) := ⟨h3_⟩
        have GE299 : Aside0 (w.heap.size ≤ gb299) := ⟨h4_⟩
        have NB284_299 : Aside0 (gb284 ≠ gb299) := ⟨h5_⟩
        have NB299_284 : Aside0 (gb299 ≠ gb284) := ⟨h6_⟩
        have NB291_299 : Aside0 (gb291 ≠ gb299) := ⟨h7_⟩
        have NB299_291 : Aside0 (gb299 ≠ gb291) := ⟨h8_⟩
        replace HB : Aside0 (Below w.heap.size w w52) := ⟨h9_⟩
        clear h0_ h1_ h2_ h3_ h4_ h5_ h6_ h7_ h8_ h9_
        have hHeld : w52.cell? ⟨gb291, 0, none⟩ = some (.int .u64 t285) ∧ w52.cell? ⟨gb291, 1, none⟩ = some (.int .i64 t286) ∧ w52.cell? ⟨gb291, 2, none⟩ = some (.int .u64 t287) ∧ w52.cell? ⟨gb291, 3, none⟩ = some (.int .u64 t288) ∧ w52.cell? ⟨gb291, 4, none⟩ = some (.int .i64 t289) ∧ w52.cell? (ad279.add (((ji33)).toNat * 3)) = some (.int .u64 ((rd_T28 l1 (ji33)).f0)) ∧ w52.cell? ⟨(ad279.add (((ji33)).toNat * 3)).block, (ad279.add (((ji33)).toNat * 3)).off + 1, none⟩ = some (.int .u32 ((rd_T28 l1 (ji33)).f1)) ∧ w52.cell? ⟨(ad279.add (((ji33)).toNat * 3)).block, (ad279.add (((ji33)).toNat * 3)).off + 2, none⟩ = some (.int .u32 ((rd_T28 l1 (ji33)).f2)) := hS_
        refine norm_ (a' := ?_) ?_ ?_
        rotate_left
        ·simp only [putAll, Act.put, List.setIfInBounds_toArray, List.set_cons_zero, List.set_cons_succ]
         rfl
        refine one_ (i := 10) (N := none) #[true, true, true, true, true, true, true, true, true, true, true, false] rfl rfl (one_of HT_.out (by kernel_rfl)) (by decide) (fun K hK => ?_)
        have hs53 : w52.cell? ⟨gb299, 0, none⟩ = some (.int .u64 0) := bc BK299 0
        have hfs53 := blk_frozen BK299.out 0
        have hns53_0 := NB284_299.out
        have hns53_1 := NB291_299.out
        have hms53_0 := NB299_284.out
        have hms53_1 := NB299_291.out
        have hs54 : w52.cell? ⟨gb299, 1, none⟩ = some (.int .i64 0) := bc BK299 1
        have hfs54 := blk_frozen BK299.out 1
        have hns54_0 := NB284_299.out
        have hns54_1 := NB291_299.out
        have hms54_0 := NB299_284.out
        have hms54_1 := NB299_291.out
        have hs55 : w52.cell? ⟨gb299, 2, none⟩ = some (.int .u64 0) := bc BK299 2
        have hfs55 := blk_frozen BK299.out 2
        have hns55_0 := NB284_299.out
        have hns55_1 := NB291_299.out
        have hms55_0 := NB299_284.out
        have hms55_1 := NB299_291.out
        have hs56 : w52.cell? ⟨gb299, 3, none⟩ = some (.int .u64 0) := bc BK299 3
        have hfs56 := blk_frozen BK299.out 3
        have hns56_0 := NB284_299.out
        have hns56_1 := NB291_299.out
        have hms56_0 := NB299_284.out
        have hms56_1 := NB299_291.out
        have hs57 : w52.cell? ⟨gb299, 4, none⟩ = some (.int .i64 0) := bc BK299 4
        have hfs57 := blk_frozen BK299.out 4
        have hns57_0 := NB284_299.out
        have hns57_1 := NB291_299.out
        have hms57_0 := NB299_284.out
        have hms57_1 := NB299_291.out
        refine skip_ (w1 := ?_) (by rfl) rfl ?_ ?_
        rotate_left
        ·go_simp
         rfl
        refine hK.out _ _ ⟨((cell_far (p := ⟨gb299, _, none⟩) NB291_299.out _).trans (((cell_far (p := ⟨gb299, _, none⟩) NB291_299.out _).trans (((cell_far (p := ⟨gb299, _, none⟩) NB291_299.out _).trans (((cell_far (p := ⟨gb299, _, none⟩) NB291_299.out _).trans (((cell_far (p := ⟨gb299, _, none⟩) NB291_299.out _).trans (hHeld.1)))))))))), ((cell_far (p := ⟨gb299, _, none⟩) NB291_299.out _).trans (((cell_far (p := ⟨gb299, _, none⟩) NB291_299.out _).trans (((cell_far (p := ⟨gb299, _, none⟩) NB291_299.out _).trans (((cell_far (p := ⟨gb299, _, none⟩) NB291_299.out _).trans (((cell_far (p := ⟨gb299, _, none⟩) NB291_299.out _).trans (hHeld.2.1)))))))))), ((cell_far (p := ⟨gb299, _, none⟩) NB291_299.out _).trans (((cell_far (p := ⟨gb299, _, none⟩) NB291_299.out _).trans (((cell_far (p := ⟨gb299, _, none⟩) NB291_299.out _).trans (((cell_far (p := ⟨gb299, _, none⟩) NB291_299.out _).trans (((cell_far (p := ⟨gb299, _, none⟩) NB291_299.out _).trans (hHeld.2.2.1)))))))))), ((cell_far (p := ⟨gb299, _, none⟩) NB291_299.out _).trans (((cell_far (p := ⟨gb299, _, none⟩) NB291_299.out _).trans (((cell_far (p := ⟨gb299, _, none⟩) NB291_299.out _).trans (((cell_far (p := ⟨gb299, _, none⟩) NB291_299.out _).trans (((cell_far (p := ⟨gb299, _, none⟩) NB291_299.out _).trans (hHeld.2.2.2.1)))))))))), ((cell_far (p := ⟨gb299, _, none⟩) NB291_299.out _).trans (((cell_far (p := ⟨gb299, _, none⟩) NB291_299.out _).trans (((cell_far (p := ⟨gb299, _, none⟩) NB291_299.out _).trans (((cell_far (p := ⟨gb299, _, none⟩) NB291_299.out _).trans (((cell_far (p := ⟨gb299, _, none⟩) NB291_299.out _).trans (hHeld.2.2.2.2.1)))))))))), ((cell_far (p := ⟨gb299, _, none⟩) (by first | exact Nat.ne_of_lt (Nat.lt_of_lt_of_le (by have := World.block_lt_of_cell? _ _ hw292_0; first | rwa [add_block] at this | exact this) GW299.out) | (rw [add_block]; exact Nat.ne_of_lt (Nat.lt_of_lt_of_le (by have := World.block_lt_of_cell? _ _ hw292_0; first | rwa [add_block] at this | exact this) GW299.out)) | (show (Addr.add _ _).block ≠ _; rw [add_block]; exact Nat.ne_of_lt (Nat.lt_of_lt_of_le (by have := World.block_lt_of_cell? _ _ hw292_0; first | rwa [add_block] at this | exact this) GW299.out)) | (dsimp only; exact Nat.ne_of_lt (Nat.lt_of_lt_of_le (by have := World.block_lt_of_cell? _ _ hw292_0; first | rwa [add_block] at this | exact this) GW299.out))) _).trans (((cell_far (p := ⟨gb299, _, none⟩) (by first | exact Nat.ne_of_lt (Nat.lt_of_lt_of_le (by have := World.block_lt_of_cell? _ _ hw292_0; first | rwa [add_block] at this | exact this) GW299.out) | (rw [add_block]; exact Nat.ne_of_lt (Nat.lt_of_lt_of_le (by have := World.block_lt_of_cell? _ _ hw292_0; first | rwa [add_block] at this | exact this) GW299.out)) | (show (Addr.add _ _).block ≠ _; rw [add_block]; exact Nat.ne_of_lt (Nat.lt_of_lt_of_le (by have := World.block_lt_of_cell? _ _ hw292_0; first | rwa [add_block] at this | exact this) GW299.out)) | (dsimp only; exact Nat.ne_of_lt (Nat.lt_of_lt_of_le (by have := World.block_lt_of_cell? _ _ hw292_0; first | rwa [add_block] at this | exact this) GW299.out))) _).trans (((cell_far (p := ⟨gb299, _, none⟩) (by first | exact Nat.ne_of_lt (Nat.lt_of_lt_of_le (by have := World.block_lt_of_cell? _ _ hw292_0; first | rwa [add_block] at this | exact this) GW299.out) | (rw [add_block]; exact Nat.ne_of_lt (Nat.lt_of_lt_of_le (by have := World.block_lt_of_cell? _ _ hw292_0; first | rwa [add_block] at this | exact this) GW299.out)) | (show (Addr.add _ _).block ≠ _; rw [add_block]; exact Nat.ne_of_lt (Nat.lt_of_lt_of_le (by have := World.block_lt_of_cell? _ _ hw292_0; first | rwa [add_block] at this | exact this) GW299.out)) | (dsimp only; exact Nat.ne_of_lt (Nat.lt_of_lt_of_le (by have := World.block_lt_of_cell? _ _ hw292_0; first | rwa [add_block] at this | exact this) GW299.out))) _).trans (((cell_far (p := ⟨gb299, _, none⟩) (by first | exact Nat.ne_of_lt (Nat.lt_of_lt_of_le (by have := World.block_lt_of_cell? _ _ hw292_0; first | rwa [add_block] at this | exact this) GW299.out) | (rw [add_block]; exact Nat.ne_of_lt (Nat.lt_of_lt_of_le (by have := World.block_lt_of_cell? _ _ hw292_0; first | rwa [add_block] at this | exact this) GW299.out)) | (show (Addr.add _ _).block ≠ _; rw [add_block]; exact Nat.ne_of_lt (Nat.lt_of_lt_of_le (by have := World.block_lt_of_cell? _ _ hw292_0; first | rwa [add_block] at this | exact this) GW299.out)) | (dsimp only; exact Nat.ne_of_lt (Nat.lt_of_lt_of_le (by have := World.block_lt_of_cell? _ _ hw292_0; first | rwa [add_block] at this | exact this) GW299.out))) _).trans (((cell_far (p := ⟨gb299, _, none⟩) (by first | exact Nat.ne_of_lt (Nat.lt_of_lt_of_le (by have := World.block_lt_of_cell? _ _ hw292_0; first | rwa [add_block] at this | exact this) GW299.out) | (rw [add_block]; exact Nat.ne_of_lt (Nat.lt_of_lt_of_le (by have := World.block_lt_of_cell? _ _ hw292_0; first | rwa [add_block] at this | exact this) GW299.out)) | (show (Addr.add _ _).block ≠ _; rw [add_block]; exact Nat.ne_of_lt (Nat.lt_of_lt_of_le (by have := World.block_lt_of_cell? _ _ hw292_0; first | rwa [add_block] at this | exact this) GW299.out)) | (dsimp only; exact Nat.ne_of_lt (Nat.lt_of_lt_of_le (by have := World.block_lt_of_cell? _ _ hw292_0; first | rwa [add_block] at this | exact this) GW299.out))) _).trans (hHeld.2.2.2.2.2.1)))))))))), ((cell_far (p := ⟨gb299, _, none⟩) (by first | exact Nat.ne_of_lt (Nat.lt_of_lt_of_le (by have := World.block_lt_of_cell? _ _ hw292_1; first | rwa [add_block] at this | exact this) GW299.out) | (rw [add_block]; exact Nat.ne_of_lt (Nat.lt_of_lt_of_le (by have := World.block_lt_of_cell? _ _ hw292_1; first | rwa [add_block] at this | exact this) GW299.out)) | (show (Addr.add _ _).block ≠ _; rw [add_block]; exact Nat.ne_of_lt (Nat.lt_of_lt_of_le (by have := World.block_lt_of_cell? _ _ hw292_1; first | rwa [add_block] at this | exact this) GW299.out)) | (dsimp only; exact Nat.ne_of_lt (Nat.lt_of_lt_of_le (by have := World.block_lt_of_cell? _ _ hw292_1; first | rwa [add_block] at this | exact this) GW299.out))) _).trans (((cell_far (p := ⟨gb299, _, none⟩) (by first | exact Nat.ne_of_lt (Nat.lt_of_lt_of_le (by have := World.block_lt_of_cell? _ _ hw292_1; first | rwa [add_block] at this | exact this) GW299.out) | (rw [add_block]; exact Nat.ne_of_lt (Nat.lt_of_lt_of_le (by have := World.block_lt_of_cell? _ _ hw292_1; first | rwa [add_block] at this | exact this) GW299.out)) | (show (Addr.add _ _).block ≠ _; rw [add_block]; exact Nat.ne_of_lt (Nat.lt_of_lt_of_le (by have := World.block_lt_of_cell? _ _ hw292_1; first | rwa [add_block] at this | exact this) GW299.out)) | (dsimp only; exact Nat.ne_of_lt (Nat.lt_of_lt_of_le (by have := World.block_lt_of_cell? _ _ hw292_1; first | rwa [add_block] at this | exact this) GW299.out))) _).trans (((cell_far (p := ⟨gb299, _, none⟩) (by first | exact Nat.ne_of_lt (Nat.lt_of_lt_of_le (by have := World.block_lt_of_cell? _ _ hw292_1; first | rwa [add_block] at this | exact this) GW299.out) | (rw [add_block]; exact Nat.ne_of_lt (Nat.lt_of_lt_of_le (by have := World.block_lt_of_cell? _ _ hw292_1; first | rwa [add_block] at this | exact this) GW299.out)) | (show (Addr.add _ _).block ≠ _; rw [add_block]; exact Nat.ne_of_lt (Nat.lt_of_lt_of_le (by have := World.block_lt_of_cell? _ _ hw292_1; first | rwa [add_block] at this | exact this) GW299.out)) | (dsimp only; exact Nat.ne_of_lt (Nat.lt_of_lt_of_le (by have := World.block_lt_of_cell? _ _ hw292_1; first | rwa [add_block] at this | exact this) GW299.out))) _).trans (((cell_far (p := ⟨gb299, _, none⟩) (by first | exact Nat.ne_of_lt (Nat.lt_of_lt_of_le (by have := World.block_lt_of_cell? _ _ hw292_1; first | rwa [add_block] at this | exact this) GW299.out) | (rw [add_block]; exact Nat.ne_of_lt (Nat.lt_of_lt_of_le (by have := World.block_lt_of_cell? _ _ hw292_1; first | rwa [add_block] at this | exact this) GW299.out)) | (show (Addr.add _ _).block ≠ _; rw [add_block]; exact Nat.ne_of_lt (Nat.lt_of_lt_of_le (by have := World.block_lt_of_cell? _ _ hw292_1; first | rwa [add_block] at this | exact this) GW299.out)) | (dsimp only; exact Nat.ne_of_lt (Nat.lt_of_lt_of_le (by have := World.block_lt_of_cell? _ _ hw292_1; first | rwa [add_block] at this | exact this) GW299.out))) _).trans (((cell_far (p := ⟨gb299, _, none⟩) (by first | exact Nat.ne_of_lt (Nat.lt_of_lt_of_le (by have := World.block_lt_of_cell? _ _ hw292_1; first | rwa [add_block] at this | exact this) GW299.out) | (rw [add_block]; exact Nat.ne_of_lt (Nat.lt_of_lt_of_le (by have := World.block_lt_of_cell? _ _ hw292_1; first | rwa [add_block] at this | exact this) GW299.out)) | (show (Addr.add _ _).block ≠ _; rw [add_block]; exact Nat.ne_of_lt (Nat.lt_of_lt_of_le (by have := World.block_lt_of_cell? _ _ hw292_1; first | rwa [add_block] at this | exact this) GW299.out)) | (dsimp only; exact Nat.ne_of_lt (Nat.lt_of_lt_of_le (by have := World.block_lt_of_cell? _ _ hw292_1; first | rwa [add_block] at this | exact this) GW299.out))) _).trans (hHeld.2.2.2.2.2.2.1)))))))))), ((cell_far (p := ⟨gb299, _, none⟩) (by first | exact Nat.ne_of_lt (Nat.lt_of_lt_of_le (by have := World.block_lt_of_cell? _ _ hw292_2; first | rwa [add_block] at this | exact this) GW299.out) | (rw [add_block]; exact Nat.ne_of_lt (Nat.lt_of_lt_of_le (by have := World.block_lt_of_cell? _ _ hw292_2; first | rwa [add_block] at this | exact this) GW299.out)) | (show (Addr.add _ _).block ≠ _; rw [add_block]; exact Nat.ne_of_lt (Nat.lt_of_lt_of_le (by have := World.block_lt_of_cell? _ _ hw292_2; first | rwa [add_block] at this | exact this) GW299.out)) | (dsimp only; exact Nat.ne_of_lt (Nat.lt_of_lt_of_le (by have := World.block_lt_of_cell? _ _ hw292_2; first | rwa [add_block] at this | exact this) GW299.out))) _).trans (((cell_far (p := ⟨gb299, _, none⟩) (by first | exact Nat.ne_of_lt (Nat.lt_of_lt_of_le (by have := World.block_lt_of_cell? _ _ hw292_2; first | rwa [add_block] at this | exact this) GW299.out) | (rw [add_block]; exact Nat.ne_of_lt (Nat.lt_of_lt_of_le (by have := World.block_lt_of_cell? _ _ hw292_2; first | rwa [add_block] at this | exact this) GW299.out)) | (show (Addr.add _ _).block ≠ _; rw [add_block]; exact Nat.ne_of_lt (Nat.lt_of_lt_of_le (by have := World.block_lt_of_cell? _ _ hw292_2; first | rwa [add_block] at this | exact this) GW299.out)) | (dsimp only; exact Nat.ne_of_lt (Nat.lt_of_lt_of_le (by have := World.block_lt_of_cell? _ _ hw292_2; first | rwa [add_block] at this | exact this) GW299.out))) _).trans (((cell_far (p := ⟨gb299, _, none⟩) (by first | exact Nat.ne_of_lt (Nat.lt_of_lt_of_le (by have := World.block_lt_of_cell? _ _ hw292_2; first | rwa [add_block] at this | exact this) GW299.out) | (rw [add_block]; exact Nat.ne_of_lt (Nat.lt_of_lt_of_le (by have := World.block_lt_of_cell? _ _ hw292_2; first | rwa [add_block] at this | exact this) GW299.out)) | (show (Addr.add _ _).block ≠ _; rw [add_block]; exact Nat.ne_of_lt (Nat.lt_of_lt_of_le (by have := World.block_lt_of_cell? _ _ hw292_2; first | rwa [add_block] at this | exact this) GW299.out)) | (dsimp only; exact Nat.ne_of_lt (Nat.lt_of_lt_of_le (by have := World.block_lt_of_cell? _ _ hw292_2; first | rwa [add_block] at this | exact this) GW299.out))) _).trans (((cell_far (p := ⟨gb299, _, none⟩) (by first | exact Nat.ne_of_lt (Nat.lt_of_lt_of_le (by have := World.block_lt_of_cell? _ _ hw292_2; first | rwa [add_block] at this | exact this) GW299.out) | (rw [add_block]; exact Nat.ne_of_lt (Nat.lt_of_lt_of_le (by have := World.block_lt_of_cell? _ _ hw292_2; first | rwa [add_block] at this | exact this) GW299.out)) | (show (Addr.add _ _).block ≠ _; rw [add_block]; exact Nat.ne_of_lt (Nat.lt_of_lt_of_le (by have := World.block_lt_of_cell? _ _ hw292_2; first | rwa [add_block] at this | exact this) GW299.out)) | (dsimp only; exact Nat.ne_of_lt (Nat.lt_of_lt_of_le (by have := World.block_lt_of_cell? _ _ hw292_2; first | rwa [add_block] at this | exact this) GW299.out))) _).trans (((cell_far (p := ⟨gb299, _, none⟩) (by first | exact Nat.ne_of_lt (Nat.lt_of_lt_of_le (by have := World.block_lt_of_cell? _ _ hw292_2; first | rwa [add_block] at this | exact this) GW299.out) | (rw [add_block]; exact Nat.ne_of_lt (Nat.lt_of_lt_of_le (by have := World.block_lt_of_cell? _ _ hw292_2; first | rwa [add_block] at this | exact this) GW299.out)) | (show (Addr.add _ _).block ≠ _; rw [add_block]; exact Nat.ne_of_lt (Nat.lt_of_lt_of_le (by have := World.block_lt_of_cell? _ _ hw292_2; first | rwa [add_block] at this | exact this) GW299.out)) | (dsimp only; exact Nat.ne_of_lt (Nat.lt_of_lt_of_le (by have := World.block_lt_of_cell? _ _ hw292_2; first | rwa [add_block] at this | exact this) GW299.out))) _).trans (hHeld.2.2.2.2.2.2.2))))))))))⟩ (fun hHeld => ?_)
        clear hK K
        refine pure_ (i := 11) (N := some 18) (v := ?_) (a' := ?_) #[true, true, true, true, true, true, true, true, true, true, true, true] rfl rfl (any_of HT_.out (by kernel_rfl)) (fun _ _ _ h => h) (Or.inl ⟨by rfl, ?_⟩) ?_ ?_
        rotate_left
        ·intro w'
         go_simp
         with_reducible rfl
        rotate_left
        ·simp only [Act.put, List.setIfInBounds_toArray, List.set_cons_zero, List.set_cons_succ, i64_w, i32_w]
         rfl
        refine done_ (done_of HT_.out (by kernel_rfl)) ?_
        have hnb58 := NB299_284.out
        have hnc58 := NB284_299.out
        have hnb59 := NB299_291.out
        have hnc59 := NB291_299.out
        have hcz60_0 : w52.cell? ⟨gb299, 0, none⟩ = some (.int .u64 0) := bc BK299 0
        have hcz60_1 : w52.cell? ⟨gb299, 1, none⟩ = some (.int .i64 0) := bc BK299 1
        have hcz60_2 : w52.cell? ⟨gb299, 2, none⟩ = some (.int .u64 0) := bc BK299 2
        have hcz60_3 : w52.cell? ⟨gb299, 3, none⟩ = some (.int .u64 0) := bc BK299 3
        have hcz60_4 : w52.cell? ⟨gb299, 4, none⟩ = some (.int .i64 0) := bc BK299 4
        have hfz60_0 := blk_frozen BK299.out 0
        have hfz60_1 := blk_frozen BK299.out 1
        have hfz60_2 := blk_frozen BK299.out 2
        have hfz60_3 := blk_frozen BK299.out 3
        have hfz60_4 := blk_frozen BK299.out 4
        have hcz61_0 : w52.cell? ⟨gb284, 0, none⟩ = some (.int .u64 t280) := bc BK284 0
        have hcz61_1 : w52.cell? ⟨gb284, 1, none⟩ = some (.int .u32 t281) := bc BK284 1
        have hcz61_2 : w52.cell? ⟨gb284, 2, none⟩ = some (.int .u32 t282) := bc BK284 2
        have hfz61_0 := blk_frozen BK284.out 0
        have hfz61_1 := blk_frozen BK284.out 1
        have hfz61_2 := blk_frozen BK284.out 2
        go_upto_region 17 with (first | ((with_reducible refine gate_callee (f := 25) rfl ?_); refine goesL_ (some 100) rfl rfl Tryz.func25 (by kernel_rfl) rfl #[.agg #[.int .u64 t293, .int .i64 t294, .int .u64 t295, .int .u64 t296, .int .i64 t297], .agg #[.int .u64 t280, .int .u32 t281, .int .u32 t282]] rfl argt ?_; (with_reducible refine (mean_Mean_Add.calls k2 t293 t294 t295 t296 t297 t280 t281 t282 t300 t301 t302 t303 t304 t305 _ A39.out).mono ?_); rintro e w62 ⟨rfl, hb⟩; refine ⟨_, rfl, ?_⟩; replace BK284 := Aside0.mk (blk_below (g := gb284) (o := .cells #[.int .u64 t280, .int .u32 t281, .int .u32 t282] 28 (0, 0)) (by (with_reducible repeat (first | refine blk_drewN ?_ _ | refine blk_drew ?_ | refine blk_alloc ?_ _)); refine blk_far ?_ NB284_299.out _; (with_reducible repeat (first | refine blk_drewN ?_ _ | refine blk_drew ?_ | refine blk_alloc ?_ _)); refine blk_far ?_ NB284_299.out _; (with_reducible repeat (first | refine blk_drewN ?_ _ | refine blk_drew ?_ | refine blk_alloc ?_ _)); refine blk_far ?_ NB284_299.out _; (with_reducible repeat (first | refine blk_drewN ?_ _ | refine blk_drew ?_ | refine blk_alloc ?_ _)); refine blk_far ?_ NB284_299.out _; (with_reducible repeat (first | refine blk_drewN ?_ _ | refine blk_drew ?_ | refine blk_alloc ?_ _)); refine blk_far ?_ NB284_299.out _; exact blkt BK284) hb); replace BK291 := Aside0.mk (blk_below (g := gb291) (o := .cells #[.int .u64 t285, .int .i64 t286, .int .u64 t287, .int .u64 t288, .int .i64 t289] 33 (0, 0)) (by (with_reducible repeat (first | refine blk_drewN ?_ _ | refine blk_drew ?_ | refine blk_alloc ?_ _)); refine blk_far ?_ NB291_299.out _; (with_reducible repeat (first | refine blk_drewN ?_ _ | refine blk_drew ?_ | refine blk_alloc ?_ _)); refine blk_far ?_ NB291_299.out _; (with_reducible repeat (first | refine blk_drewN ?_ _ | refine blk_drew ?_ | refine blk_alloc ?_ _)); refine blk_far ?_ NB291_299.out _; (with_reducible repeat (first | refine blk_drewN ?_ _ | refine blk_drew ?_ | refine blk_alloc ?_ _)); refine blk_far ?_ NB291_299.out _; (with_reducible repeat (first | refine blk_drewN ?_ _ | refine blk_drew ?_ | refine blk_alloc ?_ _)); refine blk_far ?_ NB291_299.out _; exact blkt BK291) hb); replace BK299 := Aside0.mk (blk_below (g := gb299) (o := .cells #[.int .u64 t293, .int .i64 t294, .int .u64 t295, .int .u64 t296, .int .i64 t297] 33 (0, 0)) (by (with_reducible repeat (first | refine blk_drewN ?_ _ | refine blk_drew ?_ | refine blk_alloc ?_ _)); refine blk_put (cs := #[.int .u64 t293, .int .i64 t294, .int .u64 t295, .int .u64 t296, .int .i64 0]) ?_ 4 _ rfl; (with_reducible repeat (first | refine blk_drewN ?_ _ | refine blk_drew ?_ | refine blk_alloc ?_ _)); refine blk_put (cs := #[.int .u64 t293, .int .i64 t294, .int .u64 t295, .int .u64 0, .int .i64 0]) ?_ 3 _ rfl; (with_reducible repeat (first | refine blk_drewN ?_ _ | refine blk_drew ?_ | refine blk_alloc ?_ _)); refine blk_put (cs := #[.int .u64 t293, .int .i64 t294, .int .u64 0, .int .u64 0, .int .i64 0]) ?_ 2 _ rfl; (with_reducible repeat (first | refine blk_drewN ?_ _ | refine blk_drew ?_ | refine blk_alloc ?_ _)); refine blk_put (cs := #[.int .u64 t293, .int .i64 0, .int .u64 0, .int .u64 0, .int .i64 0]) ?_ 1 _ rfl; (with_reducible repeat (first | refine blk_drewN ?_ _ | refine blk_drew ?_ | refine blk_alloc ?_ _)); refine blk_put (cs := #[.int .u64 0, .int .i64 0, .int .u64 0, .int .u64 0, .int .i64 0]) ?_ 0 _ rfl; exact blkt BK299) hb); replace HB := belb HB hb; (try clear hb); (try clear hb2); (try clear hk); (try clear hi)) | ((with_reducible refine gate_dst (N := 19) rfl ?_); (try (refine gate_guard (by rfl) ?_; dsimp only)); refine box_event ?hg (N := 19) ?hd (cs := #[.int .u64 0, .int .i64 0, .int .u64 0, .int .u64 0, .int .i64 0]) (t := 33) ?hr ?_; (case hd => rfl); (case hg => rfl); (case hr => first | (go_simp; done) | (go_simp; rfl)); intro gb306 hg w63 hbox hb; have BK306 := Aside0.mk (hbox); have GW306 := bels HB hg; have GE306 := bels HB hg; have NB284_306 := blkl BK284 hg; have NB306_284 := blkg BK284 hg; have NB291_306 := blkl BK291 hg; have NB306_291 := blkg BK291 hg; have NB299_306 := blkl BK299 hg; have NB306_299 := blkg BK299 hg; replace BK284 := blkb BK284 hb; replace BK291 := blkb BK291 hb; replace BK299 := blkb BK299 hb; replace HB := belb HB hb; clear hb hbox hg; have hnb64 := NB306_284.out; have hnc64 := NB284_306.out; have hnb65 := NB306_291.out; have hnc65 := NB291_306.out; have hnb66 := NB306_299.out; have hnc66 := NB299_306.out; have hcz67_0 : w63.cell? ⟨gb306, 0, none⟩ = some (.int .u64 0) := bc BK306 0; have hcz67_1 : w63.cell? ⟨gb306, 1, none⟩ = some (.int .i64 0) := bc BK306 1; have hcz67_2 : w63.cell? ⟨gb306, 2, none⟩ = some (.int .u64 0) := bc BK306 2; have hcz67_3 : w63.cell? ⟨gb306, 3, none⟩ = some (.int .u64 0) := bc BK306 3; have hcz67_4 : w63.cell? ⟨gb306, 4, none⟩ = some (.int .i64 0) := bc BK306 4; have hfz67_0 := blk_frozen BK306.out 0; have hfz67_1 := blk_frozen BK306.out 1; have hfz67_2 := blk_frozen BK306.out 2; have hfz67_3 := blk_frozen BK306.out 3; have hfz67_4 := blk_frozen BK306.out 4))
        (try simp only [Act.put, List.setIfInBounds_toArray, List.set_cons_zero, List.set_cons_succ])
        go_cut [116] (fun v116 wc => ∃ (kq : Nat) (x116_39 : Bool), v116 = .bool x116_39 ∧ Aside0 (turnstonelaw09_LagMoves.j2 kq l1 a3 ji33 x116_39 t280 t281 t282 t285 t286 t287 t288 t289 t300 t301 t302 t303 t304 = some r) ∧ Aside0 (kq ≤ k2) ∧ Aside0 (wc.heap[gb284]? = some (.cells #[.int .u64 t280, .int .u32 t281, .int .u32 t282] 28 (0, 0))) ∧ Aside0 (wc.heap[gb291]? = some (.cells #[.int .u64 t285, .int .i64 t286, .int .u64 t287, .int .u64 t288, .int .i64 t289] 33 (0, 0))) ∧ Aside0 (wc.heap[gb299]? = some (.cells #[.int .u64 t293, .int .i64 t294, .int .u64 t295, .int .u64 t296, .int .i64 t297] 33 (0, 0))) ∧ Aside0 (wc.heap[gb306]? = some (.cells #[.int .u64 t300, .int .i64 t301, .int .u64 t302, .int .u64 t303, .int .i64 t304] 33 (0, 0))) ∧ Aside0 (Below w.heap.size w wc))
        case first =>
         have H := HC40.out
         clear HC40
         by_cases c68 : t283 = true
         ·subst c68
          have H1 : (if t290 = true then (if t298 = true then (turnstonelaw09_LagMoves.j2 k2 l1 a3 ji33 (!t305) t280 t281 t282 t285 t286 t287 t288 t289 t300 t301 t302 t303 t304) else (turnstonelaw09_LagMoves.j2 k2 l1 a3 ji33 true t280 t281 t282 t285 t286 t287 t288 t289 t300 t301 t302 t303 t304)) else (turnstonelaw09_LagMoves.j2 k2 l1 a3 ji33 true t280 t281 t282 t285 t286 t287 t288 t289 t300 t301 t302 t303 t304)) = some r := by rw [if_pos rfl] at H; exact H
          clear H
          have H := H1
          clear H1
          by_cases c69 : t290 = true
          ·subst c69
           have H1 : (if t298 = true then (turnstonelaw09_LagMoves.j2 k2 l1 a3 ji33 (!t305) t280 t281 t282 t285 t286 t287 t288 t289 t300 t301 t302 t303 t304) else (turnstonelaw09_LagMoves.j2 k2 l1 a3 ji33 true t280 t281 t282 t285 t286 t287 t288 t289 t300 t301 t302 t303 t304)) = some r := by rw [if_pos rfl] at H; exact H
           clear H
           have H := H1
           clear H1
           by_cases c70 : t298 = true
           ·subst c70
            have H1 : (turnstonelaw09_LagMoves.j2 k2 l1 a3 ji33 (!t305) t280 t281 t282 t285 t286 t287 t288 t289 t300 t301 t302 t303 t304) = some r := by rw [if_pos rfl] at H; exact H
            clear H
            have H := H1
            clear H1
            have H' := Aside0.mk H
            clear H
            go_wp2
            go_meet
            case rel => exact ⟨_, (!t305), (by first | rfl | (simp; done) | (simp [*]; done)), H', ⟨by have := HJ6.out; have := HK2.out; first | omega | exact Nat.le_refl _⟩, ⟨by (with_reducible repeat (first | refine blk_drewN ?_ _ | refine blk_drew ?_ | refine blk_alloc ?_ _)); refine blk_far ?_ NB284_306.out _; (with_reducible repeat (first | refine blk_drewN ?_ _ | refine blk_drew ?_ | refine blk_alloc ?_ _)); refine blk_far ?_ NB284_306.out _; (with_reducible repeat (first | refine blk_drewN ?_ _ | refine blk_drew ?_ | refine blk_alloc ?_ _)); refine blk_far ?_ NB284_306.out _; (with_reducible repeat (first | refine blk_drewN ?_ _ | refine blk_drew ?_ | refine blk_alloc ?_ _)); refine blk_far ?_ NB284_306.out _; (with_reducible repeat (first | refine blk_drewN ?_ _ | refine blk_drew ?_ | refine blk_alloc ?_ _)); refine blk_far ?_ NB284_306.out _; exact blkt BK284⟩, ⟨by (with_reducible repeat (first | refine blk_drewN ?_ _ | refine blk_drew ?_ | refine blk_alloc ?_ _)); refine blk_far ?_ NB291_306.out _; (with_reducible repeat (first | refine blk_drewN ?_ _ | refine blk_drew ?_ | refine blk_alloc ?_ _)); refine blk_far ?_ NB291_306.out _; (with_reducible repeat (first | refine blk_drewN ?_ _ | refine blk_drew ?_ | refine blk_alloc ?_ _)); refine blk_far ?_ NB291_306.out _; (with_reducible repeat (first | refine blk_drewN ?_ _ | refine blk_drew ?_ | refine blk_alloc ?_ _)); refine blk_far ?_ NB291_306.out _; (with_reducible repeat (first | refine blk_drewN ?_ _ | refine blk_drew ?_ | refine blk_alloc ?_ _)); refine blk_far ?_ NB291_306.out _; exact blkt BK291⟩, ⟨by (with_reducible repeat (first | refine blk_drewN ?_ _ | refine blk_drew ?_ | refine blk_alloc ?_ _)); refine blk_far ?_ NB299_306.out _; (with_reducible repeat (first | refine blk_drewN ?_ _ | refine blk_drew ?_ | refine blk_alloc ?_ _)); refine blk_far ?_ NB299_306.out _; (with_reducible repeat (first | refine blk_drewN ?_ _ | refine blk_drew ?_ | refine blk_alloc ?_ _)); refine blk_far ?_ NB299_306.out _; (with_reducible repeat (first | refine blk_drewN ?_ _ | refine blk_drew ?_ | refine blk_alloc ?_ _)); refine blk_far ?_ NB299_306.out _; (with_reducible repeat (first | refine blk_drewN ?_ _ | refine blk_drew ?_ | refine blk_alloc ?_ _)); refine blk_far ?_ NB299_306.out _; exact blkt BK299⟩, ⟨by (with_reducible repeat (first | refine blk_drewN ?_ _ | refine blk_drew ?_ | refine blk_alloc ?_ _)); refine blk_put (cs := #[.int .u64 t300, .int .i64 t301, .int .u64 t302, .int .u64 t303, .int .i64 0]) ?_ 4 _ rfl; (with_reducible repeat (first | refine blk_drewN ?_ _ | refine blk_drew ?_ | refine blk_alloc ?_ _)); refine blk_put (cs := #[.int .u64 t300, .int .i64 t301, .int .u64 t302, .int .u64 0, .int .i64 0]) ?_ 3 _ rfl; (with_reducible repeat (first | refine blk_drewN ?_ _ | refine blk_drew ?_ | refine blk_alloc ?_ _)); refine blk_put (cs := #[.int .u64 t300, .int .i64 t301, .int .u64 0, .int .u64 0, .int .i64 0]) ?_ 2 _ rfl; (with_reducible repeat (first | refine blk_drewN ?_ _ | refine blk_drew ?_ | refine blk_alloc ?_ _)); refine blk_put (cs := #[.int .u64 t300, .int .i64 0, .int .u64 0, .int .u64 0, .int .i64 0]) ?_ 1 _ rfl; (with_reducible repeat (first | refine blk_drewN ?_ _ | refine blk_drew ?_ | refine blk_alloc ?_ _)); refine blk_put (cs := #[.int .u64 0, .int .i64 0, .int .u64 0, .int .u64 0, .int .i64 0]) ?_ 0 _ rfl; exact blkt BK306⟩, ⟨belt HB⟩⟩
           replace c70 := Bool.eq_false_iff.mpr c70
           subst c70
           have H1 : (turnstonelaw09_LagMoves.j2 k2 l1 a3 ji33 true t280 t281 t282 t285 t286 t287 t288 t289 t300 t301 t302 t303 t304) = some r := by rw [if_neg (show ¬ (false = true) by decide)] at H; exact H
           clear H
           have H := H1
           clear H1
           have H' := Aside0.mk H
           clear H
           go_wp2
           go_meet
           case rel => exact ⟨_, (true), (by first | rfl | (simp; done) | (simp [*]; done)), H', ⟨by have := HJ6.out; have := HK2.out; first | omega | exact Nat.le_refl _⟩, ⟨by (with_reducible repeat (first | refine blk_drewN ?_ _ | refine blk_drew ?_ | refine blk_alloc ?_ _)); refine blk_far ?_ NB284_306.out _; (with_reducible repeat (first | refine blk_drewN ?_ _ | refine blk_drew ?_ | refine blk_alloc ?_ _)); refine blk_far ?_ NB284_306.out _; (with_reducible repeat (first | refine blk_drewN ?_ _ | refine blk_drew ?_ | refine blk_alloc ?_ _)); refine blk_far ?_ NB284_306.out _; (with_reducible repeat (first | refine blk_drewN ?_ _ | refine blk_drew ?_ | refine blk_alloc ?_ _)); refine blk_far ?_ NB284_306.out _; (with_reducible repeat (first | refine blk_drewN ?_ _ | refine blk_drew ?_ | refine blk_alloc ?_ _)); refine blk_far ?_ NB284_306.out _; exact blkt BK284⟩, ⟨by (with_reducible repeat (first | refine blk_drewN ?_ _ | refine blk_drew ?_ | refine blk_alloc ?_ _)); refine blk_far ?_ NB291_306.out _; (with_reducible repeat (first | refine blk_drewN ?_ _ | refine blk_drew ?_ | refine blk_alloc ?_ _)); refine blk_far ?_ NB291_306.out _; (with_reducible repeat (first | refine blk_drewN ?_ _ | refine blk_drew ?_ | refine blk_alloc ?_ _)); refine blk_far ?_ NB291_306.out _; (with_reducible repeat (first | refine blk_drewN ?_ _ | refine blk_drew ?_ | refine blk_alloc ?_ _)); refine blk_far ?_ NB291_306.out _; (with_reducible repeat (first | refine blk_drewN ?_ _ | refine blk_drew ?_ | refine blk_alloc ?_ _)); refine blk_far ?_ NB291_306.out _; exact blkt BK291⟩, ⟨by (with_reducible repeat (first | refine blk_drewN ?_ _ | refine blk_drew ?_ | refine blk_alloc ?_ _)); refine blk_far ?_ NB299_306.out _; (with_reducible repeat (first | refine blk_drewN ?_ _ | refine blk_drew ?_ | refine blk_alloc ?_ _)); refine blk_far ?_ NB299_306.out _; (with_reducible repeat (first | refine blk_drewN ?_ _ | refine blk_drew ?_ | refine blk_alloc ?_ _)); refine blk_far ?_ NB299_306.out _; (with_reducible repeat (first | refine blk_drewN ?_ _ | refine blk_drew ?_ | refine blk_alloc ?_ _)); refine blk_far ?_ NB299_306.out _; (with_reducible repeat (first | refine blk_drewN ?_ _ | refine blk_drew ?_ | refine blk_alloc ?_ _)); refine blk_far ?_ NB299_306.out _; exact blkt BK299⟩, ⟨by (with_reducible repeat (first | refine blk_drewN ?_ _ | refine blk_drew ?_ | refine blk_alloc ?_ _)); refine blk_put (cs := #[.int .u64 t300, .int .i64 t301, .int .u64 t302, .int .u64 t303, .int .i64 0]) ?_ 4 _ rfl; (with_reducible repeat (first | refine blk_drewN ?_ _ | refine blk_drew ?_ | refine blk_alloc ?_ _)); refine blk_put (cs := #[.int .u64 t300, .int .i64 t301, .int .u64 t302, .int .u64 0, .int .i64 0]) ?_ 3 _ rfl; (with_reducible repeat (first | refine blk_drewN ?_ _ | refine blk_drew ?_ | refine blk_alloc ?_ _)); refine blk_put (cs := #[.int .u64 t300, .int .i64 t301, .int .u64 0, .int .u64 0, .int .i64 0]) ?_ 2 _ rfl; (with_reducible repeat (first | refine blk_drewN ?_ _ | refine blk_drew ?_ | refine blk_alloc ?_ _)); refine blk_put (cs := #[.int .u64 t300, .int .i64 0, .int .u64 0, .int .u64 0, .int .i64 0]) ?_ 1 _ rfl; (with_reducible repeat (first | refine blk_drewN ?_ _ | refine blk_drew ?_ | refine blk_alloc ?_ _)); refine blk_put (cs := #[.int .u64 0, .int .i64 0, .int .u64 0, .int .u64 0, .int .i64 0]) ?_ 0 _ rfl; exact blkt BK306⟩, ⟨belt HB⟩⟩
          replace c69 := Bool.eq_false_iff.mpr c69
          subst c69
          have H1 : (turnstonelaw09_LagMoves.j2 k2 l1 a3 ji33 true t280 t281 t282 t285 t286 t287 t288 t289 t300 t301 t302 t303 t304) = some r := by rw [if_neg (show ¬ (false = true) by decide)] at H; exact H
          clear H
          have H := H1
          clear H1
          have H' := Aside0.mk H
          clear H
          go_wp2
          go_meet
          case rel => exact ⟨_, (true), (by first | rfl | (simp; done) | (simp [*]; done)), H', ⟨by have := HJ6.out; have := HK2.out; first | omega | exact Nat.le_refl _⟩, ⟨by (with_reducible repeat (first | refine blk_drewN ?_ _ | refine blk_drew ?_ | refine blk_alloc ?_ _)); refine blk_far ?_ NB284_306.out _; (with_reducible repeat (first | refine blk_drewN ?_ _ | refine blk_drew ?_ | refine blk_alloc ?_ _)); refine blk_far ?_ NB284_306.out _; (with_reducible repeat (first | refine blk_drewN ?_ _ | refine blk_drew ?_ | refine blk_alloc ?_ _)); refine blk_far ?_ NB284_306.out _; (with_reducible repeat (first | refine blk_drewN ?_ _ | refine blk_drew ?_ | refine blk_alloc ?_ _)); refine blk_far ?_ NB284_306.out _; (with_reducible repeat (first | refine blk_drewN ?_ _ | refine blk_drew ?_ | refine blk_alloc ?_ _)); refine blk_far ?_ NB284_306.out _; exact blkt BK284⟩, ⟨by (with_reducible repeat (first | refine blk_drewN ?_ _ | refine blk_drew ?_ | refine blk_alloc ?_ _)); refine blk_far ?_ NB291_306.out _; (with_reducible repeat (first | refine blk_drewN ?_ _ | refine blk_drew ?_ | refine blk_alloc ?_ _)); refine blk_far ?_ NB291_306.out _; (with_reducible repeat (first | refine blk_drewN ?_ _ | refine blk_drew ?_ | refine blk_alloc ?_ _)); refine blk_far ?_ NB291_306.out _; (with_reducible repeat (first | refine blk_drewN ?_ _ | refine blk_drew ?_ | refine blk_alloc ?_ _)); refine blk_far ?_ NB291_306.out _; (with_reducible repeat (first | refine blk_drewN ?_ _ | refine blk_drew ?_ | refine blk_alloc ?_ _)); refine blk_far ?_ NB291_306.out _; exact blkt BK291⟩, ⟨by (with_reducible repeat (first | refine blk_drewN ?_ _ | refine blk_drew ?_ | refine blk_alloc ?_ _)); refine blk_far ?_ NB299_306.out _; (with_reducible repeat (first | refine blk_drewN ?_ _ | refine blk_drew ?_ | refine blk_alloc ?_ _)); refine blk_far ?_ NB299_306.out _; (with_reducible repeat (first | refine blk_drewN ?_ _ | refine blk_drew ?_ | refine blk_alloc ?_ _)); refine blk_far ?_ NB299_306.out _; (with_reducible repeat (first | refine blk_drewN ?_ _ | refine blk_drew ?_ | refine blk_alloc ?_ _)); refine blk_far ?_ NB299_306.out _; (with_reducible repeat (first | refine blk_drewN ?_ _ | refine blk_drew ?_ | refine blk_alloc ?_ _)); refine blk_far ?_ NB299_306.out _; exact blkt BK299⟩, ⟨by (with_reducible repeat (first | refine blk_drewN ?_ _ | refine blk_drew ?_ | refine blk_alloc ?_ _)); refine blk_put (cs := #[.int .u64 t300, .int .i64 t301, .int .u64 t302, .int .u64 t303, .int .i64 0]) ?_ 4 _ rfl; (with_reducible repeat (first | refine blk_drewN ?_ _ | refine blk_drew ?_ | refine blk_alloc ?_ _)); refine blk_put (cs := #[.int .u64 t300, .int .i64 t301, .int .u64 t302, .int .u64 0, .int .i64 0]) ?_ 3 _ rfl; (with_reducible repeat (first | refine blk_drewN ?_ _ | refine blk_drew ?_ | refine blk_alloc ?_ _)); refine blk_put (cs := #[.int .u64 t300, .int .i64 t301, .int .u64 0, .int .u64 0, .int .i64 0]) ?_ 2 _ rfl; (with_reducible repeat (first | refine blk_drewN ?_ _ | refine blk_drew ?_ | refine blk_alloc ?_ _)); refine blk_put (cs := #[.int .u64 t300, .int .i64 0, .int .u64 0, .int .u64 0, .int .i64 0]) ?_ 1 _ rfl; (with_reducible repeat (first | refine blk_drewN ?_ _ | refine blk_drew ?_ | refine blk_alloc ?_ _)); refine blk_put (cs := #[.int .u64 0, .int .i64 0, .int .u64 0, .int .u64 0, .int .i64 0]) ?_ 0 _ rfl; exact blkt BK306⟩, ⟨belt HB⟩⟩
         replace c68 := Bool.eq_false_iff.mpr c68
         subst c68
         have H1 : (turnstonelaw09_LagMoves.j2 k2 l1 a3 ji33 true t280 t281 t282 t285 t286 t287 t288 t289 t300 t301 t302 t303 t304) = some r := by rw [if_neg (show ¬ (false = true) by decide)] at H; exact H
         clear H
         have H := H1
         clear H1
         have H' := Aside0.mk H
         clear H
         go_wp2
         go_meet
         case rel => exact ⟨_, (true), (by first | rfl | (simp; done) | (simp [*]; done)), H', ⟨by have := HJ6.out; have := HK2.out; first | omega | exact Nat.le_refl _⟩, ⟨by (with_reducible repeat (first | refine blk_drewN ?_ _ | refine blk_drew ?_ | refine blk_alloc ?_ _)); refine blk_far ?_ NB284_306.out _; (with_reducible repeat (first | refine blk_drewN ?_ _ | refine blk_drew ?_ | refine blk_alloc ?_ _)); refine blk_far ?_ NB284_306.out _; (with_reducible repeat (first | refine blk_drewN ?_ _ | refine blk_drew ?_ | refine blk_alloc ?_ _)); refine blk_far ?_ NB284_306.out _; (with_reducible repeat (first | refine blk_drewN ?_ _ | refine blk_drew ?_ | refine blk_alloc ?_ _)); refine blk_far ?_ NB284_306.out _; (with_reducible repeat (first | refine blk_drewN ?_ _ | refine blk_drew ?_ | refine blk_alloc ?_ _)); refine blk_far ?_ NB284_306.out _; exact blkt BK284⟩, ⟨by (with_reducible repeat (first | refine blk_drewN ?_ _ | refine blk_drew ?_ | refine blk_alloc ?_ _)); refine blk_far ?_ NB291_306.out _; (with_reducible repeat (first | refine blk_drewN ?_ _ | refine blk_drew ?_ | refine blk_alloc ?_ _)); refine blk_far ?_ NB291_306.out _; (with_reducible repeat (first | refine blk_drewN ?_ _ | refine blk_drew ?_ | refine blk_alloc ?_ _)); refine blk_far ?_ NB291_306.out _; (with_reducible repeat (first | refine blk_drewN ?_ _ | refine blk_drew ?_ | refine blk_alloc ?_ _)); refine blk_far ?_ NB291_306.out _; (with_reducible repeat (first | refine blk_drewN ?_ _ | refine blk_drew ?_ | refine blk_alloc ?_ _)); refine blk_far ?_ NB291_306.out _; exact blkt BK291⟩, ⟨by (with_reducible repeat (first | refine blk_drewN ?_ _ | refine blk_drew ?_ | refine blk_alloc ?_ _)); refine blk_far ?_ NB299_306.out _; (with_reducible repeat (first | refine blk_drewN ?_ _ | refine blk_drew ?_ | refine blk_alloc ?_ _)); refine blk_far ?_ NB299_306.out _; (with_reducible repeat (first | refine blk_drewN ?_ _ | refine blk_drew ?_ | refine blk_alloc ?_ _)); refine blk_far ?_ NB299_306.out _; (with_reducible repeat (first | refine blk_drewN ?_ _ | refine blk_drew ?_ | refine blk_alloc ?_ _)); refine blk_far ?_ NB299_306.out _; (with_reducible repeat (first | refine blk_drewN ?_ _ | refine blk_drew ?_ | refine blk_alloc ?_ _)); refine blk_far ?_ NB299_306.out _; exact blkt BK299⟩, ⟨by (with_reducible repeat (first | refine blk_drewN ?_ _ | refine blk_drew ?_ | refine blk_alloc ?_ _)); refine blk_put (cs := #[.int .u64 t300, .int .i64 t301, .int .u64 t302, .int .u64 t303, .int .i64 0]) ?_ 4 _ rfl; (with_reducible repeat (first | refine blk_drewN ?_ _ | refine blk_drew ?_ | refine blk_alloc ?_ _)); refine blk_put (cs := #[.int .u64 t300, .int .i64 t301, .int .u64 t302, .int .u64 0, .int .i64 0]) ?_ 3 _ rfl; (with_reducible repeat (first | refine blk_drewN ?_ _ | refine blk_drew ?_ | refine blk_alloc ?_ _)); refine blk_put (cs := #[.int .u64 t300, .int .i64 t301, .int .u64 0, .int .u64 0, .int .i64 0]) ?_ 2 _ rfl; (with_reducible repeat (first | refine blk_drewN ?_ _ | refine blk_drew ?_ | refine blk_alloc ?_ _)); refine blk_put (cs := #[.int .u64 t300, .int .i64 0, .int .u64 0, .int .u64 0, .int .i64 0]) ?_ 1 _ rfl; (with_reducible repeat (first | refine blk_drewN ?_ _ | refine blk_drew ?_ | refine blk_alloc ?_ _)); refine blk_put (cs := #[.int .u64 0, .int .i64 0, .int .u64 0, .int .u64 0, .int .i64 0]) ?_ 0 _ rfl; exact blkt BK306⟩, ⟨belt HB⟩⟩
        case rest =>
         clear HC40
         try clear c1
         try clear c2
         try clear p2
         try clear q2
         try clear hx2
         try clear c3
         try clear c4
         try clear c5
         try clear c6
         try clear p6
         try clear c7
         try clear c9
         try clear c9b0
         try clear c9b1
         try clear c10
         try clear c10b0
         try clear c10b1
         try clear c10b2
         try clear c11
         try clear c12
         try clear c12b0
         try clear c13
         try clear c13b0
         try clear c14
         try clear c14b0
         try clear c16
         try clear c17
         try clear c18
         try clear c18b0
         try clear c22
         try clear c22b0
         try clear c23
         try clear c24
         try clear c25
         try clear p27
         try clear q27
         try clear hx27
         try clear p29
         try clear q29
         try clear hx29
         try clear c32
         try clear c32b0
         try clear c32b1
         try clear c32b2
         try clear c34
         try clear c34b0
         try clear c35
         try clear c35b0
         try clear c46
         try clear c58
         try clear c59
         try clear c64
         try clear p64
         try clear c65
         try clear c66
         try clear c68
         try clear c69
         try clear c70
         try clear hcz20_0
         try clear hcz20_1
         try clear hcz20_2
         try clear hcz24_0
         try clear hcz24_1
         try clear hcz24_2
         try clear hcz27_0
         try clear hcz27_1
         try clear hcz27_2
         try clear hcz30_0
         try clear hcz30_1
         try clear hcz30_2
         try clear hcz43_0
         try clear hcz43_1
         try clear hcz43_2
         try clear hcz47_0
         try clear hcz47_1
         try clear hcz47_2
         try clear hcz47_3
         try clear hcz47_4
         try clear hcz60_0
         try clear hcz60_1
         try clear hcz60_2
         try clear hcz60_3
         try clear hcz60_4
         try clear hcz61_0
         try clear hcz61_1
         try clear hcz61_2
         try clear hcz67_0
         try clear hcz67_1
         try clear hcz67_2
         try clear hcz67_3
         try clear hcz67_4
         try clear hfz20_0
         try clear hfz20_1
         try clear hfz20_2
         try clear hfz24_0
         try clear hfz24_1
         try clear hfz24_2
         try clear hfz27_0
         try clear hfz27_1
         try clear hfz27_2
         try clear hfz30_0
         try clear hfz30_1
         try clear hfz30_2
         try clear hfz43_0
         try clear hfz43_1
         try clear hfz43_2
         try clear hfz47_0
         try clear hfz47_1
         try clear hfz47_2
         try clear hfz47_3
         try clear hfz47_4
         try clear hfz60_0
         try clear hfz60_1
         try clear hfz60_2
         try clear hfz60_3
         try clear hfz60_4
         try clear hfz61_0
         try clear hfz61_1
         try clear hfz61_2
         try clear hfz67_0
         try clear hfz67_1
         try clear hfz67_2
         try clear hfz67_3
         try clear hfz67_4
         try clear hx275_0
         try clear hx275_1
         try clear hx275_2
         try clear hx279_0
         try clear hx279_1
         try clear hx279_2
         try clear hx292_0
         try clear hx292_1
         try clear hx292_2
         try clear p2
         try clear p275
         try clear p279
         try clear p292
         try clear q275
         try clear q279
         try clear q292
         obtain ⟨kq, x116_39, rfl, HA, HJ39, BK284, BK291, BK299, BK306, HB⟩ := hcut
         cases kq with
         | zero => exact absurd HA.out (by simp [turnstonelaw09_LagMoves.j2])
         | succ kj39 =>
          have H := HA.out
          clear HA
          simp only [turnstonelaw09_LagMoves.j2] at H
          by_cases c71 : x116_39 = true
          ·subst c71
           have H1 : (none) = some r := by rw [if_pos rfl] at H; exact H
           clear H
           have H := H1
           clear H1
           exact absurd H (by simp)
          replace c71 := Bool.eq_false_iff.mpr c71
          subst c71
          have H1 : (turnstonelaw09_LagMoves.l1 kj39 a3 ji33 l1 (l1.length : Int) 0 t280 t281 t282 t285 t286 t287 t288 t289 t300 t301 t302 t303 t304) = some r := by rw [if_neg (show ¬ (false = true) by decide)] at H; exact H
          clear H
          have H := H1
          clear H1
          have H' := Aside0.mk H
          clear H
          go_wp2
          (try simp only [Act.put, List.setIfInBounds_toArray, List.set_cons_zero, List.set_cons_succ])
          go_loopg [119] kj39 (fun kq v119 w' => ∃ (x119_4 : Int), v119 = .int .i64 x119_4 ∧ Aside0 (turnstonelaw09_LagMoves.l1 kq a3 ji33 l1 (l1.length : Int) x119_4 t280 t281 t282 t285 t286 t287 t288 t289 t300 t301 t302 t303 t304 = some r) ∧ Aside0 (kq ≤ kj39) ∧ Aside0 (w'.heap[gb284]? = some (.cells #[.int .u64 t280, .int .u32 t281, .int .u32 t282] 28 (0, 0))) ∧ Aside0 (w'.heap[gb291]? = some (.cells #[.int .u64 t285, .int .i64 t286, .int .u64 t287, .int .u64 t288, .int .i64 t289] 33 (0, 0))) ∧ Aside0 (w'.heap[gb299]? = some (.cells #[.int .u64 t293, .int .i64 t294, .int .u64 t295, .int .u64 t296, .int .i64 t297] 33 (0, 0))) ∧ Aside0 (w'.heap[gb306]? = some (.cells #[.int .u64 t300, .int .i64 t301, .int .u64 t302, .int .u64 t303, .int .i64 t304] 33 (0, 0))) ∧ Aside0 (Below w.heap.size w w'))
          case atStart => exact ⟨(0), (by first | rfl | (simp; done) | (simp [*]; done)), H', ⟨Nat.le_refl _⟩, ⟨blkt BK284⟩, ⟨blkt BK291⟩, ⟨blkt BK299⟩, ⟨blkt BK306⟩, ⟨belt HB⟩⟩
          case round =>
           clear H'
           try clear c1
           try clear c2
           try clear p2
           try clear q2
           try clear hx2
           try clear c3
           try clear c4
           try clear c5
           try clear c6
           try clear p6
           try clear c7
           try clear c9
           try clear c9b0
           try clear c9b1
           try clear c10
           try clear c10b0
           try clear c10b1
           try clear c10b2
           try clear c11
           try clear c12
           try clear c12b0
           try clear c13
           try clear c13b0
           try clear c14
           try clear c14b0
           try clear c16
           try clear c17
           try clear c18
           try clear c18b0
           try clear c22
           try clear c22b0
           try clear c23
           try clear c24
           try clear c25
           try clear p27
           try clear q27
           try clear hx27
           try clear p29
           try clear q29
           try clear hx29
           try clear c32
           try clear c32b0
           try clear c32b1
           try clear c32b2
           try clear c34
           try clear c34b0
           try clear c35
           try clear c35b0
           try clear c46
           try clear c58
           try clear c59
           try clear c64
           try clear p64
           try clear c65
           try clear c66
           try clear c68
           try clear c69
           try clear c70
           try clear c71
           try clear hcz20_0
           try clear hcz20_1
           try clear hcz20_2
           try clear hcz24_0
           try clear hcz24_1
           try clear hcz24_2
           try clear hcz27_0
           try clear hcz27_1
           try clear hcz27_2
           try clear hcz30_0
           try clear hcz30_1
           try clear hcz30_2
           try clear hcz43_0
           try clear hcz43_1
           try clear hcz43_2
           try clear hcz47_0
           try clear hcz47_1
           try clear hcz47_2
           try clear hcz47_3
           try clear hcz47_4
           try clear hcz60_0
           try clear hcz60_1
           try clear hcz60_2
           try clear hcz60_3
           try clear hcz60_4
           try clear hcz61_0
           try clear hcz61_1
           try clear hcz61_2
           try clear hcz67_0
           try clear hcz67_1
           try clear hcz67_2
           try clear hcz67_3
           try clear hcz67_4
           try clear hfz20_0
           try clear hfz20_1
           try clear hfz20_2
           try clear hfz24_0
           try clear hfz24_1
           try clear hfz24_2
           try clear hfz27_0
           try clear hfz27_1
           try clear hfz27_2
           try clear hfz30_0
           try clear hfz30_1
           try clear hfz30_2
           try clear hfz43_0
           try clear hfz43_1
           try clear hfz43_2
           try clear hfz47_0
           try clear hfz47_1
           try clear hfz47_2
           try clear hfz47_3
           try clear hfz47_4
           try clear hfz60_0
           try clear hfz60_1
           try clear hfz60_2
           try clear hfz60_3
           try clear hfz60_4
           try clear hfz61_0
           try clear hfz61_1
           try clear hfz61_2
           try clear hfz67_0
           try clear hfz67_1
           try clear hfz67_2
           try clear hfz67_3
           try clear hfz67_4
           try clear hx275_0
           try clear hx275_1
           try clear hx275_2
           try clear hx279_0
           try clear hx279_1
           try clear hx279_2
           try clear hx292_0
           try clear hx292_1
           try clear hx292_2
           try clear p2
           try clear p27
           try clear p275
           try clear p279
           try clear p29
           try clear p292
           try clear p6
           try clear p64
           try clear q2
           try clear q27
           try clear q275
           try clear q279
           try clear q29
           try clear q292
           obtain ⟨x119_4, rfl, HA, HK4, BK284, BK291, BK299, BK306, HB⟩ := hrel
           cases gk with
           | zero => exact absurd HA.out (by simp [turnstonelaw09_LagMoves.l1])
           | succ k4 =>
            have H := HA.out
            clear HA
            simp only [turnstonelaw09_LagMoves.l1] at H
            by_cases c72 : x119_4 < (l1.length : Int)
            ·rw [if_pos c72] at H
             have c72b0 : decide (x119_4 < (l1.length : Int)) = true := decide_eq_true c72
             clear c72
             by_cases c73 : 0 ≤ x119_4
             ·rw [if_pos c73] at H
              have c73b0 : decide (0 ≤ x119_4) = true := decide_eq_true c73
              clear c73
              by_cases c74 : x119_4 < (l1.length : Int)
              ·rw [if_pos c74] at H
               have c74b0 : decide (x119_4 < (l1.length : Int)) = true := decide_eq_true c74
               clear c74
               have HC75 := Aside0.mk H
               clear H
               have p307 : 0 ≤ (x119_4 : Int) := of_decide_eq_true (by first | (with_reducible assumption) | assumption)
               have q307 : x119_4 < (l1.length : Int) := of_decide_eq_true (by first | (with_reducible assumption) | assumption)
               obtain ⟨ad307, e307, hx307_0, hx307_1, hx307_2⟩ := at_T28 HR1.out x119_4 p307 q307
               obtain rfl : ad279 = ad307 := (by injection e307)
               replace hx307_0 := (HB.out.cell (World.block_lt_of_cell? w _ hx307_0)).trans hx307_0
               replace hx307_1 := (HB.out.cell (World.block_lt_of_cell? w _ hx307_1)).trans hx307_1
               replace hx307_2 := (HB.out.cell (World.block_lt_of_cell? w _ hx307_2)).trans hx307_2
               replace p307 := eq_true p307
               replace q307 := eq_true q307
               go_upto_if 127 with (first | ((with_reducible refine gate_dst (N := 22) rfl ?_); (try (refine gate_guard (by rfl) ?_; dsimp only)); refine box_event ?hg (N := 22) ?hd (cs := #[.int .u64 0, .int .u32 0, .int .u32 0]) (t := 28) ?hr ?_; (case hd => rfl); (case hg => rfl); (case hr => first | (go_simp; done) | (go_simp; rfl)); intro gb308 hg w76 hbox hb; have BK308 := Aside0.mk (hbox); have GW308 := bels HB hg; have GE308 := bels HB hg; have NB284_308 := blkl BK284 hg; have NB308_284 := blkg BK284 hg; have NB291_308 := blkl BK291 hg; have NB308_291 := blkg BK291 hg; have NB299_308 := blkl BK299 hg; have NB308_299 := blkg BK299 hg; have NB306_308 := blkl BK306 hg; have NB308_306 := blkg BK306 hg; replace BK284 := blkb BK284 hb; replace BK291 := blkb BK291 hb; replace BK299 := blkb BK299 hb; replace BK306 := blkb BK306 hb; replace HB := belb HB hb; clear hb hbox hg; have hnb77 := NB308_284.out; have hnc77 := NB284_308.out; have hnb78 := NB308_291.out; have hnc78 := NB291_308.out; have hnb79 := NB308_299.out; have hnc79 := NB299_308.out; have hnb80 := NB308_306.out; have hnc80 := NB306_308.out; have hcz81_0 : w76.cell? ⟨gb308, 0, none⟩ = some (.int .u64 0) := bc BK308 0; have hcz81_1 : w76.cell? ⟨gb308, 1, none⟩ = some (.int .u32 0) := bc BK308 1; have hcz81_2 : w76.cell? ⟨gb308, 2, none⟩ = some (.int .u32 0) := bc BK308 2; have hfz81_0 := blk_frozen BK308.out 0; have hfz81_1 := blk_frozen BK308.out 1; have hfz81_2 := blk_frozen BK308.out 2) | ((with_reducible refine gate_dst (N := 23) rfl ?_); (try (refine gate_guard (by rfl) ?_; dsimp only)); refine box_event ?hg (N := 23) ?hd (cs := #[.int .u64 0, .int .u32 0, .int .u32 0]) (t := 28) ?hr ?_; (case hd => rfl); (case hg => rfl); (case hr => first | (go_simp; done) | (go_simp; rfl)); intro gb309 hg w82 hbox hb; have BK309 := Aside0.mk (hbox); have GW309 := bels HB hg; have GE309 := bels HB hg; have NB284_309 := Aside0.mk ((by rw [hg]; exact Nat.ne_of_lt (blk_lt (g := gb284) (o := .cells #[.int .u64 t280, .int .u32 t281, .int .u32 t282] 28 (0, 0)) (by (with_reducible repeat (first | refine blk_drewN ?_ _ | refine blk_drew ?_ | refine blk_alloc ?_ _)); refine blk_far ?_ NB284_308.out _; (with_reducible repeat (first | refine blk_drewN ?_ _ | refine blk_drew ?_ | refine blk_alloc ?_ _)); refine blk_far ?_ NB284_308.out _; (with_reducible repeat (first | refine blk_drewN ?_ _ | refine blk_drew ?_ | refine blk_alloc ?_ _)); refine blk_far ?_ NB284_308.out _; exact blkt BK284)) : gb284 ≠ gb309)); have NB309_284 := Aside0.mk ((by rw [hg]; exact Nat.ne_of_gt (blk_lt (g := gb284) (o := .cells #[.int .u64 t280, .int .u32 t281, .int .u32 t282] 28 (0, 0)) (by (with_reducible repeat (first | refine blk_drewN ?_ _ | refine blk_drew ?_ | refine blk_alloc ?_ _)); refine blk_far ?_ NB284_308.out _; (with_reducible repeat (first | refine blk_drewN ?_ _ | refine blk_drew ?_ | refine blk_alloc ?_ _)); refine blk_far ?_ NB284_308.out _; (with_reducible repeat (first | refine blk_drewN ?_ _ | refine blk_drew ?_ | refine blk_alloc ?_ _)); refine blk_far ?_ NB284_308.out _; exact blkt BK284)) : gb309 ≠ gb284)); have NB291_309 := Aside0.mk ((by rw [hg]; exact Nat.ne_of_lt (blk_lt (g := gb291) (o := .cells #[.int .u64 t285, .int .i64 t286, .int .u64 t287, .int .u64 t288, .int .i64 t289] 33 (0, 0)) (by (with_reducible repeat (first | refine blk_drewN ?_ _ | refine blk_drew ?_ | refine blk_alloc ?_ _)); refine blk_far ?_ NB291_308.out _; (with_reducible repeat (first | refine blk_drewN ?_ _ | refine blk_drew ?_ | refine blk_alloc ?_ _)); refine blk_far ?_ NB291_308.out _; (with_reducible repeat (first | refine blk_drewN ?_ _ | refine blk_drew ?_ | refine blk_alloc ?_ _)); refine blk_far ?_ NB291_308.out _; exact blkt BK291)) : gb291 ≠ gb309)); have NB309_291 := Aside0.mk ((by rw [hg]; exact Nat.ne_of_gt (blk_lt (g := gb291) (o := .cells #[.int .u64 t285, .int .i64 t286, .int .u64 t287, .int .u64 t288, .int .i64 t289] 33 (0, 0)) (by (with_reducible repeat (first | refine blk_drewN ?_ _ | refine blk_drew ?_ | refine blk_alloc ?_ _)); refine blk_far ?_ NB291_308.out _; (with_reducible repeat (first | refine blk_drewN ?_ _ | refine blk_drew ?_ | refine blk_alloc ?_ _)); refine blk_far ?_ NB291_308.out _; (with_reducible repeat (first | refine blk_drewN ?_ _ | refine blk_drew ?_ | refine blk_alloc ?_ _)); refine blk_far ?_ NB291_308.out _; exact blkt BK291)) : gb309 ≠ gb291)); have NB299_309 := Aside0.mk ((by rw [hg]; exact Nat.ne_of_lt (blk_lt (g := gb299) (o := .cells #[.int .u64 t293, .int .i64 t294, .int .u64 t295, .int .u64 t296, .int .i64 t297] 33 (0, 0)) (by (with_reducible repeat (first | refine blk_drewN ?_ _ | refine blk_drew ?_ | refine blk_alloc ?_ _)); refine blk_far ?_ NB299_308.out _; (with_reducible repeat (first | refine blk_drewN ?_ _ | refine blk_drew ?_ | refine blk_alloc ?_ _)); refine blk_far ?_ NB299_308.out _; (with_reducible repeat (first | refine blk_drewN ?_ _ | refine blk_drew ?_ | refine blk_alloc ?_ _)); refine blk_far ?_ NB299_308.out _; exact blkt BK299)) : gb299 ≠ gb309)); have NB309_299 := Aside0.mk ((by rw [hg]; exact Nat.ne_of_gt (blk_lt (g := gb299) (o := .cells #[.int .u64 t293, .int .i64 t294, .int .u64 t295, .int .u64 t296, .int .i64 t297] 33 (0, 0)) (by (with_reducible repeat (first | refine blk_drewN ?_ _ | refine blk_drew ?_ | refine blk_alloc ?_ _)); refine blk_far ?_ NB299_308.out _; (with_reducible repeat (first | refine blk_drewN ?_ _ | refine blk_drew ?_ | refine blk_alloc ?_ _)); refine blk_far ?_ NB299_308.out _; (with_reducible repeat (first | refine blk_drewN ?_ _ | refine blk_drew ?_ | refine blk_alloc ?_ _)); refine blk_far ?_ NB299_308.out _; exact blkt BK299)) : gb309 ≠ gb299)); have NB306_309 := Aside0.mk ((by rw [hg]; exact Nat.ne_of_lt (blk_lt (g := gb306) (o := .cells #[.int .u64 t300, .int .i64 t301, .int .u64 t302, .int .u64 t303, .int .i64 t304] 33 (0, 0)) (by (with_reducible repeat (first | refine blk_drewN ?_ _ | refine blk_drew ?_ | refine blk_alloc ?_ _)); refine blk_far ?_ NB306_308.out _; (with_reducible repeat (first | refine blk_drewN ?_ _ | refine blk_drew ?_ | refine blk_alloc ?_ _)); refine blk_far ?_ NB306_308.out _; (with_reducible repeat (first | refine blk_drewN ?_ _ | refine blk_drew ?_ | refine blk_alloc ?_ _)); refine blk_far ?_ NB306_308.out _; exact blkt BK306)) : gb306 ≠ gb309)); have NB309_306 := Aside0.mk ((by rw [hg]; exact Nat.ne_of_gt (blk_lt (g := gb306) (o := .cells #[.int .u64 t300, .int .i64 t301, .int .u64 t302, .int .u64 t303, .int .i64 t304] 33 (0, 0)) (by (with_reducible repeat (first | refine blk_drewN ?_ _ | refine blk_drew ?_ | refine blk_alloc ?_ _)); refine blk_far ?_ NB306_308.out _; (with_reducible repeat (first | refine blk_drewN ?_ _ | refine blk_drew ?_ | refine blk_alloc ?_ _)); refine blk_far ?_ NB306_308.out _; (with_reducible repeat (first | refine blk_drewN ?_ _ | refine blk_drew ?_ | refine blk_alloc ?_ _)); refine blk_far ?_ NB306_308.out _; exact blkt BK306)) : gb309 ≠ gb306)); have NB308_309 := Aside0.mk ((by rw [hg]; exact Nat.ne_of_lt (blk_lt (g := gb308) (o := .cells #[.int .u64 ((rd_T28 l1 x119_4).f0), .int .u32 ((rd_T28 l1 x119_4).f1), .int .u32 ((rd_T28 l1 x119_4).f2)] 28 (0, 0)) (by (with_reducible repeat (first | refine blk_drewN ?_ _ | refine blk_drew ?_ | refine blk_alloc ?_ _)); refine blk_put (cs := #[.int .u64 ((rd_T28 l1 x119_4).f0), .int .u32 ((rd_T28 l1 x119_4).f1), .int .u32 0]) ?_ 2 _ rfl; (with_reducible repeat (first | refine blk_drewN ?_ _ | refine blk_drew ?_ | refine blk_alloc ?_ _)); refine blk_put (cs := #[.int .u64 ((rd_T28 l1 x119_4).f0), .int .u32 0, .int .u32 0]) ?_ 1 _ rfl; (with_reducible repeat (first | refine blk_drewN ?_ _ | refine blk_drew ?_ | refine blk_alloc ?_ _)); refine blk_put (cs := #[.int .u64 0, .int .u32 0, .int .u32 0]) ?_ 0 _ rfl; exact blkt BK308)) : gb308 ≠ gb309)); have NB309_308 := Aside0.mk ((by rw [hg]; exact Nat.ne_of_gt (blk_lt (g := gb308) (o := .cells #[.int .u64 ((rd_T28 l1 x119_4).f0), .int .u32 ((rd_T28 l1 x119_4).f1), .int .u32 ((rd_T28 l1 x119_4).f2)] 28 (0, 0)) (by (with_reducible repeat (first | refine blk_drewN ?_ _ | refine blk_drew ?_ | refine blk_alloc ?_ _)); refine blk_put (cs := #[.int .u64 ((rd_T28 l1 x119_4).f0), .int .u32 ((rd_T28 l1 x119_4).f1), .int .u32 0]) ?_ 2 _ rfl; (with_reducible repeat (first | refine blk_drewN ?_ _ | refine blk_drew ?_ | refine blk_alloc ?_ _)); refine blk_put (cs := #[.int .u64 ((rd_T28 l1 x119_4).f0), .int .u32 0, .int .u32 0]) ?_ 1 _ rfl; (with_reducible repeat (first | refine blk_drewN ?_ _ | refine blk_drew ?_ | refine blk_alloc ?_ _)); refine blk_put (cs := #[.int .u64 0, .int .u32 0, .int .u32 0]) ?_ 0 _ rfl; exact blkt BK308)) : gb309 ≠ gb308)); replace BK284 := Aside0.mk (blk_below (g := gb284) (o := .cells #[.int .u64 t280, .int .u32 t281, .int .u32 t282] 28 (0, 0)) (by (with_reducible repeat (first | refine blk_drewN ?_ _ | refine blk_drew ?_ | refine blk_alloc ?_ _)); refine blk_far ?_ NB284_308.out _; (with_reducible repeat (first | refine blk_drewN ?_ _ | refine blk_drew ?_ | refine blk_alloc ?_ _)); refine blk_far ?_ NB284_308.out _; (with_reducible repeat (first | refine blk_drewN ?_ _ | refine blk_drew ?_ | refine blk_alloc ?_ _)); refine blk_far ?_ NB284_308.out _; exact blkt BK284) hb); replace BK291 := Aside0.mk (blk_below (g := gb291) (o := .cells #[.int .u64 t285, .int .i64 t286, .int .u64 t287, .int .u64 t288, .int .i64 t289] 33 (0, 0)) (by (with_reducible repeat (first | refine blk_drewN ?_ _ | refine blk_drew ?_ | refine blk_alloc ?_ _)); refine blk_far ?_ NB291_308.out _; (with_reducible repeat (first | refine blk_drewN ?_ _ | refine blk_drew ?_ | refine blk_alloc ?_ _)); refine blk_far ?_ NB291_308.out _; (with_reducible repeat (first | refine blk_drewN ?_ _ | refine blk_drew ?_ | refine blk_alloc ?_ _)); refine blk_far ?_ NB291_308.out _; exact blkt BK291) hb); replace BK299 := Aside0.mk (blk_below (g := gb299) (o := .cells #[.int .u64 t293, .int .i64 t294, .int .u64 t295, .int .u64 t296, .int .i64 t297] 33 (0, 0)) (by (with_reducible repeat (first | refine blk_drewN ?_ _ | refine blk_drew ?_ | refine blk_alloc ?_ _)); refine blk_far ?_ NB299_308.out _; (with_reducible repeat (first | refine blk_drewN ?_ _ | refine blk_drew ?_ | refine blk_alloc ?_ _)); refine blk_far ?_ NB299_308.out _; (with_reducible repeat (first | refine blk_drewN ?_ _ | refine blk_drew ?_ | refine blk_alloc ?_ _)); refine blk_far ?_ NB299_308.out _; exact blkt BK299) hb); replace BK306 := Aside0.mk (blk_below (g := gb306) (o := .cells #[.int .u64 t300, .int .i64 t301, .int .u64 t302, .int .u64 t303, .int .i64 t304] 33 (0, 0)) (by (with_reducible repeat (first | refine blk_drewN ?_ _ | refine blk_drew ?_ | refine blk_alloc ?_ _)); refine blk_far ?_ NB306_308.out _; (with_reducible repeat (first | refine blk_drewN ?_ _ | refine blk_drew ?_ | refine blk_alloc ?_ _)); refine blk_far ?_ NB306_308.out _; (with_reducible repeat (first | refine blk_drewN ?_ _ | refine blk_drew ?_ | refine blk_alloc ?_ _)); refine blk_far ?_ NB306_308.out _; exact blkt BK306) hb); replace BK308 := Aside0.mk (blk_below (g := gb308) (o := .cells #[.int .u64 ((rd_T28 l1 x119_4).f0), .int .u32 ((rd_T28 l1 x119_4).f1), .int .u32 ((rd_T28 l1 x119_4).f2)] 28 (0, 0)) (by (with_reducible repeat (first | refine blk_drewN ?_ _ | refine blk_drew ?_ | refine blk_alloc ?_ _)); refine blk_put (cs := #[.int .u64 ((rd_T28 l1 x119_4).f0), .int .u32 ((rd_T28 l1 x119_4).f1), .int .u32 0]) ?_ 2 _ rfl; (with_reducible repeat (first | refine blk_drewN ?_ _ | refine blk_drew ?_ | refine blk_alloc ?_ _)); refine blk_put (cs := #[.int .u64 ((rd_T28 l1 x119_4).f0), .int .u32 0, .int .u32 0]) ?_ 1 _ rfl; (with_reducible repeat (first | refine blk_drewN ?_ _ | refine blk_drew ?_ | refine blk_alloc ?_ _)); refine blk_put (cs := #[.int .u64 0, .int .u32 0, .int .u32 0]) ?_ 0 _ rfl; exact blkt BK308) hb); replace HB := belb HB hb; clear hb hbox hg; have hnb83 := NB309_284.out; have hnc83 := NB284_309.out; have hnb84 := NB309_291.out; have hnc84 := NB291_309.out; have hnb85 := NB309_299.out; have hnc85 := NB299_309.out; have hnb86 := NB309_306.out; have hnc86 := NB306_309.out; have hnb87 := NB309_308.out; have hnc87 := NB308_309.out; have hcz88_0 : w82.cell? ⟨gb309, 0, none⟩ = some (.int .u64 0) := bc BK309 0; have hcz88_1 : w82.cell? ⟨gb309, 1, none⟩ = some (.int .u32 0) := bc BK309 1; have hcz88_2 : w82.cell? ⟨gb309, 2, none⟩ = some (.int .u32 0) := bc BK309 2; have hfz88_0 := blk_frozen BK309.out 0; have hfz88_1 := blk_frozen BK309.out 1; have hfz88_2 := blk_frozen BK309.out 2))
               (try simp only [Act.put, List.setIfInBounds_toArray, List.set_cons_zero, List.set_cons_succ])
               go_cut [] (fun wc => ∃ (kq : Nat) (x310000_74 : Int) (x310001_74 : Int) (x310002_74 : Int), Aside0 (turnstonelaw09_LagMoves.j4 kq a3 ji33 x119_4 l1 (l1.length : Int) x119_4 t280 t281 t282 t285 t286 t287 t288 t289 t300 t301 t302 t303 t304 ((rd_T28 l1 x119_4).f0) ((rd_T28 l1 x119_4).f1) ((rd_T28 l1 x119_4).f2) x310000_74 x310001_74 x310002_74 = some r) ∧ Aside0 (kq ≤ k4) ∧ Aside0 (wc.heap[gb284]? = some (.cells #[.int .u64 t280, .int .u32 t281, .int .u32 t282] 28 (0, 0))) ∧ Aside0 (wc.heap[gb291]? = some (.cells #[.int .u64 t285, .int .i64 t286, .int .u64 t287, .int .u64 t288, .int .i64 t289] 33 (0, 0))) ∧ Aside0 (wc.heap[gb299]? = some (.cells #[.int .u64 t293, .int .i64 t294, .int .u64 t295, .int .u64 t296, .int .i64 t297] 33 (0, 0))) ∧ Aside0 (wc.heap[gb306]? = some (.cells #[.int .u64 t300, .int .i64 t301, .int .u64 t302, .int .u64 t303, .int .i64 t304] 33 (0, 0))) ∧ Aside0 (wc.heap[gb308]? = some (.cells #[.int .u64 ((rd_T28 l1 x119_4).f0), .int .u32 ((rd_T28 l1 x119_4).f1), .int .u32 ((rd_T28 l1 x119_4).f2)] 28 (0, 0))) ∧ Aside0 (wc.heap[gb309]? = some (.cells #[.int .u64 x310000_74, .int .u32 x310001_74, .int .u32 x310002_74] 28 (0, 0))) ∧ Aside0 (Below w.heap.size w wc))
               case first =>
                have H := HC75.out
                clear HC75
                by_cases c89 : x119_4 = ji33
                ·rw [if_pos c89] at H
                 have c89b0 : (x119_4 == ji33) = true := beq_iff_eq.mpr c89
                 have c89b1 : (x119_4 != ji33) = false := bne_eq_false_iff_eq.mpr c89
                 clear c89
                 (first | rw [c89b0] | (simp only [i64_w, i32_w]; rw [c89b0]) | skip)
                 have H' := Aside0.mk H
                 clear H
                 have hnb90 := NB284_291.out
                 have hnc90 := NB291_284.out
                 have hnb91 := NB284_299.out
                 have hnc91 := NB299_284.out
                 have hnb92 := NB284_306.out
                 have hnc92 := NB306_284.out
                 have hnb93 := NB284_308.out
                 have hnc93 := NB308_284.out
                 have hnb94 := NB284_309.out
                 have hnc94 := NB309_284.out
                 have hcz95_0 : w82.cell? ⟨gb284, 0, none⟩ = some (.int .u64 t280) := bc BK284 0
                 have hcz95_1 : w82.cell? ⟨gb284, 1, none⟩ = some (.int .u32 t281) := bc BK284 1
                 have hcz95_2 : w82.cell? ⟨gb284, 2, none⟩ = some (.int .u32 t282) := bc BK284 2
                 have hfz95_0 := blk_frozen BK284.out 0
                 have hfz95_1 := blk_frozen BK284.out 1
                 have hfz95_2 := blk_frozen BK284.out 2
                 have hnb96 := NB309_291.out
                 have hnc96 := NB291_309.out
                 have hnb97 := NB309_299.out
                 have hnc97 := NB299_309.out
                 have hnb98 := NB309_306.out
                 have hnc98 := NB306_309.out
                 have hnb99 := NB309_308.out
                 have hnc99 := NB308_309.out
                 have hcz100_0 : w82.cell? ⟨gb309, 0, none⟩ = some (.int .u64 0) := bc BK309 0
                 have hcz100_1 : w82.cell? ⟨gb309, 1, none⟩ = some (.int .u32 0) := bc BK309 1
                 have hcz100_2 : w82.cell? ⟨gb309, 2, none⟩ = some (.int .u32 0) := bc BK309 2
                 have hfz100_0 := blk_frozen BK309.out 0
                 have hfz100_1 := blk_frozen BK309.out 1
                 have hfz100_2 := blk_frozen BK309.out 2
                 go_wp2
                 go_meet
                 case rel => exact ⟨_, (t280), (t281), (t282), H', ⟨by have := HJ6.out; have := HK2.out; have := HJ39.out; have := HK4.out; first | omega | exact Nat.le_refl _⟩, ⟨by (with_reducible repeat (first | refine blk_drewN ?_ _ | refine blk_drew ?_ | refine blk_alloc ?_ _)); refine blk_far ?_ NB284_309.out _; (with_reducible repeat (first | refine blk_drewN ?_ _ | refine blk_drew ?_ | refine blk_alloc ?_ _)); refine blk_far ?_ NB284_309.out _; (with_reducible repeat (first | refine blk_drewN ?_ _ | refine blk_drew ?_ | refine blk_alloc ?_ _)); refine blk_far ?_ NB284_309.out _; (with_reducible repeat (first | refine blk_drewN ?_ _ | refine blk_drew ?_ | refine blk_alloc ?_ _)); refine blk_far ?_ NB284_309.out _; (with_reducible repeat (first | refine blk_drewN ?_ _ | refine blk_drew ?_ | refine blk_alloc ?_ _)); refine blk_far ?_ NB284_309.out _; (with_reducible repeat (first | refine blk_drewN ?_ _ | refine blk_drew ?_ | refine blk_alloc ?_ _)); refine blk_far ?_ NB284_309.out _; exact blkt BK284⟩, ⟨by (with_reducible repeat (first | refine blk_drewN ?_ _ | refine blk_drew ?_ | refine blk_alloc ?_ _)); refine blk_far ?_ NB291_309.out _; (with_reducible repeat (first | refine blk_drewN ?_ _ | refine blk_drew ?_ | refine blk_alloc ?_ _)); refine blk_far ?_ NB291_309.out _; (with_reducible repeat (first | refine blk_drewN ?_ _ | refine blk_drew ?_ | refine blk_alloc ?_ _)); refine blk_far ?_ NB291_309.out _; (with_reducible repeat (first | refine blk_drewN ?_ _ | refine blk_drew ?_ | refine blk_alloc ?_ _)); refine blk_far ?_ NB291_309.out _; (with_reducible repeat (first | refine blk_drewN ?_ _ | refine blk_drew ?_ | refine blk_alloc ?_ _)); refine blk_far ?_ NB291_309.out _; (with_reducible repeat (first | refine blk_drewN ?_ _ | refine blk_drew ?_ | refine blk_alloc ?_ _)); refine blk_far ?_ NB291_309.out _; exact blkt BK291⟩, ⟨by (with_reducible repeat (first | refine blk_drewN ?_ _ | refine blk_drew ?_ | refine blk_alloc ?_ _)); refine blk_far ?_ NB299_309.out _; (with_reducible repeat (first | refine blk_drewN ?_ _ | refine blk_drew ?_ | refine blk_alloc ?_ _)); refine blk_far ?_ NB299_309.out _; (with_reducible repeat (first | refine blk_drewN ?_ _ | refine blk_drew ?_ | refine blk_alloc ?_ _)); refine blk_far ?_ NB299_309.out _; (with_reducible repeat (first | refine blk_drewN ?_ _ | refine blk_drew ?_ | refine blk_alloc ?_ _)); refine blk_far ?_ NB299_309.out _; (with_reducible repeat (first | refine blk_drewN ?_ _ | refine blk_drew ?_ | refine blk_alloc ?_ _)); refine blk_far ?_ NB299_309.out _; (with_reducible repeat (first | refine blk_drewN ?_ _ | refine blk_drew ?_ | refine blk_alloc ?_ _)); refine blk_far ?_ NB299_309.out _; exact blkt BK299⟩, ⟨by (with_reducible repeat (first | refine blk_drewN ?_ _ | refine blk_drew ?_ | refine blk_alloc ?_ _)); refine blk_far ?_ NB306_309.out _; (with_reducible repeat (first | refine blk_drewN ?_ _ | refine blk_drew ?_ | refine blk_alloc ?_ _)); refine blk_far ?_ NB306_309.out _; (with_reducible repeat (first | refine blk_drewN ?_ _ | refine blk_drew ?_ | refine blk_alloc ?_ _)); refine blk_far ?_ NB306_309.out _; (with_reducible repeat (first | refine blk_drewN ?_ _ | refine blk_drew ?_ | refine blk_alloc ?_ _)); refine blk_far ?_ NB306_309.out _; (with_reducible repeat (first | refine blk_drewN ?_ _ | refine blk_drew ?_ | refine blk_alloc ?_ _)); refine blk_far ?_ NB306_309.out _; (with_reducible repeat (first | refine blk_drewN ?_ _ | refine blk_drew ?_ | refine blk_alloc ?_ _)); refine blk_far ?_ NB306_309.out _; exact blkt BK306⟩, ⟨by (with_reducible repeat (first | refine blk_drewN ?_ _ | refine blk_drew ?_ | refine blk_alloc ?_ _)); refine blk_far ?_ NB308_309.out _; (with_reducible repeat (first | refine blk_drewN ?_ _ | refine blk_drew ?_ | refine blk_alloc ?_ _)); refine blk_far ?_ NB308_309.out _; (with_reducible repeat (first | refine blk_drewN ?_ _ | refine blk_drew ?_ | refine blk_alloc ?_ _)); refine blk_far ?_ NB308_309.out _; (with_reducible repeat (first | refine blk_drewN ?_ _ | refine blk_drew ?_ | refine blk_alloc ?_ _)); refine blk_far ?_ NB308_309.out _; (with_reducible repeat (first | refine blk_drewN ?_ _ | refine blk_drew ?_ | refine blk_alloc ?_ _)); refine blk_far ?_ NB308_309.out _; (with_reducible repeat (first | refine blk_drewN ?_ _ | refine blk_drew ?_ | refine blk_alloc ?_ _)); refine blk_far ?_ NB308_309.out _; exact blkt BK308⟩, ⟨by (with_reducible repeat (first | refine blk_drewN ?_ _ | refine blk_drew ?_ | refine blk_alloc ?_ _)); refine blk_put (cs := #[.int .u64 t280, .int .u32 t281, .int .u32 ((rd_T28 l1 x119_4).f2)]) ?_ 2 _ rfl; (with_reducible repeat (first | refine blk_drewN ?_ _ | refine blk_drew ?_ | refine blk_alloc ?_ _)); refine blk_put (cs := #[.int .u64 t280, .int .u32 ((rd_T28 l1 x119_4).f1), .int .u32 ((rd_T28 l1 x119_4).f2)]) ?_ 1 _ rfl; (with_reducible repeat (first | refine blk_drewN ?_ _ | refine blk_drew ?_ | refine blk_alloc ?_ _)); refine blk_put (cs := #[.int .u64 ((rd_T28 l1 x119_4).f0), .int .u32 ((rd_T28 l1 x119_4).f1), .int .u32 ((rd_T28 l1 x119_4).f2)]) ?_ 0 _ rfl; (with_reducible repeat (first | refine blk_drewN ?_ _ | refine blk_drew ?_ | refine blk_alloc ?_ _)); refine blk_put (cs := #[.int .u64 ((rd_T28 l1 x119_4).f0), .int .u32 ((rd_T28 l1 x119_4).f1), .int .u32 0]) ?_ 2 _ rfl; (with_reducible repeat (first | refine blk_drewN ?_ _ | refine blk_drew ?_ | refine blk_alloc ?_ _)); refine blk_put (cs := #[.int .u64 ((rd_T28 l1 x119_4).f0), .int .u32 0, .int .u32 0]) ?_ 1 _ rfl; (with_reducible repeat (first | refine blk_drewN ?_ _ | refine blk_drew ?_ | refine blk_alloc ?_ _)); refine blk_put (cs := #[.int .u64 0, .int .u32 0, .int .u32 0]) ?_ 0 _ rfl; exact blkt BK309⟩, ⟨belt HB⟩⟩
                rw [if_neg c89] at H
                have c89b0 : (x119_4 == ji33) = false := beq_eq_false_iff_ne.mpr c89
                have c89b1 : (x119_4 != ji33) = true := bne_iff_ne.mpr c89
                (first | rw [c89b0] | (simp only [i64_w, i32_w]; rw [c89b0]) | skip)
                have H' := Aside0.mk H
                clear H
                go_wp2
                go_meet
                case rel => exact ⟨_, ((rd_T28 l1 x119_4).f0), ((rd_T28 l1 x119_4).f1), ((rd_T28 l1 x119_4).f2), H', ⟨by have := HJ6.out; have := HK2.out; have := HJ39.out; have := HK4.out; first | omega | exact Nat.le_refl _⟩, ⟨by (with_reducible repeat (first | refine blk_drewN ?_ _ | refine blk_drew ?_ | refine blk_alloc ?_ _)); refine blk_far ?_ NB284_309.out _; (with_reducible repeat (first | refine blk_drewN ?_ _ | refine blk_drew ?_ | refine blk_alloc ?_ _)); refine blk_far ?_ NB284_309.out _; (with_reducible repeat (first | refine blk_drewN ?_ _ | refine blk_drew ?_ | refine blk_alloc ?_ _)); refine blk_far ?_ NB284_309.out _; exact blkt BK284⟩, ⟨by (with_reducible repeat (first | refine blk_drewN ?_ _ | refine blk_drew ?_ | refine blk_alloc ?_ _)); refine blk_far ?_ NB291_309.out _; (with_reducible repeat (first | refine blk_drewN ?_ _ | refine blk_drew ?_ | refine blk_alloc ?_ _)); refine blk_far ?_ NB291_309.out _; (with_reducible repeat (first | refine blk_drewN ?_ _ | refine blk_drew ?_ | refine blk_alloc ?_ _)); refine blk_far ?_ NB291_309.out _; exact blkt BK291⟩, ⟨by (with_reducible repeat (first | refine blk_drewN ?_ _ | refine blk_drew ?_ | refine blk_alloc ?_ _)); refine blk_far ?_ NB299_309.out _; (with_reducible repeat (first | refine blk_drewN ?_ _ | refine blk_drew ?_ | refine blk_alloc ?_ _)); refine blk_far ?_ NB299_309.out _; (with_reducible repeat (first | refine blk_drewN ?_ _ | refine blk_drew ?_ | refine blk_alloc ?_ _)); refine blk_far ?_ NB299_309.out _; exact blkt BK299⟩, ⟨by (with_reducible repeat (first | refine blk_drewN ?_ _ | refine blk_drew ?_ | refine blk_alloc ?_ _)); refine blk_far ?_ NB306_309.out _; (with_reducible repeat (first | refine blk_drewN ?_ _ | refine blk_drew ?_ | refine blk_alloc ?_ _)); refine blk_far ?_ NB306_309.out _; (with_reducible repeat (first | refine blk_drewN ?_ _ | refine blk_drew ?_ | refine blk_alloc ?_ _)); refine blk_far ?_ NB306_309.out _; exact blkt BK306⟩, ⟨by (with_reducible repeat (first | refine blk_drewN ?_ _ | refine blk_drew ?_ | refine blk_alloc ?_ _)); refine blk_far ?_ NB308_309.out _; (with_reducible repeat (first | refine blk_drewN ?_ _ | refine blk_drew ?_ | refine blk_alloc ?_ _)); refine blk_far ?_ NB308_309.out _; (with_reducible repeat (first | refine blk_drewN ?_ _ | refine blk_drew ?_ | refine blk_alloc ?_ _)); refine blk_far ?_ NB308_309.out _; exact blkt BK308⟩, ⟨by (with_reducible repeat (first | refine blk_drewN ?_ _ | refine blk_drew ?_ | refine blk_alloc ?_ _)); refine blk_put (cs := #[.int .u64 ((rd_T28 l1 x119_4).f0), .int .u32 ((rd_T28 l1 x119_4).f1), .int .u32 0]) ?_ 2 _ rfl; (with_reducible repeat (first | refine blk_drewN ?_ _ | refine blk_drew ?_ | refine blk_alloc ?_ _)); refine blk_put (cs := #[.int .u64 ((rd_T28 l1 x119_4).f0), .int .u32 0, .int .u32 0]) ?_ 1 _ rfl; (with_reducible repeat (first | refine blk_drewN ?_ _ | refine blk_drew ?_ | refine blk_alloc ?_ _)); refine blk_put (cs := #[.int .u64 0, .int .u32 0, .int .u32 0]) ?_ 0 _ rfl; exact blkt BK309⟩, ⟨belt HB⟩⟩
               case rest =>
                clear HC75
                try clear c1
                try clear c2
                try clear p2
                try clear q2
                try clear hx2
                try clear c3
                try clear p3
                try clear q3
                try clear hx3
                try clear c4
                try clear c5
                try clear c6
                try clear p6
                try clear c7
                try clear c8
                try clear c9
                try clear c9b0
                try clear c9b1
                try clear c10
                try clear c10b0
                try clear c10b1
                try clear c10b2
                try clear c11
                try clear c12
                try clear c12b0
                try clear c13
                try clear c13b0
                try clear c14
                try clear c14b0
                try clear c16
                try clear c17
                try clear c18
                try clear c18b0
                try clear c22
                try clear c22b0
                try clear c23
                try clear c24
                try clear c25
                try clear p27
                try clear q27
                try clear hx27
                try clear p29
                try clear q29
                try clear hx29
                try clear p30
                try clear q30
                try clear hx30
                try clear c32
                try clear c32b0
                try clear c32b1
                try clear c32b2
                try clear c34
                try clear c34b0
                try clear c35
                try clear c35b0
                try clear c46
                try clear c58
                try clear c59
                try clear c64
                try clear p64
                try clear c65
                try clear c66
                try clear c68
                try clear c69
                try clear c70
                try clear c71
                try clear c72
                try clear c72b0
                try clear c73
                try clear c73b0
                try clear c74
                try clear c74b0
                try clear c77
                try clear c78
                try clear c79
                try clear c80
                try clear c83
                try clear c84
                try clear c85
                try clear c86
                try clear c87
                try clear c89
                try clear c89b0
                try clear c89b1
                try clear c90
                try clear c91
                try clear c92
                try clear c93
                try clear c94
                try clear c96
                try clear c97
                try clear c98
                try clear c99
                try clear hcz100_0
                try clear hcz100_1
                try clear hcz100_2
                try clear hcz20_0
                try clear hcz20_1
                try clear hcz20_2
                try clear hcz24_0
                try clear hcz24_1
                try clear hcz24_2
                try clear hcz27_0
                try clear hcz27_1
                try clear hcz27_2
                try clear hcz30_0
                try clear hcz30_1
                try clear hcz30_2
                try clear hcz43_0
                try clear hcz43_1
                try clear hcz43_2
                try clear hcz47_0
                try clear hcz47_1
                try clear hcz47_2
                try clear hcz47_3
                try clear hcz47_4
                try clear hcz60_0
                try clear hcz60_1
                try clear hcz60_2
                try clear hcz60_3
                try clear hcz60_4
                try clear hcz61_0
                try clear hcz61_1
                try clear hcz61_2
                try clear hcz67_0
                try clear hcz67_1
                try clear hcz67_2
                try clear hcz67_3
                try clear hcz67_4
                try clear hcz81_0
                try clear hcz81_1
                try clear hcz81_2
                try clear hcz88_0
                try clear hcz88_1
                try clear hcz88_2
                try clear hcz95_0
                try clear hcz95_1
                try clear hcz95_2
                try clear hfz100_0
                try clear hfz100_1
                try clear hfz100_2
                try clear hfz20_0
                try clear hfz20_1
                try clear hfz20_2
                try clear hfz24_0
                try clear hfz24_1
                try clear hfz24_2
                try clear hfz27_0
                try clear hfz27_1
                try clear hfz27_2
                try clear hfz30_0
                try clear hfz30_1
                try clear hfz30_2
                try clear hfz43_0
                try clear hfz43_1
                try clear hfz43_2
                try clear hfz47_0
                try clear hfz47_1
                try clear hfz47_2
                try clear hfz47_3
                try clear hfz47_4
                try clear hfz60_0
                try clear hfz60_1
                try clear hfz60_2
                try clear hfz60_3
                try clear hfz60_4
                try clear hfz61_0
                try clear hfz61_1
                try clear hfz61_2
                try clear hfz67_0
                try clear hfz67_1
                try clear hfz67_2
                try clear hfz67_3
                try clear hfz67_4
                try clear hfz81_0
                try clear hfz81_1
                try clear hfz81_2
                try clear hfz88_0
                try clear hfz88_1
                try clear hfz88_2
                try clear hfz95_0
                try clear hfz95_1
                try clear hfz95_2
                try clear hx275_0
                try clear hx275_1
                try clear hx275_2
                try clear hx279_0
                try clear hx279_1
                try clear hx279_2
                try clear hx292_0
                try clear hx292_1
                try clear hx292_2
                try clear hx307_0
                try clear hx307_1
                try clear hx307_2
                try clear p2
                try clear p27
                try clear p275
                try clear p279
                try clear p29
                try clear p292
                try clear p307
                try clear p6
                try clear p64
                try clear q2
                try clear q27
                try clear q275
                try clear q279
                try clear q29
                try clear q292
                try clear q307
                obtain ⟨kq, x310000_74, x310001_74, x310002_74, HA, HJ74, BK284, BK291, BK299, BK306, BK308, BK309, HB⟩ := hcut
                cases kq with
                | zero => exact absurd HA.out (by simp [turnstonelaw09_LagMoves.j4])
                | succ kj74 =>
                 have H := HA.out
                 clear HA
                 simp only [turnstonelaw09_LagMoves.j4] at H
                 replace H := Option.bind_eq_some_iff.mp H
                 obtain ⟨⟨t310, t311, t312⟩, A1010, H⟩ := H
                 replace H : ((lag_Read.f kj74 t300 t301 t302 t303 t304 x310000_74 x310001_74 x310002_74).bind fun bt314 => ((wide_Int_Sub.f bt314.1 bt314.2.1 t310 t311).bind fun bt318 => ((wide_Int_Small.f bt318.1 bt318.2.1).bind fun bt322 => (if bt322.2 = true then (if x119_4 = ji33 then (if bt322.1 > 0 then (none) else (if bt322.1 < (wrap64 (-(wrap64 (a3)))) then (none) else (turnstonelaw09_LagMoves.l1 kj74 a3 ji33 l1 (l1.length : Int) (wrap64 (x119_4 + 1)) t280 t281 t282 t285 t286 t287 t288 t289 t300 t301 t302 t303 t304))) else (if bt322.1 < 0 then (none) else (if bt322.1 > (wrap64 ((wrap64 (a3)) + 1)) then (none) else (turnstonelaw09_LagMoves.l1 kj74 a3 ji33 l1 (l1.length : Int) (wrap64 (x119_4 + 1)) t280 t281 t282 t285 t286 t287 t288 t289 t300 t301 t302 t303 t304)))) else (none))))) = some r := H
                 have A101 := Aside0.mk A1010
                 clear A1010
                 replace H := Option.bind_eq_some_iff.mp H
                 obtain ⟨⟨t314, t315, t316⟩, A1020, H⟩ := H
                 replace H : ((wide_Int_Sub.f t314 t315 t310 t311).bind fun bt318 => ((wide_Int_Small.f bt318.1 bt318.2.1).bind fun bt322 => (if bt322.2 = true then (if x119_4 = ji33 then (if bt322.1 > 0 then (none) else (if bt322.1 < (wrap64 (-(wrap64 (a3)))) then (none) else (turnstonelaw09_LagMoves.l1 kj74 a3 ji33 l1 (l1.length : Int) (wrap64 (x119_4 + 1)) t280 t281 t282 t285 t286 t287 t288 t289 t300 t301 t302 t303 t304))) else (if bt322.1 < 0 then (none) else (if bt322.1 > (wrap64 ((wrap64 (a3)) + 1)) then (none) else (turnstonelaw09_LagMoves.l1 kj74 a3 ji33 l1 (l1.length : Int) (wrap64 (x119_4 + 1)) t280 t281 t282 t285 t286 t287 t288 t289 t300 t301 t302 t303 t304)))) else (none)))) = some r := H
                 have A102 := Aside0.mk A1020
                 clear A1020
                 replace H := Option.bind_eq_some_iff.mp H
                 obtain ⟨⟨t318, t319, t320⟩, A1030, H⟩ := H
                 replace H : ((wide_Int_Small.f t318 t319).bind fun bt322 => (if bt322.2 = true then (if x119_4 = ji33 then (if bt322.1 > 0 then (none) else (if bt322.1 < (wrap64 (-(wrap64 (a3)))) then (none) else (turnstonelaw09_LagMoves.l1 kj74 a3 ji33 l1 (l1.length : Int) (wrap64 (x119_4 + 1)) t280 t281 t282 t285 t286 t287 t288 t289 t300 t301 t302 t303 t304))) else (if bt322.1 < 0 then (none) else (if bt322.1 > (wrap64 ((wrap64 (a3)) + 1)) then (none) else (turnstonelaw09_LagMoves.l1 kj74 a3 ji33 l1 (l1.length : Int) (wrap64 (x119_4 + 1)) t280 t281 t282 t285 t286 t287 t288 t289 t300 t301 t302 t303 t304)))) else (none))) = some r := H
                 have A103 := Aside0.mk A1030
                 clear A1030
                 replace H := Option.bind_eq_some_iff.mp H
                 obtain ⟨⟨t322, t323⟩, A1040, H⟩ := H
                 replace H : (if t323 = true then (if x119_4 = ji33 then (if t322 > 0 then (none) else (if t322 < (wrap64 (-(wrap64 (a3)))) then (none) else (turnstonelaw09_LagMoves.l1 kj74 a3 ji33 l1 (l1.length : Int) (wrap64 (x119_4 + 1)) t280 t281 t282 t285 t286 t287 t288 t289 t300 t301 t302 t303 t304))) else (if t322 < 0 then (none) else (if t322 > (wrap64 ((wrap64 (a3)) + 1)) then (none) else (turnstonelaw09_LagMoves.l1 kj74 a3 ji33 l1 (l1.length : Int) (wrap64 (x119_4 + 1)) t280 t281 t282 t285 t286 t287 t288 t289 t300 t301 t302 t303 t304)))) else (none)) = some r := H
                 have A104 := Aside0.mk A1040
                 clear A1040
                 by_cases c105 : t323 = true
                 ·subst c105
                  have H1 : (if x119_4 = ji33 then (if t322 > 0 then (none) else (if t322 < (wrap64 (-(wrap64 (a3)))) then (none) else (turnstonelaw09_LagMoves.l1 kj74 a3 ji33 l1 (l1.length : Int) (wrap64 (x119_4 + 1)) t280 t281 t282 t285 t286 t287 t288 t289 t300 t301 t302 t303 t304))) else (if t322 < 0 then (none) else (if t322 > (wrap64 ((wrap64 (a3)) + 1)) then (none) else (turnstonelaw09_LagMoves.l1 kj74 a3 ji33 l1 (l1.length : Int) (wrap64 (x119_4 + 1)) t280 t281 t282 t285 t286 t287 t288 t289 t300 t301 t302 t303 t304)))) = some r := by rw [if_pos rfl] at H; exact H
                  clear H
                  have H := H1
                  clear H1
                  by_cases c106 : x119_4 = ji33
                  ·rw [if_pos c106] at H
                   have c106b0 : (x119_4 == ji33) = true := beq_iff_eq.mpr c106
                   have c106b1 : (x119_4 != ji33) = false := bne_eq_false_iff_eq.mpr c106
                   clear c106
                   by_cases c107 : t322 > 0
                   ·rw [if_pos c107] at H
                    exact absurd H (by simp)
                   rw [if_neg c107] at H
                   have c107b0 : decide (0 < t322) = false := decide_eq_false c107
                   clear c107
                   by_cases c108 : t322 < (wrap64 (-(wrap64 (a3))))
                   ·rw [if_pos c108] at H
                    exact absurd H (by simp)
                   rw [if_neg c108] at H
                   have c108b0 : decide (t322 < (wrap64 (-(wrap64 (a3))))) = false := decide_eq_false c108
                   clear c108
                   have H' := Aside0.mk H
                   clear H
                   have hnb109 := NB291_284.out
                   have hnc109 := NB284_291.out
                   have hnb110 := NB291_299.out
                   have hnc110 := NB299_291.out
                   have hnb111 := NB291_306.out
                   have hnc111 := NB306_291.out
                   have hnb112 := NB291_308.out
                   have hnc112 := NB308_291.out
                   have hnb113 := NB291_309.out
                   have hnc113 := NB309_291.out
                   have hcz114_0 : wc.cell? ⟨gb291, 0, none⟩ = some (.int .u64 t285) := bc BK291 0
                   have hcz114_1 : wc.cell? ⟨gb291, 1, none⟩ = some (.int .i64 t286) := bc BK291 1
                   have hcz114_2 : wc.cell? ⟨gb291, 2, none⟩ = some (.int .u64 t287) := bc BK291 2
                   have hcz114_3 : wc.cell? ⟨gb291, 3, none⟩ = some (.int .u64 t288) := bc BK291 3
                   have hcz114_4 : wc.cell? ⟨gb291, 4, none⟩ = some (.int .i64 t289) := bc BK291 4
                   have hfz114_0 := blk_frozen BK291.out 0
                   have hfz114_1 := blk_frozen BK291.out 1
                   have hfz114_2 := blk_frozen BK291.out 2
                   have hfz114_3 := blk_frozen BK291.out 3
                   have hfz114_4 := blk_frozen BK291.out 4
                   have hnb115 := NB308_284.out
                   have hnc115 := NB284_308.out
                   have hnb116 := NB308_299.out
                   have hnc116 := NB299_308.out
                   have hnb117 := NB308_306.out
                   have hnc117 := NB306_308.out
                   have hnb118 := NB308_309.out
                   have hnc118 := NB309_308.out
                   have hcz119_0 : wc.cell? ⟨gb308, 0, none⟩ = some (.int .u64 ((rd_T28 l1 x119_4).f0)) := bc BK308 0
                   have hcz119_1 : wc.cell? ⟨gb308, 1, none⟩ = some (.int .u32 ((rd_T28 l1 x119_4).f1)) := bc BK308 1
                   have hcz119_2 : wc.cell? ⟨gb308, 2, none⟩ = some (.int .u32 ((rd_T28 l1 x119_4).f2)) := bc BK308 2
                   have hfz119_0 := blk_frozen BK308.out 0
                   have hfz119_1 := blk_frozen BK308.out 1
                   have hfz119_2 := blk_frozen BK308.out 2
                   go_wp2_with (first | ((with_reducible refine gate_callee (f := 21) rfl ?_); refine goesL_ (some 132) rfl rfl Tryz.func21 (by kernel_rfl) rfl #[.agg #[.int .u64 t285, .int .i64 t286, .int .u64 t287, .int .u64 t288, .int .i64 t289], .agg #[.int .u64 ((rd_T28 l1 x119_4).f0), .int .u32 ((rd_T28 l1 x119_4).f1), .int .u32 ((rd_T28 l1 x119_4).f2)]] rfl argt ?_; (with_reducible refine (lag_Read.calls kj74 t285 t286 t287 t288 t289 ((rd_T28 l1 x119_4).f0) ((rd_T28 l1 x119_4).f1) ((rd_T28 l1 x119_4).f2) t310 t311 t312 _ A101.out).mono ?_); rintro e w120 ⟨rfl, hb⟩; refine ⟨_, rfl, ?_⟩; replace BK284 := blkb BK284 hb; replace BK291 := blkb BK291 hb; replace BK299 := blkb BK299 hb; replace BK306 := blkb BK306 hb; replace BK308 := blkb BK308 hb; replace BK309 := blkb BK309 hb; replace HB := belb HB hb; (try clear hb); (try clear hb2); (try clear hk); (try clear hi)) | ((with_reducible refine gate_dst (N := 24) rfl ?_); (try (refine gate_guard (by rfl) ?_; dsimp only)); refine box_event ?hg (N := 24) ?hd (cs := #[.int .i64 0, .int .u64 0]) (t := 31) ?hr ?_; (case hd => rfl); (case hg => rfl); (case hr => first | (go_simp; done) | (go_simp; rfl)); intro gb313 hg w121 hbox hb; have BK313 := Aside0.mk (hbox); have GW313 := bels HB hg; have GE313 := bels HB hg; have NB284_313 := blkl BK284 hg; have NB313_284 := blkg BK284 hg; have NB291_313 := blkl BK291 hg; have NB313_291 := blkg BK291 hg; have NB299_313 := blkl BK299 hg; have NB313_299 := blkg BK299 hg; have NB306_313 := blkl BK306 hg; have NB313_306 := blkg BK306 hg; have NB308_313 := blkl BK308 hg; have NB313_308 := blkg BK308 hg; have NB309_313 := blkl BK309 hg; have NB313_309 := blkg BK309 hg; replace BK284 := blkb BK284 hb; replace BK291 := blkb BK291 hb; replace BK299 := blkb BK299 hb; replace BK306 := blkb BK306 hb; replace BK308 := blkb BK308 hb; replace BK309 := blkb BK309 hb; replace HB := belb HB hb; clear hb hbox hg; have hnb122 := NB313_284.out; have hnc122 := NB284_313.out; have hnb123 := NB313_291.out; have hnc123 := NB291_313.out; have hnb124 := NB313_299.out; have hnc124 := NB299_313.out; have hnb125 := NB313_306.out; have hnc125 := NB306_313.out; have hnb126 := NB313_308.out; have hnc126 := NB308_313.out; have hnb127 := NB313_309.out; have hnc127 := NB309_313.out; have hcz128_0 : w121.cell? ⟨gb313, 0, none⟩ = some (.int .i64 0) := bc BK313 0; have hcz128_1 : w121.cell? ⟨gb313, 1, none⟩ = some (.int .u64 0) := bc BK313 1; have hfz128_0 := blk_frozen BK313.out 0; have hfz128_1 := blk_frozen BK313.out 1; have hnb129 := NB306_284.out; have hnc129 := NB284_306.out; have hnb130 := NB306_299.out; have hnc130 := NB299_306.out; have hnb131 := NB306_309.out; have hnc131 := NB309_306.out; have hcz132_0 : w121.cell? ⟨gb306, 0, none⟩ = some (.int .u64 t300) := bc BK306 0; have hcz132_1 : w121.cell? ⟨gb306, 1, none⟩ = some (.int .i64 t301) := bc BK306 1; have hcz132_2 : w121.cell? ⟨gb306, 2, none⟩ = some (.int .u64 t302) := bc BK306 2; have hcz132_3 : w121.cell? ⟨gb306, 3, none⟩ = some (.int .u64 t303) := bc BK306 3; have hcz132_4 : w121.cell? ⟨gb306, 4, none⟩ = some (.int .i64 t304) := bc BK306 4; have hfz132_0 := blk_frozen BK306.out 0; have hfz132_1 := blk_frozen BK306.out 1; have hfz132_2 := blk_frozen BK306.out 2; have hfz132_3 := blk_frozen BK306.out 3; have hfz132_4 := blk_frozen BK306.out 4; have hnb133 := NB309_284.out; have hnc133 := NB284_309.out; have hnb134 := NB309_299.out; have hnc134 := NB299_309.out; have hcz135_0 : w121.cell? ⟨gb309, 0, none⟩ = some (.int .u64 x310000_74) := bc BK309 0; have hcz135_1 : w121.cell? ⟨gb309, 1, none⟩ = some (.int .u32 x310001_74) := bc BK309 1; have hcz135_2 : w121.cell? ⟨gb309, 2, none⟩ = some (.int .u32 x310002_74) := bc BK309 2; have hfz135_0 := blk_frozen BK309.out 0; have hfz135_1 := blk_frozen BK309.out 1; have hfz135_2 := blk_frozen BK309.out 2) | ((with_reducible refine gate_callee (f := 21) rfl ?_); refine goesL_ (some 138) rfl rfl Tryz.func21 (by kernel_rfl) rfl #[.agg #[.int .u64 t300, .int .i64 t301, .int .u64 t302, .int .u64 t303, .int .i64 t304], .agg #[.int .u64 x310000_74, .int .u32 x310001_74, .int .u32 x310002_74]] rfl argt ?_; (with_reducible refine (lag_Read.calls kj74 t300 t301 t302 t303 t304 x310000_74 x310001_74 x310002_74 t314 t315 t316 _ A102.out).mono ?_); rintro e w136 ⟨rfl, hb⟩; refine ⟨_, rfl, ?_⟩; replace BK284 := Aside0.mk (blk_below (g := gb284) (o := .cells #[.int .u64 t280, .int .u32 t281, .int .u32 t282] 28 (0, 0)) (by (with_reducible repeat (first | refine blk_drewN ?_ _ | refine blk_drew ?_ | refine blk_alloc ?_ _)); refine blk_far ?_ NB284_313.out _; (with_reducible repeat (first | refine blk_drewN ?_ _ | refine blk_drew ?_ | refine blk_alloc ?_ _)); refine blk_far ?_ NB284_313.out _; exact blkt BK284) hb); replace BK291 := Aside0.mk (blk_below (g := gb291) (o := .cells #[.int .u64 t285, .int .i64 t286, .int .u64 t287, .int .u64 t288, .int .i64 t289] 33 (0, 0)) (by (with_reducible repeat (first | refine blk_drewN ?_ _ | refine blk_drew ?_ | refine blk_alloc ?_ _)); refine blk_far ?_ NB291_313.out _; (with_reducible repeat (first | refine blk_drewN ?_ _ | refine blk_drew ?_ | refine blk_alloc ?_ _)); refine blk_far ?_ NB291_313.out _; exact blkt BK291) hb); replace BK299 := Aside0.mk (blk_below (g := gb299) (o := .cells #[.int .u64 t293, .int .i64 t294, .int .u64 t295, .int .u64 t296, .int .i64 t297] 33 (0, 0)) (by (with_reducible repeat (first | refine blk_drewN ?_ _ | refine blk_drew ?_ | refine blk_alloc ?_ _)); refine blk_far ?_ NB299_313.out _; (with_reducible repeat (first | refine blk_drewN ?_ _ | refine blk_drew ?_ | refine blk_alloc ?_ _)); refine blk_far ?_ NB299_313.out _; exact blkt BK299) hb); replace BK306 := Aside0.mk (blk_below (g := gb306) (o := .cells #[.int .u64 t300, .int .i64 t301, .int .u64 t302, .int .u64 t303, .int .i64 t304] 33 (0, 0)) (by (with_reducible repeat (first | refine blk_drewN ?_ _ | refine blk_drew ?_ | refine blk_alloc ?_ _)); refine blk_far ?_ NB306_313.out _; (with_reducible repeat (first | refine blk_drewN ?_ _ | refine blk_drew ?_ | refine blk_alloc ?_ _)); refine blk_far ?_ NB306_313.out _; exact blkt BK306) hb); replace BK308 := Aside0.mk (blk_below (g := gb308) (o := .cells #[.int .u64 ((rd_T28 l1 x119_4).f0), .int .u32 ((rd_T28 l1 x119_4).f1), .int .u32 ((rd_T28 l1 x119_4).f2)] 28 (0, 0)) (by (with_reducible repeat (first | refine blk_drewN ?_ _ | refine blk_drew ?_ | refine blk_alloc ?_ _)); refine blk_far ?_ NB308_313.out _; (with_reducible repeat (first | refine blk_drewN ?_ _ | refine blk_drew ?_ | refine blk_alloc ?_ _)); refine blk_far ?_ NB308_313.out _; exact blkt BK308) hb); replace BK309 := Aside0.mk (blk_below (g := gb309) (o := .cells #[.int .u64 x310000_74, .int .u32 x310001_74, .int .u32 x310002_74] 28 (0, 0)) (by (with_reducible repeat (first | refine blk_drewN ?_ _ | refine blk_drew ?_ | refine blk_alloc ?_ _)); refine blk_far ?_ NB309_313.out _; (with_reducible repeat (first | refine blk_drewN ?_ _ | refine blk_drew ?_ | refine blk_alloc ?_ _)); refine blk_far ?_ NB309_313.out _; exact blkt BK309) hb); replace BK313 := Aside0.mk (blk_below (g := gb313) (o := .cells #[.int .i64 t310, .int .u64 t311] 31 (0, 0)) (by (with_reducible repeat (first | refine blk_drewN ?_ _ | refine blk_drew ?_ | refine blk_alloc ?_ _)); refine blk_put (cs := #[.int .i64 t310, .int .u64 0]) ?_ 1 _ rfl; (with_reducible repeat (first | refine blk_drewN ?_ _ | refine blk_drew ?_ | refine blk_alloc ?_ _)); refine blk_put (cs := #[.int .i64 0, .int .u64 0]) ?_ 0 _ rfl; exact blkt BK313) hb); replace HB := belb HB hb; (try clear hb); (try clear hb2); (try clear hk); (try clear hi)) | ((with_reducible refine gate_dst (N := 26) rfl ?_); (try (refine gate_guard (by rfl) ?_; dsimp only)); refine box_event ?hg (N := 26) ?hd (cs := #[.int .i64 0, .int .u64 0]) (t := 31) ?hr ?_; (case hd => rfl); (case hg => rfl); (case hr => first | (go_simp; done) | (go_simp; rfl)); intro gb317 hg w137 hbox hb; have BK317 := Aside0.mk (hbox); have GW317 := bels HB hg; have GE317 := bels HB hg; have NB284_317 := blkl BK284 hg; have NB317_284 := blkg BK284 hg; have NB291_317 := blkl BK291 hg; have NB317_291 := blkg BK291 hg; have NB299_317 := blkl BK299 hg; have NB317_299 := blkg BK299 hg; have NB306_317 := blkl BK306 hg; have NB317_306 := blkg BK306 hg; have NB308_317 := blkl BK308 hg; have NB317_308 := blkg BK308 hg; have NB309_317 := blkl BK309 hg; have NB317_309 := blkg BK309 hg; have NB313_317 := blkl BK313 hg; have NB317_313 := blkg BK313 hg; replace BK284 := blkb BK284 hb; replace BK291 := blkb BK291 hb; replace BK299 := blkb BK299 hb; replace BK306 := blkb BK306 hb; replace BK308 := blkb BK308 hb; replace BK309 := blkb BK309 hb; replace BK313 := blkb BK313 hb; replace HB := belb HB hb; clear hb hbox hg; have hnb138 := NB317_284.out; have hnc138 := NB284_317.out; have hnb139 := NB317_291.out; have hnc139 := NB291_317.out; have hnb140 := NB317_299.out; have hnc140 := NB299_317.out; have hnb141 := NB317_306.out; have hnc141 := NB306_317.out; have hnb142 := NB317_308.out; have hnc142 := NB308_317.out; have hnb143 := NB317_309.out; have hnc143 := NB309_317.out; have hnb144 := NB317_313.out; have hnc144 := NB313_317.out; have hcz145_0 : w137.cell? ⟨gb317, 0, none⟩ = some (.int .i64 0) := bc BK317 0; have hcz145_1 : w137.cell? ⟨gb317, 1, none⟩ = some (.int .u64 0) := bc BK317 1; have hfz145_0 := blk_frozen BK317.out 0; have hfz145_1 := blk_frozen BK317.out 1; have hcz146_0 : w137.cell? ⟨gb313, 0, none⟩ = some (.int .i64 t310) := bc BK313 0; have hcz146_1 : w137.cell? ⟨gb313, 1, none⟩ = some (.int .u64 t311) := bc BK313 1; have hfz146_0 := blk_frozen BK313.out 0; have hfz146_1 := blk_frozen BK313.out 1) | ((with_reducible refine gate_callee (f := 26) rfl ?_); refine goesL_ (some 144) rfl rfl Tryz.func26 (by kernel_rfl) rfl #[.agg #[.int .i64 t314, .int .u64 t315], .agg #[.int .i64 t310, .int .u64 t311]] rfl argt ?_; (with_reducible refine (wide_Int_Sub.calls t314 t315 t310 t311 t318 t319 t320 _ A103.out).mono ?_); rintro e w147 ⟨rfl, hb⟩; refine ⟨_, rfl, ?_⟩; replace BK284 := Aside0.mk (blk_below (g := gb284) (o := .cells #[.int .u64 t280, .int .u32 t281, .int .u32 t282] 28 (0, 0)) (by (with_reducible repeat (first | refine blk_drewN ?_ _ | refine blk_drew ?_ | refine blk_alloc ?_ _)); refine blk_far ?_ NB284_317.out _; (with_reducible repeat (first | refine blk_drewN ?_ _ | refine blk_drew ?_ | refine blk_alloc ?_ _)); refine blk_far ?_ NB284_317.out _; exact blkt BK284) hb); replace BK291 := Aside0.mk (blk_below (g := gb291) (o := .cells #[.int .u64 t285, .int .i64 t286, .int .u64 t287, .int .u64 t288, .int .i64 t289] 33 (0, 0)) (by (with_reducible repeat (first | refine blk_drewN ?_ _ | refine blk_drew ?_ | refine blk_alloc ?_ _)); refine blk_far ?_ NB291_317.out _; (with_reducible repeat (first | refine blk_drewN ?_ _ | refine blk_drew ?_ | refine blk_alloc ?_ _)); refine blk_far ?_ NB291_317.out _; exact blkt BK291) hb); replace BK299 := Aside0.mk (blk_below (g := gb299) (o := .cells #[.int .u64 t293, .int .i64 t294, .int .u64 t295, .int .u64 t296, .int .i64 t297] 33 (0, 0)) (by (with_reducible repeat (first | refine blk_drewN ?_ _ | refine blk_drew ?_ | refine blk_alloc ?_ _)); refine blk_far ?_ NB299_317.out _; (with_reducible repeat (first | refine blk_drewN ?_ _ | refine blk_drew ?_ | refine blk_alloc ?_ _)); refine blk_far ?_ NB299_317.out _; exact blkt BK299) hb); replace BK306 := Aside0.mk (blk_below (g := gb306) (o := .cells #[.int .u64 t300, .int .i64 t301, .int .u64 t302, .int .u64 t303, .int .i64 t304] 33 (0, 0)) (by (with_reducible repeat (first | refine blk_drewN ?_ _ | refine blk_drew ?_ | refine blk_alloc ?_ _)); refine blk_far ?_ NB306_317.out _; (with_reducible repeat (first | refine blk_drewN ?_ _ | refine blk_drew ?_ | refine blk_alloc ?_ _)); refine blk_far ?_ NB306_317.out _; exact blkt BK306) hb); replace BK308 := Aside0.mk (blk_below (g := gb308) (o := .cells #[.int .u64 ((rd_T28 l1 x119_4).f0), .int .u32 ((rd_T28 l1 x119_4).f1), .int .u32 ((rd_T28 l1 x119_4).f2)] 28 (0, 0)) (by (with_reducible repeat (first | refine blk_drewN ?_ _ | refine blk_drew ?_ | refine blk_alloc ?_ _)); refine blk_far ?_ NB308_317.out _; (with_reducible repeat (first | refine blk_drewN ?_ _ | refine blk_drew ?_ | refine blk_alloc ?_ _)); refine blk_far ?_ NB308_317.out _; exact blkt BK308) hb); replace BK309 := Aside0.mk (blk_below (g := gb309) (o := .cells #[.int .u64 x310000_74, .int .u32 x310001_74, .int .u32 x310002_74] 28 (0, 0)) (by (with_reducible repeat (first | refine blk_drewN ?_ _ | refine blk_drew ?_ | refine blk_alloc ?_ _)); refine blk_far ?_ NB309_317.out _; (with_reducible repeat (first | refine blk_drewN ?_ _ | refine blk_drew ?_ | refine blk_alloc ?_ _)); refine blk_far ?_ NB309_317.out _; exact blkt BK309) hb); replace BK313 := Aside0.mk (blk_below (g := gb313) (o := .cells #[.int .i64 t310, .int .u64 t311] 31 (0, 0)) (by (with_reducible repeat (first | refine blk_drewN ?_ _ | refine blk_drew ?_ | refine blk_alloc ?_ _)); refine blk_far ?_ NB313_317.out _; (with_reducible repeat (first | refine blk_drewN ?_ _ | refine blk_drew ?_ | refine blk_alloc ?_ _)); refine blk_far ?_ NB313_317.out _; exact blkt BK313) hb); replace BK317 := Aside0.mk (blk_below (g := gb317) (o := .cells #[.int .i64 t314, .int .u64 t315] 31 (0, 0)) (by (with_reducible repeat (first | refine blk_drewN ?_ _ | refine blk_drew ?_ | refine blk_alloc ?_ _)); refine blk_put (cs := #[.int .i64 t314, .int .u64 0]) ?_ 1 _ rfl; (with_reducible repeat (first | refine blk_drewN ?_ _ | refine blk_drew ?_ | refine blk_alloc ?_ _)); refine blk_put (cs := #[.int .i64 0, .int .u64 0]) ?_ 0 _ rfl; exact blkt BK317) hb); replace HB := belb HB hb; (try clear hb); (try clear hb2); (try clear hk); (try clear hi)) | ((with_reducible refine gate_dst (N := 28) rfl ?_); (try (refine gate_guard (by rfl) ?_; dsimp only)); refine box_event ?hg (N := 28) ?hd (cs := #[.int .i64 0, .int .u64 0]) (t := 31) ?hr ?_; (case hd => rfl); (case hg => rfl); (case hr => first | (go_simp; done) | (go_simp; rfl)); intro gb321 hg w148 hbox hb; have BK321 := Aside0.mk (hbox); have GW321 := bels HB hg; have GE321 := bels HB hg; have NB284_321 := blkl BK284 hg; have NB321_284 := blkg BK284 hg; have NB291_321 := blkl BK291 hg; have NB321_291 := blkg BK291 hg; have NB299_321 := blkl BK299 hg; have NB321_299 := blkg BK299 hg; have NB306_321 := blkl BK306 hg; have NB321_306 := blkg BK306 hg; have NB308_321 := blkl BK308 hg; have NB321_308 := blkg BK308 hg; have NB309_321 := blkl BK309 hg; have NB321_309 := blkg BK309 hg; have NB313_321 := blkl BK313 hg; have NB321_313 := blkg BK313 hg; have NB317_321 := blkl BK317 hg; have NB321_317 := blkg BK317 hg; replace BK284 := blkb BK284 hb; replace BK291 := blkb BK291 hb; replace BK299 := blkb BK299 hb; replace BK306 := blkb BK306 hb; replace BK308 := blkb BK308 hb; replace BK309 := blkb BK309 hb; replace BK313 := blkb BK313 hb; replace BK317 := blkb BK317 hb; replace HB := belb HB hb; clear hb hbox hg; have hnb149 := NB321_284.out; have hnc149 := NB284_321.out; have hnb150 := NB321_291.out; have hnc150 := NB291_321.out; have hnb151 := NB321_299.out; have hnc151 := NB299_321.out; have hnb152 := NB321_306.out; have hnc152 := NB306_321.out; have hnb153 := NB321_308.out; have hnc153 := NB308_321.out; have hnb154 := NB321_309.out; have hnc154 := NB309_321.out; have hnb155 := NB321_313.out; have hnc155 := NB313_321.out; have hnb156 := NB321_317.out; have hnc156 := NB317_321.out; have hcz157_0 : w148.cell? ⟨gb321, 0, none⟩ = some (.int .i64 0) := bc BK321 0; have hcz157_1 : w148.cell? ⟨gb321, 1, none⟩ = some (.int .u64 0) := bc BK321 1; have hfz157_0 := blk_frozen BK321.out 0; have hfz157_1 := blk_frozen BK321.out 1) | ((with_reducible refine gate_callee (f := 27) rfl ?_); refine goesL_ (some 149) rfl rfl Tryz.func27 (by kernel_rfl) rfl #[.agg #[.int .i64 t318, .int .u64 t319]] rfl argt ?_; (with_reducible refine (wide_Int_Small.calls t318 t319 t322 true _ A104.out).mono ?_); rintro e w158 ⟨rfl, hb⟩; refine ⟨_, rfl, ?_⟩; replace BK284 := Aside0.mk (blk_below (g := gb284) (o := .cells #[.int .u64 t280, .int .u32 t281, .int .u32 t282] 28 (0, 0)) (by (with_reducible repeat (first | refine blk_drewN ?_ _ | refine blk_drew ?_ | refine blk_alloc ?_ _)); refine blk_far ?_ NB284_321.out _; (with_reducible repeat (first | refine blk_drewN ?_ _ | refine blk_drew ?_ | refine blk_alloc ?_ _)); refine blk_far ?_ NB284_321.out _; exact blkt BK284) hb); replace BK291 := Aside0.mk (blk_below (g := gb291) (o := .cells #[.int .u64 t285, .int .i64 t286, .int .u64 t287, .int .u64 t288, .int .i64 t289] 33 (0, 0)) (by (with_reducible repeat (first | refine blk_drewN ?_ _ | refine blk_drew ?_ | refine blk_alloc ?_ _)); refine blk_far ?_ NB291_321.out _; (with_reducible repeat (first | refine blk_drewN ?_ _ | refine blk_drew ?_ | refine blk_alloc ?_ _)); refine blk_far ?_ NB291_321.out _; exact blkt BK291) hb); replace BK299 := Aside0.mk (blk_below (g := gb299) (o := .cells #[.int .u64 t293, .int .i64 t294, .int .u64 t295, .int .u64 t296, .int .i64 t297] 33 (0, 0)) (by (with_reducible repeat (first | refine blk_drewN ?_ _ | refine blk_drew ?_ | refine blk_alloc ?_ _)); refine blk_far ?_ NB299_321.out _; (with_reducible repeat (first | refine blk_drewN ?_ _ | refine blk_drew ?_ | refine blk_alloc ?_ _)); refine blk_far ?_ NB299_321.out _; exact blkt BK299) hb); replace BK306 := Aside0.mk (blk_below (g := gb306) (o := .cells #[.int .u64 t300, .int .i64 t301, .int .u64 t302, .int .u64 t303, .int .i64 t304] 33 (0, 0)) (by (with_reducible repeat (first | refine blk_drewN ?_ _ | refine blk_drew ?_ | refine blk_alloc ?_ _)); refine blk_far ?_ NB306_321.out _; (with_reducible repeat (first | refine blk_drewN ?_ _ | refine blk_drew ?_ | refine blk_alloc ?_ _)); refine blk_far ?_ NB306_321.out _; exact blkt BK306) hb); replace BK308 := Aside0.mk (blk_below (g := gb308) (o := .cells #[.int .u64 ((rd_T28 l1 x119_4).f0), .int .u32 ((rd_T28 l1 x119_4).f1), .int .u32 ((rd_T28 l1 x119_4).f2)] 28 (0, 0)) (by (with_reducible repeat (first | refine blk_drewN ?_ _ | refine blk_drew ?_ | refine blk_alloc ?_ _)); refine blk_far ?_ NB308_321.out _; (with_reducible repeat (first | refine blk_drewN ?_ _ | refine blk_drew ?_ | refine blk_alloc ?_ _)); refine blk_far ?_ NB308_321.out _; exact blkt BK308) hb); replace BK309 := Aside0.mk (blk_below (g := gb309) (o := .cells #[.int .u64 x310000_74, .int .u32 x310001_74, .int .u32 x310002_74] 28 (0, 0)) (by (with_reducible repeat (first | refine blk_drewN ?_ _ | refine blk_drew ?_ | refine blk_alloc ?_ _)); refine blk_far ?_ NB309_321.out _; (with_reducible repeat (first | refine blk_drewN ?_ _ | refine blk_drew ?_ | refine blk_alloc ?_ _)); refine blk_far ?_ NB309_321.out _; exact blkt BK309) hb); replace BK313 := Aside0.mk (blk_below (g := gb313) (o := .cells #[.int .i64 t310, .int .u64 t311] 31 (0, 0)) (by (with_reducible repeat (first | refine blk_drewN ?_ _ | refine blk_drew ?_ | refine blk_alloc ?_ _)); refine blk_far ?_ NB313_321.out _; (with_reducible repeat (first | refine blk_drewN ?_ _ | refine blk_drew ?_ | refine blk_alloc ?_ _)); refine blk_far ?_ NB313_321.out _; exact blkt BK313) hb); replace BK317 := Aside0.mk (blk_below (g := gb317) (o := .cells #[.int .i64 t314, .int .u64 t315] 31 (0, 0)) (by (with_reducible repeat (first | refine blk_drewN ?_ _ | refine blk_drew ?_ | refine blk_alloc ?_ _)); refine blk_far ?_ NB317_321.out _; (with_reducible repeat (first | refine blk_drewN ?_ _ | refine blk_drew ?_ | refine blk_alloc ?_ _)); refine blk_far ?_ NB317_321.out _; exact blkt BK317) hb); replace BK321 := Aside0.mk (blk_below (g := gb321) (o := .cells #[.int .i64 t318, .int .u64 t319] 31 (0, 0)) (by (with_reducible repeat (first | refine blk_drewN ?_ _ | refine blk_drew ?_ | refine blk_alloc ?_ _)); refine blk_put (cs := #[.int .i64 t318, .int .u64 0]) ?_ 1 _ rfl; (with_reducible repeat (first | refine blk_drewN ?_ _ | refine blk_drew ?_ | refine blk_alloc ?_ _)); refine blk_put (cs := #[.int .i64 0, .int .u64 0]) ?_ 0 _ rfl; exact blkt BK321) hb); replace HB := belb HB hb; (try clear hb); (try clear hb2); (try clear hk); (try clear hi)))
                   go_roundg kj74
                   case measure => have := HJ6.out; have := HK2.out; have := HJ39.out; have := HK4.out; have := HJ74.out; omega
                   case rel => exact ⟨(wrap64 (x119_4 + 1)), (by first | rfl | (simp; done) | (simp [*]; done)), H', ⟨by have := HJ6.out; have := HK2.out; have := HJ39.out; have := HK4.out; have := HJ74.out; omega⟩, ⟨blkt BK284⟩, ⟨blkt BK291⟩, ⟨blkt BK299⟩, ⟨blkt BK306⟩, ⟨belt HB⟩⟩
                  rw [if_neg c106] at H
                  have c106b0 : (x119_4 == ji33) = false := beq_eq_false_iff_ne.mpr c106
                  have c106b1 : (x119_4 != ji33) = true := bne_iff_ne.mpr c106
                  by_cases c159 : t322 < 0
                  ·rw [if_pos c159] at H
                   exact absurd H (by simp)
                  rw [if_neg c159] at H
                  have c159b0 : decide (t322 < 0) = false := decide_eq_false c159
                  clear c159
                  by_cases c160 : t322 > (wrap64 ((wrap64 (a3)) + 1))
                  ·rw [if_pos c160] at H
                   exact absurd H (by simp)
                  rw [if_neg c160] at H
                  have c160b0 : decide ((wrap64 ((wrap64 (a3)) + 1)) < t322) = false := decide_eq_false c160
                  clear c160
                  have H' := Aside0.mk H
                  clear H
                  have hnb161 := NB291_284.out
                  have hnc161 := NB284_291.out
                  have hnb162 := NB291_299.out
                  have hnc162 := NB299_291.out
                  have hnb163 := NB291_306.out
                  have hnc163 := NB306_291.out
                  have hnb164 := NB291_308.out
                  have hnc164 := NB308_291.out
                  have hnb165 := NB291_309.out
                  have hnc165 := NB309_291.out
                  have hcz166_0 : wc.cell? ⟨gb291, 0, none⟩ = some (.int .u64 t285) := bc BK291 0
                  have hcz166_1 : wc.cell? ⟨gb291, 1, none⟩ = some (.int .i64 t286) := bc BK291 1
                  have hcz166_2 : wc.cell? ⟨gb291, 2, none⟩ = some (.int .u64 t287) := bc BK291 2
                  have hcz166_3 : wc.cell? ⟨gb291, 3, none⟩ = some (.int .u64 t288) := bc BK291 3
                  have hcz166_4 : wc.cell? ⟨gb291, 4, none⟩ = some (.int .i64 t289) := bc BK291 4
                  have hfz166_0 := blk_frozen BK291.out 0
                  have hfz166_1 := blk_frozen BK291.out 1
                  have hfz166_2 := blk_frozen BK291.out 2
                  have hfz166_3 := blk_frozen BK291.out 3
                  have hfz166_4 := blk_frozen BK291.out 4
                  have hnb167 := NB308_284.out
                  have hnc167 := NB284_308.out
                  have hnb168 := NB308_299.out
                  have hnc168 := NB299_308.out
                  have hnb169 := NB308_306.out
                  have hnc169 := NB306_308.out
                  have hnb170 := NB308_309.out
                  have hnc170 := NB309_308.out
                  have hcz171_0 : wc.cell? ⟨gb308, 0, none⟩ = some (.int .u64 ((rd_T28 l1 x119_4).f0)) := bc BK308 0
                  have hcz171_1 : wc.cell? ⟨gb308, 1, none⟩ = some (.int .u32 ((rd_T28 l1 x119_4).f1)) := bc BK308 1
                  have hcz171_2 : wc.cell? ⟨gb308, 2, none⟩ = some (.int .u32 ((rd_T28 l1 x119_4).f2)) := bc BK308 2
                  have hfz171_0 := blk_frozen BK308.out 0
                  have hfz171_1 := blk_frozen BK308.out 1
                  have hfz171_2 := blk_frozen BK308.out 2
                  go_wp2_with (first | ((with_reducible refine gate_callee (f := 21) rfl ?_); refine goesL_ (some 132) rfl rfl Tryz.func21 (by kernel_rfl) rfl #[.agg #[.int .u64 t285, .int .i64 t286, .int .u64 t287, .int .u64 t288, .int .i64 t289], .agg #[.int .u64 ((rd_T28 l1 x119_4).f0), .int .u32 ((rd_T28 l1 x119_4).f1), .int .u32 ((rd_T28 l1 x119_4).f2)]] rfl argt ?_; (with_reducible refine (lag_Read.calls kj74 t285 t286 t287 t288 t289 ((rd_T28 l1 x119_4).f0) ((rd_T28 l1 x119_4).f1) ((rd_T28 l1 x119_4).f2) t310 t311 t312 _ A101.out).mono ?_); rintro e w172 ⟨rfl, hb⟩; refine ⟨_, rfl, ?_⟩; replace BK284 := blkb BK284 hb; replace BK291 := blkb BK291 hb; replace BK299 := blkb BK299 hb; replace BK306 := blkb BK306 hb; replace BK308 := blkb BK308 hb; replace BK309 := blkb BK309 hb; replace HB := belb HB hb; (try clear hb); (try clear hb2); (try clear hk); (try clear hi)) | ((with_reducible refine gate_dst (N := 24) rfl ?_); (try (refine gate_guard (by rfl) ?_; dsimp only)); refine box_event ?hg (N := 24) ?hd (cs := #[.int .i64 0, .int .u64 0]) (t := 31) ?hr ?_; (case hd => rfl); (case hg => rfl); (case hr => first | (go_simp; done) | (go_simp; rfl)); intro gb313 hg w173 hbox hb; have BK313 := Aside0.mk (hbox); have GW313 := bels HB hg; have GE313 := bels HB hg; have NB284_313 := blkl BK284 hg; have NB313_284 := blkg BK284 hg; have NB291_313 := blkl BK291 hg; have NB313_291 := blkg BK291 hg; have NB299_313 := blkl BK299 hg; have NB313_299 := blkg BK299 hg; have NB306_313 := blkl BK306 hg; have NB313_306 := blkg BK306 hg; have NB308_313 := blkl BK308 hg; have NB313_308 := blkg BK308 hg; have NB309_313 := blkl BK309 hg; have NB313_309 := blkg BK309 hg; replace BK284 := blkb BK284 hb; replace BK291 := blkb BK291 hb; replace BK299 := blkb BK299 hb; replace BK306 := blkb BK306 hb; replace BK308 := blkb BK308 hb; replace BK309 := blkb BK309 hb; replace HB := belb HB hb; clear hb hbox hg; have hnb174 := NB313_284.out; have hnc174 := NB284_313.out; have hnb175 := NB313_291.out; have hnc175 := NB291_313.out; have hnb176 := NB313_299.out; have hnc176 := NB299_313.out; have hnb177 := NB313_306.out; have hnc177 := NB306_313.out; have hnb178 := NB313_308.out; have hnc178 := NB308_313.out; have hnb179 := NB313_309.out; have hnc179 := NB309_313.out; have hcz180_0 : w173.cell? ⟨gb313, 0, none⟩ = some (.int .i64 0) := bc BK313 0; have hcz180_1 : w173.cell? ⟨gb313, 1, none⟩ = some (.int .u64 0) := bc BK313 1; have hfz180_0 := blk_frozen BK313.out 0; have hfz180_1 := blk_frozen BK313.out 1; have hnb181 := NB306_284.out; have hnc181 := NB284_306.out; have hnb182 := NB306_299.out; have hnc182 := NB299_306.out; have hnb183 := NB306_309.out; have hnc183 := NB309_306.out; have hcz184_0 : w173.cell? ⟨gb306, 0, none⟩ = some (.int .u64 t300) := bc BK306 0; have hcz184_1 : w173.cell? ⟨gb306, 1, none⟩ = some (.int .i64 t301) := bc BK306 1; have hcz184_2 : w173.cell? ⟨gb306, 2, none⟩ = some (.int .u64 t302) := bc BK306 2; have hcz184_3 : w173.cell? ⟨gb306, 3, none⟩ = some (.int .u64 t303) := bc BK306 3; have hcz184_4 : w173.cell? ⟨gb306, 4, none⟩ = some (.int .i64 t304) := bc BK306 4; have hfz184_0 := blk_frozen BK306.out 0; have hfz184_1 := blk_frozen BK306.out 1; have hfz184_2 := blk_frozen BK306.out 2; have hfz184_3 := blk_frozen BK306.out 3; have hfz184_4 := blk_frozen BK306.out 4; have hnb185 := NB309_284.out; have hnc185 := NB284_309.out; have hnb186 := NB309_299.out; have hnc186 := NB299_309.out; have hcz187_0 : w173.cell? ⟨gb309, 0, none⟩ = some (.int .u64 x310000_74) := bc BK309 0; have hcz187_1 : w173.cell? ⟨gb309, 1, none⟩ = some (.int .u32 x310001_74) := bc BK309 1; have hcz187_2 : w173.cell? ⟨gb309, 2, none⟩ = some (.int .u32 x310002_74) := bc BK309 2; have hfz187_0 := blk_frozen BK309.out 0; have hfz187_1 := blk_frozen BK309.out 1; have hfz187_2 := blk_frozen BK309.out 2) | ((with_reducible refine gate_callee (f := 21) rfl ?_); refine goesL_ (some 138) rfl rfl Tryz.func21 (by kernel_rfl) rfl #[.agg #[.int .u64 t300, .int .i64 t301, .int .u64 t302, .int .u64 t303, .int .i64 t304], .agg #[.int .u64 x310000_74, .int .u32 x310001_74, .int .u32 x310002_74]] rfl argt ?_; (with_reducible refine (lag_Read.calls kj74 t300 t301 t302 t303 t304 x310000_74 x310001_74 x310002_74 t314 t315 t316 _ A102.out).mono ?_); rintro e w188 ⟨rfl, hb⟩; refine ⟨_, rfl, ?_⟩; replace BK284 := Aside0.mk (blk_below (g := gb284) (o := .cells #[.int .u64 t280, .int .u32 t281, .int .u32 t282] 28 (0, 0)) (by (with_reducible repeat (first | refine blk_drewN ?_ _ | refine blk_drew ?_ | refine blk_alloc ?_ _)); refine blk_far ?_ NB284_313.out _; (with_reducible repeat (first | refine blk_drewN ?_ _ | refine blk_drew ?_ | refine blk_alloc ?_ _)); refine blk_far ?_ NB284_313.out _; exact blkt BK284) hb); replace BK291 := Aside0.mk (blk_below (g := gb291) (o := .cells #[.int .u64 t285, .int .i64 t286, .int .u64 t287, .int .u64 t288, .int .i64 t289] 33 (0, 0)) (by (with_reducible repeat (first | refine blk_drewN ?_ _ | refine blk_drew ?_ | refine blk_alloc ?_ _)); refine blk_far ?_ NB291_313.out _; (with_reducible repeat (first | refine blk_drewN ?_ _ | refine blk_drew ?_ | refine blk_alloc ?_ _)); refine blk_far ?_ NB291_313.out _; exact blkt BK291) hb); replace BK299 := Aside0.mk (blk_below (g := gb299) (o := .cells #[.int .u64 t293, .int .i64 t294, .int .u64 t295, .int .u64 t296, .int .i64 t297] 33 (0, 0)) (by (with_reducible repeat (first | refine blk_drewN ?_ _ | refine blk_drew ?_ | refine blk_alloc ?_ _)); refine blk_far ?_ NB299_313.out _; (with_reducible repeat (first | refine blk_drewN ?_ _ | refine blk_drew ?_ | refine blk_alloc ?_ _)); refine blk_far ?_ NB299_313.out _; exact blkt BK299) hb); replace BK306 := Aside0.mk (blk_below (g := gb306) (o := .cells #[.int .u64 t300, .int .i64 t301, .int .u64 t302, .int .u64 t303, .int .i64 t304] 33 (0, 0)) (by (with_reducible repeat (first | refine blk_drewN ?_ _ | refine blk_drew ?_ | refine blk_alloc ?_ _)); refine blk_far ?_ NB306_313.out _; (with_reducible repeat (first | refine blk_drewN ?_ _ | refine blk_drew ?_ | refine blk_alloc ?_ _)); refine blk_far ?_ NB306_313.out _; exact blkt BK306) hb); replace BK308 := Aside0.mk (blk_below (g := gb308) (o := .cells #[.int .u64 ((rd_T28 l1 x119_4).f0), .int .u32 ((rd_T28 l1 x119_4).f1), .int .u32 ((rd_T28 l1 x119_4).f2)] 28 (0, 0)) (by (with_reducible repeat (first | refine blk_drewN ?_ _ | refine blk_drew ?_ | refine blk_alloc ?_ _)); refine blk_far ?_ NB308_313.out _; (with_reducible repeat (first | refine blk_drewN ?_ _ | refine blk_drew ?_ | refine blk_alloc ?_ _)); refine blk_far ?_ NB308_313.out _; exact blkt BK308) hb); replace BK309 := Aside0.mk (blk_below (g := gb309) (o := .cells #[.int .u64 x310000_74, .int .u32 x310001_74, .int .u32 x310002_74] 28 (0, 0)) (by (with_reducible repeat (first | refine blk_drewN ?_ _ | refine blk_drew ?_ | refine blk_alloc ?_ _)); refine blk_far ?_ NB309_313.out _; (with_reducible repeat (first | refine blk_drewN ?_ _ | refine blk_drew ?_ | refine blk_alloc ?_ _)); refine blk_far ?_ NB309_313.out _; exact blkt BK309) hb); replace BK313 := Aside0.mk (blk_below (g := gb313) (o := .cells #[.int .i64 t310, .int .u64 t311] 31 (0, 0)) (by (with_reducible repeat (first | refine blk_drewN ?_ _ | refine blk_drew ?_ | refine blk_alloc ?_ _)); refine blk_put (cs := #[.int .i64 t310, .int .u64 0]) ?_ 1 _ rfl; (with_reducible repeat (first | refine blk_drewN ?_ _ | refine blk_drew ?_ | refine blk_alloc ?_ _)); refine blk_put (cs := #[.int .i64 0, .int .u64 0]) ?_ 0 _ rfl; exact blkt BK313) hb); replace HB := belb HB hb; (try clear hb); (try clear hb2); (try clear hk); (try clear hi)) | ((with_reducible refine gate_dst (N := 26) rfl ?_); (try (refine gate_guard (by rfl) ?_; dsimp only)); refine box_event ?hg (N := 26) ?hd (cs := #[.int .i64 0, .int .u64 0]) (t := 31) ?hr ?_; (case hd => rfl); (case hg => rfl); (case hr => first | (go_simp; done) | (go_simp; rfl)); intro gb317 hg w189 hbox hb; have BK317 := Aside0.mk (hbox); have GW317 := bels HB hg; have GE317 := bels HB hg; have NB284_317 := blkl BK284 hg; have NB317_284 := blkg BK284 hg; have NB291_317 := blkl BK291 hg; have NB317_291 := blkg BK291 hg; have NB299_317 := blkl BK299 hg; have NB317_299 := blkg BK299 hg; have NB306_317 := blkl BK306 hg; have NB317_306 := blkg BK306 hg; have NB308_317 := blkl BK308 hg; have NB317_308 := blkg BK308 hg; have NB309_317 := blkl BK309 hg; have NB317_309 := blkg BK309 hg; have NB313_317 := blkl BK313 hg; have NB317_313 := blkg BK313 hg; replace BK284 := blkb BK284 hb; replace BK291 := blkb BK291 hb; replace BK299 := blkb BK299 hb; replace BK306 := blkb BK306 hb; replace BK308 := blkb BK308 hb; replace BK309 := blkb BK309 hb; replace BK313 := blkb BK313 hb; replace HB := belb HB hb; clear hb hbox hg; have hnb190 := NB317_284.out; have hnc190 := NB284_317.out; have hnb191 := NB317_291.out; have hnc191 := NB291_317.out; have hnb192 := NB317_299.out; have hnc192 := NB299_317.out; have hnb193 := NB317_306.out; have hnc193 := NB306_317.out; have hnb194 := NB317_308.out; have hnc194 := NB308_317.out; have hnb195 := NB317_309.out; have hnc195 := NB309_317.out; have hnb196 := NB317_313.out; have hnc196 := NB313_317.out; have hcz197_0 : w189.cell? ⟨gb317, 0, none⟩ = some (.int .i64 0) := bc BK317 0; have hcz197_1 : w189.cell? ⟨gb317, 1, none⟩ = some (.int .u64 0) := bc BK317 1; have hfz197_0 := blk_frozen BK317.out 0; have hfz197_1 := blk_frozen BK317.out 1; have hcz198_0 : w189.cell? ⟨gb313, 0, none⟩ = some (.int .i64 t310) := bc BK313 0; have hcz198_1 : w189.cell? ⟨gb313, 1, none⟩ = some (.int .u64 t311) := bc BK313 1; have hfz198_0 := blk_frozen BK313.out 0; have hfz198_1 := blk_frozen BK313.out 1) | ((with_reducible refine gate_callee (f := 26) rfl ?_); refine goesL_ (some 144) rfl rfl Tryz.func26 (by kernel_rfl) rfl #[.agg #[.int .i64 t314, .int .u64 t315], .agg #[.int .i64 t310, .int .u64 t311]] rfl argt ?_; (with_reducible refine (wide_Int_Sub.calls t314 t315 t310 t311 t318 t319 t320 _ A103.out).mono ?_); rintro e w199 ⟨rfl, hb⟩; refine ⟨_, rfl, ?_⟩; replace BK284 := Aside0.mk (blk_below (g := gb284) (o := .cells #[.int .u64 t280, .int .u32 t281, .int .u32 t282] 28 (0, 0)) (by (with_reducible repeat (first | refine blk_drewN ?_ _ | refine blk_drew ?_ | refine blk_alloc ?_ _)); refine blk_far ?_ NB284_317.out _; (with_reducible repeat (first | refine blk_drewN ?_ _ | refine blk_drew ?_ | refine blk_alloc ?_ _)); refine blk_far ?_ NB284_317.out _; exact blkt BK284) hb); replace BK291 := Aside0.mk (blk_below (g := gb291) (o := .cells #[.int .u64 t285, .int .i64 t286, .int .u64 t287, .int .u64 t288, .int .i64 t289] 33 (0, 0)) (by (with_reducible repeat (first | refine blk_drewN ?_ _ | refine blk_drew ?_ | refine blk_alloc ?_ _)); refine blk_far ?_ NB291_317.out _; (with_reducible repeat (first | refine blk_drewN ?_ _ | refine blk_drew ?_ | refine blk_alloc ?_ _)); refine blk_far ?_ NB291_317.out _; exact blkt BK291) hb); replace BK299 := Aside0.mk (blk_below (g := gb299) (o := .cells #[.int .u64 t293, .int .i64 t294, .int .u64 t295, .int .u64 t296, .int .i64 t297] 33 (0, 0)) (by (with_reducible repeat (first | refine blk_drewN ?_ _ | refine blk_drew ?_ | refine blk_alloc ?_ _)); refine blk_far ?_ NB299_317.out _; (with_reducible repeat (first | refine blk_drewN ?_ _ | refine blk_drew ?_ | refine blk_alloc ?_ _)); refine blk_far ?_ NB299_317.out _; exact blkt BK299) hb); replace BK306 := Aside0.mk (blk_below (g := gb306) (o := .cells #[.int .u64 t300, .int .i64 t301, .int .u64 t302, .int .u64 t303, .int .i64 t304] 33 (0, 0)) (by (with_reducible repeat (first | refine blk_drewN ?_ _ | refine blk_drew ?_ | refine blk_alloc ?_ _)); refine blk_far ?_ NB306_317.out _; (with_reducible repeat (first | refine blk_drewN ?_ _ | refine blk_drew ?_ | refine blk_alloc ?_ _)); refine blk_far ?_ NB306_317.out _; exact blkt BK306) hb); replace BK308 := Aside0.mk (blk_below (g := gb308) (o := .cells #[.int .u64 ((rd_T28 l1 x119_4).f0), .int .u32 ((rd_T28 l1 x119_4).f1), .int .u32 ((rd_T28 l1 x119_4).f2)] 28 (0, 0)) (by (with_reducible repeat (first | refine blk_drewN ?_ _ | refine blk_drew ?_ | refine blk_alloc ?_ _)); refine blk_far ?_ NB308_317.out _; (with_reducible repeat (first | refine blk_drewN ?_ _ | refine blk_drew ?_ | refine blk_alloc ?_ _)); refine blk_far ?_ NB308_317.out _; exact blkt BK308) hb); replace BK309 := Aside0.mk (blk_below (g := gb309) (o := .cells #[.int .u64 x310000_74, .int .u32 x310001_74, .int .u32 x310002_74] 28 (0, 0)) (by (with_reducible repeat (first | refine blk_drewN ?_ _ | refine blk_drew ?_ | refine blk_alloc ?_ _)); refine blk_far ?_ NB309_317.out _; (with_reducible repeat (first | refine blk_drewN ?_ _ | refine blk_drew ?_ | refine blk_alloc ?_ _)); refine blk_far ?_ NB309_317.out _; exact blkt BK309) hb); replace BK313 := Aside0.mk (blk_below (g := gb313) (o := .cells #[.int .i64 t310, .int .u64 t311] 31 (0, 0)) (by (with_reducible repeat (first | refine blk_drewN ?_ _ | refine blk_drew ?_ | refine blk_alloc ?_ _)); refine blk_far ?_ NB313_317.out _; (with_reducible repeat (first | refine blk_drewN ?_ _ | refine blk_drew ?_ | refine blk_alloc ?_ _)); refine blk_far ?_ NB313_317.out _; exact blkt BK313) hb); replace BK317 := Aside0.mk (blk_below (g := gb317) (o := .cells #[.int .i64 t314, .int .u64 t315] 31 (0, 0)) (by (with_reducible repeat (first | refine blk_drewN ?_ _ | refine blk_drew ?_ | refine blk_alloc ?_ _)); refine blk_put (cs := #[.int .i64 t314, .int .u64 0]) ?_ 1 _ rfl; (with_reducible repeat (first | refine blk_drewN ?_ _ | refine blk_drew ?_ | refine blk_alloc ?_ _)); refine blk_put (cs := #[.int .i64 0, .int .u64 0]) ?_ 0 _ rfl; exact blkt BK317) hb); replace HB := belb HB hb; (try clear hb); (try clear hb2); (try clear hk); (try clear hi)) | ((with_reducible refine gate_dst (N := 28) rfl ?_); (try (refine gate_guard (by rfl) ?_; dsimp only)); refine box_event ?hg (N := 28) ?hd (cs := #[.int .i64 0, .int .u64 0]) (t := 31) ?hr ?_; (case hd => rfl); (case hg => rfl); (case hr => first | (go_simp; done) | (go_simp; rfl)); intro gb321 hg w200 hbox hb; have BK321 := Aside0.mk (hbox); have GW321 := bels HB hg; have GE321 := bels HB hg; have NB284_321 := blkl BK284 hg; have NB321_284 := blkg BK284 hg; have NB291_321 := blkl BK291 hg; have NB321_291 := blkg BK291 hg; have NB299_321 := blkl BK299 hg; have NB321_299 := blkg BK299 hg; have NB306_321 := blkl BK306 hg; have NB321_306 := blkg BK306 hg; have NB308_321 := blkl BK308 hg; have NB321_308 := blkg BK308 hg; have NB309_321 := blkl BK309 hg; have NB321_309 := blkg BK309 hg; have NB313_321 := blkl BK313 hg; have NB321_313 := blkg BK313 hg; have NB317_321 := blkl BK317 hg; have NB321_317 := blkg BK317 hg; replace BK284 := blkb BK284 hb; replace BK291 := blkb BK291 hb; replace BK299 := blkb BK299 hb; replace BK306 := blkb BK306 hb; replace BK308 := blkb BK308 hb; replace BK309 := blkb BK309 hb; replace BK313 := blkb BK313 hb; replace BK317 := blkb BK317 hb; replace HB := belb HB hb; clear hb hbox hg; have hnb201 := NB321_284.out; have hnc201 := NB284_321.out; have hnb202 := NB321_291.out; have hnc202 := NB291_321.out; have hnb203 := NB321_299.out; have hnc203 := NB299_321.out; have hnb204 := NB321_306.out; have hnc204 := NB306_321.out; have hnb205 := NB321_308.out; have hnc205 := NB308_321.out; have hnb206 := NB321_309.out; have hnc206 := NB309_321.out; have hnb207 := NB321_313.out; have hnc207 := NB313_321.out; have hnb208 := NB321_317.out; have hnc208 := NB317_321.out; have hcz209_0 : w200.cell? ⟨gb321, 0, none⟩ = some (.int .i64 0) := bc BK321 0; have hcz209_1 : w200.cell? ⟨gb321, 1, none⟩ = some (.int .u64 0) := bc BK321 1; have hfz209_0 := blk_frozen BK321.out 0; have hfz209_1 := blk_frozen BK321.out 1) | ((with_reducible refine gate_callee (f := 27) rfl ?_); refine goesL_ (some 149) rfl rfl Tryz.func27 (by kernel_rfl) rfl #[.agg #[.int .i64 t318, .int .u64 t319]] rfl argt ?_; (with_reducible refine (wide_Int_Small.calls t318 t319 t322 true _ A104.out).mono ?_); rintro e w210 ⟨rfl, hb⟩; refine ⟨_, rfl, ?_⟩; replace BK284 := Aside0.mk (blk_below (g := gb284) (o := .cells #[.int .u64 t280, .int .u32 t281, .int .u32 t282] 28 (0, 0)) (by (with_reducible repeat (first | refine blk_drewN ?_ _ | refine blk_drew ?_ | refine blk_alloc ?_ _)); refine blk_far ?_ NB284_321.out _; (with_reducible repeat (first | refine blk_drewN ?_ _ | refine blk_drew ?_ | refine blk_alloc ?_ _)); refine blk_far ?_ NB284_321.out _; exact blkt BK284) hb); replace BK291 := Aside0.mk (blk_below (g := gb291) (o := .cells #[.int .u64 t285, .int .i64 t286, .int .u64 t287, .int .u64 t288, .int .i64 t289] 33 (0, 0)) (by (with_reducible repeat (first | refine blk_drewN ?_ _ | refine blk_drew ?_ | refine blk_alloc ?_ _)); refine blk_far ?_ NB291_321.out _; (with_reducible repeat (first | refine blk_drewN ?_ _ | refine blk_drew ?_ | refine blk_alloc ?_ _)); refine blk_far ?_ NB291_321.out _; exact blkt BK291) hb); replace BK299 := Aside0.mk (blk_below (g := gb299) (o := .cells #[.int .u64 t293, .int .i64 t294, .int .u64 t295, .int .u64 t296, .int .i64 t297] 33 (0, 0)) (by (with_reducible repeat (first | refine blk_drewN ?_ _ | refine blk_drew ?_ | refine blk_alloc ?_ _)); refine blk_far ?_ NB299_321.out _; (with_reducible repeat (first | refine blk_drewN ?_ _ | refine blk_drew ?_ | refine blk_alloc ?_ _)); refine blk_far ?_ NB299_321.out _; exact blkt BK299) hb); replace BK306 := Aside0.mk (blk_below (g := gb306) (o := .cells #[.int .u64 t300, .int .i64 t301, .int .u64 t302, .int .u64 t303, .int .i64 t304] 33 (0, 0)) (by (with_reducible repeat (first | refine blk_drewN ?_ _ | refine blk_drew ?_ | refine blk_alloc ?_ _)); refine blk_far ?_ NB306_321.out _; (with_reducible repeat (first | refine blk_drewN ?_ _ | refine blk_drew ?_ | refine blk_alloc ?_ _)); refine blk_far ?_ NB306_321.out _; exact blkt BK306) hb); replace BK308 := Aside0.mk (blk_below (g := gb308) (o := .cells #[.int .u64 ((rd_T28 l1 x119_4).f0), .int .u32 ((rd_T28 l1 x119_4).f1), .int .u32 ((rd_T28 l1 x119_4).f2)] 28 (0, 0)) (by (with_reducible repeat (first | refine blk_drewN ?_ _ | refine blk_drew ?_ | refine blk_alloc ?_ _)); refine blk_far ?_ NB308_321.out _; (with_reducible repeat (first | refine blk_drewN ?_ _ | refine blk_drew ?_ | refine blk_alloc ?_ _)); refine blk_far ?_ NB308_321.out _; exact blkt BK308) hb); replace BK309 := Aside0.mk (blk_below (g := gb309) (o := .cells #[.int .u64 x310000_74, .int .u32 x310001_74, .int .u32 x310002_74] 28 (0, 0)) (by (with_reducible repeat (first | refine blk_drewN ?_ _ | refine blk_drew ?_ | refine blk_alloc ?_ _)); refine blk_far ?_ NB309_321.out _; (with_reducible repeat (first | refine blk_drewN ?_ _ | refine blk_drew ?_ | refine blk_alloc ?_ _)); refine blk_far ?_ NB309_321.out _; exact blkt BK309) hb); replace BK313 := Aside0.mk (blk_below (g := gb313) (o := .cells #[.int .i64 t310, .int .u64 t311] 31 (0, 0)) (by (with_reducible repeat (first | refine blk_drewN ?_ _ | refine blk_drew ?_ | refine blk_alloc ?_ _)); refine blk_far ?_ NB313_321.out _; (with_reducible repeat (first | refine blk_drewN ?_ _ | refine blk_drew ?_ | refine blk_alloc ?_ _)); refine blk_far ?_ NB313_321.out _; exact blkt BK313) hb); replace BK317 := Aside0.mk (blk_below (g := gb317) (o := .cells #[.int .i64 t314, .int .u64 t315] 31 (0, 0)) (by (with_reducible repeat (first | refine blk_drewN ?_ _ | refine blk_drew ?_ | refine blk_alloc ?_ _)); refine blk_far ?_ NB317_321.out _; (with_reducible repeat (first | refine blk_drewN ?_ _ | refine blk_drew ?_ | refine blk_alloc ?_ _)); refine blk_far ?_ NB317_321.out _; exact blkt BK317) hb); replace BK321 := Aside0.mk (blk_below (g := gb321) (o := .cells #[.int .i64 t318, .int .u64 t319] 31 (0, 0)) (by (with_reducible repeat (first | refine blk_drewN ?_ _ | refine blk_drew ?_ | refine blk_alloc ?_ _)); refine blk_put (cs := #[.int .i64 t318, .int .u64 0]) ?_ 1 _ rfl; (with_reducible repeat (first | refine blk_drewN ?_ _ | refine blk_drew ?_ | refine blk_alloc ?_ _)); refine blk_put (cs := #[.int .i64 0, .int .u64 0]) ?_ 0 _ rfl; exact blkt BK321) hb); replace HB := belb HB hb; (try clear hb); (try clear hb2); (try clear hk); (try clear hi)))
                  go_roundg kj74
                  case measure => have := HJ6.out; have := HK2.out; have := HJ39.out; have := HK4.out; have := HJ74.out; omega
                  case rel => exact ⟨(wrap64 (x119_4 + 1)), (by first | rfl | (simp; done) | (simp [*]; done)), H', ⟨by have := HJ6.out; have := HK2.out; have := HJ39.out; have := HK4.out; have := HJ74.out; omega⟩, ⟨blkt BK284⟩, ⟨blkt BK291⟩, ⟨blkt BK299⟩, ⟨blkt BK306⟩, ⟨belt HB⟩⟩
                 replace c105 := Bool.eq_false_iff.mpr c105
                 subst c105
                 have H1 : (none) = some r := by rw [if_neg (show ¬ (false = true) by decide)] at H; exact H
                 clear H
                 have H := H1
                 clear H1
                 exact absurd H (by simp)
              rw [if_neg c74] at H
              exact absurd H (by simp)
             rw [if_neg c73] at H
             exact absurd H (by simp)
            rw [if_neg c72] at H
            have c72b0 : decide (x119_4 < (l1.length : Int)) = false := decide_eq_false c72
            clear c72
            obtain rfl := Option.some.inj H
            go_wp2
            go_ret
            exact ⟨by first | rfl | (simp [errW_none, errW_some] <;> rfl) | (simp only [← hji33]; first | rfl | (simp [errW_none, errW_some] <;> rfl)) | (simp [*, errW_none, errW_some] <;> rfl), belt HB⟩
       rw [if_neg c35] at H
       exact absurd H (by simp)
      rw [if_neg c34] at H
      exact absurd H (by simp)
 replace c6 := Bool.eq_false_iff.mpr c6
 subst c6
 have H1 : (none) = some r := by rw [if_neg (show ¬ (false = true) by decide)] at H; exact H
 clear H
 have H := H1
 clear H1
 exact absurd H (by simp)

/-- THE ONE PURE STATEMENT of turnstonelaw09_LagMoves. -/
def turnstonelaw09_LagMoves.Pure : Prop := ∀ (a0 : Int) (l1 : List (S28)) (a2 : Int) (a3 : Int), (Lit.int .u64 a0).wf = true → l1.length ≤ maxLen → (∀ x ∈ l1, wfS28 x) → (Lit.int .u8 a2).wf = true → (Lit.int .u64 a3).wf = true → ∃ k, turnstonelaw09_LagMoves.f k a0 l1 a2 a3 = some true
theorem turnstonelaw09_LagMoves.walk (P : turnstonelaw09_LagMoves.Pure) (a0 : Int) (A1 : Option Addr) (c1 : Nat) (l1 : List (S28)) (a2 : Int) (a3 : Int) (w : World) (w0 : (Lit.int .u64 a0).wf = true) (hr1 : Kd.C k28 w A1 l1.length l1) (hc1 : l1.length ≤ c1) (hm1 : l1.length ≤ maxLen) (hw1 : ∀ x ∈ l1, wfS28 x) (w2 : (Lit.int .u8 a2).wf = true) (w3 : (Lit.int .u64 a3).wf = true) :
  Calls Tryz.prog 4 #[.int .u64 a0, .slice A1 l1.length c1, .int .u8 a2, .int .u64 a3] w fun e w' => e = .returned (.bool true) ∧ Below w.heap.size w w' := by
 obtain ⟨k, h⟩ := P a0 l1 a2 a3 w0 hm1 hw1 w2 w3
 refine (turnstonelaw09_LagMoves.calls k a0 _ _ l1 a2 a3 true w hr1 hc1 h).mono ?_
 rintro e w' ⟨rfl, hd⟩
 exact ⟨rfl, hd⟩

end Go.Proofs.YtfbkamgdkdnpoaaGreatDoor.Print
