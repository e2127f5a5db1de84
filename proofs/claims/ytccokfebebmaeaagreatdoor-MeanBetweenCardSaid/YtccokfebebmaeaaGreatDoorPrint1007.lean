/- What each Go function that is named below answers, as a Lean function, and that its walk comes to just that: for whatever arguments that function gives an answer for. Written by a program of this session (wip/mkpr.py, pr.sh). -/
import Derived.Test.YtccokfebebmaeaaGreatDoorPrint1000
import Derived.Test.YtccokfebebmaeaaGreatDoorPrint1001
import Derived.Test.YtccokfebebmaeaaGreatDoorPrint1002
namespace Go.Proofs.YtccokfebebmaeaaGreatDoor.Print
open Go.RowKit Go.Proofs.YtccokfebebmaeaaGreatDoorW.PrintWords Go.Proofs.YtccokfebebmaeaaGreatDoorW.PrintLast Go.Proofs.YtccokfebebmaeaaGreatDoorW.PrintMore
attribute [local go_sem] max2_int min2_int max_two min_two max_three min_three max_four min_four   -- for this text's walks alone
open Go.Proofs.YtccokfebebmaeaaGreatDoor.Bits Go.Proofs.YtccokfebebmaeaaGreatDoor.Short
attribute [local go_sem] add64_run0 sub64_run0 add64_run sub64_run
set_option linter.unusedVariables false
set_option linter.unusedSimpArgs false

attribute [local go_sem high] eqA33
/-! ### turnstonelaw08_MeanBetween: function 4 -/
mutual
def turnstonelaw08_MeanBetween.j0 : Nat → Int → List (S28) → Int → Bool → Option (Bool)
 | 0, _, _, _, _ => none
 | k + 1, x0, x1, x2, x40 => if x40 = true then (some true) else (if 0 < (x1.length : Int) then (turnstonelaw08_MeanBetween.l0 k x1 x2 x0 x1 (x1.length : Int) 0 ((rd_T28 x1 0).f0) ((rd_T28 x1 0).f1) ((rd_T28 x1 0).f2) ((rd_T28 x1 0).f0) ((rd_T28 x1 0).f1) ((rd_T28 x1 0).f2)) else (none))
def turnstonelaw08_MeanBetween.l0 : Nat → List (S28) → Int → Int → List (S28) → Int → Int → Int → Int → Int → Int → Int → Int → Option (Bool)
 | 0, _, _, _, _, _, _, _, _, _, _, _, _ => none
 | k + 1, x1, x2, x7, x48, x49, x50, x447000, x447001, x447002, x448000, x448001, x448002 => if x50 < x49 then (if 0 ≤ x50 then (if x50 < (x48.length : Int) then ((vtime_Time_Since.f ((rd_T28 x48 x50).f0) x7).bind fun t450 => ((pos_Pos_Right.f ((rd_T28 x48 x50).f0) ((rd_T28 x48 x50).f1) ((rd_T28 x48 x50).f2)).bind fun t451 => (if t451 = true then (if t450 ≤ (-1152921504606846976) then (turnstonelaw08_MeanBetween.j2 k x1 x2 x7 x48 x49 x50 true x447000 x447001 x447002 x448000 x448001 x448002 ((rd_T28 x48 x50).f0) ((rd_T28 x48 x50).f1) ((rd_T28 x48 x50).f2)) else (turnstonelaw08_MeanBetween.j2 k x1 x2 x7 x48 x49 x50 (decide (t450 ≥ 1152921504606846976)) x447000 x447001 x447002 x448000 x448001 x448002 ((rd_T28 x48 x50).f0) ((rd_T28 x48 x50).f1) ((rd_T28 x48 x50).f2))) else (turnstonelaw08_MeanBetween.j2 k x1 x2 x7 x48 x49 x50 true x447000 x447001 x447002 x448000 x448001 x448002 ((rd_T28 x48 x50).f0) ((rd_T28 x48 x50).f1) ((rd_T28 x48 x50).f2))))) else (none)) else (none)) else ((mean_Of.f k x7 x1).bind fun bt455 => ((vtime_Time_Add.f x7 x2).bind fun t462 => ((mean_Of.f k t462 x1).bind fun bt463 => ((vtime_Time_Add.f x7 x2).bind fun t470 => ((mean_Mean_Rebase.f k bt455.1 bt455.2.1 bt455.2.2.1 bt455.2.2.2.1 bt455.2.2.2.2.1 t470).bind fun bt471 => ((mean_Mean_Floor.f k bt455.1 bt455.2.1 bt455.2.2.1 bt455.2.2.2.1 bt455.2.2.2.2.1).bind fun bt478 => ((mean_Mean_Floor.f k bt463.1 bt463.2.1 bt463.2.2.1 bt463.2.2.2.1 bt463.2.2.2.2.1).bind fun bt480 => (if bt455.2.2.2.2.2 = true then (if bt463.2.2.2.2.2 = true then (if bt471.2.2.2.2.2 = true then (if bt478.2 = true then (if bt480.2 = true then (if (bt471.1 == bt463.1 && ((bt471.2.1 == bt463.2.1 && (bt471.2.2.1 == bt463.2.2.1)) && (bt471.2.2.2.1 == bt463.2.2.2.1 && (bt471.2.2.2.2.1 == bt463.2.2.2.2.1)))) = true then (if bt478.1 = bt480.1 then ((vtime_Time_Before.f bt478.1 x447000).bind fun t482 => (if t482 = true then (none) else ((vtime_Time_Before.f x448000 bt478.1).bind fun t483 => (some (!t483))))) else (none)) else (none)) else (none)) else (none)) else (none)) else (none)) else (none)))))))))
def turnstonelaw08_MeanBetween.j2 : Nat → List (S28) → Int → Int → List (S28) → Int → Int → Bool → Int → Int → Int → Int → Int → Int → Int → Int → Int → Option (Bool)
 | 0, _, _, _, _, _, _, _, _, _, _, _, _, _, _, _, _ => none
 | k + 1, x1, x2, x7, x48, x49, x50, x68, x447000, x447001, x447002, x448000, x448001, x448002, x450000, x450001, x450002 => if x68 = true then (some true) else ((pos_Pos_Cmp.f k x450000 x450001 x450002 x447000 x447001 x447002).bind fun t452 => (if t452 < 0 then ((pos_Pos_Cmp.f k x450000 x450001 x450002 x448000 x448001 x448002).bind fun t453 => (if t453 > 0 then (turnstonelaw08_MeanBetween.l0 k x1 x2 x7 x48 x49 (wrap64 (x50 + 1)) x450000 x450001 x450002 x450000 x450001 x450002) else (turnstonelaw08_MeanBetween.l0 k x1 x2 x7 x48 x49 (wrap64 (x50 + 1)) x450000 x450001 x450002 x448000 x448001 x448002))) else ((pos_Pos_Cmp.f k x450000 x450001 x450002 x448000 x448001 x448002).bind fun t454 => (if t454 > 0 then (turnstonelaw08_MeanBetween.l0 k x1 x2 x7 x48 x49 (wrap64 (x50 + 1)) x447000 x447001 x447002 x450000 x450001 x450002) else (turnstonelaw08_MeanBetween.l0 k x1 x2 x7 x48 x49 (wrap64 (x50 + 1)) x447000 x447001 x447002 x448000 x448001 x448002)))))
end
def turnstonelaw08_MeanBetween.f (k : Nat) (a0 : Int) (l1 : List (S28)) (a2 : Int) : Option (Bool) := (turnstonelaw08_awake.f).bind fun t443 => (if t443 = true then (if (l1.length : Int) > 32 then (turnstonelaw08_MeanBetween.j0 k a0 l1 a2 true) else (if (l1.length : Int) = 0 then (turnstonelaw08_MeanBetween.j0 k a0 l1 a2 true) else (if a2 ≤ (-1152921504606846976) then (turnstonelaw08_MeanBetween.j0 k a0 l1 a2 true) else (turnstonelaw08_MeanBetween.j0 k a0 l1 a2 (decide (a2 ≥ 1152921504606846976)))))) else (none))
theorem turnstonelaw08_MeanBetween.mono_l : ∀ k, (∀ y0 y1 y2 y3, LeO (turnstonelaw08_MeanBetween.j0 k y0 y1 y2 y3) (turnstonelaw08_MeanBetween.j0 (k + 1) y0 y1 y2 y3)) ∧ (∀ y0 y1 y2 y3 y4 y5 y6 y7 y8 y9 y10 y11, LeO (turnstonelaw08_MeanBetween.l0 k y0 y1 y2 y3 y4 y5 y6 y7 y8 y9 y10 y11) (turnstonelaw08_MeanBetween.l0 (k + 1) y0 y1 y2 y3 y4 y5 y6 y7 y8 y9 y10 y11)) ∧ (∀ y0 y1 y2 y3 y4 y5 y6 y7 y8 y9 y10 y11 y12 y13 y14 y15, LeO (turnstonelaw08_MeanBetween.j2 k y0 y1 y2 y3 y4 y5 y6 y7 y8 y9 y10 y11 y12 y13 y14 y15) (turnstonelaw08_MeanBetween.j2 (k + 1) y0 y1 y2 y3 y4 y5 y6 y7 y8 y9 y10 y11 y12 y13 y14 y15))
 | 0 => ⟨fun _ _ _ _ r h => by simp [turnstonelaw08_MeanBetween.j0] at h, fun _ _ _ _ _ _ _ _ _ _ _ _ r h => by simp [turnstonelaw08_MeanBetween.l0] at h, fun _ _ _ _ _ _ _ _ _ _ _ _ _ _ _ _ r h => by simp [turnstonelaw08_MeanBetween.j2] at h⟩
 | k + 1 => by
  obtain ⟨ih0, ih1, ih2⟩ := turnstonelaw08_MeanBetween.mono_l k
  refine ⟨?_, ?_, ?_⟩
  ·intro y0 y1 y2 y3
   unfold turnstonelaw08_MeanBetween.j0
   repeat' first
   | (with_reducible exact ih0 _ _ _ _)
   | (with_reducible exact ih1 _ _ _ _ _ _ _ _ _ _ _ _)
   | (with_reducible exact ih2 _ _ _ _ _ _ _ _ _ _ _ _ _ _ _ _)
   | (with_reducible exact mean_Mean_Floor.mono _ _ _ _ _ _)
   | (with_reducible exact mean_Mean_Rebase.mono _ _ _ _ _ _ _)
   | (with_reducible exact mean_Of.mono _ _ _)
   | (with_reducible exact pos_Pos_Cmp.mono _ _ _ _ _ _ _)
   | (with_reducible exact LeO.refl _)
   | (with_reducible exact LeO.none _)
   | (with_reducible refine LeO.ite ?_ ?_)
   | (with_reducible refine LeO.bind ?_ (fun _ => ?_))
   | exact ih0 _ _ _ _
   | exact ih1 _ _ _ _ _ _ _ _ _ _ _ _
   | exact ih2 _ _ _ _ _ _ _ _ _ _ _ _ _ _ _ _
   | exact mean_Mean_Floor.mono _ _ _ _ _ _
   | exact mean_Mean_Rebase.mono _ _ _ _ _ _ _
   | exact mean_Of.mono _ _ _
   | exact pos_Pos_Cmp.mono _ _ _ _ _ _ _
   | exact LeO.none _
   | refine LeO.ite ?_ ?_
   | refine LeO.bind ?_ (fun _ => ?_)
  ·intro y0 y1 y2 y3 y4 y5 y6 y7 y8 y9 y10 y11
   unfold turnstonelaw08_MeanBetween.l0
   repeat' first
   | (with_reducible exact ih0 _ _ _ _)
   | (with_reducible exact ih1 _ _ _ _ _ _ _ _ _ _ _ _)
   | (with_reducible exact ih2 _ _ _ _ _ _ _ _ _ _ _ _ _ _ _ _)
   | (with_reducible exact mean_Mean_Floor.mono _ _ _ _ _ _)
   | (with_reducible exact mean_Mean_Rebase.mono _ _ _ _ _ _ _)
   | (with_reducible exact mean_Of.mono _ _ _)
   | (with_reducible exact pos_Pos_Cmp.mono _ _ _ _ _ _ _)
   | (with_reducible exact LeO.refl _)
   | (with_reducible exact LeO.none _)
   | (with_reducible refine LeO.ite ?_ ?_)
   | (with_reducible refine LeO.bind ?_ (fun _ => ?_))
   | exact ih0 _ _ _ _
   | exact ih1 _ _ _ _ _ _ _ _ _ _ _ _
   | exact ih2 _ _ _ _ _ _ _ _ _ _ _ _ _ _ _ _
   | exact mean_Mean_Floor.mono _ _ _ _ _ _
   | exact mean_Mean_Rebase.mono _ _ _ _ _ _ _
   | exact mean_Of.mono _ _ _
   | exact pos_Pos_Cmp.mono _ _ _ _ _ _ _
   | exact LeO.none _
   | refine LeO.ite ?_ ?_
   | refine LeO.bind ?_ (fun _ => ?_)
  intro y0 y1 y2 y3 y4 y5 y6 y7 y8 y9 y10 y11 y12 y13 y14 y15
  unfold turnstonelaw08_MeanBetween.j2
  repeat' first
  | (with_reducible exact ih0 _ _ _ _)
  | (with_reducible exact ih1 _ _ _ _ _ _ _ _ _ _ _ _)
  | (with_reducible exact ih2 _ _ _ _ _ _ _ _ _ _ _ _ _ _ _ _)
  | (with_reducible exact mean_Mean_Floor.mono _ _ _ _ _ _)
  | (with_reducible exact mean_Mean_Rebase.mono _ _ _ _ _ _ _)
  | (with_reducible exact mean_Of.mono _ _ _)
  | (with_reducible exact pos_Pos_Cmp.mono _ _ _ _ _ _ _)
  | (with_reducible exact LeO.refl _)
  | (with_reducible exact LeO.none _)
  | (with_reducible refine LeO.ite ?_ ?_)
  | (with_reducible refine LeO.bind ?_ (fun _ => ?_))
  | exact ih0 _ _ _ _
  | exact ih1 _ _ _ _ _ _ _ _ _ _ _ _
  | exact ih2 _ _ _ _ _ _ _ _ _ _ _ _ _ _ _ _
  | exact mean_Mean_Floor.mono _ _ _ _ _ _
  | exact mean_Mean_Rebase.mono _ _ _ _ _ _ _
  | exact mean_Of.mono _ _ _
  | exact pos_Pos_Cmp.mono _ _ _ _ _ _ _
  | exact LeO.none _
  | refine LeO.ite ?_ ?_
  | refine LeO.bind ?_ (fun _ => ?_)
theorem turnstonelaw08_MeanBetween.mono : ∀ a0 a1 a2 k, LeO (turnstonelaw08_MeanBetween.f k a0 a1 a2) (turnstonelaw08_MeanBetween.f (k + 1) a0 a1 a2) := by
 intro a0 a1 a2 k
 obtain ⟨ih0, ih1, ih2⟩ := turnstonelaw08_MeanBetween.mono_l k
 unfold turnstonelaw08_MeanBetween.f
 repeat' first
   | (with_reducible exact ih0 _ _ _ _)
   | (with_reducible exact ih1 _ _ _ _ _ _ _ _ _ _ _ _)
   | (with_reducible exact ih2 _ _ _ _ _ _ _ _ _ _ _ _ _ _ _ _)
   | (with_reducible exact mean_Mean_Floor.mono _ _ _ _ _ _)
   | (with_reducible exact mean_Mean_Rebase.mono _ _ _ _ _ _ _)
   | (with_reducible exact mean_Of.mono _ _ _)
   | (with_reducible exact pos_Pos_Cmp.mono _ _ _ _ _ _ _)
   | (with_reducible exact LeO.refl _)
   | (with_reducible exact LeO.none _)
   | (with_reducible refine LeO.ite ?_ ?_)
   | (with_reducible refine LeO.bind ?_ (fun _ => ?_))
   | exact ih0 _ _ _ _
   | exact ih1 _ _ _ _ _ _ _ _ _ _ _ _
   | exact ih2 _ _ _ _ _ _ _ _ _ _ _ _ _ _ _ _
   | exact mean_Mean_Floor.mono _ _ _ _ _ _
   | exact mean_Mean_Rebase.mono _ _ _ _ _ _ _
   | exact mean_Of.mono _ _ _
   | exact pos_Pos_Cmp.mono _ _ _ _ _ _ _
   | exact LeO.none _
   | refine LeO.ite ?_ ?_
   | refine LeO.bind ?_ (fun _ => ?_)
def turnstonelaw08_MeanBetween.T6 : Bool × List (List Nat × List Nat) := (true, [([], []), ([0], [0]), ([1], [1]), ([], []), ([3], [3]), ([4], [4]), ([], []), ([], []), ([6, 2, 0, 1, 2, 6, 7], [2, 6]), ([7, 5, 8, 0, 1, 2, 3, 4, 5, 6, 7, 8], [5, 7])])
def turnstonelaw08_MeanBetween.B6 : List Nat := [0, 1, 3, 0, 8, 24, 0, 0, 199, 511]
theorem turnstonelaw08_MeanBetween.tab6 : rtab .any (opsOf Tryz.f4 6) = turnstonelaw08_MeanBetween.T6 := by kernel_rfl
theorem turnstonelaw08_MeanBetween.bits6 : waitsOk turnstonelaw08_MeanBetween.T6.2 turnstonelaw08_MeanBetween.B6 = true := by kernel_rfl
def turnstonelaw08_MeanBetween.T20 : Bool × List (List Nat × List Nat) := (true, [([], []), ([], []), ([], []), ([1, 2], [1, 2]), ([0, 3, 3], [0, 3]), ([4], [4]), ([5], [5]), ([5], [5]), ([], []), ([8, 6, 4, 0, 1, 2, 3, 4, 5, 6, 8], [6, 8]), ([7, 9, 0, 1, 2, 3, 4, 5, 6, 7, 8, 9], [7])])
def turnstonelaw08_MeanBetween.B20 : List Nat := [0, 0, 0, 6, 15, 31, 63, 63, 0, 383, 1023]
theorem turnstonelaw08_MeanBetween.tab20 : rtab .any (opsOf Tryz.f4 20) = turnstonelaw08_MeanBetween.T20 := by kernel_rfl
theorem turnstonelaw08_MeanBetween.bits20 : waitsOk turnstonelaw08_MeanBetween.T20.2 turnstonelaw08_MeanBetween.B20 = true := by kernel_rfl
set_option maxHeartbeats 8000000 in
set_option maxRecDepth 100000 in
theorem turnstonelaw08_MeanBetween.calls (k : Nat) (a0 : Int) (A1 : Option Addr) (c1 : Nat) (l1 : List (S28)) (a2 : Int) (r : Bool) (w : World) (hr1 : Kd.C k28 w A1 l1.length l1) (hc1 : l1.length ≤ c1) (h : turnstonelaw08_MeanBetween.f k a0 l1 a2 = some r) :
  Calls Tryz.prog 4 #[.int .u64 a0, .slice A1 l1.length c1, .int .i64 a2] w fun e w' => e = .returned (.bool r) ∧ Below w.heap.size w w' := by
 have hu28 := Tryz.underlying28
 have hu33 := Tryz.underlying33
 have HR1 := Aside0.mk hr1
 have HC1 := Aside0.mk hc1
 clear hr1 hc1
 have HB := Aside0.mk (Below.refl w.heap.size w)
 have H : ((turnstonelaw08_awake.f).bind fun t443 => (if t443 = true then (if (l1.length : Int) > 32 then (turnstonelaw08_MeanBetween.j0 k a0 l1 a2 true) else (if (l1.length : Int) = 0 then (turnstonelaw08_MeanBetween.j0 k a0 l1 a2 true) else (if a2 ≤ (-1152921504606846976) then (turnstonelaw08_MeanBetween.j0 k a0 l1 a2 true) else (turnstonelaw08_MeanBetween.j0 k a0 l1 a2 (decide (a2 ≥ 1152921504606846976)))))) else (none))) = some r := h
 clear h
 replace H := Option.bind_eq_some_iff.mp H
 obtain ⟨t443, A40, H⟩ := H
 replace H : (if t443 = true then (if (l1.length : Int) > 32 then (turnstonelaw08_MeanBetween.j0 k a0 l1 a2 true) else (if (l1.length : Int) = 0 then (turnstonelaw08_MeanBetween.j0 k a0 l1 a2 true) else (if a2 ≤ (-1152921504606846976) then (turnstonelaw08_MeanBetween.j0 k a0 l1 a2 true) else (turnstonelaw08_MeanBetween.j0 k a0 l1 a2 (decide (a2 ≥ 1152921504606846976)))))) else (none)) = some r := H
 have A4 := Aside0.mk A40
 clear A40
 by_cases c5 : t443 = true
 ·subst c5
  have H1 : (if (l1.length : Int) > 32 then (turnstonelaw08_MeanBetween.j0 k a0 l1 a2 true) else (if (l1.length : Int) = 0 then (turnstonelaw08_MeanBetween.j0 k a0 l1 a2 true) else (if a2 ≤ (-1152921504606846976) then (turnstonelaw08_MeanBetween.j0 k a0 l1 a2 true) else (turnstonelaw08_MeanBetween.j0 k a0 l1 a2 (decide (a2 ≥ 1152921504606846976)))))) = some r := by rw [if_pos rfl] at H; exact H
  clear H
  have H := H1
  clear H1
  have HC6 := Aside0.mk H
  clear H
  go_enter Tryz.func4, Tryz.ntmps4
  go_upto_region 3 with (first | ((with_reducible refine gate_callee (f := 9) rfl ?_); refine goesL_ (some 23) rfl rfl Tryz.func9 (by kernel_rfl) rfl #[] rfl argt ?_; (with_reducible refine (turnstonelaw08_awake.calls  true _ A4.out).mono ?_); rintro e w7 ⟨rfl, hb⟩; refine ⟨_, rfl, ?_⟩; replace HB := belb HB hb; (try clear hb); (try clear hb2); (try clear hk); (try clear hi)))
  (try simp only [Act.put, List.setIfInBounds_toArray, List.set_cons_zero, List.set_cons_succ])
  go_cut [40] (fun v40 wc => ∃ (kq : Nat) (x40_5 : Bool), v40 = .bool x40_5 ∧ Aside0 (turnstonelaw08_MeanBetween.j0 kq a0 l1 a2 x40_5 = some r) ∧ Aside0 (kq ≤ k) ∧ Aside0 (Below w.heap.size w wc))
  case first =>
   have H := HC6.out
   clear HC6
   by_cases c8 : (l1.length : Int) > 32
   ·rw [if_pos c8] at H
    have c8b0 : decide (32 < (l1.length : Int)) = true := decide_eq_true c8
    have c8b1 : decide (32 < l1.length) = true := decide_eq_true (by omega)
    clear c8
    (first | rw [c8b0] | (simp only [i64_w, i32_w]; rw [c8b0]) | skip)
    have H' := Aside0.mk H
    clear H
    go_wp2
    go_meet
    case rel => exact ⟨_, (true), (by first | rfl | (simp; done) | (simp [*]; done)), H', ⟨by first | omega | exact Nat.le_refl _⟩, ⟨belt HB⟩⟩
   rw [if_neg c8] at H
   have c8b0 : decide (32 < (l1.length : Int)) = false := decide_eq_false c8
   have c8b1 : decide (32 < l1.length) = false := decide_eq_false (by omega)
   clear c8
   (first | rw [c8b0] | (simp only [i64_w, i32_w]; rw [c8b0]) | skip)
   by_cases c9 : (l1.length : Int) = 0
   ·rw [if_pos c9] at H
    have c9b0 : ((l1.length : Int) == 0) = true := beq_iff_eq.mpr c9
    have c9b1 : ((l1.length : Int) != 0) = false := bne_eq_false_iff_eq.mpr c9
    clear c9
    have H' := Aside0.mk H
    clear H
    go_wp2
    go_meet
    case rel => exact ⟨_, (true), (by first | rfl | (simp; done) | (simp [*]; done)), H', ⟨by first | omega | exact Nat.le_refl _⟩, ⟨belt HB⟩⟩
   rw [if_neg c9] at H
   have c9b0 : ((l1.length : Int) == 0) = false := beq_eq_false_iff_ne.mpr c9
   have c9b1 : ((l1.length : Int) != 0) = true := bne_iff_ne.mpr c9
   have c9b2 : ¬ (l1 = []) := fun h_ => c9 (by rw [h_]; rfl)
   by_cases c10 : a2 ≤ (-1152921504606846976)
   ·rw [if_pos c10] at H
    have c10b0 : decide (a2 ≤ (-1152921504606846976)) = true := decide_eq_true c10
    clear c10
    have H' := Aside0.mk H
    clear H
    go_wp2
    go_meet
    case rel => exact ⟨_, (true), (by first | rfl | (simp; done) | (simp [*]; done)), H', ⟨by first | omega | exact Nat.le_refl _⟩, ⟨belt HB⟩⟩
   rw [if_neg c10] at H
   have c10b0 : decide (a2 ≤ (-1152921504606846976)) = false := decide_eq_false c10
   clear c10
   have H' := Aside0.mk H
   clear H
   go_wp2
   go_meet
   case rel => exact ⟨_, (decide (a2 ≥ 1152921504606846976)), (by first | rfl | (simp; done) | (simp [*]; done)), H', ⟨by first | omega | exact Nat.le_refl _⟩, ⟨belt HB⟩⟩
  case rest =>
   clear HC6
   try clear c1
   try clear p2
   try clear c4
   try clear c5
   try clear c8
   try clear c8b0
   try clear c8b1
   try clear c9
   try clear c9b0
   try clear c9b1
   try clear c9b2
   try clear c10
   try clear c10b0
   obtain ⟨kq, x40_5, rfl, HA, HJ5, HB⟩ := hcut
   cases kq with
   | zero => exact absurd HA.out (by simp [turnstonelaw08_MeanBetween.j0])
   | succ kj5 =>
    have H := HA.out
    clear HA
    simp only [turnstonelaw08_MeanBetween.j0] at H
    by_cases c11 : x40_5 = true
    ·subst c11
     have H1 : (some true) = some r := by rw [if_pos rfl] at H; exact H
     clear H
     have H := H1
     clear H1
     obtain rfl := Option.some.inj H
     go_wp2
     go_ret
     exact ⟨by first | rfl | (simp [errW_none, errW_some] <;> rfl) | (simp [*, errW_none, errW_some] <;> rfl), belt HB⟩
    replace c11 := Bool.eq_false_iff.mpr c11
    subst c11
    have H1 : (if 0 < (l1.length : Int) then (turnstonelaw08_MeanBetween.l0 kj5 l1 a2 a0 l1 (l1.length : Int) 0 ((rd_T28 l1 0).f0) ((rd_T28 l1 0).f1) ((rd_T28 l1 0).f2) ((rd_T28 l1 0).f0) ((rd_T28 l1 0).f1) ((rd_T28 l1 0).f2)) else (none)) = some r := by rw [if_neg (show ¬ (false = true) by decide)] at H; exact H
    clear H
    have H := H1
    clear H1
    by_cases c12 : 0 < (l1.length : Int)
    ·rw [if_pos c12] at H
     have c12b0 : decide (0 < (l1.length : Int)) = true := decide_eq_true c12
     have c12b1 : decide (0 < l1.length) = true := decide_eq_true (by omega)
     clear c12
     have H' := Aside0.mk H
     clear H
     try go_wp2
     replace HB := Aside0.mk (below_drew1 HB.out)
     have p444 : 0 ≤ (0 : Int) := (by omega)
     have q444 : 0 < (l1.length : Int) := of_decide_eq_true (by first | (with_reducible assumption) | assumption)
     obtain ⟨ad444, e444, hx444_0, hx444_1, hx444_2⟩ := at_T28 HR1.out 0 p444 q444
     have hw444_2 := hx444_2
     (try rw [show ((0 : Int)).toNat = 0 from rfl] at hw444_2)
     (try rw [show 0 * 3 = 0 from rfl] at hw444_2)
     (try rw [Addr.add_zero'] at hw444_2)
     have hw444_1 := hx444_1
     (try rw [show ((0 : Int)).toNat = 0 from rfl] at hw444_1)
     (try rw [show 0 * 3 = 0 from rfl] at hw444_1)
     (try rw [Addr.add_zero'] at hw444_1)
     have hw444_0 := hx444_0
     (try rw [show ((0 : Int)).toNat = 0 from rfl] at hw444_0)
     (try rw [show 0 * 3 = 0 from rfl] at hw444_0)
     (try rw [Addr.add_zero'] at hw444_0)
     cases e444
     have qi444 : (0 < l1.length) = True := eq_true (by omega)
     (try rw [show ((0 : Int)).toNat = 0 from rfl] at hx444_0)
     (try rw [show 0 * 3 = 0 from rfl] at hx444_0)
     (try rw [Addr.add_zero'] at hx444_0)
     (try rw [show ((0 : Int)).toNat = 0 from rfl] at hx444_1)
     (try rw [show 0 * 3 = 0 from rfl] at hx444_1)
     (try rw [Addr.add_zero'] at hx444_1)
     (try rw [show ((0 : Int)).toNat = 0 from rfl] at hx444_2)
     (try rw [show 0 * 3 = 0 from rfl] at hx444_2)
     (try rw [Addr.add_zero'] at hx444_2)
     replace hx444_0 := (HB.out.cell (World.block_lt_of_cell? w _ hx444_0)).trans hx444_0
     replace hx444_1 := (HB.out.cell (World.block_lt_of_cell? w _ hx444_1)).trans hx444_1
     replace hx444_2 := (HB.out.cell (World.block_lt_of_cell? w _ hx444_2)).trans hx444_2
     replace p444 := eq_true p444
     replace q444 := eq_true q444
     have p445 : 0 ≤ (0 : Int) := (by omega)
     have q445 : 0 < (l1.length : Int) := of_decide_eq_true (by first | (with_reducible assumption) | assumption)
     obtain ⟨ad445, e445, hx445_0, hx445_1, hx445_2⟩ := at_T28 HR1.out 0 p445 q445
     have hw445_2 := hx445_2
     (try rw [show ((0 : Int)).toNat = 0 from rfl] at hw445_2)
     (try rw [show 0 * 3 = 0 from rfl] at hw445_2)
     (try rw [Addr.add_zero'] at hw445_2)
     have hw445_1 := hx445_1
     (try rw [show ((0 : Int)).toNat = 0 from rfl] at hw445_1)
     (try rw [show 0 * 3 = 0 from rfl] at hw445_1)
     (try rw [Addr.add_zero'] at hw445_1)
     have hw445_0 := hx445_0
     (try rw [show ((0 : Int)).toNat = 0 from rfl] at hw445_0)
     (try rw [show 0 * 3 = 0 from rfl] at hw445_0)
     (try rw [Addr.add_zero'] at hw445_0)
     obtain rfl : ad444 = ad445 := (by injection e445)
     have qi445 : (0 < l1.length) = True := eq_true (by omega)
     (try rw [show ((0 : Int)).toNat = 0 from rfl] at hx445_0)
     (try rw [show 0 * 3 = 0 from rfl] at hx445_0)
     (try rw [Addr.add_zero'] at hx445_0)
     (try rw [show ((0 : Int)).toNat = 0 from rfl] at hx445_1)
     (try rw [show 0 * 3 = 0 from rfl] at hx445_1)
     (try rw [Addr.add_zero'] at hx445_1)
     (try rw [show ((0 : Int)).toNat = 0 from rfl] at hx445_2)
     (try rw [show 0 * 3 = 0 from rfl] at hx445_2)
     (try rw [Addr.add_zero'] at hx445_2)
     replace hx445_0 := (HB.out.cell (World.block_lt_of_cell? w _ hx445_0)).trans hx445_0
     replace hx445_1 := (HB.out.cell (World.block_lt_of_cell? w _ hx445_1)).trans hx445_1
     replace hx445_2 := (HB.out.cell (World.block_lt_of_cell? w _ hx445_2)).trans hx445_2
     replace p445 := eq_true p445
     replace q445 := eq_true q445
     refine start_ (n := 10) (S := fun w' => w'.cell? ad444 = some (.int .u64 ((rd_T28 l1 0).f0)) ∧ w'.cell? ⟨ad444.block, ad444.off + 1, none⟩ = some (.int .u32 ((rd_T28 l1 0).f1)) ∧ w'.cell? ⟨ad444.block, ad444.off + 2, none⟩ = some (.int .u32 ((rd_T28 l1 0).f2)) ∧ w'.cell? ad444 = some (.int .u64 ((rd_T28 l1 0).f0)) ∧ w'.cell? ⟨ad444.block, ad444.off + 1, none⟩ = some (.int .u32 ((rd_T28 l1 0).f1)) ∧ w'.cell? ⟨ad444.block, ad444.off + 2, none⟩ = some (.int .u32 ((rd_T28 l1 0).f2))) (ds := []) #[false, false, false, false, false, false, false, false, false, false] (by kernel_rfl) rfl rfl ⟨((HB.out.cell (World.block_lt_of_cell? w _ hw444_0)).trans hw444_0), ((HB.out.cell (World.block_lt_of_cell? w _ hw444_1)).trans hw444_1), ((HB.out.cell (World.block_lt_of_cell? w _ hw444_2)).trans hw444_2), ((HB.out.cell (World.block_lt_of_cell? w _ hw445_0)).trans hw445_0), ((HB.out.cell (World.block_lt_of_cell? w _ hw445_1)).trans hw445_1), ((HB.out.cell (World.block_lt_of_cell? w _ hw445_2)).trans hw445_2)⟩ (fun hHeld => ?_); refine with_tabW turnstonelaw08_MeanBetween.tab6 turnstonelaw08_MeanBetween.bits6 (fun HT_ HW_ => ?_)
     generalize wc.drew = w13 at HB hx444_0 hx444_1 hx444_2 hx445_0 hx445_1 hx445_2 hHeld ⊢
     refine pure_ (i := 0) (N := some 42) (v := ?_) (a' := ?_) #[true, false, false, false, false, false, false, false, false, false] rfl rfl (any_of HT_.out (by kernel_rfl)) (fun _ _ _ h => h) (Or.inl ⟨by rfl, ?_⟩) ?_ ?_
     rotate_left
     ·intro w'
      go_simp
      with_reducible rfl
     rotate_left
     ·simp only [Act.put, List.setIfInBounds_toArray, List.set_cons_zero, List.set_cons_succ, i64_w, i32_w]
      rfl
     refine pure_ (i := 1) (N := some 43) (v := ?_) (a' := ?_) #[true, true, false, false, false, false, false, false, false, false] rfl rfl (any_of HT_.out (by kernel_rfl)) (fun _ _ _ h => h) (Or.inl ⟨by rfl, ?_⟩) ?_ ?_
     rotate_left
     ·intro w'
      go_simp
      with_reducible rfl
     rotate_left
     ·simp only [Act.put, List.setIfInBounds_toArray, List.set_cons_zero, List.set_cons_succ, i64_w, i32_w]
      rfl
     refine pure_ (i := 3) (N := some 45) (v := ?_) (a' := ?_) #[true, true, false, true, false, false, false, false, false, false] rfl rfl (any_of HT_.out (by kernel_rfl)) (fun _ _ _ h => h) (Or.inl ⟨by rfl, ?_⟩) ?_ ?_
     rotate_left
     ·intro w'
      go_simp
      with_reducible rfl
     rotate_left
     ·simp only [Act.put, List.setIfInBounds_toArray, List.set_cons_zero, List.set_cons_succ, i64_w, i32_w]
      rfl
     refine pure_ (i := 4) (N := some 46) (v := ?_) (a' := ?_) #[true, true, false, true, true, false, false, false, false, false] rfl rfl (any_of HT_.out (by kernel_rfl)) (fun _ _ _ h => h) (Or.inl ⟨by rfl, ?_⟩) ?_ ?_
     rotate_left
     ·intro w'
      go_simp
      with_reducible rfl
     rotate_left
     ·simp only [Act.put, List.setIfInBounds_toArray, List.set_cons_zero, List.set_cons_succ, i64_w, i32_w]
      rfl
     refine take_ (i := 2) (N := some 44) (v := ?_) (a' := ?_) #[true, true, true, true, true, false, false, false, false, false] rfl rfl (take_ofW HT_.out HW_.out (by kernel_rfl)) (fun _ _ _ h => h) (Or.inl ⟨by rfl, ?_⟩) hHeld ?_ ?_
     rotate_left
     ·rintro w' ⟨s0, s1, s2, s3, s4, s5⟩
      go_simp
      with_reducible rfl
     rotate_left
     ·simp only [Act.put, List.setIfInBounds_toArray, List.set_cons_zero, List.set_cons_succ, i64_w, i32_w]
      rfl
     refine take_ (i := 5) (N := some 47) (v := ?_) (a' := ?_) #[true, true, true, true, true, true, false, false, false, false] rfl rfl (take_ofW HT_.out HW_.out (by kernel_rfl)) (fun _ _ _ h => h) (Or.inl ⟨by rfl, ?_⟩) hHeld ?_ ?_
     rotate_left
     ·rintro w' ⟨s0, s1, s2, s3, s4, s5⟩
      go_simp
      with_reducible rfl
     rotate_left
     ·simp only [Act.put, List.setIfInBounds_toArray, List.set_cons_zero, List.set_cons_succ, i64_w, i32_w]
      rfl
     refine join_ (σ := Nat × Nat) 2 #[true, true, true, true, true, true, true, true, false, false] (fun s_ => [(8, .pointer (some ⟨s_.1, 0, none⟩)), (9, .pointer (some ⟨s_.2, 0, none⟩))]) (fun s_ w' => (w'.cell? ad444 = some (.int .u64 ((rd_T28 l1 0).f0)) ∧ w'.cell? ⟨ad444.block, ad444.off + 1, none⟩ = some (.int .u32 ((rd_T28 l1 0).f1)) ∧ w'.cell? ⟨ad444.block, ad444.off + 2, none⟩ = some (.int .u32 ((rd_T28 l1 0).f2)) ∧ w'.cell? ad444 = some (.int .u64 ((rd_T28 l1 0).f0)) ∧ w'.cell? ⟨ad444.block, ad444.off + 1, none⟩ = some (.int .u32 ((rd_T28 l1 0).f1)) ∧ w'.cell? ⟨ad444.block, ad444.off + 2, none⟩ = some (.int .u32 ((rd_T28 l1 0).f2))) ∧ (w'.heap[s_.1]? = some (.cells #[.int .u64 0, .int .u32 0, .int .u32 0] 28 (0, 0))) ∧ (w'.heap[s_.2]? = some (.cells #[.int .u64 0, .int .u32 0, .int .u32 0] 28 (0, 0))) ∧ (w.heap.size ≤ s_.1) ∧ (w.heap.size ≤ s_.1) ∧ (s_.2 ≠ s_.1) ∧ (s_.1 ≠ s_.2) ∧ (w.heap.size ≤ s_.2) ∧ (w.heap.size ≤ s_.2) ∧ (Below w.heap.size w w')) ?_ ?_
     rotate_left
     ·intro hCont
      refine two_ (i := 6) (j := 7) (Ni := some 8) (Nj := some 9) #[true, true, true, true, true, true, true, false, false, false] #[true, true, true, true, true, true, false, true, false, false] rfl rfl rfl rfl (two_of HT_.out (by kernel_rfl)) (by decide) (by decide) (fun K hK => ?_) (fun K hK => ?_)
      ·skip
       refine box_step ?hg (N := 8) ?hd (cs := #[.int .u64 0, .int .u32 0, .int .u32 0]) (t := 28) ?hr ?_; (case hd => rfl); (case hg => rfl); (case hr => first | (go_simp; done) | (go_simp; rfl))
       intro gb446 hg w14 hbox hb
       have BK446 := Aside0.mk (hbox)
       have GW446 := bels HB hg
       have GE446 := bels HB hg
       replace HB := belb HB hb
       clear hb hbox hg
       refine hK.out _ _ ⟨((HB.out.cell (World.block_lt_of_cell? w _ hw444_0)).trans hw444_0), ((HB.out.cell (World.block_lt_of_cell? w _ hw444_1)).trans hw444_1), ((HB.out.cell (World.block_lt_of_cell? w _ hw444_2)).trans hw444_2), ((HB.out.cell (World.block_lt_of_cell? w _ hw445_0)).trans hw445_0), ((HB.out.cell (World.block_lt_of_cell? w _ hw445_1)).trans hw445_1), ((HB.out.cell (World.block_lt_of_cell? w _ hw445_2)).trans hw445_2)⟩ (fun hHeld => ?_)
       clear hK K
       refine norm_ (a' := ?_) ?_ ?_
       rotate_left
       ·show Act.put _ (some 8) _ = _
        simp only [Act.put, List.setIfInBounds_toArray, List.set_cons_zero, List.set_cons_succ, i64_w, i32_w]
        rfl
       refine one_ (i := 7) (N := some 9) #[true, true, true, true, true, true, true, true, false, false] rfl rfl (one_of HT_.out (by kernel_rfl)) (by decide) (fun K hK => ?_)
       refine box_step ?hg (N := 9) ?hd (cs := #[.int .u64 0, .int .u32 0, .int .u32 0]) (t := 28) ?hr ?_; (case hd => rfl); (case hg => rfl); (case hr => first | (go_simp; done) | (go_simp; rfl))
       intro gb447 hg w15 hbox hb
       have BK447 := Aside0.mk (hbox)
       have GW447 := bels HB hg
       have GE447 := bels HB hg
       have NB446_447 := blkl BK446 hg
       have NB447_446 := blkg BK446 hg
       replace BK446 := blkb BK446 hb
       replace HB := belb HB hb
       clear hb hbox hg
       refine hK.out _ _ ⟨((HB.out.cell (World.block_lt_of_cell? w _ hw444_0)).trans hw444_0), ((HB.out.cell (World.block_lt_of_cell? w _ hw444_1)).trans hw444_1), ((HB.out.cell (World.block_lt_of_cell? w _ hw444_2)).trans hw444_2), ((HB.out.cell (World.block_lt_of_cell? w _ hw445_0)).trans hw445_0), ((HB.out.cell (World.block_lt_of_cell? w _ hw445_1)).trans hw445_1), ((HB.out.cell (World.block_lt_of_cell? w _ hw445_2)).trans hw445_2)⟩ (fun hHeld => ?_)
       clear hK K
       refine norm_ (a' := ?_) ?_ ?_
       rotate_left
       ·show Act.put _ (some 9) _ = _
        simp only [Act.put, List.setIfInBounds_toArray, List.set_cons_zero, List.set_cons_succ, i64_w, i32_w]
        rfl
       exact norm_ (by simp only [putAll, Act.put, List.setIfInBounds_toArray, List.set_cons_zero, List.set_cons_succ]) (hCont (gb446, gb447) _ ⟨hHeld, (blkt BK446), (blkt BK447), GW446.out, GE446.out, NB447_446.out, NB446_447.out, GW447.out, GE447.out, (belt HB)⟩)
      skip
      refine box_step ?hg (N := 9) ?hd (cs := #[.int .u64 0, .int .u32 0, .int .u32 0]) (t := 28) ?hr ?_; (case hd => rfl); (case hg => rfl); (case hr => first | (go_simp; done) | (go_simp; rfl))
      intro gb447 hg w14 hbox hb
      have BK447 := Aside0.mk (hbox)
      have GW447 := bels HB hg
      have GE447 := bels HB hg
      replace HB := belb HB hb
      clear hb hbox hg
      refine hK.out _ _ ⟨((HB.out.cell (World.block_lt_of_cell? w _ hw444_0)).trans hw444_0), ((HB.out.cell (World.block_lt_of_cell? w _ hw444_1)).trans hw444_1), ((HB.out.cell (World.block_lt_of_cell? w _ hw444_2)).trans hw444_2), ((HB.out.cell (World.block_lt_of_cell? w _ hw445_0)).trans hw445_0), ((HB.out.cell (World.block_lt_of_cell? w _ hw445_1)).trans hw445_1), ((HB.out.cell (World.block_lt_of_cell? w _ hw445_2)).trans hw445_2)⟩ (fun hHeld => ?_)
      clear hK K
      refine norm_ (a' := ?_) ?_ ?_
      rotate_left
      ·show Act.put _ (some 9) _ = _
       simp only [Act.put, List.setIfInBounds_toArray, List.set_cons_zero, List.set_cons_succ, i64_w, i32_w]
       rfl
      refine one_ (i := 6) (N := some 8) #[true, true, true, true, true, true, true, true, false, false] rfl rfl (one_of HT_.out (by kernel_rfl)) (by decide) (fun K hK => ?_)
      refine box_step ?hg (N := 8) ?hd (cs := #[.int .u64 0, .int .u32 0, .int .u32 0]) (t := 28) ?hr ?_; (case hd => rfl); (case hg => rfl); (case hr => first | (go_simp; done) | (go_simp; rfl))
      intro gb446 hg w15 hbox hb
      have BK446 := Aside0.mk (hbox)
      have GW446 := bels HB hg
      have GE446 := bels HB hg
      have NB447_446 := blkl BK447 hg
      have NB446_447 := blkg BK447 hg
      replace BK447 := blkb BK447 hb
      replace HB := belb HB hb
      clear hb hbox hg
      refine hK.out _ _ ⟨((HB.out.cell (World.block_lt_of_cell? w _ hw444_0)).trans hw444_0), ((HB.out.cell (World.block_lt_of_cell? w _ hw444_1)).trans hw444_1), ((HB.out.cell (World.block_lt_of_cell? w _ hw444_2)).trans hw444_2), ((HB.out.cell (World.block_lt_of_cell? w _ hw445_0)).trans hw445_0), ((HB.out.cell (World.block_lt_of_cell? w _ hw445_1)).trans hw445_1), ((HB.out.cell (World.block_lt_of_cell? w _ hw445_2)).trans hw445_2)⟩ (fun hHeld => ?_)
      clear hK K
      refine norm_ (a' := ?_) ?_ ?_
      rotate_left
      ·show Act.put _ (some 8) _ = _
       simp only [Act.put, List.setIfInBounds_toArray, List.set_cons_zero, List.set_cons_succ, i64_w, i32_w]
       rfl
      exact norm_ (by simp only [putAll, Act.put, List.setIfInBounds_toArray, List.set_cons_zero, List.set_cons_succ]) (hCont (gb446, gb447) _ ⟨hHeld, (blkt BK446), (blkt BK447), GW446.out, GE446.out, NB447_446.out, NB446_447.out, GW447.out, GE447.out, (belt HB)⟩)
     rintro ⟨gb446, gb447⟩ w16 ⟨hS_, h0_, h1_, h2_, h3_, h4_, h5_, h6_, h7_, h8_⟩
     have BK446 : Aside0 (w16.heap[gb446]? = some (.cells #[.int .u64 0, .int .u32 0, .int .u32 0] 28 (0, 0))) := ⟨h0_⟩
     have BK447 : Aside0 (w16.heap[gb447]? = some (.cells #[.int .u64 0, .int .u32 0, .int .u32 0] 28 (0, 0))) := ⟨h1_⟩
     have GW446 : Aside0 (w.heap.size ≤ gb446) := ⟨h2_⟩
     have GE446 : Aside0 (w.heap.size ≤ gb446) := ⟨h3_⟩
     have NB447_446 : Aside0 (gb447 ≠ gb446) := ⟨h4_⟩
     have NB446_447 : Aside0 (gb446 ≠ gb447) := ⟨h5_⟩
     have GW447 : Aside0 (w.heap.size ≤ gb447) := ⟨h6_⟩
     have GE447 : Aside0 (w.heap.size ≤ gb447) := ⟨h7_⟩
     replace HB : Aside0 (Below w.heap.size w w16) := ⟨h8_⟩
     clear h0_ h1_ h2_ h3_ h4_ h5_ h6_ h7_ h8_
     have hHeld : w16.cell? ad444 = some (.int .u64 ((rd_T28 l1 0).f0)) ∧ w16.cell? ⟨ad444.block, ad444.off + 1, none⟩ = some (.int .u32 ((rd_T28 l1 0).f1)) ∧ w16.cell? ⟨ad444.block, ad444.off + 2, none⟩ = some (.int .u32 ((rd_T28 l1 0).f2)) ∧ w16.cell? ad444 = some (.int .u64 ((rd_T28 l1 0).f0)) ∧ w16.cell? ⟨ad444.block, ad444.off + 1, none⟩ = some (.int .u32 ((rd_T28 l1 0).f1)) ∧ w16.cell? ⟨ad444.block, ad444.off + 2, none⟩ = some (.int .u32 ((rd_T28 l1 0).f2)) := hS_
     refine norm_ (a' := ?_) ?_ ?_
     rotate_left
     ·simp only [putAll, Act.put, List.setIfInBounds_toArray, List.set_cons_zero, List.set_cons_succ]
      rfl
     refine one_ (i := 8) (N := none) #[true, true, true, true, true, true, true, true, true, false] rfl rfl (one_of HT_.out (by kernel_rfl)) (by decide) (fun K hK => ?_)
     have hs17 : w16.cell? ⟨gb446, 0, none⟩ = some (.int .u64 0) := bc BK446 0
     have hfs17 := blk_frozen BK446.out 0
     have hns17_1 := NB447_446.out
     have hms17_1 := NB446_447.out
     have hs18 : w16.cell? ⟨gb446, 1, none⟩ = some (.int .u32 0) := bc BK446 1
     have hfs18 := blk_frozen BK446.out 1
     have hns18_1 := NB447_446.out
     have hms18_1 := NB446_447.out
     have hs19 : w16.cell? ⟨gb446, 2, none⟩ = some (.int .u32 0) := bc BK446 2
     have hfs19 := blk_frozen BK446.out 2
     have hns19_1 := NB447_446.out
     have hms19_1 := NB446_447.out
     refine skip_ (w1 := ?_) (by rfl) rfl ?_ ?_
     rotate_left
     ·go_simp
      rfl
     refine hK.out _ _ ⟨((cell_far (p := ⟨gb446, _, none⟩) (by first | exact Nat.ne_of_lt (Nat.lt_of_lt_of_le (by have := World.block_lt_of_cell? _ _ hw444_0; first | rwa [add_block] at this | exact this) GW446.out) | (rw [add_block]; exact Nat.ne_of_lt (Nat.lt_of_lt_of_le (by have := World.block_lt_of_cell? _ _ hw444_0; first | rwa [add_block] at this | exact this) GW446.out)) | (show (Addr.add _ _).block ≠ _; rw [add_block]; exact Nat.ne_of_lt (Nat.lt_of_lt_of_le (by have := World.block_lt_of_cell? _ _ hw444_0; first | rwa [add_block] at this | exact this) GW446.out)) | (dsimp only; exact Nat.ne_of_lt (Nat.lt_of_lt_of_le (by have := World.block_lt_of_cell? _ _ hw444_0; first | rwa [add_block] at this | exact this) GW446.out))) _).trans (((cell_far (p := ⟨gb446, _, none⟩) (by first | exact Nat.ne_of_lt (Nat.lt_of_lt_of_le (by have := World.block_lt_of_cell? _ _ hw444_0; first | rwa [add_block] at this | exact this) GW446.out) | (rw [add_block]; exact Nat.ne_of_lt (Nat.lt_of_lt_of_le (by have := World.block_lt_of_cell? _ _ hw444_0; first | rwa [add_block] at this | exact this) GW446.out)) | (show (Addr.add _ _).block ≠ _; rw [add_block]; exact Nat.ne_of_lt (Nat.lt_of_lt_of_le (by have := World.block_lt_of_cell? _ _ hw444_0; first | rwa [add_block] at this | exact this) GW446.out)) | (dsimp only; exact Nat.ne_of_lt (Nat.lt_of_lt_of_le (by have := World.block_lt_of_cell? _ _ hw444_0; first | rwa [add_block] at this | exact this) GW446.out))) _).trans (((cell_far (p := ⟨gb446, _, none⟩) (by first | exact Nat.ne_of_lt (Nat.lt_of_lt_of_le (by have := World.block_lt_of_cell? _ _ hw444_0; first | rwa [add_block] at this | exact this) GW446.out) | (rw [add_block]; exact Nat.ne_of_lt (Nat.lt_of_lt_of_le (by have := World.block_lt_of_cell? _ _ hw444_0; first | rwa [add_block] at this | exact this) GW446.out)) | (show (Addr.add _ _).block ≠ _; rw [add_block]; exact Nat.ne_of_lt (Nat.lt_of_lt_of_le (by have := World.block_lt_of_cell? _ _ hw444_0; first | rwa [add_block] at this | exact this) GW446.out)) | (dsimp only; exact Nat.ne_of_lt (Nat.lt_of_lt_of_le (by have := World.block_lt_of_cell? _ _ hw444_0; first | rwa [add_block] at this | exact this) GW446.out))) _).trans (hHeld.1)))))), ((cell_far (p := ⟨gb446, _, none⟩) (by first | exact Nat.ne_of_lt (Nat.lt_of_lt_of_le (by have := World.block_lt_of_cell? _ _ hw444_1; first | rwa [add_block] at this | exact this) GW446.out) | (rw [add_block]; exact Nat.ne_of_lt (Nat.lt_of_lt_of_le (by have := World.block_lt_of_cell? _ _ hw444_1; first | rwa [add_block] at this | exact this) GW446.out)) | (show (Addr.add _ _).block ≠ _; rw [add_block]; exact Nat.ne_of_lt (Nat.lt_of_lt_of_le (by have := World.block_lt_of_cell? _ _ hw444_1; first | rwa [add_block] at this | exact this) GW446.out)) | (dsimp only; exact Nat.ne_of_lt (Nat.lt_of_lt_of_le (by have := World.block_lt_of_cell? _ _ hw444_1; first | rwa [add_block] at this | exact this) GW446.out))) _).trans (((cell_far (p := ⟨gb446, _, none⟩) (by first | exact Nat.ne_of_lt (Nat.lt_of_lt_of_le (by have := World.block_lt_of_cell? _ _ hw444_1; first | rwa [add_block] at this | exact this) GW446.out) | (rw [add_block]; exact Nat.ne_of_lt (Nat.lt_of_lt_of_le (by have := World.block_lt_of_cell? _ _ hw444_1; first | rwa [add_block] at this | exact this) GW446.out)) | (show (Addr.add _ _).block ≠ _; rw [add_block]; exact Nat.ne_of_lt (Nat.lt_of_lt_of_le (by have := World.block_lt_of_cell? _ _ hw444_1; first | rwa [add_block] at this | exact this) GW446.out)) | (dsimp only; exact Nat.ne_of_lt (Nat.lt_of_lt_of_le (by have := World.block_lt_of_cell? _ _ hw444_1; first | rwa [add_block] at this | exact this) GW446.out))) _).trans (((cell_far (p := ⟨gb446, _, none⟩) (by first | exact Nat.ne_of_lt (Nat.lt_of_lt_of_le (by have := World.block_lt_of_cell? _ _ hw444_1; first | rwa [add_block] at this | exact this) GW446.out) | (rw [add_block]; exact Nat.ne_of_lt (Nat.lt_of_lt_of_le (by have := World.block_lt_of_cell? _ _ hw444_1; first | rwa [add_block] at this | exact this) GW446.out)) | (show (Addr.add _ _).block ≠ _; rw [add_block]; exact Nat.ne_of_lt (Nat.lt_of_lt_of_le (by have := World.block_lt_of_cell? _ _ hw444_1; first | rwa [add_block] at this | exact this) GW446.out)) | (dsimp only; exact Nat.ne_of_lt (Nat.lt_of_lt_of_le (by have := World.block_lt_of_cell? _ _ hw444_1; first | rwa [add_block] at this | exact this) GW446.out))) _).trans (hHeld.2.1)))))), ((cell_far (p := ⟨gb446, _, none⟩) (by first | exact Nat.ne_of_lt (Nat.lt_of_lt_of_le (by have := World.block_lt_of_cell? _ _ hw444_2; first | rwa [add_block] at this | exact this) GW446.out) | (rw [add_block]; exact Nat.ne_of_lt (Nat.lt_of_lt_of_le (by have := World.block_lt_of_cell? _ _ hw444_2; first | rwa [add_block] at this | exact this) GW446.out)) | (show (Addr.add _ _).block ≠ _; rw [add_block]; exact Nat.ne_of_lt (Nat.lt_of_lt_of_le (by have := World.block_lt_of_cell? _ _ hw444_2; first | rwa [add_block] at this | exact this) GW446.out)) | (dsimp only; exact Nat.ne_of_lt (Nat.lt_of_lt_of_le (by have := World.block_lt_of_cell? _ _ hw444_2; first | rwa [add_block] at this | exact this) GW446.out))) _).trans (((cell_far (p := ⟨gb446, _, none⟩) (by first | exact Nat.ne_of_lt (Nat.lt_of_lt_of_le (by have := World.block_lt_of_cell? _ _ hw444_2; first | rwa [add_block] at this | exact this) GW446.out) | (rw [add_block]; exact Nat.ne_of_lt (Nat.lt_of_lt_of_le (by have := World.block_lt_of_cell? _ _ hw444_2; first | rwa [add_block] at this | exact this) GW446.out)) | (show (Addr.add _ _).block ≠ _; rw [add_block]; exact Nat.ne_of_lt (Nat.lt_of_lt_of_le (by have := World.block_lt_of_cell? _ _ hw444_2; first | rwa [add_block] at this | exact this) GW446.out)) | (dsimp only; exact Nat.ne_of_lt (Nat.lt_of_lt_of_le (by have := World.block_lt_of_cell? _ _ hw444_2; first | rwa [add_block] at this | exact this) GW446.out))) _).trans (((cell_far (p := ⟨gb446, _, none⟩) (by first | exact Nat.ne_of_lt (Nat.lt_of_lt_of_le (by have := World.block_lt_of_cell? _ _ hw444_2; first | rwa [add_block] at this | exact this) GW446.out) | (rw [add_block]; exact Nat.ne_of_lt (Nat.lt_of_lt_of_le (by have := World.block_lt_of_cell? _ _ hw444_2; first | rwa [add_block] at this | exact this) GW446.out)) | (show (Addr.add _ _).block ≠ _; rw [add_block]; exact Nat.ne_of_lt (Nat.lt_of_lt_of_le (by have := World.block_lt_of_cell? _ _ hw444_2; first | rwa [add_block] at this | exact this) GW446.out)) | (dsimp only; exact Nat.ne_of_lt (Nat.lt_of_lt_of_le (by have := World.block_lt_of_cell? _ _ hw444_2; first | rwa [add_block] at this | exact this) GW446.out))) _).trans (hHeld.2.2.1)))))), ((cell_far (p := ⟨gb446, _, none⟩) (by first | exact Nat.ne_of_lt (Nat.lt_of_lt_of_le (by have := World.block_lt_of_cell? _ _ hw445_0; first | rwa [add_block] at this | exact this) GW446.out) | (rw [add_block]; exact Nat.ne_of_lt (Nat.lt_of_lt_of_le (by have := World.block_lt_of_cell? _ _ hw445_0; first | rwa [add_block] at this | exact this) GW446.out)) | (show (Addr.add _ _).block ≠ _; rw [add_block]; exact Nat.ne_of_lt (Nat.lt_of_lt_of_le (by have := World.block_lt_of_cell? _ _ hw445_0; first | rwa [add_block] at this | exact this) GW446.out)) | (dsimp only; exact Nat.ne_of_lt (Nat.lt_of_lt_of_le (by have := World.block_lt_of_cell? _ _ hw445_0; first | rwa [add_block] at this | exact this) GW446.out))) _).trans (((cell_far (p := ⟨gb446, _, none⟩) (by first | exact Nat.ne_of_lt (Nat.lt_of_lt_of_le (by have := World.block_lt_of_cell? _ _ hw445_0; first | rwa [add_block] at this | exact this) GW446.out) | (rw [add_block]; exact Nat.ne_of_lt (Nat.lt_of_lt_of_le (by have := World.block_lt_of_cell? _ _ hw445_0; first | rwa [add_block] at this | exact this) GW446.out)) | (show (Addr.add _ _).block ≠ _; rw [add_block]; exact Nat.ne_of_lt (Nat.lt_of_lt_of_le (by have := World.block_lt_of_cell? _ _ hw445_0; first | rwa [add_block] at this | exact this) GW446.out)) | (dsimp only; exact Nat.ne_of_lt (Nat.lt_of_lt_of_le (by have := World.block_lt_of_cell? _ _ hw445_0; first | rwa [add_block] at this | exact this) GW446.out))) _).trans (((cell_far (p := ⟨gb446, _, none⟩) (by first | exact Nat.ne_of_lt (Nat.lt_of_lt_of_le (by have := World.block_lt_of_cell? _ _ hw445_0; first | rwa [add_block] at this | exact this) GW446.out) | (rw [add_block]; exact Nat.ne_of_lt (Nat.lt_of_lt_of_le (by have := World.block_lt_of_cell? _ _ hw445_0; first | rwa [add_block] at this | exact this) GW446.out)) | (show (Addr.add _ _).block ≠ _; rw [add_block]; exact Nat.ne_of_lt (Nat.lt_of_lt_of_le (by have := World.block_lt_of_cell? _ _ hw445_0; first | rwa [add_block] at this | exact this) GW446.out)) | (dsimp only; exact Nat.ne_of_lt (Nat.lt_of_lt_of_le (by have := World.block_lt_of_cell? _ _ hw445_0; first | rwa [add_block] at this | exact this) GW446.out))) _).trans (hHeld.2.2.2.1)))))), ((cell_far (p := ⟨gb446, _, none⟩) (by first | exact Nat.ne_of_lt (Nat.lt_of_lt_of_le (by have := World.block_lt_of_cell? _ _ hw445_1; first | rwa [add_block] at this | exact this) GW446.out) | (rw [add_block]; exact Nat.ne_of_lt (Nat.lt_of_lt_of_le (by have := World.block_lt_of_cell? _ _ hw445_1; first | rwa [add_block] at this | exact this) GW446.out)) | (show (Addr.add _ _).block ≠ _; rw [add_block]; exact Nat.ne_of_lt (Nat.lt_of_lt_of_le (by have := World.block_lt_of_cell? _ _ hw445_1; first | rwa [add_block] at this | exact this) GW446.out)) | (dsimp only; exact Nat.ne_of_lt (Nat.lt_of_lt_of_le (by have := World.block_lt_of_cell? _ _ hw445_1; first | rwa [add_block] at this | exact this) GW446.out))) _).trans (((cell_far (p := ⟨gb446, _, none⟩) (by first | exact Nat.ne_of_lt (Nat.lt_of_lt_of_le (by have := World.block_lt_of_cell? _ _ hw445_1; first | rwa [add_block] at this | exact this) GW446.out) | (rw [add_block]; exact Nat.ne_of_lt (Nat.lt_of_lt_of_le (by have := World.block_lt_of_cell? _ _ hw445_1; first | rwa [add_block] at this | exact this) GW446.out)) | (show (Addr.add _ _).block ≠ _; rw [add_block]; exact Nat.ne_of_lt (Nat.lt_of_lt_of_le (by have := World.block_lt_of_cell? _ _ hw445_1; first | rwa [add_block] at this | exact this) GW446.out)) | (dsimp only; exact Nat.ne_of_lt (Nat.lt_of_lt_of_le (by have := World.block_lt_of_cell? _ _ hw445_1; first | rwa [add_block] at this | exact this) GW446.out))) _).trans (((cell_far (p := ⟨gb446, _, none⟩) (by first | exact Nat.ne_of_lt (Nat.lt_of_lt_of_le (by have := World.block_lt_of_cell? _ _ hw445_1; first | rwa [add_block] at this | exact this) GW446.out) | (rw [add_block]; exact Nat.ne_of_lt (Nat.lt_of_lt_of_le (by have := World.block_lt_of_cell? _ _ hw445_1; first | rwa [add_block] at this | exact this) GW446.out)) | (show (Addr.add _ _).block ≠ _; rw [add_block]; exact Nat.ne_of_lt (Nat.lt_of_lt_of_le (by have := World.block_lt_of_cell? _ _ hw445_1; first | rwa [add_block] at this | exact this) GW446.out)) | (dsimp only; exact Nat.ne_of_lt (Nat.lt_of_lt_of_le (by have := World.block_lt_of_cell? _ _ hw445_1; first | rwa [add_block] at this | exact this) GW446.out))) _).trans (hHeld.2.2.2.2.1)))))), ((cell_far (p := ⟨gb446, _, none⟩) (by first | exact Nat.ne_of_lt (Nat.lt_of_lt_of_le (by have := World.block_lt_of_cell? _ _ hw445_2; first | rwa [add_block] at this | exact this) GW446.out) | (rw [add_block]; exact Nat.ne_of_lt (Nat.lt_of_lt_of_le (by have := World.block_lt_of_cell? _ _ hw445_2; first | rwa [add_block] at this | exact this) GW446.out)) | (show (Addr.add _ _).block ≠ _; rw [add_block]; exact Nat.ne_of_lt (Nat.lt_of_lt_of_le (by have := World.block_lt_of_cell? _ _ hw445_2; first | rwa [add_block] at this | exact this) GW446.out)) | (dsimp only; exact Nat.ne_of_lt (Nat.lt_of_lt_of_le (by have := World.block_lt_of_cell? _ _ hw445_2; first | rwa [add_block] at this | exact this) GW446.out))) _).trans (((cell_far (p := ⟨gb446, _, none⟩) (by first | exact Nat.ne_of_lt (Nat.lt_of_lt_of_le (by have := World.block_lt_of_cell? _ _ hw445_2; first | rwa [add_block] at this | exact this) GW446.out) | (rw [add_block]; exact Nat.ne_of_lt (Nat.lt_of_lt_of_le (by have := World.block_lt_of_cell? _ _ hw445_2; first | rwa [add_block] at this | exact this) GW446.out)) | (show (Addr.add _ _).block ≠ _; rw [add_block]; exact Nat.ne_of_lt (Nat.lt_of_lt_of_le (by have := World.block_lt_of_cell? _ _ hw445_2; first | rwa [add_block] at this | exact this) GW446.out)) | (dsimp only; exact Nat.ne_of_lt (Nat.lt_of_lt_of_le (by have := World.block_lt_of_cell? _ _ hw445_2; first | rwa [add_block] at this | exact this) GW446.out))) _).trans (((cell_far (p := ⟨gb446, _, none⟩) (by first | exact Nat.ne_of_lt (Nat.lt_of_lt_of_le (by have := World.block_lt_of_cell? _ _ hw445_2; first | rwa [add_block] at this | exact this) GW446.out) | (rw [add_block]; exact Nat.ne_of_lt (Nat.lt_of_lt_of_le (by have := World.block_lt_of_cell? _ _ hw445_2; first | rwa [add_block] at this | exact this) GW446.out)) | (show (Addr.add _ _).block ≠ _; rw [add_block]; exact Nat.ne_of_lt (Nat.lt_of_lt_of_le (by have := World.block_lt_of_cell? _ _ hw445_2; first | rwa [add_block] at this | exact this) GW446.out)) | (dsimp only; exact Nat.ne_of_lt (Nat.lt_of_lt_of_le (by have := World.block_lt_of_cell? _ _ hw445_2; first | rwa [add_block] at this | exact this) GW446.out))) _).trans (hHeld.2.2.2.2.2))))))⟩ (fun hHeld => ?_)
     clear hK K
     refine one_ (i := 9) (N := none) #[true, true, true, true, true, true, true, true, true, true] rfl rfl (one_of HT_.out (by kernel_rfl)) (by decide) (fun K hK => ?_)
     have hs20 : w16.cell? ⟨gb447, 0, none⟩ = some (.int .u64 0) := bc BK447 0
     have hfs20 := blk_frozen BK447.out 0
     have hns20_0 := NB446_447.out
     have hms20_0 := NB447_446.out
     have hs21 : w16.cell? ⟨gb447, 1, none⟩ = some (.int .u32 0) := bc BK447 1
     have hfs21 := blk_frozen BK447.out 1
     have hns21_0 := NB446_447.out
     have hms21_0 := NB447_446.out
     have hs22 : w16.cell? ⟨gb447, 2, none⟩ = some (.int .u32 0) := bc BK447 2
     have hfs22 := blk_frozen BK447.out 2
     have hns22_0 := NB446_447.out
     have hms22_0 := NB447_446.out
     refine skip_ (w1 := ?_) (by rfl) rfl ?_ ?_
     rotate_left
     ·go_simp
      rfl
     refine hK.out _ _ ⟨((cell_far (p := ⟨gb447, _, none⟩) (by first | exact Nat.ne_of_lt (Nat.lt_of_lt_of_le (by have := World.block_lt_of_cell? _ _ hw444_0; first | rwa [add_block] at this | exact this) GW447.out) | (rw [add_block]; exact Nat.ne_of_lt (Nat.lt_of_lt_of_le (by have := World.block_lt_of_cell? _ _ hw444_0; first | rwa [add_block] at this | exact this) GW447.out)) | (show (Addr.add _ _).block ≠ _; rw [add_block]; exact Nat.ne_of_lt (Nat.lt_of_lt_of_le (by have := World.block_lt_of_cell? _ _ hw444_0; first | rwa [add_block] at this | exact this) GW447.out)) | (dsimp only; exact Nat.ne_of_lt (Nat.lt_of_lt_of_le (by have := World.block_lt_of_cell? _ _ hw444_0; first | rwa [add_block] at this | exact this) GW447.out))) _).trans (((cell_far (p := ⟨gb447, _, none⟩) (by first | exact Nat.ne_of_lt (Nat.lt_of_lt_of_le (by have := World.block_lt_of_cell? _ _ hw444_0; first | rwa [add_block] at this | exact this) GW447.out) | (rw [add_block]; exact Nat.ne_of_lt (Nat.lt_of_lt_of_le (by have := World.block_lt_of_cell? _ _ hw444_0; first | rwa [add_block] at this | exact this) GW447.out)) | (show (Addr.add _ _).block ≠ _; rw [add_block]; exact Nat.ne_of_lt (Nat.lt_of_lt_of_le (by have := World.block_lt_of_cell? _ _ hw444_0; first | rwa [add_block] at this | exact this) GW447.out)) | (dsimp only; exact Nat.ne_of_lt (Nat.lt_of_lt_of_le (by have := World.block_lt_of_cell? _ _ hw444_0; first | rwa [add_block] at this | exact this) GW447.out))) _).trans (((cell_far (p := ⟨gb447, _, none⟩) (by first | exact Nat.ne_of_lt (Nat.lt_of_lt_of_le (by have := World.block_lt_of_cell? _ _ hw444_0; first | rwa [add_block] at this | exact this) GW447.out) | (rw [add_block]; exact Nat.ne_of_lt (Nat.lt_of_lt_of_le (by have := World.block_lt_of_cell? _ _ hw444_0; first | rwa [add_block] at this | exact this) GW447.out)) | (show (Addr.add _ _).block ≠ _; rw [add_block]; exact Nat.ne_of_lt (Nat.lt_of_lt_of_le (by have := World.block_lt_of_cell? _ _ hw444_0; first | rwa [add_block] at this | exact this) GW447.out)) | (dsimp only; exact Nat.ne_of_lt (Nat.lt_of_lt_of_le (by have := World.block_lt_of_cell? _ _ hw444_0; first | rwa [add_block] at this | exact this) GW447.out))) _).trans (hHeld.1)))))), ((cell_far (p := ⟨gb447, _, none⟩) (by first | exact Nat.ne_of_lt (Nat.lt_of_lt_of_le (by have := World.block_lt_of_cell? _ _ hw444_1; first | rwa [add_block] at this | exact this) GW447.out) | (rw [add_block]; exact Nat.ne_of_lt (Nat.lt_of_lt_of_le (by have := World.block_lt_of_cell? _ _ hw444_1; first | rwa [add_block] at this | exact this) GW447.out)) | (show (Addr.add _ _).block ≠ _; rw [add_block]; exact Nat.ne_of_lt (Nat.lt_of_lt_of_le (by have := World.block_lt_of_cell? _ _ hw444_1; first | rwa [add_block] at this | exact this) GW447.out)) | (dsimp only; exact Nat.ne_of_lt (Nat.lt_of_lt_of_le (by have := World.block_lt_of_cell? _ _ hw444_1; first | rwa [add_block] at this | exact this) GW447.out))) _).trans (((cell_far (p := ⟨gb447, _, none⟩) (by first | exact Nat.ne_of_lt (Nat.lt_of_lt_of_le (by have := World.block_lt_of_cell? _ _ hw444_1; first | rwa [add_block] at this | exact this) GW447.out) | (rw [add_block]; exact Nat.ne_of_lt (Nat.lt_of_lt_of_le (by have := World.block_lt_of_cell? _ _ hw444_1; first | rwa [add_block] at this | exact this) GW447.out)) | (show (Addr.add _ _).block ≠ _; rw [add_block]; exact Nat.ne_of_lt (Nat.lt_of_lt_of_le (by have := World.block_lt_of_cell? _ _ hw444_1; first | rwa [add_block] at this | exact this) GW447.out)) | (dsimp only; exact Nat.ne_of_lt (Nat.lt_of_lt_of_le (by have := World.block_lt_of_cell? _ _ hw444_1; first | rwa [add_block] at this | exact this) GW447.out))) _).trans (((cell_far (p := ⟨gb447, _, none⟩) (by first | exact Nat.ne_of_lt (Nat.lt_of_lt_of_le (by have := World.block_lt_of_cell? _ _ hw444_1; first | rwa [add_block] at this | exact this) GW447.out) | (rw [add_block]; exact Nat.ne_of_lt (Nat.lt_of_lt_of_le (by have := World.block_lt_of_cell? _ _ hw444_1; first | rwa [add_block] at this | exact this) GW447.out)) | (show (Addr.add _ _).block ≠ _; rw [add_block]; exact Nat.ne_of_lt (Nat.lt_of_lt_of_le (by have := World.block_lt_of_cell? _ _ hw444_1; first | rwa [add_block] at this | exact this) GW447.out)) | (dsimp only; exact Nat.ne_of_lt (Nat.lt_of_lt_of_le (by have := World.block_lt_of_cell? _ _ hw444_1; first | rwa [add_block] at this | exact this) GW447.out))) _).trans (hHeld.2.1)))))), ((cell_far (p := ⟨gb447, _, none⟩) (by first | exact Nat.ne_of_lt (Nat.lt_of_lt_of_le (by have := World.block_lt_of_cell? _ _ hw444_2; first | rwa [add_block] at this | exact this) GW447.out) | (rw [add_block]; exact Nat.ne_of_lt (Nat.lt_of_lt_of_le (by have := World.block_lt_of_cell? _ _ hw444_2; first | rwa [add_block] at this | exact this) GW447.out)) | (show (Addr.add _ _).block ≠ _; rw [add_block]; exact Nat.ne_of_lt (Nat.lt_of_lt_of_le (by have := World.block_lt_of_cell? _ _ hw444_2; first | rwa [add_block] at this | exact this) GW447.out)) | (dsimp only; exact Nat.ne_of_lt (Nat.lt_of_lt_of_le (by have := World.block_lt_of_cell? _ _ hw444_2; first | rwa [add_block] at this | exact this) GW447.out))) _).trans (((cell_far (p := ⟨gb447, _, none⟩) (by first | exact Nat.ne_of_lt (Nat.lt_of_lt_of_le (by have := World.block_lt_of_cell? _ _ hw444_2; first | rwa [add_block] at this | exact this) GW447.out) | (rw [add_block]; exact Nat.ne_of_lt (Nat.lt_of_lt_of_le (by have := World.block_lt_of_cell? _ _ hw444_2; first | rwa [add_block] at this | exact this) GW447.out)) | (show (Addr.add _ _).block ≠ _; rw [add_block]; exact Nat.ne_of_lt (Nat.lt_of_lt_of_le (by have := World.block_lt_of_cell? _ _ hw444_2; first | rwa [add_block] at this | exact this) GW447.out)) | (dsimp only; exact Nat.ne_of_lt (Nat.lt_of_lt_of_le (by have := World.block_lt_of_cell? _ _ hw444_2; first | rwa [add_block] at this | exact this) GW447.out))) _).trans (((cell_far (p := ⟨gb447, _, none⟩) (by first | exact Nat.ne_of_lt (Nat.lt_of_lt_of_le (by have := World.block_lt_of_cell? _ _ hw444_2; first | rwa [add_block] at this | exact this) GW447.out) | (rw [add_block]; exact Nat.ne_of_lt (Nat.lt_of_lt_of_le (by have := World.block_lt_of_cell? _ _ hw444_2; first | rwa [add_block] at this | exact this) GW447.out)) | (show (Addr.add _ _).block ≠ _; rw [add_block]; exact Nat.ne_of_lt (Nat.lt_of_lt_of_le (by have := World.block_lt_of_cell? _ _ hw444_2; first | rwa [add_block] at this | exact this) GW447.out)) | (dsimp only; exact Nat.ne_of_lt (Nat.lt_of_lt_of_le (by have := World.block_lt_of_cell? _ _ hw444_2; first | rwa [add_block] at this | exact this) GW447.out))) _).trans (hHeld.2.2.1)))))), ((cell_far (p := ⟨gb447, _, none⟩) (by first | exact Nat.ne_of_lt (Nat.lt_of_lt_of_le (by have := World.block_lt_of_cell? _ _ hw445_0; first | rwa [add_block] at this | exact this) GW447.out) | (rw [add_block]; exact Nat.ne_of_lt (Nat.lt_of_lt_of_le (by have := World.block_lt_of_cell? _ _ hw445_0; first | rwa [add_block] at this | exact this) GW447.out)) | (show (Addr.add _ _).block ≠ _; rw [add_block]; exact Nat.ne_of_lt (Nat.lt_of_lt_of_le (by have := World.block_lt_of_cell? _ _ hw445_0; first | rwa [add_block] at this | exact this) GW447.out)) | (dsimp only; exact Nat.ne_of_lt (Nat.lt_of_lt_of_le (by have := World.block_lt_of_cell? _ _ hw445_0; first | rwa [add_block] at this | exact this) GW447.out))) _).trans (((cell_far (p := ⟨gb447, _, none⟩) (by first | exact Nat.ne_of_lt (Nat.lt_of_lt_of_le (by have := World.block_lt_of_cell? _ _ hw445_0; first | rwa [add_block] at this | exact this) GW447.out) | (rw [add_block]; exact Nat.ne_of_lt (Nat.lt_of_lt_of_le (by have := World.block_lt_of_cell? _ _ hw445_0; first | rwa [add_block] at this | exact this) GW447.out)) | (show (Addr.add _ _).block ≠ _; rw [add_block]; exact Nat.ne_of_lt (Nat.lt_of_lt_of_le (by have := World.block_lt_of_cell? _ _ hw445_0; first | rwa [add_block] at this | exact this) GW447.out)) | (dsimp only; exact Nat.ne_of_lt (Nat.lt_of_lt_of_le (by have := World.block_lt_of_cell? _ _ hw445_0; first | rwa [add_block] at this | exact this) GW447.out))) _).trans (((cell_far (p := ⟨gb447, _, none⟩) (by first | exact Nat.ne_of_lt (Nat.lt_of_lt_of_le (by have := World.block_lt_of_cell? _ _ hw445_0; first | rwa [add_block] at this | exact this) GW447.out) | (rw [add_block]; exact Nat.ne_of_lt (Nat.lt_of_lt_of_le (by have := World.block_lt_of_cell? _ _ hw445_0; first | rwa [add_block] at this | exact this) GW447.out)) | (show (Addr.add _ _).block ≠ _; rw [add_block]; exact Nat.ne_of_lt (Nat.lt_of_lt_of_le (by have := World.block_lt_of_cell? _ _ hw445_0; first | rwa [add_block] at this | exact this) GW447.out)) | (dsimp only; exact Nat.ne_of_lt (Nat.lt_of_lt_of_le (by have := World.block_lt_of_cell? _ _ hw445_0; first | rwa [add_block] at this | exact this) GW447.out))) _).trans (hHeld.2.2.2.1)))))), ((cell_far (p := ⟨gb447, _, none⟩) (by first | exact Nat.ne_of_lt (Nat.lt_of_lt_of_le (by have := World.block_lt_of_cell? _ _ hw445_1; first | rwa [add_block] at this | exact this) GW447.out) | (rw [add_block]; exact Nat.ne_of_lt (Nat.lt_of_lt_of_le (by have := World.block_lt_of_cell? _ _ hw445_1; first | rwa [add_block] at this | exact this) GW447.out)) | (show (Addr.add _ _).block ≠ _; rw [add_block]; exact Nat.ne_of_lt (Nat.lt_of_lt_of_le (by have := World.block_lt_of_cell? _ _ hw445_1; first | rwa [add_block] at this | exact this) GW447.out)) | (dsimp only; exact Nat.ne_of_lt (Nat.lt_of_lt_of_le (by have := World.block_lt_of_cell? _ _ hw445_1; first | rwa [add_block] at this | exact this) GW447.out))) _).trans (((cell_far (p := ⟨gb447, _, none⟩) (by first | exact Nat.ne_of_lt (Nat.lt_of_lt_of_le (by have := World.block_lt_of_cell? _ _ hw445_1; first | rwa [add_block] at this | exact this) GW447.out) | (rw [add_block]; exact Nat.ne_of_lt (Nat.lt_of_lt_of_le (by have := World.block_lt_of_cell? _ _ hw445_1; first | rwa [add_block] at this | exact this) GW447.out)) | (show (Addr.add _ _).block ≠ _; rw [add_block]; exact Nat.ne_of_lt (Nat.lt_of_lt_of_le (by have := World.block_lt_of_cell? _ _ hw445_1; first | rwa [add_block] at this | exact this) GW447.out)) | (dsimp only; exact Nat.ne_of_lt (Nat.lt_of_lt_of_le (by have := World.block_lt_of_cell? _ _ hw445_1; first | rwa [add_block] at this | exact this) GW447.out))) _).trans (((cell_far (p := ⟨gb447, _, none⟩) (by first | exact Nat.ne_of_lt (Nat.lt_of_lt_of_le (by have := World.block_lt_of_cell? _ _ hw445_1; first | rwa [add_block] at this | exact this) GW447.out) | (rw [add_block]; exact Nat.ne_of_lt (Nat.lt_of_lt_of_le (by have := World.block_lt_of_cell? _ _ hw445_1; first | rwa [add_block] at this | exact this) GW447.out)) | (show (Addr.add _ _).block ≠ _; rw [add_block]; exact Nat.ne_of_lt (Nat.lt_of_lt_of_le (by have := World.block_lt_of_cell? _ _ hw445_1; first | rwa [add_block] at this | exact this) GW447.out)) | (dsimp only; exact Nat.ne_of_lt (Nat.lt_of_lt_of_le (by have := World.block_lt_of_cell? _ _ hw445_1; first | rwa [add_block] at this | exact this) GW447.out))) _).trans (hHeld.2.2.2.2.1)))))), ((cell_far (p := ⟨gb447, _, none⟩) (by first | exact Nat.ne_of_lt (Nat.lt_of_lt_of_le (by have := World.block_lt_of_cell? _ _ hw445_2; first | rwa [add_block] at this | exact this) GW447.out) | (rw [add_block]; exact Nat.ne_of_lt (Nat.lt_of_lt_of_le (by have := World.block_lt_of_cell? _ _ hw445_2; first | rwa [add_block] at this | exact this) GW447.out)) | (show (Addr.add _ _).block ≠ _; rw [add_block]; exact Nat.ne_of_lt (Nat.lt_of_lt_of_le (by have := World.block_lt_of_cell? _ _ hw445_2; first | rwa [add_block] at this | exact this) GW447.out)) | (dsimp only; exact Nat.ne_of_lt (Nat.lt_of_lt_of_le (by have := World.block_lt_of_cell? _ _ hw445_2; first | rwa [add_block] at this | exact this) GW447.out))) _).trans (((cell_far (p := ⟨gb447, _, none⟩) (by first | exact Nat.ne_of_lt (Nat.lt_of_lt_of_le (by have := World.block_lt_of_cell? _ _ hw445_2; first | rwa [add_block] at this | exact this) GW447.out) | (rw [add_block]; exact Nat.ne_of_lt (Nat.lt_of_lt_of_le (by have := World.block_lt_of_cell? _ _ hw445_2; first | rwa [add_block] at this | exact this) GW447.out)) | (show (Addr.add _ _).block ≠ _; rw [add_block]; exact Nat.ne_of_lt (Nat.lt_of_lt_of_le (by have := World.block_lt_of_cell? _ _ hw445_2; first | rwa [add_block] at this | exact this) GW447.out)) | (dsimp only; exact Nat.ne_of_lt (Nat.lt_of_lt_of_le (by have := World.block_lt_of_cell? _ _ hw445_2; first | rwa [add_block] at this | exact this) GW447.out))) _).trans (((cell_far (p := ⟨gb447, _, none⟩) (by first | exact Nat.ne_of_lt (Nat.lt_of_lt_of_le (by have := World.block_lt_of_cell? _ _ hw445_2; first | rwa [add_block] at this | exact this) GW447.out) | (rw [add_block]; exact Nat.ne_of_lt (Nat.lt_of_lt_of_le (by have := World.block_lt_of_cell? _ _ hw445_2; first | rwa [add_block] at this | exact this) GW447.out)) | (show (Addr.add _ _).block ≠ _; rw [add_block]; exact Nat.ne_of_lt (Nat.lt_of_lt_of_le (by have := World.block_lt_of_cell? _ _ hw445_2; first | rwa [add_block] at this | exact this) GW447.out)) | (dsimp only; exact Nat.ne_of_lt (Nat.lt_of_lt_of_le (by have := World.block_lt_of_cell? _ _ hw445_2; first | rwa [add_block] at this | exact this) GW447.out))) _).trans (hHeld.2.2.2.2.2))))))⟩ (fun hHeld => ?_)
     clear hK K
     refine done_ (done_of HT_.out (by kernel_rfl)) ?_
     try go_wp2
     (try simp only [Act.put, List.setIfInBounds_toArray, List.set_cons_zero, List.set_cons_succ])
     go_loopg [50] kj5 (fun kq v50 w' => ∃ (x50_2 : Int) (x447000_2 : Int) (x447001_2 : Int) (x447002_2 : Int) (x448000_2 : Int) (x448001_2 : Int) (x448002_2 : Int), v50 = .int .i64 x50_2 ∧ Aside0 (turnstonelaw08_MeanBetween.l0 kq l1 a2 a0 l1 (l1.length : Int) x50_2 x447000_2 x447001_2 x447002_2 x448000_2 x448001_2 x448002_2 = some r) ∧ Aside0 (kq ≤ kj5) ∧ Aside0 (w'.heap[gb446]? = some (.cells #[.int .u64 x447000_2, .int .u32 x447001_2, .int .u32 x447002_2] 28 (0, 0))) ∧ Aside0 (w'.heap[gb447]? = some (.cells #[.int .u64 x448000_2, .int .u32 x448001_2, .int .u32 x448002_2] 28 (0, 0))) ∧ Aside0 (Below w.heap.size w w'))
     case atStart => exact ⟨(0), ((rd_T28 l1 0).f0), ((rd_T28 l1 0).f1), ((rd_T28 l1 0).f2), ((rd_T28 l1 0).f0), ((rd_T28 l1 0).f1), ((rd_T28 l1 0).f2), (by first | rfl | (simp; done) | (simp [*]; done)), H', ⟨Nat.le_refl _⟩, ⟨by (with_reducible repeat (first | refine blk_drewN ?_ _ | refine blk_drew ?_ | refine blk_alloc ?_ _)); refine blk_far ?_ NB446_447.out _; (with_reducible repeat (first | refine blk_drewN ?_ _ | refine blk_drew ?_ | refine blk_alloc ?_ _)); refine blk_far ?_ NB446_447.out _; (with_reducible repeat (first | refine blk_drewN ?_ _ | refine blk_drew ?_ | refine blk_alloc ?_ _)); refine blk_far ?_ NB446_447.out _; (with_reducible repeat (first | refine blk_drewN ?_ _ | refine blk_drew ?_ | refine blk_alloc ?_ _)); refine blk_put (cs := #[.int .u64 ((rd_T28 l1 0).f0), .int .u32 ((rd_T28 l1 0).f1), .int .u32 0]) ?_ 2 _ rfl; (with_reducible repeat (first | refine blk_drewN ?_ _ | refine blk_drew ?_ | refine blk_alloc ?_ _)); refine blk_put (cs := #[.int .u64 ((rd_T28 l1 0).f0), .int .u32 0, .int .u32 0]) ?_ 1 _ rfl; (with_reducible repeat (first | refine blk_drewN ?_ _ | refine blk_drew ?_ | refine blk_alloc ?_ _)); refine blk_put (cs := #[.int .u64 0, .int .u32 0, .int .u32 0]) ?_ 0 _ rfl; exact blkt BK446⟩, ⟨by (with_reducible repeat (first | refine blk_drewN ?_ _ | refine blk_drew ?_ | refine blk_alloc ?_ _)); refine blk_put (cs := #[.int .u64 ((rd_T28 l1 0).f0), .int .u32 ((rd_T28 l1 0).f1), .int .u32 0]) ?_ 2 _ rfl; (with_reducible repeat (first | refine blk_drewN ?_ _ | refine blk_drew ?_ | refine blk_alloc ?_ _)); refine blk_put (cs := #[.int .u64 ((rd_T28 l1 0).f0), .int .u32 0, .int .u32 0]) ?_ 1 _ rfl; (with_reducible repeat (first | refine blk_drewN ?_ _ | refine blk_drew ?_ | refine blk_alloc ?_ _)); refine blk_put (cs := #[.int .u64 0, .int .u32 0, .int .u32 0]) ?_ 0 _ rfl; (with_reducible repeat (first | refine blk_drewN ?_ _ | refine blk_drew ?_ | refine blk_alloc ?_ _)); refine blk_far ?_ NB447_446.out _; (with_reducible repeat (first | refine blk_drewN ?_ _ | refine blk_drew ?_ | refine blk_alloc ?_ _)); refine blk_far ?_ NB447_446.out _; (with_reducible repeat (first | refine blk_drewN ?_ _ | refine blk_drew ?_ | refine blk_alloc ?_ _)); refine blk_far ?_ NB447_446.out _; exact blkt BK447⟩, ⟨belt HB⟩⟩
     case round =>
      clear H'
      try clear c1
      try clear p2
      try clear c4
      try clear p4
      try clear q4
      try clear hx4
      try clear qi4
      try clear c5
      try clear c8
      try clear c8b0
      try clear c8b1
      try clear c9
      try clear c9b0
      try clear c9b1
      try clear c9b2
      try clear c10
      try clear c10b0
      try clear c11
      try clear c12
      try clear c12b0
      try clear c12b1
      try clear hx444_0
      try clear hx444_1
      try clear hx444_2
      try clear hx445_0
      try clear hx445_1
      try clear hx445_2
      try clear p2
      try clear p444
      try clear p445
      try clear q444
      try clear q445
      obtain ⟨x50_2, x447000_2, x447001_2, x447002_2, x448000_2, x448001_2, x448002_2, rfl, HA, HK2, BK446, BK447, HB⟩ := hrel
      cases gk with
      | zero => exact absurd HA.out (by simp [turnstonelaw08_MeanBetween.l0])
      | succ k2 =>
       have H := HA.out
       clear HA
       simp only [turnstonelaw08_MeanBetween.l0] at H
       by_cases c23 : x50_2 < (l1.length : Int)
       ·rw [if_pos c23] at H
        have c23b0 : decide (x50_2 < (l1.length : Int)) = true := decide_eq_true c23
        clear c23
        by_cases c24 : 0 ≤ x50_2
        ·rw [if_pos c24] at H
         have c24b0 : decide (0 ≤ x50_2) = true := decide_eq_true c24
         clear c24
         by_cases c25 : x50_2 < (l1.length : Int)
         ·rw [if_pos c25] at H
          have c25b0 : decide (x50_2 < (l1.length : Int)) = true := decide_eq_true c25
          clear c25
          replace H := Option.bind_eq_some_iff.mp H
          obtain ⟨t450, A260, H⟩ := H
          replace H : ((pos_Pos_Right.f ((rd_T28 l1 x50_2).f0) ((rd_T28 l1 x50_2).f1) ((rd_T28 l1 x50_2).f2)).bind fun t451 => (if t451 = true then (if t450 ≤ (-1152921504606846976) then (turnstonelaw08_MeanBetween.j2 k2 l1 a2 a0 l1 (l1.length : Int) x50_2 true x447000_2 x447001_2 x447002_2 x448000_2 x448001_2 x448002_2 ((rd_T28 l1 x50_2).f0) ((rd_T28 l1 x50_2).f1) ((rd_T28 l1 x50_2).f2)) else (turnstonelaw08_MeanBetween.j2 k2 l1 a2 a0 l1 (l1.length : Int) x50_2 (decide (t450 ≥ 1152921504606846976)) x447000_2 x447001_2 x447002_2 x448000_2 x448001_2 x448002_2 ((rd_T28 l1 x50_2).f0) ((rd_T28 l1 x50_2).f1) ((rd_T28 l1 x50_2).f2))) else (turnstonelaw08_MeanBetween.j2 k2 l1 a2 a0 l1 (l1.length : Int) x50_2 true x447000_2 x447001_2 x447002_2 x448000_2 x448001_2 x448002_2 ((rd_T28 l1 x50_2).f0) ((rd_T28 l1 x50_2).f1) ((rd_T28 l1 x50_2).f2)))) = some r := H
          have A26 := Aside0.mk A260
          clear A260
          have HC27 := Aside0.mk H
          clear H
          have p448 : 0 ≤ (x50_2 : Int) := of_decide_eq_true (by first | (with_reducible assumption) | assumption)
          have q448 : x50_2 < (l1.length : Int) := of_decide_eq_true (by first | (with_reducible assumption) | assumption)
          obtain ⟨ad448, e448, hx448_0, hx448_1, hx448_2⟩ := at_T28 HR1.out x50_2 p448 q448
          obtain rfl : ad444 = ad448 := (by injection e448)
          replace hx448_0 := (HB.out.cell (World.block_lt_of_cell? w _ hx448_0)).trans hx448_0
          replace hx448_1 := (HB.out.cell (World.block_lt_of_cell? w _ hx448_1)).trans hx448_1
          replace hx448_2 := (HB.out.cell (World.block_lt_of_cell? w _ hx448_2)).trans hx448_2
          replace p448 := eq_true p448
          replace q448 := eq_true q448
          go_upto_region 11 with (first | ((with_reducible refine gate_dst (N := 11) rfl ?_); (try (refine gate_guard (by rfl) ?_; dsimp only)); refine box_event ?hg (N := 11) ?hd (cs := #[.int .u64 0, .int .u32 0, .int .u32 0]) (t := 28) ?hr ?_; (case hd => rfl); (case hg => rfl); (case hr => first | (go_simp; done) | (go_simp; rfl)); intro gb449 hg w28 hbox hb; have BK449 := Aside0.mk (hbox); have GW449 := bels HB hg; have GE449 := bels HB hg; have NB446_449 := blkl BK446 hg; have NB449_446 := blkg BK446 hg; have NB447_449 := blkl BK447 hg; have NB449_447 := blkg BK447 hg; replace BK446 := blkb BK446 hb; replace BK447 := blkb BK447 hb; replace HB := belb HB hb; clear hb hbox hg; have hnb29 := NB449_446.out; have hnc29 := NB446_449.out; have hnb30 := NB449_447.out; have hnc30 := NB447_449.out; have hcz31_0 : w28.cell? ⟨gb449, 0, none⟩ = some (.int .u64 0) := bc BK449 0; have hcz31_1 : w28.cell? ⟨gb449, 1, none⟩ = some (.int .u32 0) := bc BK449 1; have hcz31_2 : w28.cell? ⟨gb449, 2, none⟩ = some (.int .u32 0) := bc BK449 2; have hfz31_0 := blk_frozen BK449.out 0; have hfz31_1 := blk_frozen BK449.out 1; have hfz31_2 := blk_frozen BK449.out 2) | ((with_reducible refine gate_callee (f := 13) rfl ?_); refine goesL_ (some 57) rfl rfl Tryz.func13 (by kernel_rfl) rfl #[.int .u64 ((rd_T28 l1 x50_2).f0), .int .u64 a0] rfl argt ?_; (with_reducible refine (vtime_Time_Since.calls ((rd_T28 l1 x50_2).f0) a0 t450 _ A26.out).mono ?_); rintro e w' ⟨rfl, ⟨nd, rfl⟩⟩; refine ⟨_, rfl, ?_⟩))
          (try simp only [Act.put, List.setIfInBounds_toArray, List.set_cons_zero, List.set_cons_succ])
          go_cut [68] (fun v68 wc => ∃ (kq : Nat) (x68_26 : Bool), v68 = .bool x68_26 ∧ Aside0 (turnstonelaw08_MeanBetween.j2 kq l1 a2 a0 l1 (l1.length : Int) x50_2 x68_26 x447000_2 x447001_2 x447002_2 x448000_2 x448001_2 x448002_2 ((rd_T28 l1 x50_2).f0) ((rd_T28 l1 x50_2).f1) ((rd_T28 l1 x50_2).f2) = some r) ∧ Aside0 (kq ≤ k2) ∧ Aside0 (wc.heap[gb446]? = some (.cells #[.int .u64 x447000_2, .int .u32 x447001_2, .int .u32 x447002_2] 28 (0, 0))) ∧ Aside0 (wc.heap[gb447]? = some (.cells #[.int .u64 x448000_2, .int .u32 x448001_2, .int .u32 x448002_2] 28 (0, 0))) ∧ Aside0 (wc.heap[gb449]? = some (.cells #[.int .u64 ((rd_T28 l1 x50_2).f0), .int .u32 ((rd_T28 l1 x50_2).f1), .int .u32 ((rd_T28 l1 x50_2).f2)] 28 (0, 0))) ∧ Aside0 (Below w.heap.size w wc))
          case first =>
           have H := HC27.out
           clear HC27
           replace H := Option.bind_eq_some_iff.mp H
           obtain ⟨t451, A320, H⟩ := H
           replace H : (if t451 = true then (if t450 ≤ (-1152921504606846976) then (turnstonelaw08_MeanBetween.j2 k2 l1 a2 a0 l1 (l1.length : Int) x50_2 true x447000_2 x447001_2 x447002_2 x448000_2 x448001_2 x448002_2 ((rd_T28 l1 x50_2).f0) ((rd_T28 l1 x50_2).f1) ((rd_T28 l1 x50_2).f2)) else (turnstonelaw08_MeanBetween.j2 k2 l1 a2 a0 l1 (l1.length : Int) x50_2 (decide (t450 ≥ 1152921504606846976)) x447000_2 x447001_2 x447002_2 x448000_2 x448001_2 x448002_2 ((rd_T28 l1 x50_2).f0) ((rd_T28 l1 x50_2).f1) ((rd_T28 l1 x50_2).f2))) else (turnstonelaw08_MeanBetween.j2 k2 l1 a2 a0 l1 (l1.length : Int) x50_2 true x447000_2 x447001_2 x447002_2 x448000_2 x448001_2 x448002_2 ((rd_T28 l1 x50_2).f0) ((rd_T28 l1 x50_2).f1) ((rd_T28 l1 x50_2).f2))) = some r := H
           have A32 := Aside0.mk A320
           clear A320
           by_cases c33 : t451 = true
           ·subst c33
            have H1 : (if t450 ≤ (-1152921504606846976) then (turnstonelaw08_MeanBetween.j2 k2 l1 a2 a0 l1 (l1.length : Int) x50_2 true x447000_2 x447001_2 x447002_2 x448000_2 x448001_2 x448002_2 ((rd_T28 l1 x50_2).f0) ((rd_T28 l1 x50_2).f1) ((rd_T28 l1 x50_2).f2)) else (turnstonelaw08_MeanBetween.j2 k2 l1 a2 a0 l1 (l1.length : Int) x50_2 (decide (t450 ≥ 1152921504606846976)) x447000_2 x447001_2 x447002_2 x448000_2 x448001_2 x448002_2 ((rd_T28 l1 x50_2).f0) ((rd_T28 l1 x50_2).f1) ((rd_T28 l1 x50_2).f2))) = some r := by rw [if_pos rfl] at H; exact H
            clear H
            have H := H1
            clear H1
            by_cases c34 : t450 ≤ (-1152921504606846976)
            ·rw [if_pos c34] at H
             have c34b0 : decide (t450 ≤ (-1152921504606846976)) = true := decide_eq_true c34
             clear c34
             (first | rw [c34b0] | (simp only [i64_w, i32_w]; rw [c34b0]) | skip)
             have H' := Aside0.mk H
             clear H
             have hnb35 := NB449_446.out
             have hnc35 := NB446_449.out
             have hnb36 := NB449_447.out
             have hnc36 := NB447_449.out
             have hcz37_0 : w28.cell? ⟨gb449, 0, none⟩ = some (.int .u64 0) := bc BK449 0
             have hcz37_1 : w28.cell? ⟨gb449, 1, none⟩ = some (.int .u32 0) := bc BK449 1
             have hcz37_2 : w28.cell? ⟨gb449, 2, none⟩ = some (.int .u32 0) := bc BK449 2
             have hfz37_0 := blk_frozen BK449.out 0
             have hfz37_1 := blk_frozen BK449.out 1
             have hfz37_2 := blk_frozen BK449.out 2
             go_wp2_with (first | ((with_reducible refine gate_callee (f := 14) rfl ?_); refine goesL_ (some 59) rfl rfl Tryz.func14 (by kernel_rfl) rfl #[.agg #[.int .u64 ((rd_T28 l1 x50_2).f0), .int .u32 ((rd_T28 l1 x50_2).f1), .int .u32 ((rd_T28 l1 x50_2).f2)]] rfl argt ?_; (with_reducible refine (pos_Pos_Right.calls ((rd_T28 l1 x50_2).f0) ((rd_T28 l1 x50_2).f1) ((rd_T28 l1 x50_2).f2) true _ A32.out).mono ?_); rintro e w38 ⟨rfl, hb⟩; refine ⟨_, rfl, ?_⟩; replace BK446 := Aside0.mk (blk_below (g := gb446) (o := .cells #[.int .u64 x447000_2, .int .u32 x447001_2, .int .u32 x447002_2] 28 (0, 0)) (by (with_reducible repeat (first | refine blk_drewN ?_ _ | refine blk_drew ?_ | refine blk_alloc ?_ _)); refine blk_far ?_ NB446_449.out _; (with_reducible repeat (first | refine blk_drewN ?_ _ | refine blk_drew ?_ | refine blk_alloc ?_ _)); refine blk_far ?_ NB446_449.out _; (with_reducible repeat (first | refine blk_drewN ?_ _ | refine blk_drew ?_ | refine blk_alloc ?_ _)); refine blk_far ?_ NB446_449.out _; exact blkt BK446) hb); replace BK447 := Aside0.mk (blk_below (g := gb447) (o := .cells #[.int .u64 x448000_2, .int .u32 x448001_2, .int .u32 x448002_2] 28 (0, 0)) (by (with_reducible repeat (first | refine blk_drewN ?_ _ | refine blk_drew ?_ | refine blk_alloc ?_ _)); refine blk_far ?_ NB447_449.out _; (with_reducible repeat (first | refine blk_drewN ?_ _ | refine blk_drew ?_ | refine blk_alloc ?_ _)); refine blk_far ?_ NB447_449.out _; (with_reducible repeat (first | refine blk_drewN ?_ _ | refine blk_drew ?_ | refine blk_alloc ?_ _)); refine blk_far ?_ NB447_449.out _; exact blkt BK447) hb); replace BK449 := Aside0.mk (blk_below (g := gb449) (o := .cells #[.int .u64 ((rd_T28 l1 x50_2).f0), .int .u32 ((rd_T28 l1 x50_2).f1), .int .u32 ((rd_T28 l1 x50_2).f2)] 28 (0, 0)) (by (with_reducible repeat (first | refine blk_drewN ?_ _ | refine blk_drew ?_ | refine blk_alloc ?_ _)); refine blk_put (cs := #[.int .u64 ((rd_T28 l1 x50_2).f0), .int .u32 ((rd_T28 l1 x50_2).f1), .int .u32 0]) ?_ 2 _ rfl; (with_reducible repeat (first | refine blk_drewN ?_ _ | refine blk_drew ?_ | refine blk_alloc ?_ _)); refine blk_put (cs := #[.int .u64 ((rd_T28 l1 x50_2).f0), .int .u32 0, .int .u32 0]) ?_ 1 _ rfl; (with_reducible repeat (first | refine blk_drewN ?_ _ | refine blk_drew ?_ | refine blk_alloc ?_ _)); refine blk_put (cs := #[.int .u64 0, .int .u32 0, .int .u32 0]) ?_ 0 _ rfl; exact blkt BK449) hb); replace HB := belb HB hb; (try clear hb); (try clear hb2); (try clear hk); (try clear hi)))
             go_meet
             case rel => exact ⟨_, (true), (by first | rfl | (simp; done) | (simp [*]; done)), H', ⟨by have := HJ5.out; have := HK2.out; first | omega | exact Nat.le_refl _⟩, ⟨blkt BK446⟩, ⟨blkt BK447⟩, ⟨blkt BK449⟩, ⟨belt HB⟩⟩
            rw [if_neg c34] at H
            have c34b0 : decide (t450 ≤ (-1152921504606846976)) = false := decide_eq_false c34
            clear c34
            (first | rw [c34b0] | (simp only [i64_w, i32_w]; rw [c34b0]) | skip)
            have H' := Aside0.mk H
            clear H
            have hnb39 := NB449_446.out
            have hnc39 := NB446_449.out
            have hnb40 := NB449_447.out
            have hnc40 := NB447_449.out
            have hcz41_0 : w28.cell? ⟨gb449, 0, none⟩ = some (.int .u64 0) := bc BK449 0
            have hcz41_1 : w28.cell? ⟨gb449, 1, none⟩ = some (.int .u32 0) := bc BK449 1
            have hcz41_2 : w28.cell? ⟨gb449, 2, none⟩ = some (.int .u32 0) := bc BK449 2
            have hfz41_0 := blk_frozen BK449.out 0
            have hfz41_1 := blk_frozen BK449.out 1
            have hfz41_2 := blk_frozen BK449.out 2
            go_wp2_with (first | ((with_reducible refine gate_callee (f := 14) rfl ?_); refine goesL_ (some 59) rfl rfl Tryz.func14 (by kernel_rfl) rfl #[.agg #[.int .u64 ((rd_T28 l1 x50_2).f0), .int .u32 ((rd_T28 l1 x50_2).f1), .int .u32 ((rd_T28 l1 x50_2).f2)]] rfl argt ?_; (with_reducible refine (pos_Pos_Right.calls ((rd_T28 l1 x50_2).f0) ((rd_T28 l1 x50_2).f1) ((rd_T28 l1 x50_2).f2) true _ A32.out).mono ?_); rintro e w42 ⟨rfl, hb⟩; refine ⟨_, rfl, ?_⟩; replace BK446 := Aside0.mk (blk_below (g := gb446) (o := .cells #[.int .u64 x447000_2, .int .u32 x447001_2, .int .u32 x447002_2] 28 (0, 0)) (by (with_reducible repeat (first | refine blk_drewN ?_ _ | refine blk_drew ?_ | refine blk_alloc ?_ _)); refine blk_far ?_ NB446_449.out _; (with_reducible repeat (first | refine blk_drewN ?_ _ | refine blk_drew ?_ | refine blk_alloc ?_ _)); refine blk_far ?_ NB446_449.out _; (with_reducible repeat (first | refine blk_drewN ?_ _ | refine blk_drew ?_ | refine blk_alloc ?_ _)); refine blk_far ?_ NB446_449.out _; exact blkt BK446) hb); replace BK447 := Aside0.mk (blk_below (g := gb447) (o := .cells #[.int .u64 x448000_2, .int .u32 x448001_2, .int .u32 x448002_2] 28 (0, 0)) (by (with_reducible repeat (first | refine blk_drewN ?_ _ | refine blk_drew ?_ | refine blk_alloc ?_ _)); refine blk_far ?_ NB447_449.out _; (with_reducible repeat (first | refine blk_drewN ?_ _ | refine blk_drew ?_ | refine blk_alloc ?_ _)); refine blk_far ?_ NB447_449.out _; (with_reducible repeat (first | refine blk_drewN ?_ _ | refine blk_drew ?_ | refine blk_alloc ?_ _)); refine blk_far ?_ NB447_449.out _; exact blkt BK447) hb); replace BK449 := Aside0.mk (blk_below (g := gb449) (o := .cells #[.int .u64 ((rd_T28 l1 x50_2).f0), .int .u32 ((rd_T28 l1 x50_2).f1), .int .u32 ((rd_T28 l1 x50_2).f2)] 28 (0, 0)) (by (with_reducible repeat (first | refine blk_drewN ?_ _ | refine blk_drew ?_ | refine blk_alloc ?_ _)); refine blk_put (cs := #[.int .u64 ((rd_T28 l1 x50_2).f0), .int .u32 ((rd_T28 l1 x50_2).f1), .int .u32 0]) ?_ 2 _ rfl; (with_reducible repeat (first | refine blk_drewN ?_ _ | refine blk_drew ?_ | refine blk_alloc ?_ _)); refine blk_put (cs := #[.int .u64 ((rd_T28 l1 x50_2).f0), .int .u32 0, .int .u32 0]) ?_ 1 _ rfl; (with_reducible repeat (first | refine blk_drewN ?_ _ | refine blk_drew ?_ | refine blk_alloc ?_ _)); refine blk_put (cs := #[.int .u64 0, .int .u32 0, .int .u32 0]) ?_ 0 _ rfl; exact blkt BK449) hb); replace HB := belb HB hb; (try clear hb); (try clear hb2); (try clear hk); (try clear hi)))
            go_meet
            case rel => exact ⟨_, (decide (t450 ≥ 1152921504606846976)), (by first | rfl | (simp; done) | (simp [*]; done)), H', ⟨by have := HJ5.out; have := HK2.out; first | omega | exact Nat.le_refl _⟩, ⟨blkt BK446⟩, ⟨blkt BK447⟩, ⟨blkt BK449⟩, ⟨belt HB⟩⟩
           replace c33 := Bool.eq_false_iff.mpr c33
           subst c33
           have H1 : (turnstonelaw08_MeanBetween.j2 k2 l1 a2 a0 l1 (l1.length : Int) x50_2 true x447000_2 x447001_2 x447002_2 x448000_2 x448001_2 x448002_2 ((rd_T28 l1 x50_2).f0) ((rd_T28 l1 x50_2).f1) ((rd_T28 l1 x50_2).f2)) = some r := by rw [if_neg (show ¬ (false = true) by decide)] at H; exact H
           clear H
           have H := H1
           clear H1
           have H' := Aside0.mk H
           clear H
           have hnb43 := NB449_446.out
           have hnc43 := NB446_449.out
           have hnb44 := NB449_447.out
           have hnc44 := NB447_449.out
           have hcz45_0 : w28.cell? ⟨gb449, 0, none⟩ = some (.int .u64 0) := bc BK449 0
           have hcz45_1 : w28.cell? ⟨gb449, 1, none⟩ = some (.int .u32 0) := bc BK449 1
           have hcz45_2 : w28.cell? ⟨gb449, 2, none⟩ = some (.int .u32 0) := bc BK449 2
           have hfz45_0 := blk_frozen BK449.out 0
           have hfz45_1 := blk_frozen BK449.out 1
           have hfz45_2 := blk_frozen BK449.out 2
           go_wp2_with (first | ((with_reducible refine gate_callee (f := 14) rfl ?_); refine goesL_ (some 59) rfl rfl Tryz.func14 (by kernel_rfl) rfl #[.agg #[.int .u64 ((rd_T28 l1 x50_2).f0), .int .u32 ((rd_T28 l1 x50_2).f1), .int .u32 ((rd_T28 l1 x50_2).f2)]] rfl argt ?_; (with_reducible refine (pos_Pos_Right.calls ((rd_T28 l1 x50_2).f0) ((rd_T28 l1 x50_2).f1) ((rd_T28 l1 x50_2).f2) false _ A32.out).mono ?_); rintro e w46 ⟨rfl, hb⟩; refine ⟨_, rfl, ?_⟩; replace BK446 := Aside0.mk (blk_below (g := gb446) (o := .cells #[.int .u64 x447000_2, .int .u32 x447001_2, .int .u32 x447002_2] 28 (0, 0)) (by (with_reducible repeat (first | refine blk_drewN ?_ _ | refine blk_drew ?_ | refine blk_alloc ?_ _)); refine blk_far ?_ NB446_449.out _; (with_reducible repeat (first | refine blk_drewN ?_ _ | refine blk_drew ?_ | refine blk_alloc ?_ _)); refine blk_far ?_ NB446_449.out _; (with_reducible repeat (first | refine blk_drewN ?_ _ | refine blk_drew ?_ | refine blk_alloc ?_ _)); refine blk_far ?_ NB446_449.out _; exact blkt BK446) hb); replace BK447 := Aside0.mk (blk_below (g := gb447) (o := .cells #[.int .u64 x448000_2, .int .u32 x448001_2, .int .u32 x448002_2] 28 (0, 0)) (by (with_reducible repeat (first | refine blk_drewN ?_ _ | refine blk_drew ?_ | refine blk_alloc ?_ _)); refine blk_far ?_ NB447_449.out _; (with_reducible repeat (first | refine blk_drewN ?_ _ | refine blk_drew ?_ | refine blk_alloc ?_ _)); refine blk_far ?_ NB447_449.out _; (with_reducible repeat (first | refine blk_drewN ?_ _ | refine blk_drew ?_ | refine blk_alloc ?_ _)); refine blk_far ?_ NB447_449.out _; exact blkt BK447) hb); replace BK449 := Aside0.mk (blk_below (g := gb449) (o := .cells #[.int .u64 ((rd_T28 l1 x50_2).f0), .int .u32 ((rd_T28 l1 x50_2).f1), .int .u32 ((rd_T28 l1 x50_2).f2)] 28 (0, 0)) (by (with_reducible repeat (first | refine blk_drewN ?_ _ | refine blk_drew ?_ | refine blk_alloc ?_ _)); refine blk_put (cs := #[.int .u64 ((rd_T28 l1 x50_2).f0), .int .u32 ((rd_T28 l1 x50_2).f1), .int .u32 0]) ?_ 2 _ rfl; (with_reducible repeat (first | refine blk_drewN ?_ _ | refine blk_drew ?_ | refine blk_alloc ?_ _)); refine blk_put (cs := #[.int .u64 ((rd_T28 l1 x50_2).f0), .int .u32 0, .int .u32 0]) ?_ 1 _ rfl; (with_reducible repeat (first | refine blk_drewN ?_ _ | refine blk_drew ?_ | refine blk_alloc ?_ _)); refine blk_put (cs := #[.int .u64 0, .int .u32 0, .int .u32 0]) ?_ 0 _ rfl; exact blkt BK449) hb); replace HB := belb HB hb; (try clear hb); (try clear hb2); (try clear hk); (try clear hi)))
           go_meet
           case rel => exact ⟨_, (true), (by first | rfl | (simp; done) | (simp [*]; done)), H', ⟨by have := HJ5.out; have := HK2.out; first | omega | exact Nat.le_refl _⟩, ⟨blkt BK446⟩, ⟨blkt BK447⟩, ⟨blkt BK449⟩, ⟨belt HB⟩⟩
          case rest =>
           clear HC27
           try clear c1
           try clear c2
           try clear p2
           try clear c3
           try clear c4
           try clear p4
           try clear q4
           try clear hx4
           try clear qi4
           try clear c5
           try clear c8
           try clear c8b0
           try clear c8b1
           try clear c9
           try clear c9b0
           try clear c9b1
           try clear c9b2
           try clear c10
           try clear c10b0
           try clear c11
           try clear c12
           try clear c12b0
           try clear c12b1
           try clear c13
           try clear c14
           try clear c23
           try clear c23b0
           try clear c24
           try clear c24b0
           try clear c25
           try clear c25b0
           try clear c29
           try clear c30
           try clear c33
           try clear c34
           try clear c34b0
           try clear c35
           try clear c36
           try clear c39
           try clear c40
           try clear c43
           try clear c44
           try clear p44
           try clear q44
           try clear hx44
           try clear qi44
           try clear hcz31_0
           try clear hcz31_1
           try clear hcz31_2
           try clear hcz37_0
           try clear hcz37_1
           try clear hcz37_2
           try clear hcz41_0
           try clear hcz41_1
           try clear hcz41_2
           try clear hcz45_0
           try clear hcz45_1
           try clear hcz45_2
           try clear hfz31_0
           try clear hfz31_1
           try clear hfz31_2
           try clear hfz37_0
           try clear hfz37_1
           try clear hfz37_2
           try clear hfz41_0
           try clear hfz41_1
           try clear hfz41_2
           try clear hfz45_0
           try clear hfz45_1
           try clear hfz45_2
           try clear hx444_0
           try clear hx444_1
           try clear hx444_2
           try clear hx445_0
           try clear hx445_1
           try clear hx445_2
           try clear hx448_0
           try clear hx448_1
           try clear hx448_2
           try clear p2
           try clear p4
           try clear p444
           try clear p445
           try clear p448
           try clear q4
           try clear q444
           try clear q445
           try clear q448
           obtain ⟨kq, x68_26, rfl, HA, HJ26, BK446, BK447, BK449, HB⟩ := hcut
           cases kq with
           | zero => exact absurd HA.out (by simp [turnstonelaw08_MeanBetween.j2])
           | succ kj26 =>
            have H := HA.out
            clear HA
            simp only [turnstonelaw08_MeanBetween.j2] at H
            by_cases c47 : x68_26 = true
            ·subst c47
             have H1 : (some true) = some r := by rw [if_pos rfl] at H; exact H
             clear H
             have H := H1
             clear H1
             obtain rfl := Option.some.inj H
             go_wp2
             go_ret
             exact ⟨by first | rfl | (simp [errW_none, errW_some] <;> rfl) | (simp [*, errW_none, errW_some] <;> rfl), belt HB⟩
            replace c47 := Bool.eq_false_iff.mpr c47
            subst c47
            have H1 : ((pos_Pos_Cmp.f kj26 ((rd_T28 l1 x50_2).f0) ((rd_T28 l1 x50_2).f1) ((rd_T28 l1 x50_2).f2) x447000_2 x447001_2 x447002_2).bind fun t452 => (if t452 < 0 then ((pos_Pos_Cmp.f kj26 ((rd_T28 l1 x50_2).f0) ((rd_T28 l1 x50_2).f1) ((rd_T28 l1 x50_2).f2) x448000_2 x448001_2 x448002_2).bind fun t453 => (if t453 > 0 then (turnstonelaw08_MeanBetween.l0 kj26 l1 a2 a0 l1 (l1.length : Int) (wrap64 (x50_2 + 1)) ((rd_T28 l1 x50_2).f0) ((rd_T28 l1 x50_2).f1) ((rd_T28 l1 x50_2).f2) ((rd_T28 l1 x50_2).f0) ((rd_T28 l1 x50_2).f1) ((rd_T28 l1 x50_2).f2)) else (turnstonelaw08_MeanBetween.l0 kj26 l1 a2 a0 l1 (l1.length : Int) (wrap64 (x50_2 + 1)) ((rd_T28 l1 x50_2).f0) ((rd_T28 l1 x50_2).f1) ((rd_T28 l1 x50_2).f2) x448000_2 x448001_2 x448002_2))) else ((pos_Pos_Cmp.f kj26 ((rd_T28 l1 x50_2).f0) ((rd_T28 l1 x50_2).f1) ((rd_T28 l1 x50_2).f2) x448000_2 x448001_2 x448002_2).bind fun t454 => (if t454 > 0 then (turnstonelaw08_MeanBetween.l0 kj26 l1 a2 a0 l1 (l1.length : Int) (wrap64 (x50_2 + 1)) x447000_2 x447001_2 x447002_2 ((rd_T28 l1 x50_2).f0) ((rd_T28 l1 x50_2).f1) ((rd_T28 l1 x50_2).f2)) else (turnstonelaw08_MeanBetween.l0 kj26 l1 a2 a0 l1 (l1.length : Int) (wrap64 (x50_2 + 1)) x447000_2 x447001_2 x447002_2 x448000_2 x448001_2 x448002_2))))) = some r := by rw [if_neg (show ¬ (false = true) by decide)] at H; exact H
            clear H
            have H := H1
            clear H1
            replace H := Option.bind_eq_some_iff.mp H
            obtain ⟨t452, A480, H⟩ := H
            replace H : (if t452 < 0 then ((pos_Pos_Cmp.f kj26 ((rd_T28 l1 x50_2).f0) ((rd_T28 l1 x50_2).f1) ((rd_T28 l1 x50_2).f2) x448000_2 x448001_2 x448002_2).bind fun t453 => (if t453 > 0 then (turnstonelaw08_MeanBetween.l0 kj26 l1 a2 a0 l1 (l1.length : Int) (wrap64 (x50_2 + 1)) ((rd_T28 l1 x50_2).f0) ((rd_T28 l1 x50_2).f1) ((rd_T28 l1 x50_2).f2) ((rd_T28 l1 x50_2).f0) ((rd_T28 l1 x50_2).f1) ((rd_T28 l1 x50_2).f2)) else (turnstonelaw08_MeanBetween.l0 kj26 l1 a2 a0 l1 (l1.length : Int) (wrap64 (x50_2 + 1)) ((rd_T28 l1 x50_2).f0) ((rd_T28 l1 x50_2).f1) ((rd_T28 l1 x50_2).f2) x448000_2 x448001_2 x448002_2))) else ((pos_Pos_Cmp.f kj26 ((rd_T28 l1 x50_2).f0) ((rd_T28 l1 x50_2).f1) ((rd_T28 l1 x50_2).f2) x448000_2 x448001_2 x448002_2).bind fun t454 => (if t454 > 0 then (turnstonelaw08_MeanBetween.l0 kj26 l1 a2 a0 l1 (l1.length : Int) (wrap64 (x50_2 + 1)) x447000_2 x447001_2 x447002_2 ((rd_T28 l1 x50_2).f0) ((rd_T28 l1 x50_2).f1) ((rd_T28 l1 x50_2).f2)) else (turnstonelaw08_MeanBetween.l0 kj26 l1 a2 a0 l1 (l1.length : Int) (wrap64 (x50_2 + 1)) x447000_2 x447001_2 x447002_2 x448000_2 x448001_2 x448002_2)))) = some r := H
            have A48 := Aside0.mk A480
            clear A480
            by_cases c49 : t452 < 0
            ·rw [if_pos c49] at H
             have c49b0 : decide (t452 < 0) = true := decide_eq_true c49
             clear c49
             replace H := Option.bind_eq_some_iff.mp H
             obtain ⟨t453, A500, H⟩ := H
             replace H : (if t453 > 0 then (turnstonelaw08_MeanBetween.l0 kj26 l1 a2 a0 l1 (l1.length : Int) (wrap64 (x50_2 + 1)) ((rd_T28 l1 x50_2).f0) ((rd_T28 l1 x50_2).f1) ((rd_T28 l1 x50_2).f2) ((rd_T28 l1 x50_2).f0) ((rd_T28 l1 x50_2).f1) ((rd_T28 l1 x50_2).f2)) else (turnstonelaw08_MeanBetween.l0 kj26 l1 a2 a0 l1 (l1.length : Int) (wrap64 (x50_2 + 1)) ((rd_T28 l1 x50_2).f0) ((rd_T28 l1 x50_2).f1) ((rd_T28 l1 x50_2).f2) x448000_2 x448001_2 x448002_2)) = some r := H
             have A50 := Aside0.mk A500
             clear A500
             by_cases c51 : t453 > 0
             ·rw [if_pos c51] at H
              have c51b0 : decide (0 < t453) = true := decide_eq_true c51
              clear c51
              have H' := Aside0.mk H
              clear H
              have hnb52 := NB449_446.out
              have hnc52 := NB446_449.out
              have hnb53 := NB449_447.out
              have hnc53 := NB447_449.out
              have hcz54_0 : wc.cell? ⟨gb449, 0, none⟩ = some (.int .u64 ((rd_T28 l1 x50_2).f0)) := bc BK449 0
              have hcz54_1 : wc.cell? ⟨gb449, 1, none⟩ = some (.int .u32 ((rd_T28 l1 x50_2).f1)) := bc BK449 1
              have hcz54_2 : wc.cell? ⟨gb449, 2, none⟩ = some (.int .u32 ((rd_T28 l1 x50_2).f2)) := bc BK449 2
              have hfz54_0 := blk_frozen BK449.out 0
              have hfz54_1 := blk_frozen BK449.out 1
              have hfz54_2 := blk_frozen BK449.out 2
              have hnb55 := NB446_447.out
              have hnc55 := NB447_446.out
              have hcz56_0 : wc.cell? ⟨gb446, 0, none⟩ = some (.int .u64 x447000_2) := bc BK446 0
              have hcz56_1 : wc.cell? ⟨gb446, 1, none⟩ = some (.int .u32 x447001_2) := bc BK446 1
              have hcz56_2 : wc.cell? ⟨gb446, 2, none⟩ = some (.int .u32 x447002_2) := bc BK446 2
              have hfz56_0 := blk_frozen BK446.out 0
              have hfz56_1 := blk_frozen BK446.out 1
              have hfz56_2 := blk_frozen BK446.out 2
              go_wp2_with (first | ((with_reducible refine gate_callee (f := 15) rfl ?_); refine goesL_ (some 71) rfl rfl Tryz.func15 (by kernel_rfl) rfl #[.agg #[.int .u64 ((rd_T28 l1 x50_2).f0), .int .u32 ((rd_T28 l1 x50_2).f1), .int .u32 ((rd_T28 l1 x50_2).f2)], .agg #[.int .u64 x447000_2, .int .u32 x447001_2, .int .u32 x447002_2]] rfl argt ?_; (with_reducible refine (pos_Pos_Cmp.calls kj26 ((rd_T28 l1 x50_2).f0) ((rd_T28 l1 x50_2).f1) ((rd_T28 l1 x50_2).f2) x447000_2 x447001_2 x447002_2 t452 _ A48.out).mono ?_); rintro e w57 ⟨rfl, hb⟩; refine ⟨_, rfl, ?_⟩; replace BK446 := blkb BK446 hb; replace BK447 := blkb BK447 hb; replace BK449 := blkb BK449 hb; replace HB := belb HB hb; (try clear hb); (try clear hb2); (try clear hk); (try clear hi); have hcz58_0 : w57.cell? ⟨gb449, 0, none⟩ = some (.int .u64 ((rd_T28 l1 x50_2).f0)) := bc BK449 0; have hcz58_1 : w57.cell? ⟨gb449, 1, none⟩ = some (.int .u32 ((rd_T28 l1 x50_2).f1)) := bc BK449 1; have hcz58_2 : w57.cell? ⟨gb449, 2, none⟩ = some (.int .u32 ((rd_T28 l1 x50_2).f2)) := bc BK449 2; have hfz58_0 := blk_frozen BK449.out 0; have hfz58_1 := blk_frozen BK449.out 1; have hfz58_2 := blk_frozen BK449.out 2; have hcz59_0 : w57.cell? ⟨gb446, 0, none⟩ = some (.int .u64 x447000_2) := bc BK446 0; have hcz59_1 : w57.cell? ⟨gb446, 1, none⟩ = some (.int .u32 x447001_2) := bc BK446 1; have hcz59_2 : w57.cell? ⟨gb446, 2, none⟩ = some (.int .u32 x447002_2) := bc BK446 2; have hfz59_0 := blk_frozen BK446.out 0; have hfz59_1 := blk_frozen BK446.out 1; have hfz59_2 := blk_frozen BK446.out 2; have hcz60_0 : w57.cell? ⟨gb447, 0, none⟩ = some (.int .u64 x448000_2) := bc BK447 0; have hcz60_1 : w57.cell? ⟨gb447, 1, none⟩ = some (.int .u32 x448001_2) := bc BK447 1; have hcz60_2 : w57.cell? ⟨gb447, 2, none⟩ = some (.int .u32 x448002_2) := bc BK447 2; have hfz60_0 := blk_frozen BK447.out 0; have hfz60_1 := blk_frozen BK447.out 1; have hfz60_2 := blk_frozen BK447.out 2) | ((with_reducible refine gate_callee (f := 15) rfl ?_); refine goesL_ (some 76) rfl rfl Tryz.func15 (by kernel_rfl) rfl #[.agg #[.int .u64 ((rd_T28 l1 x50_2).f0), .int .u32 ((rd_T28 l1 x50_2).f1), .int .u32 ((rd_T28 l1 x50_2).f2)], .agg #[.int .u64 x448000_2, .int .u32 x448001_2, .int .u32 x448002_2]] rfl argt ?_; (with_reducible refine (pos_Pos_Cmp.calls kj26 ((rd_T28 l1 x50_2).f0) ((rd_T28 l1 x50_2).f1) ((rd_T28 l1 x50_2).f2) x448000_2 x448001_2 x448002_2 t453 _ A50.out).mono ?_); rintro e w61 ⟨rfl, hb⟩; refine ⟨_, rfl, ?_⟩; replace BK446 := Aside0.mk (blk_below (g := gb446) (o := .cells #[.int .u64 ((rd_T28 l1 x50_2).f0), .int .u32 ((rd_T28 l1 x50_2).f1), .int .u32 ((rd_T28 l1 x50_2).f2)] 28 (0, 0)) (by (with_reducible repeat (first | refine blk_drewN ?_ _ | refine blk_drew ?_ | refine blk_alloc ?_ _)); refine blk_put (cs := #[.int .u64 ((rd_T28 l1 x50_2).f0), .int .u32 ((rd_T28 l1 x50_2).f1), .int .u32 x447002_2]) ?_ 2 _ rfl; (with_reducible repeat (first | refine blk_drewN ?_ _ | refine blk_drew ?_ | refine blk_alloc ?_ _)); refine blk_put (cs := #[.int .u64 ((rd_T28 l1 x50_2).f0), .int .u32 x447001_2, .int .u32 x447002_2]) ?_ 1 _ rfl; (with_reducible repeat (first | refine blk_drewN ?_ _ | refine blk_drew ?_ | refine blk_alloc ?_ _)); refine blk_put (cs := #[.int .u64 x447000_2, .int .u32 x447001_2, .int .u32 x447002_2]) ?_ 0 _ rfl; exact blkt BK446) hb); replace BK447 := Aside0.mk (blk_below (g := gb447) (o := .cells #[.int .u64 x448000_2, .int .u32 x448001_2, .int .u32 x448002_2] 28 (0, 0)) (by (with_reducible repeat (first | refine blk_drewN ?_ _ | refine blk_drew ?_ | refine blk_alloc ?_ _)); refine blk_far ?_ NB447_446.out _; (with_reducible repeat (first | refine blk_drewN ?_ _ | refine blk_drew ?_ | refine blk_alloc ?_ _)); refine blk_far ?_ NB447_446.out _; (with_reducible repeat (first | refine blk_drewN ?_ _ | refine blk_drew ?_ | refine blk_alloc ?_ _)); refine blk_far ?_ NB447_446.out _; exact blkt BK447) hb); replace BK449 := Aside0.mk (blk_below (g := gb449) (o := .cells #[.int .u64 ((rd_T28 l1 x50_2).f0), .int .u32 ((rd_T28 l1 x50_2).f1), .int .u32 ((rd_T28 l1 x50_2).f2)] 28 (0, 0)) (by (with_reducible repeat (first | refine blk_drewN ?_ _ | refine blk_drew ?_ | refine blk_alloc ?_ _)); refine blk_far ?_ NB449_446.out _; (with_reducible repeat (first | refine blk_drewN ?_ _ | refine blk_drew ?_ | refine blk_alloc ?_ _)); refine blk_far ?_ NB449_446.out _; (with_reducible repeat (first | refine blk_drewN ?_ _ | refine blk_drew ?_ | refine blk_alloc ?_ _)); refine blk_far ?_ NB449_446.out _; exact blkt BK449) hb); replace HB := belb HB hb; (try clear hb); (try clear hb2); (try clear hk); (try clear hi); have hcz62_0 : w61.cell? ⟨gb449, 0, none⟩ = some (.int .u64 ((rd_T28 l1 x50_2).f0)) := bc BK449 0; have hcz62_1 : w61.cell? ⟨gb449, 1, none⟩ = some (.int .u32 ((rd_T28 l1 x50_2).f1)) := bc BK449 1; have hcz62_2 : w61.cell? ⟨gb449, 2, none⟩ = some (.int .u32 ((rd_T28 l1 x50_2).f2)) := bc BK449 2; have hfz62_0 := blk_frozen BK449.out 0; have hfz62_1 := blk_frozen BK449.out 1; have hfz62_2 := blk_frozen BK449.out 2; have hcz63_0 : w61.cell? ⟨gb447, 0, none⟩ = some (.int .u64 x448000_2) := bc BK447 0; have hcz63_1 : w61.cell? ⟨gb447, 1, none⟩ = some (.int .u32 x448001_2) := bc BK447 1; have hcz63_2 : w61.cell? ⟨gb447, 2, none⟩ = some (.int .u32 x448002_2) := bc BK447 2; have hfz63_0 := blk_frozen BK447.out 0; have hfz63_1 := blk_frozen BK447.out 1; have hfz63_2 := blk_frozen BK447.out 2))
              go_roundg kj26
              case measure => have := HJ5.out; have := HK2.out; have := HJ26.out; omega
              case rel => exact ⟨(wrap64 (x50_2 + 1)), (((rd_T28 l1 x50_2).f0)), (((rd_T28 l1 x50_2).f1)), (((rd_T28 l1 x50_2).f2)), (((rd_T28 l1 x50_2).f0)), (((rd_T28 l1 x50_2).f1)), (((rd_T28 l1 x50_2).f2)), (by first | rfl | (simp; done) | (simp [*]; done)), H', ⟨by have := HJ5.out; have := HK2.out; have := HJ26.out; omega⟩, ⟨by (with_reducible repeat (first | refine blk_drewN ?_ _ | refine blk_drew ?_ | refine blk_alloc ?_ _)); refine blk_far ?_ NB446_447.out _; (with_reducible repeat (first | refine blk_drewN ?_ _ | refine blk_drew ?_ | refine blk_alloc ?_ _)); refine blk_far ?_ NB446_447.out _; (with_reducible repeat (first | refine blk_drewN ?_ _ | refine blk_drew ?_ | refine blk_alloc ?_ _)); refine blk_far ?_ NB446_447.out _; exact blkt BK446⟩, ⟨by (with_reducible repeat (first | refine blk_drewN ?_ _ | refine blk_drew ?_ | refine blk_alloc ?_ _)); refine blk_put (cs := #[.int .u64 ((rd_T28 l1 x50_2).f0), .int .u32 ((rd_T28 l1 x50_2).f1), .int .u32 x448002_2]) ?_ 2 _ rfl; (with_reducible repeat (first | refine blk_drewN ?_ _ | refine blk_drew ?_ | refine blk_alloc ?_ _)); refine blk_put (cs := #[.int .u64 ((rd_T28 l1 x50_2).f0), .int .u32 x448001_2, .int .u32 x448002_2]) ?_ 1 _ rfl; (with_reducible repeat (first | refine blk_drewN ?_ _ | refine blk_drew ?_ | refine blk_alloc ?_ _)); refine blk_put (cs := #[.int .u64 x448000_2, .int .u32 x448001_2, .int .u32 x448002_2]) ?_ 0 _ rfl; exact blkt BK447⟩, ⟨belt HB⟩⟩
             rw [if_neg c51] at H
             have c51b0 : decide (0 < t453) = false := decide_eq_false c51
             clear c51
             have H' := Aside0.mk H
             clear H
             have hnb64 := NB449_446.out
             have hnc64 := NB446_449.out
             have hnb65 := NB449_447.out
             have hnc65 := NB447_449.out
             have hcz66_0 : wc.cell? ⟨gb449, 0, none⟩ = some (.int .u64 ((rd_T28 l1 x50_2).f0)) := bc BK449 0
             have hcz66_1 : wc.cell? ⟨gb449, 1, none⟩ = some (.int .u32 ((rd_T28 l1 x50_2).f1)) := bc BK449 1
             have hcz66_2 : wc.cell? ⟨gb449, 2, none⟩ = some (.int .u32 ((rd_T28 l1 x50_2).f2)) := bc BK449 2
             have hfz66_0 := blk_frozen BK449.out 0
             have hfz66_1 := blk_frozen BK449.out 1
             have hfz66_2 := blk_frozen BK449.out 2
             have hnb67 := NB446_447.out
             have hnc67 := NB447_446.out
             have hcz68_0 : wc.cell? ⟨gb446, 0, none⟩ = some (.int .u64 x447000_2) := bc BK446 0
             have hcz68_1 : wc.cell? ⟨gb446, 1, none⟩ = some (.int .u32 x447001_2) := bc BK446 1
             have hcz68_2 : wc.cell? ⟨gb446, 2, none⟩ = some (.int .u32 x447002_2) := bc BK446 2
             have hfz68_0 := blk_frozen BK446.out 0
             have hfz68_1 := blk_frozen BK446.out 1
             have hfz68_2 := blk_frozen BK446.out 2
             go_wp2_with (first | ((with_reducible refine gate_callee (f := 15) rfl ?_); refine goesL_ (some 71) rfl rfl Tryz.func15 (by kernel_rfl) rfl #[.agg #[.int .u64 ((rd_T28 l1 x50_2).f0), .int .u32 ((rd_T28 l1 x50_2).f1), .int .u32 ((rd_T28 l1 x50_2).f2)], .agg #[.int .u64 x447000_2, .int .u32 x447001_2, .int .u32 x447002_2]] rfl argt ?_; (with_reducible refine (pos_Pos_Cmp.calls kj26 ((rd_T28 l1 x50_2).f0) ((rd_T28 l1 x50_2).f1) ((rd_T28 l1 x50_2).f2) x447000_2 x447001_2 x447002_2 t452 _ A48.out).mono ?_); rintro e w69 ⟨rfl, hb⟩; refine ⟨_, rfl, ?_⟩; replace BK446 := blkb BK446 hb; replace BK447 := blkb BK447 hb; replace BK449 := blkb BK449 hb; replace HB := belb HB hb; (try clear hb); (try clear hb2); (try clear hk); (try clear hi); have hcz70_0 : w69.cell? ⟨gb449, 0, none⟩ = some (.int .u64 ((rd_T28 l1 x50_2).f0)) := bc BK449 0; have hcz70_1 : w69.cell? ⟨gb449, 1, none⟩ = some (.int .u32 ((rd_T28 l1 x50_2).f1)) := bc BK449 1; have hcz70_2 : w69.cell? ⟨gb449, 2, none⟩ = some (.int .u32 ((rd_T28 l1 x50_2).f2)) := bc BK449 2; have hfz70_0 := blk_frozen BK449.out 0; have hfz70_1 := blk_frozen BK449.out 1; have hfz70_2 := blk_frozen BK449.out 2; have hcz71_0 : w69.cell? ⟨gb446, 0, none⟩ = some (.int .u64 x447000_2) := bc BK446 0; have hcz71_1 : w69.cell? ⟨gb446, 1, none⟩ = some (.int .u32 x447001_2) := bc BK446 1; have hcz71_2 : w69.cell? ⟨gb446, 2, none⟩ = some (.int .u32 x447002_2) := bc BK446 2; have hfz71_0 := blk_frozen BK446.out 0; have hfz71_1 := blk_frozen BK446.out 1; have hfz71_2 := blk_frozen BK446.out 2; have hcz72_0 : w69.cell? ⟨gb447, 0, none⟩ = some (.int .u64 x448000_2) := bc BK447 0; have hcz72_1 : w69.cell? ⟨gb447, 1, none⟩ = some (.int .u32 x448001_2) := bc BK447 1; have hcz72_2 : w69.cell? ⟨gb447, 2, none⟩ = some (.int .u32 x448002_2) := bc BK447 2; have hfz72_0 := blk_frozen BK447.out 0; have hfz72_1 := blk_frozen BK447.out 1; have hfz72_2 := blk_frozen BK447.out 2) | ((with_reducible refine gate_callee (f := 15) rfl ?_); refine goesL_ (some 76) rfl rfl Tryz.func15 (by kernel_rfl) rfl #[.agg #[.int .u64 ((rd_T28 l1 x50_2).f0), .int .u32 ((rd_T28 l1 x50_2).f1), .int .u32 ((rd_T28 l1 x50_2).f2)], .agg #[.int .u64 x448000_2, .int .u32 x448001_2, .int .u32 x448002_2]] rfl argt ?_; (with_reducible refine (pos_Pos_Cmp.calls kj26 ((rd_T28 l1 x50_2).f0) ((rd_T28 l1 x50_2).f1) ((rd_T28 l1 x50_2).f2) x448000_2 x448001_2 x448002_2 t453 _ A50.out).mono ?_); rintro e w73 ⟨rfl, hb⟩; refine ⟨_, rfl, ?_⟩; replace BK446 := Aside0.mk (blk_below (g := gb446) (o := .cells #[.int .u64 ((rd_T28 l1 x50_2).f0), .int .u32 ((rd_T28 l1 x50_2).f1), .int .u32 ((rd_T28 l1 x50_2).f2)] 28 (0, 0)) (by (with_reducible repeat (first | refine blk_drewN ?_ _ | refine blk_drew ?_ | refine blk_alloc ?_ _)); refine blk_put (cs := #[.int .u64 ((rd_T28 l1 x50_2).f0), .int .u32 ((rd_T28 l1 x50_2).f1), .int .u32 x447002_2]) ?_ 2 _ rfl; (with_reducible repeat (first | refine blk_drewN ?_ _ | refine blk_drew ?_ | refine blk_alloc ?_ _)); refine blk_put (cs := #[.int .u64 ((rd_T28 l1 x50_2).f0), .int .u32 x447001_2, .int .u32 x447002_2]) ?_ 1 _ rfl; (with_reducible repeat (first | refine blk_drewN ?_ _ | refine blk_drew ?_ | refine blk_alloc ?_ _)); refine blk_put (cs := #[.int .u64 x447000_2, .int .u32 x447001_2, .int .u32 x447002_2]) ?_ 0 _ rfl; exact blkt BK446) hb); replace BK447 := Aside0.mk (blk_below (g := gb447) (o := .cells #[.int .u64 x448000_2, .int .u32 x448001_2, .int .u32 x448002_2] 28 (0, 0)) (by (with_reducible repeat (first | refine blk_drewN ?_ _ | refine blk_drew ?_ | refine blk_alloc ?_ _)); refine blk_far ?_ NB447_446.out _; (with_reducible repeat (first | refine blk_drewN ?_ _ | refine blk_drew ?_ | refine blk_alloc ?_ _)); refine blk_far ?_ NB447_446.out _; (with_reducible repeat (first | refine blk_drewN ?_ _ | refine blk_drew ?_ | refine blk_alloc ?_ _)); refine blk_far ?_ NB447_446.out _; exact blkt BK447) hb); replace BK449 := Aside0.mk (blk_below (g := gb449) (o := .cells #[.int .u64 ((rd_T28 l1 x50_2).f0), .int .u32 ((rd_T28 l1 x50_2).f1), .int .u32 ((rd_T28 l1 x50_2).f2)] 28 (0, 0)) (by (with_reducible repeat (first | refine blk_drewN ?_ _ | refine blk_drew ?_ | refine blk_alloc ?_ _)); refine blk_far ?_ NB449_446.out _; (with_reducible repeat (first | refine blk_drewN ?_ _ | refine blk_drew ?_ | refine blk_alloc ?_ _)); refine blk_far ?_ NB449_446.out _; (with_reducible repeat (first | refine blk_drewN ?_ _ | refine blk_drew ?_ | refine blk_alloc ?_ _)); refine blk_far ?_ NB449_446.out _; exact blkt BK449) hb); replace HB := belb HB hb; (try clear hb); (try clear hb2); (try clear hk); (try clear hi)))
             go_roundg kj26
             case measure => have := HJ5.out; have := HK2.out; have := HJ26.out; omega
             case rel => exact ⟨(wrap64 (x50_2 + 1)), (((rd_T28 l1 x50_2).f0)), (((rd_T28 l1 x50_2).f1)), (((rd_T28 l1 x50_2).f2)), (x448000_2), (x448001_2), (x448002_2), (by first | rfl | (simp; done) | (simp [*]; done)), H', ⟨by have := HJ5.out; have := HK2.out; have := HJ26.out; omega⟩, ⟨blkt BK446⟩, ⟨blkt BK447⟩, ⟨belt HB⟩⟩
            rw [if_neg c49] at H
            have c49b0 : decide (t452 < 0) = false := decide_eq_false c49
            clear c49
            replace H := Option.bind_eq_some_iff.mp H
            obtain ⟨t454, A740, H⟩ := H
            replace H : (if t454 > 0 then (turnstonelaw08_MeanBetween.l0 kj26 l1 a2 a0 l1 (l1.length : Int) (wrap64 (x50_2 + 1)) x447000_2 x447001_2 x447002_2 ((rd_T28 l1 x50_2).f0) ((rd_T28 l1 x50_2).f1) ((rd_T28 l1 x50_2).f2)) else (turnstonelaw08_MeanBetween.l0 kj26 l1 a2 a0 l1 (l1.length : Int) (wrap64 (x50_2 + 1)) x447000_2 x447001_2 x447002_2 x448000_2 x448001_2 x448002_2)) = some r := H
            have A74 := Aside0.mk A740
            clear A740
            by_cases c75 : t454 > 0
            ·rw [if_pos c75] at H
             have c75b0 : decide (0 < t454) = true := decide_eq_true c75
             clear c75
             have H' := Aside0.mk H
             clear H
             have hnb76 := NB449_446.out
             have hnc76 := NB446_449.out
             have hnb77 := NB449_447.out
             have hnc77 := NB447_449.out
             have hcz78_0 : wc.cell? ⟨gb449, 0, none⟩ = some (.int .u64 ((rd_T28 l1 x50_2).f0)) := bc BK449 0
             have hcz78_1 : wc.cell? ⟨gb449, 1, none⟩ = some (.int .u32 ((rd_T28 l1 x50_2).f1)) := bc BK449 1
             have hcz78_2 : wc.cell? ⟨gb449, 2, none⟩ = some (.int .u32 ((rd_T28 l1 x50_2).f2)) := bc BK449 2
             have hfz78_0 := blk_frozen BK449.out 0
             have hfz78_1 := blk_frozen BK449.out 1
             have hfz78_2 := blk_frozen BK449.out 2
             have hnb79 := NB446_447.out
             have hnc79 := NB447_446.out
             have hcz80_0 : wc.cell? ⟨gb446, 0, none⟩ = some (.int .u64 x447000_2) := bc BK446 0
             have hcz80_1 : wc.cell? ⟨gb446, 1, none⟩ = some (.int .u32 x447001_2) := bc BK446 1
             have hcz80_2 : wc.cell? ⟨gb446, 2, none⟩ = some (.int .u32 x447002_2) := bc BK446 2
             have hfz80_0 := blk_frozen BK446.out 0
             have hfz80_1 := blk_frozen BK446.out 1
             have hfz80_2 := blk_frozen BK446.out 2
             go_wp2_with (first | ((with_reducible refine gate_callee (f := 15) rfl ?_); refine goesL_ (some 71) rfl rfl Tryz.func15 (by kernel_rfl) rfl #[.agg #[.int .u64 ((rd_T28 l1 x50_2).f0), .int .u32 ((rd_T28 l1 x50_2).f1), .int .u32 ((rd_T28 l1 x50_2).f2)], .agg #[.int .u64 x447000_2, .int .u32 x447001_2, .int .u32 x447002_2]] rfl argt ?_; (with_reducible refine (pos_Pos_Cmp.calls kj26 ((rd_T28 l1 x50_2).f0) ((rd_T28 l1 x50_2).f1) ((rd_T28 l1 x50_2).f2) x447000_2 x447001_2 x447002_2 t452 _ A48.out).mono ?_); rintro e w81 ⟨rfl, hb⟩; refine ⟨_, rfl, ?_⟩; replace BK446 := blkb BK446 hb; replace BK447 := blkb BK447 hb; replace BK449 := blkb BK449 hb; replace HB := belb HB hb; (try clear hb); (try clear hb2); (try clear hk); (try clear hi); have hcz82_0 : w81.cell? ⟨gb449, 0, none⟩ = some (.int .u64 ((rd_T28 l1 x50_2).f0)) := bc BK449 0; have hcz82_1 : w81.cell? ⟨gb449, 1, none⟩ = some (.int .u32 ((rd_T28 l1 x50_2).f1)) := bc BK449 1; have hcz82_2 : w81.cell? ⟨gb449, 2, none⟩ = some (.int .u32 ((rd_T28 l1 x50_2).f2)) := bc BK449 2; have hfz82_0 := blk_frozen BK449.out 0; have hfz82_1 := blk_frozen BK449.out 1; have hfz82_2 := blk_frozen BK449.out 2; have hcz83_0 : w81.cell? ⟨gb447, 0, none⟩ = some (.int .u64 x448000_2) := bc BK447 0; have hcz83_1 : w81.cell? ⟨gb447, 1, none⟩ = some (.int .u32 x448001_2) := bc BK447 1; have hcz83_2 : w81.cell? ⟨gb447, 2, none⟩ = some (.int .u32 x448002_2) := bc BK447 2; have hfz83_0 := blk_frozen BK447.out 0; have hfz83_1 := blk_frozen BK447.out 1; have hfz83_2 := blk_frozen BK447.out 2) | ((with_reducible refine gate_callee (f := 15) rfl ?_); refine goesL_ (some 76) rfl rfl Tryz.func15 (by kernel_rfl) rfl #[.agg #[.int .u64 ((rd_T28 l1 x50_2).f0), .int .u32 ((rd_T28 l1 x50_2).f1), .int .u32 ((rd_T28 l1 x50_2).f2)], .agg #[.int .u64 x448000_2, .int .u32 x448001_2, .int .u32 x448002_2]] rfl argt ?_; (with_reducible refine (pos_Pos_Cmp.calls kj26 ((rd_T28 l1 x50_2).f0) ((rd_T28 l1 x50_2).f1) ((rd_T28 l1 x50_2).f2) x448000_2 x448001_2 x448002_2 t454 _ A74.out).mono ?_); rintro e w84 ⟨rfl, hb⟩; refine ⟨_, rfl, ?_⟩; replace BK446 := blkb BK446 hb; replace BK447 := blkb BK447 hb; replace BK449 := blkb BK449 hb; replace HB := belb HB hb; (try clear hb); (try clear hb2); (try clear hk); (try clear hi); have hcz85_0 : w84.cell? ⟨gb449, 0, none⟩ = some (.int .u64 ((rd_T28 l1 x50_2).f0)) := bc BK449 0; have hcz85_1 : w84.cell? ⟨gb449, 1, none⟩ = some (.int .u32 ((rd_T28 l1 x50_2).f1)) := bc BK449 1; have hcz85_2 : w84.cell? ⟨gb449, 2, none⟩ = some (.int .u32 ((rd_T28 l1 x50_2).f2)) := bc BK449 2; have hfz85_0 := blk_frozen BK449.out 0; have hfz85_1 := blk_frozen BK449.out 1; have hfz85_2 := blk_frozen BK449.out 2; have hcz86_0 : w84.cell? ⟨gb447, 0, none⟩ = some (.int .u64 x448000_2) := bc BK447 0; have hcz86_1 : w84.cell? ⟨gb447, 1, none⟩ = some (.int .u32 x448001_2) := bc BK447 1; have hcz86_2 : w84.cell? ⟨gb447, 2, none⟩ = some (.int .u32 x448002_2) := bc BK447 2; have hfz86_0 := blk_frozen BK447.out 0; have hfz86_1 := blk_frozen BK447.out 1; have hfz86_2 := blk_frozen BK447.out 2))
             go_roundg kj26
             case measure => have := HJ5.out; have := HK2.out; have := HJ26.out; omega
             case rel => exact ⟨(wrap64 (x50_2 + 1)), (x447000_2), (x447001_2), (x447002_2), (((rd_T28 l1 x50_2).f0)), (((rd_T28 l1 x50_2).f1)), (((rd_T28 l1 x50_2).f2)), (by first | rfl | (simp; done) | (simp [*]; done)), H', ⟨by have := HJ5.out; have := HK2.out; have := HJ26.out; omega⟩, ⟨by (with_reducible repeat (first | refine blk_drewN ?_ _ | refine blk_drew ?_ | refine blk_alloc ?_ _)); refine blk_far ?_ NB446_447.out _; (with_reducible repeat (first | refine blk_drewN ?_ _ | refine blk_drew ?_ | refine blk_alloc ?_ _)); refine blk_far ?_ NB446_447.out _; (with_reducible repeat (first | refine blk_drewN ?_ _ | refine blk_drew ?_ | refine blk_alloc ?_ _)); refine blk_far ?_ NB446_447.out _; exact blkt BK446⟩, ⟨by (with_reducible repeat (first | refine blk_drewN ?_ _ | refine blk_drew ?_ | refine blk_alloc ?_ _)); refine blk_put (cs := #[.int .u64 ((rd_T28 l1 x50_2).f0), .int .u32 ((rd_T28 l1 x50_2).f1), .int .u32 x448002_2]) ?_ 2 _ rfl; (with_reducible repeat (first | refine blk_drewN ?_ _ | refine blk_drew ?_ | refine blk_alloc ?_ _)); refine blk_put (cs := #[.int .u64 ((rd_T28 l1 x50_2).f0), .int .u32 x448001_2, .int .u32 x448002_2]) ?_ 1 _ rfl; (with_reducible repeat (first | refine blk_drewN ?_ _ | refine blk_drew ?_ | refine blk_alloc ?_ _)); refine blk_put (cs := #[.int .u64 x448000_2, .int .u32 x448001_2, .int .u32 x448002_2]) ?_ 0 _ rfl; exact blkt BK447⟩, ⟨belt HB⟩⟩
            rw [if_neg c75] at H
            have c75b0 : decide (0 < t454) = false := decide_eq_false c75
            clear c75
            have H' := Aside0.mk H
            clear H
            have hnb87 := NB449_446.out
            have hnc87 := NB446_449.out
            have hnb88 := NB449_447.out
            have hnc88 := NB447_449.out
            have hcz89_0 : wc.cell? ⟨gb449, 0, none⟩ = some (.int .u64 ((rd_T28 l1 x50_2).f0)) := bc BK449 0
            have hcz89_1 : wc.cell? ⟨gb449, 1, none⟩ = some (.int .u32 ((rd_T28 l1 x50_2).f1)) := bc BK449 1
            have hcz89_2 : wc.cell? ⟨gb449, 2, none⟩ = some (.int .u32 ((rd_T28 l1 x50_2).f2)) := bc BK449 2
            have hfz89_0 := blk_frozen BK449.out 0
            have hfz89_1 := blk_frozen BK449.out 1
            have hfz89_2 := blk_frozen BK449.out 2
            have hnb90 := NB446_447.out
            have hnc90 := NB447_446.out
            have hcz91_0 : wc.cell? ⟨gb446, 0, none⟩ = some (.int .u64 x447000_2) := bc BK446 0
            have hcz91_1 : wc.cell? ⟨gb446, 1, none⟩ = some (.int .u32 x447001_2) := bc BK446 1
            have hcz91_2 : wc.cell? ⟨gb446, 2, none⟩ = some (.int .u32 x447002_2) := bc BK446 2
            have hfz91_0 := blk_frozen BK446.out 0
            have hfz91_1 := blk_frozen BK446.out 1
            have hfz91_2 := blk_frozen BK446.out 2
            go_wp2_with (first | ((with_reducible refine gate_callee (f := 15) rfl ?_); refine goesL_ (some 71) rfl rfl Tryz.func15 (by kernel_rfl) rfl #[.agg #[.int .u64 ((rd_T28 l1 x50_2).f0), .int .u32 ((rd_T28 l1 x50_2).f1), .int .u32 ((rd_T28 l1 x50_2).f2)], .agg #[.int .u64 x447000_2, .int .u32 x447001_2, .int .u32 x447002_2]] rfl argt ?_; (with_reducible refine (pos_Pos_Cmp.calls kj26 ((rd_T28 l1 x50_2).f0) ((rd_T28 l1 x50_2).f1) ((rd_T28 l1 x50_2).f2) x447000_2 x447001_2 x447002_2 t452 _ A48.out).mono ?_); rintro e w92 ⟨rfl, hb⟩; refine ⟨_, rfl, ?_⟩; replace BK446 := blkb BK446 hb; replace BK447 := blkb BK447 hb; replace BK449 := blkb BK449 hb; replace HB := belb HB hb; (try clear hb); (try clear hb2); (try clear hk); (try clear hi); have hcz93_0 : w92.cell? ⟨gb449, 0, none⟩ = some (.int .u64 ((rd_T28 l1 x50_2).f0)) := bc BK449 0; have hcz93_1 : w92.cell? ⟨gb449, 1, none⟩ = some (.int .u32 ((rd_T28 l1 x50_2).f1)) := bc BK449 1; have hcz93_2 : w92.cell? ⟨gb449, 2, none⟩ = some (.int .u32 ((rd_T28 l1 x50_2).f2)) := bc BK449 2; have hfz93_0 := blk_frozen BK449.out 0; have hfz93_1 := blk_frozen BK449.out 1; have hfz93_2 := blk_frozen BK449.out 2; have hcz94_0 : w92.cell? ⟨gb447, 0, none⟩ = some (.int .u64 x448000_2) := bc BK447 0; have hcz94_1 : w92.cell? ⟨gb447, 1, none⟩ = some (.int .u32 x448001_2) := bc BK447 1; have hcz94_2 : w92.cell? ⟨gb447, 2, none⟩ = some (.int .u32 x448002_2) := bc BK447 2; have hfz94_0 := blk_frozen BK447.out 0; have hfz94_1 := blk_frozen BK447.out 1; have hfz94_2 := blk_frozen BK447.out 2) | ((with_reducible refine gate_callee (f := 15) rfl ?_); refine goesL_ (some 76) rfl rfl Tryz.func15 (by kernel_rfl) rfl #[.agg #[.int .u64 ((rd_T28 l1 x50_2).f0), .int .u32 ((rd_T28 l1 x50_2).f1), .int .u32 ((rd_T28 l1 x50_2).f2)], .agg #[.int .u64 x448000_2, .int .u32 x448001_2, .int .u32 x448002_2]] rfl argt ?_; (with_reducible refine (pos_Pos_Cmp.calls kj26 ((rd_T28 l1 x50_2).f0) ((rd_T28 l1 x50_2).f1) ((rd_T28 l1 x50_2).f2) x448000_2 x448001_2 x448002_2 t454 _ A74.out).mono ?_); rintro e w95 ⟨rfl, hb⟩; refine ⟨_, rfl, ?_⟩; replace BK446 := blkb BK446 hb; replace BK447 := blkb BK447 hb; replace BK449 := blkb BK449 hb; replace HB := belb HB hb; (try clear hb); (try clear hb2); (try clear hk); (try clear hi)))
            go_roundg kj26
            case measure => have := HJ5.out; have := HK2.out; have := HJ26.out; omega
            case rel => exact ⟨(wrap64 (x50_2 + 1)), (x447000_2), (x447001_2), (x447002_2), (x448000_2), (x448001_2), (x448002_2), (by first | rfl | (simp; done) | (simp [*]; done)), H', ⟨by have := HJ5.out; have := HK2.out; have := HJ26.out; omega⟩, ⟨blkt BK446⟩, ⟨blkt BK447⟩, ⟨belt HB⟩⟩
         rw [if_neg c25] at H
         exact absurd H (by simp)
        rw [if_neg c24] at H
        exact absurd H (by simp)
       rw [if_neg c23] at H
       have c23b0 : decide (x50_2 < (l1.length : Int)) = false := decide_eq_false c23
       clear c23
       replace H := Option.bind_eq_some_iff.mp H
       obtain ⟨⟨t455, t456, t457, t458, t459, t460⟩, A960, H⟩ := H
       replace H : ((vtime_Time_Add.f a0 a2).bind fun t462 => ((mean_Of.f k2 t462 l1).bind fun bt463 => ((vtime_Time_Add.f a0 a2).bind fun t470 => ((mean_Mean_Rebase.f k2 t455 t456 t457 t458 t459 t470).bind fun bt471 => ((mean_Mean_Floor.f k2 t455 t456 t457 t458 t459).bind fun bt478 => ((mean_Mean_Floor.f k2 bt463.1 bt463.2.1 bt463.2.2.1 bt463.2.2.2.1 bt463.2.2.2.2.1).bind fun bt480 => (if t460 = true then (if bt463.2.2.2.2.2 = true then (if bt471.2.2.2.2.2 = true then (if bt478.2 = true then (if bt480.2 = true then (if (bt471.1 == bt463.1 && ((bt471.2.1 == bt463.2.1 && (bt471.2.2.1 == bt463.2.2.1)) && (bt471.2.2.2.1 == bt463.2.2.2.1 && (bt471.2.2.2.2.1 == bt463.2.2.2.2.1)))) = true then (if bt478.1 = bt480.1 then ((vtime_Time_Before.f bt478.1 x447000_2).bind fun t482 => (if t482 = true then (none) else ((vtime_Time_Before.f x448000_2 bt478.1).bind fun t483 => (some (!t483))))) else (none)) else (none)) else (none)) else (none)) else (none)) else (none)) else (none)))))))) = some r := H
       have A96 := Aside0.mk A960
       clear A960
       replace H := Option.bind_eq_some_iff.mp H
       obtain ⟨t462, A970, H⟩ := H
       replace H : ((mean_Of.f k2 t462 l1).bind fun bt463 => ((vtime_Time_Add.f a0 a2).bind fun t470 => ((mean_Mean_Rebase.f k2 t455 t456 t457 t458 t459 t470).bind fun bt471 => ((mean_Mean_Floor.f k2 t455 t456 t457 t458 t459).bind fun bt478 => ((mean_Mean_Floor.f k2 bt463.1 bt463.2.1 bt463.2.2.1 bt463.2.2.2.1 bt463.2.2.2.2.1).bind fun bt480 => (if t460 = true then (if bt463.2.2.2.2.2 = true then (if bt471.2.2.2.2.2 = true then (if bt478.2 = true then (if bt480.2 = true then (if (bt471.1 == bt463.1 && ((bt471.2.1 == bt463.2.1 && (bt471.2.2.1 == bt463.2.2.1)) && (bt471.2.2.2.1 == bt463.2.2.2.1 && (bt471.2.2.2.2.1 == bt463.2.2.2.2.1)))) = true then (if bt478.1 = bt480.1 then ((vtime_Time_Before.f bt478.1 x447000_2).bind fun t482 => (if t482 = true then (none) else ((vtime_Time_Before.f x448000_2 bt478.1).bind fun t483 => (some (!t483))))) else (none)) else (none)) else (none)) else (none)) else (none)) else (none)) else (none))))))) = some r := H
       have A97 := Aside0.mk A970
       clear A970
       replace H := Option.bind_eq_some_iff.mp H
       obtain ⟨⟨t463, t464, t465, t466, t467, t468⟩, A980, H⟩ := H
       replace H : ((vtime_Time_Add.f a0 a2).bind fun t470 => ((mean_Mean_Rebase.f k2 t455 t456 t457 t458 t459 t470).bind fun bt471 => ((mean_Mean_Floor.f k2 t455 t456 t457 t458 t459).bind fun bt478 => ((mean_Mean_Floor.f k2 t463 t464 t465 t466 t467).bind fun bt480 => (if t460 = true then (if t468 = true then (if bt471.2.2.2.2.2 = true then (if bt478.2 = true then (if bt480.2 = true then (if (bt471.1 == t463 && ((bt471.2.1 == t464 && (bt471.2.2.1 == t465)) && (bt471.2.2.2.1 == t466 && (bt471.2.2.2.2.1 == t467)))) = true then (if bt478.1 = bt480.1 then ((vtime_Time_Before.f bt478.1 x447000_2).bind fun t482 => (if t482 = true then (none) else ((vtime_Time_Before.f x448000_2 bt478.1).bind fun t483 => (some (!t483))))) else (none)) else (none)) else (none)) else (none)) else (none)) else (none)) else (none)))))) = some r := H
       have A98 := Aside0.mk A980
       clear A980
       replace H := Option.bind_eq_some_iff.mp H
       obtain ⟨t470, A990, H⟩ := H
       replace H : ((mean_Mean_Rebase.f k2 t455 t456 t457 t458 t459 t470).bind fun bt471 => ((mean_Mean_Floor.f k2 t455 t456 t457 t458 t459).bind fun bt478 => ((mean_Mean_Floor.f k2 t463 t464 t465 t466 t467).bind fun bt480 => (if t460 = true then (if t468 = true then (if bt471.2.2.2.2.2 = true then (if bt478.2 = true then (if bt480.2 = true then (if (bt471.1 == t463 && ((bt471.2.1 == t464 && (bt471.2.2.1 == t465)) && (bt471.2.2.2.1 == t466 && (bt471.2.2.2.2.1 == t467)))) = true then (if bt478.1 = bt480.1 then ((vtime_Time_Before.f bt478.1 x447000_2).bind fun t482 => (if t482 = true then (none) else ((vtime_Time_Before.f x448000_2 bt478.1).bind fun t483 => (some (!t483))))) else (none)) else (none)) else (none)) else (none)) else (none)) else (none)) else (none))))) = some r := H
       have A99 := Aside0.mk A990
       clear A990
       replace H := Option.bind_eq_some_iff.mp H
       obtain ⟨⟨t471, t472, t473, t474, t475, t476⟩, A1000, H⟩ := H
       replace H : ((mean_Mean_Floor.f k2 t455 t456 t457 t458 t459).bind fun bt478 => ((mean_Mean_Floor.f k2 t463 t464 t465 t466 t467).bind fun bt480 => (if t460 = true then (if t468 = true then (if t476 = true then (if bt478.2 = true then (if bt480.2 = true then (if (t471 == t463 && ((t472 == t464 && (t473 == t465)) && (t474 == t466 && (t475 == t467)))) = true then (if bt478.1 = bt480.1 then ((vtime_Time_Before.f bt478.1 x447000_2).bind fun t482 => (if t482 = true then (none) else ((vtime_Time_Before.f x448000_2 bt478.1).bind fun t483 => (some (!t483))))) else (none)) else (none)) else (none)) else (none)) else (none)) else (none)) else (none)))) = some r := H
       have A100 := Aside0.mk A1000
       clear A1000
       replace H := Option.bind_eq_some_iff.mp H
       obtain ⟨⟨t478, t479⟩, A1010, H⟩ := H
       replace H : ((mean_Mean_Floor.f k2 t463 t464 t465 t466 t467).bind fun bt480 => (if t460 = true then (if t468 = true then (if t476 = true then (if t479 = true then (if bt480.2 = true then (if (t471 == t463 && ((t472 == t464 && (t473 == t465)) && (t474 == t466 && (t475 == t467)))) = true then (if t478 = bt480.1 then ((vtime_Time_Before.f t478 x447000_2).bind fun t482 => (if t482 = true then (none) else ((vtime_Time_Before.f x448000_2 t478).bind fun t483 => (some (!t483))))) else (none)) else (none)) else (none)) else (none)) else (none)) else (none)) else (none))) = some r := H
       have A101 := Aside0.mk A1010
       clear A1010
       replace H := Option.bind_eq_some_iff.mp H
       obtain ⟨⟨t480, t481⟩, A1020, H⟩ := H
       replace H : (if t460 = true then (if t468 = true then (if t476 = true then (if t479 = true then (if t481 = true then (if (t471 == t463 && ((t472 == t464 && (t473 == t465)) && (t474 == t466 && (t475 == t467)))) = true then (if t478 = t480 then ((vtime_Time_Before.f t478 x447000_2).bind fun t482 => (if t482 = true then (none) else ((vtime_Time_Before.f x448000_2 t478).bind fun t483 => (some (!t483))))) else (none)) else (none)) else (none)) else (none)) else (none)) else (none)) else (none)) = some r := H
       have A102 := Aside0.mk A1020
       clear A1020
       by_cases c103 : t460 = true
       ·subst c103
        have H1 : (if t468 = true then (if t476 = true then (if t479 = true then (if t481 = true then (if (t471 == t463 && ((t472 == t464 && (t473 == t465)) && (t474 == t466 && (t475 == t467)))) = true then (if t478 = t480 then ((vtime_Time_Before.f t478 x447000_2).bind fun t482 => (if t482 = true then (none) else ((vtime_Time_Before.f x448000_2 t478).bind fun t483 => (some (!t483))))) else (none)) else (none)) else (none)) else (none)) else (none)) else (none)) = some r := by rw [if_pos rfl] at H; exact H
        clear H
        have H := H1
        clear H1
        by_cases c104 : t468 = true
        ·subst c104
         have H1 : (if t476 = true then (if t479 = true then (if t481 = true then (if (t471 == t463 && ((t472 == t464 && (t473 == t465)) && (t474 == t466 && (t475 == t467)))) = true then (if t478 = t480 then ((vtime_Time_Before.f t478 x447000_2).bind fun t482 => (if t482 = true then (none) else ((vtime_Time_Before.f x448000_2 t478).bind fun t483 => (some (!t483))))) else (none)) else (none)) else (none)) else (none)) else (none)) = some r := by rw [if_pos rfl] at H; exact H
         clear H
         have H := H1
         clear H1
         by_cases c105 : t476 = true
         ·subst c105
          have H1 : (if t479 = true then (if t481 = true then (if (t471 == t463 && ((t472 == t464 && (t473 == t465)) && (t474 == t466 && (t475 == t467)))) = true then (if t478 = t480 then ((vtime_Time_Before.f t478 x447000_2).bind fun t482 => (if t482 = true then (none) else ((vtime_Time_Before.f x448000_2 t478).bind fun t483 => (some (!t483))))) else (none)) else (none)) else (none)) else (none)) = some r := by rw [if_pos rfl] at H; exact H
          clear H
          have H := H1
          clear H1
          by_cases c106 : t479 = true
          ·subst c106
           have H1 : (if t481 = true then (if (t471 == t463 && ((t472 == t464 && (t473 == t465)) && (t474 == t466 && (t475 == t467)))) = true then (if t478 = t480 then ((vtime_Time_Before.f t478 x447000_2).bind fun t482 => (if t482 = true then (none) else ((vtime_Time_Before.f x448000_2 t478).bind fun t483 => (some (!t483))))) else (none)) else (none)) else (none)) = some r := by rw [if_pos rfl] at H; exact H
           clear H
           have H := H1
           clear H1
           by_cases c107 : t481 = true
           ·subst c107
            have H1 : (if (t471 == t463 && ((t472 == t464 && (t473 == t465)) && (t474 == t466 && (t475 == t467)))) = true then (if t478 = t480 then ((vtime_Time_Before.f t478 x447000_2).bind fun t482 => (if t482 = true then (none) else ((vtime_Time_Before.f x448000_2 t478).bind fun t483 => (some (!t483))))) else (none)) else (none)) = some r := by rw [if_pos rfl] at H; exact H
            clear H
            have H := H1
            clear H1
            by_cases c108 : (t471 == t463 && ((t472 == t464 && (t473 == t465)) && (t474 == t466 && (t475 == t467)))) = true
            ·rw [if_pos c108] at H
             have c108b0 : (t471 == t463 && ((t472 == t464 && (t473 == t465)) && (t474 == t466 && (t475 == t467)))) = true := c108
             (try (have c108b1 : decide (t471 = t463 && ((t472 == t464 && (t473 == t465)) && (t474 == t466 && (t475 == t467)))) = true := by simpa using c108))
             (try (have c108b2 : (t471 == t463 && ((t472 == t464 && (t473 == t465)) && (t474 == t466 && (t475 == t467)))) = true := by simpa using c108))
             clear c108
             by_cases c109 : t478 = t480
             ·rw [if_pos c109] at H
              have c109b0 : (t478 == t480) = true := beq_iff_eq.mpr c109
              have c109b1 : (t478 != t480) = false := bne_eq_false_iff_eq.mpr c109
              clear c109
              replace H := Option.bind_eq_some_iff.mp H
              obtain ⟨t482, A1100, H⟩ := H
              replace H : (if t482 = true then (none) else ((vtime_Time_Before.f x448000_2 t478).bind fun t483 => (some (!t483)))) = some r := H
              have A110 := Aside0.mk A1100
              clear A1100
              by_cases c111 : t482 = true
              ·subst c111
               have H1 : (none) = some r := by rw [if_pos rfl] at H; exact H
               clear H
               have H := H1
               clear H1
               exact absurd H (by simp)
              replace c111 := Bool.eq_false_iff.mpr c111
              subst c111
              have H1 : ((vtime_Time_Before.f x448000_2 t478).bind fun t483 => (some (!t483))) = some r := by rw [if_neg (show ¬ (false = true) by decide)] at H; exact H
              clear H
              have H := H1
              clear H1
              replace H := Option.bind_eq_some_iff.mp H
              obtain ⟨t483, A1120, H⟩ := H
              replace H : (some (!t483)) = some r := H
              have A112 := Aside0.mk A1120
              clear A1120
              obtain rfl := Option.some.inj H
              try go_wp2_with (first | ((with_reducible refine gate_callee (f := 11) rfl ?_); refine goesL_ (some 83) rfl rfl Tryz.func11 (by kernel_rfl) rfl #[.int .u64 a0, .slice (some ad444) l1.length c1] rfl argt ?_; (with_reducible refine (mean_Of.calls k2 a0 _ _ l1 t455 t456 t457 t458 t459 true _ ?side1 ?side2 A96.out).mono ?_); (case side1 => exact (ct (Kd.C_below HR1.out HB.out))); (case side2 => exact HC1.out); rintro e w113 ⟨rfl, hb⟩; refine ⟨_, rfl, ?_⟩; replace BK446 := blkb BK446 hb; replace BK447 := blkb BK447 hb; replace HB := belb HB hb; (try clear hb); (try clear hb2); (try clear hk); (try clear hi)) | ((with_reducible refine gate_dst (N := 13) rfl ?_); (try (refine gate_guard (by rfl) ?_; dsimp only)); refine box_event ?hg (N := 13) ?hd (cs := #[.int .u64 0, .int .i64 0, .int .u64 0, .int .u64 0, .int .i64 0]) (t := 33) ?hr ?_; (case hd => rfl); (case hg => rfl); (case hr => first | (go_simp; done) | (go_simp; rfl)); intro gb461 hg w114 hbox hb; have BK461 := Aside0.mk (hbox); have GW461 := bels HB hg; have GE461 := bels HB hg; have NB446_461 := blkl BK446 hg; have NB461_446 := blkg BK446 hg; have NB447_461 := blkl BK447 hg; have NB461_447 := blkg BK447 hg; replace BK446 := blkb BK446 hb; replace BK447 := blkb BK447 hb; replace HB := belb HB hb; clear hb hbox hg; have hnb115 := NB461_446.out; have hnc115 := NB446_461.out; have hnb116 := NB461_447.out; have hnc116 := NB447_461.out; have hcz117_0 : w114.cell? ⟨gb461, 0, none⟩ = some (.int .u64 0) := bc BK461 0; have hcz117_1 : w114.cell? ⟨gb461, 1, none⟩ = some (.int .i64 0) := bc BK461 1; have hcz117_2 : w114.cell? ⟨gb461, 2, none⟩ = some (.int .u64 0) := bc BK461 2; have hcz117_3 : w114.cell? ⟨gb461, 3, none⟩ = some (.int .u64 0) := bc BK461 3; have hcz117_4 : w114.cell? ⟨gb461, 4, none⟩ = some (.int .i64 0) := bc BK461 4; have hfz117_0 := blk_frozen BK461.out 0; have hfz117_1 := blk_frozen BK461.out 1; have hfz117_2 := blk_frozen BK461.out 2; have hfz117_3 := blk_frozen BK461.out 3; have hfz117_4 := blk_frozen BK461.out 4) | ((with_reducible refine gate_callee (f := 16) rfl ?_); refine goesL_ (some 89) rfl rfl Tryz.func16 (by kernel_rfl) rfl #[.int .u64 a0, .int .i64 a2] rfl argt ?_; (with_reducible refine (vtime_Time_Add.calls a0 a2 t462 _ A97.out).mono ?_); rintro e w' ⟨rfl, ⟨nd, rfl⟩⟩; refine ⟨_, rfl, ?_⟩) | ((with_reducible refine gate_callee (f := 11) rfl ?_); refine goesL_ (some 91) rfl rfl Tryz.func11 (by kernel_rfl) rfl #[.int .u64 t462, .slice (some ad444) l1.length c1] rfl argt ?_; (with_reducible refine (mean_Of.calls k2 t462 _ _ l1 t463 t464 t465 t466 t467 true _ ?side1 ?side2 A98.out).mono ?_); (case side1 => exact Kd.C_below HR1.out (belt HB)); (case side2 => exact HC1.out); rintro e w118 ⟨rfl, hb⟩; refine ⟨_, rfl, ?_⟩; replace BK446 := Aside0.mk (blk_below (g := gb446) (o := .cells #[.int .u64 x447000_2, .int .u32 x447001_2, .int .u32 x447002_2] 28 (0, 0)) (by (with_reducible repeat (first | refine blk_drewN ?_ _ | refine blk_drew ?_ | refine blk_alloc ?_ _)); refine blk_far ?_ NB446_461.out _; (with_reducible repeat (first | refine blk_drewN ?_ _ | refine blk_drew ?_ | refine blk_alloc ?_ _)); refine blk_far ?_ NB446_461.out _; (with_reducible repeat (first | refine blk_drewN ?_ _ | refine blk_drew ?_ | refine blk_alloc ?_ _)); refine blk_far ?_ NB446_461.out _; (with_reducible repeat (first | refine blk_drewN ?_ _ | refine blk_drew ?_ | refine blk_alloc ?_ _)); refine blk_far ?_ NB446_461.out _; (with_reducible repeat (first | refine blk_drewN ?_ _ | refine blk_drew ?_ | refine blk_alloc ?_ _)); refine blk_far ?_ NB446_461.out _; exact blkt BK446) hb); replace BK447 := Aside0.mk (blk_below (g := gb447) (o := .cells #[.int .u64 x448000_2, .int .u32 x448001_2, .int .u32 x448002_2] 28 (0, 0)) (by (with_reducible repeat (first | refine blk_drewN ?_ _ | refine blk_drew ?_ | refine blk_alloc ?_ _)); refine blk_far ?_ NB447_461.out _; (with_reducible repeat (first | refine blk_drewN ?_ _ | refine blk_drew ?_ | refine blk_alloc ?_ _)); refine blk_far ?_ NB447_461.out _; (with_reducible repeat (first | refine blk_drewN ?_ _ | refine blk_drew ?_ | refine blk_alloc ?_ _)); refine blk_far ?_ NB447_461.out _; (with_reducible repeat (first | refine blk_drewN ?_ _ | refine blk_drew ?_ | refine blk_alloc ?_ _)); refine blk_far ?_ NB447_461.out _; (with_reducible repeat (first | refine blk_drewN ?_ _ | refine blk_drew ?_ | refine blk_alloc ?_ _)); refine blk_far ?_ NB447_461.out _; exact blkt BK447) hb); replace BK461 := Aside0.mk (blk_below (g := gb461) (o := .cells #[.int .u64 t455, .int .i64 t456, .int .u64 t457, .int .u64 t458, .int .i64 t459] 33 (0, 0)) (by (with_reducible repeat (first | refine blk_drewN ?_ _ | refine blk_drew ?_ | refine blk_alloc ?_ _)); refine blk_put (cs := #[.int .u64 t455, .int .i64 t456, .int .u64 t457, .int .u64 t458, .int .i64 0]) ?_ 4 _ rfl; (with_reducible repeat (first | refine blk_drewN ?_ _ | refine blk_drew ?_ | refine blk_alloc ?_ _)); refine blk_put (cs := #[.int .u64 t455, .int .i64 t456, .int .u64 t457, .int .u64 0, .int .i64 0]) ?_ 3 _ rfl; (with_reducible repeat (first | refine blk_drewN ?_ _ | refine blk_drew ?_ | refine blk_alloc ?_ _)); refine blk_put (cs := #[.int .u64 t455, .int .i64 t456, .int .u64 0, .int .u64 0, .int .i64 0]) ?_ 2 _ rfl; (with_reducible repeat (first | refine blk_drewN ?_ _ | refine blk_drew ?_ | refine blk_alloc ?_ _)); refine blk_put (cs := #[.int .u64 t455, .int .i64 0, .int .u64 0, .int .u64 0, .int .i64 0]) ?_ 1 _ rfl; (with_reducible repeat (first | refine blk_drewN ?_ _ | refine blk_drew ?_ | refine blk_alloc ?_ _)); refine blk_put (cs := #[.int .u64 0, .int .i64 0, .int .u64 0, .int .u64 0, .int .i64 0]) ?_ 0 _ rfl; exact blkt BK461) hb); replace HB := belb HB hb; (try clear hb); (try clear hb2); (try clear hk); (try clear hi)) | ((with_reducible refine gate_dst (N := 15) rfl ?_); (try (refine gate_guard (by rfl) ?_; dsimp only)); refine box_event ?hg (N := 15) ?hd (cs := #[.int .u64 0, .int .i64 0, .int .u64 0, .int .u64 0, .int .i64 0]) (t := 33) ?hr ?_; (case hd => rfl); (case hg => rfl); (case hr => first | (go_simp; done) | (go_simp; rfl)); intro gb469 hg w119 hbox hb; have BK469 := Aside0.mk (hbox); have GW469 := bels HB hg; have GE469 := bels HB hg; have NB446_469 := blkl BK446 hg; have NB469_446 := blkg BK446 hg; have NB447_469 := blkl BK447 hg; have NB469_447 := blkg BK447 hg; have NB461_469 := blkl BK461 hg; have NB469_461 := blkg BK461 hg; replace BK446 := blkb BK446 hb; replace BK447 := blkb BK447 hb; replace BK461 := blkb BK461 hb; replace HB := belb HB hb; clear hb hbox hg; have hnb120 := NB469_446.out; have hnc120 := NB446_469.out; have hnb121 := NB469_447.out; have hnc121 := NB447_469.out; have hnb122 := NB469_461.out; have hnc122 := NB461_469.out; have hcz123_0 : w119.cell? ⟨gb469, 0, none⟩ = some (.int .u64 0) := bc BK469 0; have hcz123_1 : w119.cell? ⟨gb469, 1, none⟩ = some (.int .i64 0) := bc BK469 1; have hcz123_2 : w119.cell? ⟨gb469, 2, none⟩ = some (.int .u64 0) := bc BK469 2; have hcz123_3 : w119.cell? ⟨gb469, 3, none⟩ = some (.int .u64 0) := bc BK469 3; have hcz123_4 : w119.cell? ⟨gb469, 4, none⟩ = some (.int .i64 0) := bc BK469 4; have hfz123_0 := blk_frozen BK469.out 0; have hfz123_1 := blk_frozen BK469.out 1; have hfz123_2 := blk_frozen BK469.out 2; have hfz123_3 := blk_frozen BK469.out 3; have hfz123_4 := blk_frozen BK469.out 4))
              have n0_ : Aside0 ((((((w119.setCell ⟨gb469, 0, none⟩ (.int .u64 t463)).setCell ⟨gb469, 1, none⟩ (.int .i64 t464)).setCell ⟨gb469, 2, none⟩ (.int .u64 t465)).setCell ⟨gb469, 3, none⟩ (.int .u64 t466)).setCell ⟨gb469, 4, none⟩ (.int .i64 t467)).heap[gb446]? = some (.cells #[.int .u64 x447000_2, .int .u32 x447001_2, .int .u32 x447002_2] 28 (0, 0))) := ⟨by (with_reducible repeat (first | refine blk_drewN ?_ _ | refine blk_drew ?_ | refine blk_alloc ?_ _)); refine blk_far ?_ NB446_469.out _; (with_reducible repeat (first | refine blk_drewN ?_ _ | refine blk_drew ?_ | refine blk_alloc ?_ _)); refine blk_far ?_ NB446_469.out _; (with_reducible repeat (first | refine blk_drewN ?_ _ | refine blk_drew ?_ | refine blk_alloc ?_ _)); refine blk_far ?_ NB446_469.out _; (with_reducible repeat (first | refine blk_drewN ?_ _ | refine blk_drew ?_ | refine blk_alloc ?_ _)); refine blk_far ?_ NB446_469.out _; (with_reducible repeat (first | refine blk_drewN ?_ _ | refine blk_drew ?_ | refine blk_alloc ?_ _)); refine blk_far ?_ NB446_469.out _; exact blkt BK446⟩
              have n1_ : Aside0 ((((((w119.setCell ⟨gb469, 0, none⟩ (.int .u64 t463)).setCell ⟨gb469, 1, none⟩ (.int .i64 t464)).setCell ⟨gb469, 2, none⟩ (.int .u64 t465)).setCell ⟨gb469, 3, none⟩ (.int .u64 t466)).setCell ⟨gb469, 4, none⟩ (.int .i64 t467)).heap[gb447]? = some (.cells #[.int .u64 x448000_2, .int .u32 x448001_2, .int .u32 x448002_2] 28 (0, 0))) := ⟨by (with_reducible repeat (first | refine blk_drewN ?_ _ | refine blk_drew ?_ | refine blk_alloc ?_ _)); refine blk_far ?_ NB447_469.out _; (with_reducible repeat (first | refine blk_drewN ?_ _ | refine blk_drew ?_ | refine blk_alloc ?_ _)); refine blk_far ?_ NB447_469.out _; (with_reducible repeat (first | refine blk_drewN ?_ _ | refine blk_drew ?_ | refine blk_alloc ?_ _)); refine blk_far ?_ NB447_469.out _; (with_reducible repeat (first | refine blk_drewN ?_ _ | refine blk_drew ?_ | refine blk_alloc ?_ _)); refine blk_far ?_ NB447_469.out _; (with_reducible repeat (first | refine blk_drewN ?_ _ | refine blk_drew ?_ | refine blk_alloc ?_ _)); refine blk_far ?_ NB447_469.out _; exact blkt BK447⟩
              have n2_ : Aside0 ((((((w119.setCell ⟨gb469, 0, none⟩ (.int .u64 t463)).setCell ⟨gb469, 1, none⟩ (.int .i64 t464)).setCell ⟨gb469, 2, none⟩ (.int .u64 t465)).setCell ⟨gb469, 3, none⟩ (.int .u64 t466)).setCell ⟨gb469, 4, none⟩ (.int .i64 t467)).heap[gb461]? = some (.cells #[.int .u64 t455, .int .i64 t456, .int .u64 t457, .int .u64 t458, .int .i64 t459] 33 (0, 0))) := ⟨by (with_reducible repeat (first | refine blk_drewN ?_ _ | refine blk_drew ?_ | refine blk_alloc ?_ _)); refine blk_far ?_ NB461_469.out _; (with_reducible repeat (first | refine blk_drewN ?_ _ | refine blk_drew ?_ | refine blk_alloc ?_ _)); refine blk_far ?_ NB461_469.out _; (with_reducible repeat (first | refine blk_drewN ?_ _ | refine blk_drew ?_ | refine blk_alloc ?_ _)); refine blk_far ?_ NB461_469.out _; (with_reducible repeat (first | refine blk_drewN ?_ _ | refine blk_drew ?_ | refine blk_alloc ?_ _)); refine blk_far ?_ NB461_469.out _; (with_reducible repeat (first | refine blk_drewN ?_ _ | refine blk_drew ?_ | refine blk_alloc ?_ _)); refine blk_far ?_ NB461_469.out _; exact blkt BK461⟩
              have n3_ : Aside0 ((((((w119.setCell ⟨gb469, 0, none⟩ (.int .u64 t463)).setCell ⟨gb469, 1, none⟩ (.int .i64 t464)).setCell ⟨gb469, 2, none⟩ (.int .u64 t465)).setCell ⟨gb469, 3, none⟩ (.int .u64 t466)).setCell ⟨gb469, 4, none⟩ (.int .i64 t467)).heap[gb469]? = some (.cells #[.int .u64 t463, .int .i64 t464, .int .u64 t465, .int .u64 t466, .int .i64 t467] 33 (0, 0))) := ⟨by (with_reducible repeat (first | refine blk_drewN ?_ _ | refine blk_drew ?_ | refine blk_alloc ?_ _)); refine blk_put (cs := #[.int .u64 t463, .int .i64 t464, .int .u64 t465, .int .u64 t466, .int .i64 0]) ?_ 4 _ rfl; (with_reducible repeat (first | refine blk_drewN ?_ _ | refine blk_drew ?_ | refine blk_alloc ?_ _)); refine blk_put (cs := #[.int .u64 t463, .int .i64 t464, .int .u64 t465, .int .u64 0, .int .i64 0]) ?_ 3 _ rfl; (with_reducible repeat (first | refine blk_drewN ?_ _ | refine blk_drew ?_ | refine blk_alloc ?_ _)); refine blk_put (cs := #[.int .u64 t463, .int .i64 t464, .int .u64 0, .int .u64 0, .int .i64 0]) ?_ 2 _ rfl; (with_reducible repeat (first | refine blk_drewN ?_ _ | refine blk_drew ?_ | refine blk_alloc ?_ _)); refine blk_put (cs := #[.int .u64 t463, .int .i64 0, .int .u64 0, .int .u64 0, .int .i64 0]) ?_ 1 _ rfl; (with_reducible repeat (first | refine blk_drewN ?_ _ | refine blk_drew ?_ | refine blk_alloc ?_ _)); refine blk_put (cs := #[.int .u64 0, .int .i64 0, .int .u64 0, .int .u64 0, .int .i64 0]) ?_ 0 _ rfl; exact blkt BK469⟩
              have n4_ : Aside0 (Below w.heap.size w (((((w119.setCell ⟨gb469, 0, none⟩ (.int .u64 t463)).setCell ⟨gb469, 1, none⟩ (.int .i64 t464)).setCell ⟨gb469, 2, none⟩ (.int .u64 t465)).setCell ⟨gb469, 3, none⟩ (.int .u64 t466)).setCell ⟨gb469, 4, none⟩ (.int .i64 t467))) := ⟨belt HB⟩
              (try clear BK446)
              (try clear BK447)
              (try clear BK461)
              (try clear BK469)
              (try clear HB)
              generalize (((((w119.setCell ⟨gb469, 0, none⟩ (.int .u64 t463)).setCell ⟨gb469, 1, none⟩ (.int .i64 t464)).setCell ⟨gb469, 2, none⟩ (.int .u64 t465)).setCell ⟨gb469, 3, none⟩ (.int .u64 t466)).setCell ⟨gb469, 4, none⟩ (.int .i64 t467)) = w124 at n0_ n1_ n2_ n3_ n4_ ⊢
              have BK446 := n0_
              have BK447 := n1_
              have BK461 := n2_
              have BK469 := n3_
              have HB := n4_
              clear n0_ n1_ n2_ n3_ n4_
              replace BK446 := Aside0.mk (blk_drew BK446.out)
              replace BK447 := Aside0.mk (blk_drew BK447.out)
              replace BK461 := Aside0.mk (blk_drew BK461.out)
              replace BK469 := Aside0.mk (blk_drew BK469.out)
              replace HB := Aside0.mk (below_drew1 HB.out)
              refine start_ (n := 11) (S := fun w' => w'.cell? ⟨gb461, 0, none⟩ = some (.int .u64 t455) ∧ w'.cell? ⟨gb461, 1, none⟩ = some (.int .i64 t456) ∧ w'.cell? ⟨gb461, 2, none⟩ = some (.int .u64 t457) ∧ w'.cell? ⟨gb461, 3, none⟩ = some (.int .u64 t458) ∧ w'.cell? ⟨gb461, 4, none⟩ = some (.int .i64 t459)) (ds := []) #[false, false, false, false, false, false, false, false, false, false, false] (by kernel_rfl) rfl rfl ⟨bc BK461 0, bc BK461 1, bc BK461 2, bc BK461 3, bc BK461 4⟩ (fun hHeld => ?_); refine with_tabW turnstonelaw08_MeanBetween.tab20 turnstonelaw08_MeanBetween.bits20 (fun HT_ HW_ => ?_)
              generalize w124.drew = w125 at BK446 BK447 BK461 BK469 HB hHeld ⊢
              refine pure_ (i := 1) (N := some 96) (v := ?_) (a' := ?_) #[false, true, false, false, false, false, false, false, false, false, false] rfl rfl (any_of HT_.out (by kernel_rfl)) (fun _ _ _ h => h) (Or.inl ⟨by rfl, ?_⟩) ?_ ?_
              rotate_left
              ·intro w'
               go_simp
               with_reducible rfl
              rotate_left
              ·simp only [Act.put, List.setIfInBounds_toArray, List.set_cons_zero, List.set_cons_succ, i64_w, i32_w]
               rfl
              refine pure_ (i := 2) (N := some 97) (v := ?_) (a' := ?_) #[false, true, true, false, false, false, false, false, false, false, false] rfl rfl (any_of HT_.out (by kernel_rfl)) (fun _ _ _ h => h) (Or.inl ⟨by rfl, ?_⟩) ?_ ?_
              rotate_left
              ·intro w'
               go_simp
               with_reducible rfl
              rotate_left
              ·simp only [Act.put, List.setIfInBounds_toArray, List.set_cons_zero, List.set_cons_succ, i64_w, i32_w]
               rfl
              refine take_ (i := 0) (N := some 95) (v := ?_) (a' := ?_) #[true, true, true, false, false, false, false, false, false, false, false] rfl rfl (take_ofW HT_.out HW_.out (by kernel_rfl)) (fun _ _ _ h => h) (Or.inl ⟨by rfl, ?_⟩) hHeld ?_ ?_
              rotate_left
              ·rintro w' ⟨s0, s1, s2, s3, s4⟩
               go_simp
               with_reducible rfl
              rotate_left
              ·simp only [Act.put, List.setIfInBounds_toArray, List.set_cons_zero, List.set_cons_succ, i64_w, i32_w]
               rfl
              refine join_ (σ := Nat) 2 #[true, true, true, true, true, true, true, true, true, false, false] (fun s_ => [(98, .int .u64 t470), (99, .tuple #[.agg #[.int .u64 t471, .int .i64 t472, .int .u64 t473, .int .u64 t474, .int .i64 t475], .bool true]), (17, .pointer (some ⟨s_, 0, none⟩)), (94, .tuple #[.agg #[.int .u64 t471, .int .i64 t472, .int .u64 t473, .int .u64 t474, .int .i64 t475], .bool true]), (100, .agg #[.int .u64 t471, .int .i64 t472, .int .u64 t473, .int .u64 t474, .int .i64 t475]), (101, .bool true)]) (fun s_ w' => (w'.cell? ⟨gb461, 0, none⟩ = some (.int .u64 t455) ∧ w'.cell? ⟨gb461, 1, none⟩ = some (.int .i64 t456) ∧ w'.cell? ⟨gb461, 2, none⟩ = some (.int .u64 t457) ∧ w'.cell? ⟨gb461, 3, none⟩ = some (.int .u64 t458) ∧ w'.cell? ⟨gb461, 4, none⟩ = some (.int .i64 t459)) ∧ (w'.heap[gb446]? = some (.cells #[.int .u64 x447000_2, .int .u32 x447001_2, .int .u32 x447002_2] 28 (0, 0))) ∧ (w'.heap[gb447]? = some (.cells #[.int .u64 x448000_2, .int .u32 x448001_2, .int .u32 x448002_2] 28 (0, 0))) ∧ (w'.heap[gb461]? = some (.cells #[.int .u64 t455, .int .i64 t456, .int .u64 t457, .int .u64 t458, .int .i64 t459] 33 (0, 0))) ∧ (w'.heap[gb469]? = some (.cells #[.int .u64 t463, .int .i64 t464, .int .u64 t465, .int .u64 t466, .int .i64 t467] 33 (0, 0))) ∧ (w'.heap[s_]? = some (.cells #[.int .u64 0, .int .i64 0, .int .u64 0, .int .u64 0, .int .i64 0] 33 (0, 0))) ∧ (w.heap.size ≤ s_) ∧ (w.heap.size ≤ s_) ∧ (gb446 ≠ s_) ∧ (s_ ≠ gb446) ∧ (gb447 ≠ s_) ∧ (s_ ≠ gb447) ∧ (gb461 ≠ s_) ∧ (s_ ≠ gb461) ∧ (gb469 ≠ s_) ∧ (s_ ≠ gb469) ∧ (Below w.heap.size w w')) ?_ ?_
              rotate_left
              ·intro hCont
               refine two_ (i := 3) (j := 8) (Ni := some 98) (Nj := some 17) #[true, true, true, true, false, false, false, false, false, false, false] #[true, true, true, false, false, false, false, false, true, false, false] rfl rfl rfl rfl (two_of HT_.out (by kernel_rfl)) (by decide) (by decide) (fun K hK => ?_) (fun K hK => ?_)
               ·skip
                refine goes_ Tryz.func16 (by kernel_rfl) rfl #[.int .u64 a0, .int .i64 a2] (by rfl) rfl rfl argt ?_
                with_reducible refine (vtime_Time_Add.calls a0 a2 t470 _ A99.out).mono ?_
                rintro e w' ⟨rfl, ⟨nd, rfl⟩⟩
                refine ⟨_, rfl, ?_⟩
                refine hK.out _ _ ⟨bc BK461 0, bc BK461 1, bc BK461 2, bc BK461 3, bc BK461 4⟩ (fun hHeld => ?_)
                clear hK K
                refine norm_ (a' := ?_) ?_ ?_
                rotate_left
                ·show Act.put _ (some 98) _ = _
                 simp only [Act.put, List.setIfInBounds_toArray, List.set_cons_zero, List.set_cons_succ, i64_w, i32_w]
                 rfl
                refine two_ (i := 4) (j := 8) (Ni := some 99) (Nj := some 17) #[true, true, true, true, true, false, false, false, false, false, false] #[true, true, true, true, false, false, false, false, true, false, false] rfl rfl rfl rfl (two_of HT_.out (by kernel_rfl)) (by decide) (by decide) (fun K hK => ?_) (fun K hK => ?_)
                ·skip
                 refine goes_ Tryz.func17 (by kernel_rfl) rfl #[.agg #[.int .u64 t455, .int .i64 t456, .int .u64 t457, .int .u64 t458, .int .i64 t459], .int .u64 t470] (by rfl) rfl rfl argt ?_
                 with_reducible refine (mean_Mean_Rebase.calls k2 t455 t456 t457 t458 t459 t470 t471 t472 t473 t474 t475 true _ A100.out).mono ?_
                 rintro e w126 ⟨rfl, hb⟩
                 refine ⟨_, rfl, ?_⟩
                 replace BK446 := blkb BK446 hb
                 replace BK447 := blkb BK447 hb
                 replace BK461 := blkb BK461 hb
                 replace BK469 := blkb BK469 hb
                 replace HB := belb HB hb
                 (try clear hb)
                 (try clear hb2)
                 (try clear hk)
                 (try clear hi)
                 refine hK.out _ _ ⟨bc BK461 0, bc BK461 1, bc BK461 2, bc BK461 3, bc BK461 4⟩ (fun hHeld => ?_)
                 clear hK K
                 refine norm_ (a' := ?_) ?_ ?_
                 rotate_left
                 ·show Act.put _ (some 99) _ = _
                  simp only [Act.put, List.setIfInBounds_toArray, List.set_cons_zero, List.set_cons_succ, i64_w, i32_w]
                  rfl
                 refine pure_ (i := 5) (N := some 94) (v := ?_) (a' := ?_) #[true, true, true, true, true, true, false, false, false, false, false] rfl rfl (any_of HT_.out (by kernel_rfl)) (fun _ _ _ h => h) (Or.inl ⟨by rfl, ?_⟩) ?_ ?_
                 rotate_left
                 ·intro w'
                  go_simp
                  with_reducible rfl
                 rotate_left
                 ·simp only [Act.put, List.setIfInBounds_toArray, List.set_cons_zero, List.set_cons_succ, i64_w, i32_w]
                  rfl
                 refine pure_ (i := 6) (N := some 100) (v := ?_) (a' := ?_) #[true, true, true, true, true, true, true, false, false, false, false] rfl rfl (any_of HT_.out (by kernel_rfl)) (fun _ _ _ h => h) (Or.inl ⟨by rfl, ?_⟩) ?_ ?_
                 rotate_left
                 ·intro w'
                  go_simp
                  with_reducible rfl
                 rotate_left
                 ·simp only [Act.put, List.setIfInBounds_toArray, List.set_cons_zero, List.set_cons_succ, i64_w, i32_w]
                  rfl
                 refine pure_ (i := 7) (N := some 101) (v := ?_) (a' := ?_) #[true, true, true, true, true, true, true, true, false, false, false] rfl rfl (any_of HT_.out (by kernel_rfl)) (fun _ _ _ h => h) (Or.inl ⟨by rfl, ?_⟩) ?_ ?_
                 rotate_left
                 ·intro w'
                  go_simp
                  with_reducible rfl
                 rotate_left
                 ·simp only [Act.put, List.setIfInBounds_toArray, List.set_cons_zero, List.set_cons_succ, i64_w, i32_w]
                  rfl
                 refine one_ (i := 8) (N := some 17) #[true, true, true, true, true, true, true, true, true, false, false] rfl rfl (one_of HT_.out (by kernel_rfl)) (by decide) (fun K hK => ?_)
                 refine box_step ?hg (N := 17) ?hd (cs := #[.int .u64 0, .int .i64 0, .int .u64 0, .int .u64 0, .int .i64 0]) (t := 33) ?hr ?_; (case hd => rfl); (case hg => rfl); (case hr => first | (go_simp; done) | (go_simp; rfl))
                 intro gb477 hg w127 hbox hb
                 have BK477 := Aside0.mk (hbox)
                 have GW477 := bels HB hg
                 have GE477 := bels HB hg
                 have NB446_477 := blkl BK446 hg
                 have NB477_446 := blkg BK446 hg
                 have NB447_477 := blkl BK447 hg
                 have NB477_447 := blkg BK447 hg
                 have NB461_477 := blkl BK461 hg
                 have NB477_461 := blkg BK461 hg
                 have NB469_477 := blkl BK469 hg
                 have NB477_469 := blkg BK469 hg
                 replace BK446 := blkb BK446 hb
                 replace BK447 := blkb BK447 hb
                 replace BK461 := blkb BK461 hb
                 replace BK469 := blkb BK469 hb
                 replace HB := belb HB hb
                 clear hb hbox hg
                 refine hK.out _ _ ⟨bc BK461 0, bc BK461 1, bc BK461 2, bc BK461 3, bc BK461 4⟩ (fun hHeld => ?_)
                 clear hK K
                 refine norm_ (a' := ?_) ?_ ?_
                 rotate_left
                 ·show Act.put _ (some 17) _ = _
                  simp only [Act.put, List.setIfInBounds_toArray, List.set_cons_zero, List.set_cons_succ, i64_w, i32_w]
                  rfl
                 exact norm_ (by simp only [putAll, Act.put, List.setIfInBounds_toArray, List.set_cons_zero, List.set_cons_succ]) (hCont (gb477) _ ⟨hHeld, (blkt BK446), (blkt BK447), (blkt BK461), (blkt BK469), (blkt BK477), GW477.out, GE477.out, NB446_477.out, NB477_446.out, NB447_477.out, NB477_447.out, NB461_477.out, NB477_461.out, NB469_477.out, NB477_469.out, (belt HB)⟩)
                skip
                refine box_step ?hg (N := 17) ?hd (cs := #[.int .u64 0, .int .i64 0, .int .u64 0, .int .u64 0, .int .i64 0]) (t := 33) ?hr ?_; (case hd => rfl); (case hg => rfl); (case hr => first | (go_simp; done) | (go_simp; rfl))
                intro gb477 hg w126 hbox hb
                have BK477 := Aside0.mk (hbox)
                have GW477 := bels HB hg
                have GE477 := bels HB hg
                have NB446_477 := blkl BK446 hg
                have NB477_446 := blkg BK446 hg
                have NB447_477 := blkl BK447 hg
                have NB477_447 := blkg BK447 hg
                have NB461_477 := blkl BK461 hg
                have NB477_461 := blkg BK461 hg
                have NB469_477 := blkl BK469 hg
                have NB477_469 := blkg BK469 hg
                replace BK446 := blkb BK446 hb
                replace BK447 := blkb BK447 hb
                replace BK461 := blkb BK461 hb
                replace BK469 := blkb BK469 hb
                replace HB := belb HB hb
                clear hb hbox hg
                refine hK.out _ _ ⟨bc BK461 0, bc BK461 1, bc BK461 2, bc BK461 3, bc BK461 4⟩ (fun hHeld => ?_)
                clear hK K
                refine norm_ (a' := ?_) ?_ ?_
                rotate_left
                ·show Act.put _ (some 17) _ = _
                 simp only [Act.put, List.setIfInBounds_toArray, List.set_cons_zero, List.set_cons_succ, i64_w, i32_w]
                 rfl
                refine one_ (i := 4) (N := some 99) #[true, true, true, true, true, false, false, false, true, false, false] rfl rfl (one_of HT_.out (by kernel_rfl)) (by decide) (fun K hK => ?_)
                refine goes_ Tryz.func17 (by kernel_rfl) rfl #[.agg #[.int .u64 t455, .int .i64 t456, .int .u64 t457, .int .u64 t458, .int .i64 t459], .int .u64 t470] (by rfl) rfl rfl argt ?_
                with_reducible refine (mean_Mean_Rebase.calls k2 t455 t456 t457 t458 t459 t470 t471 t472 t473 t474 t475 true _ A100.out).mono ?_
                rintro e w127 ⟨rfl, hb⟩
                refine ⟨_, rfl, ?_⟩
                replace BK446 := blkb BK446 hb
                replace BK447 := blkb BK447 hb
                replace BK461 := blkb BK461 hb
                replace BK469 := blkb BK469 hb
                replace BK477 := blkb BK477 hb
                replace HB := belb HB hb
                (try clear hb)
                (try clear hb2)
                (try clear hk)
                (try clear hi)
                refine hK.out _ _ ⟨bc BK461 0, bc BK461 1, bc BK461 2, bc BK461 3, bc BK461 4⟩ (fun hHeld => ?_)
                clear hK K
                refine norm_ (a' := ?_) ?_ ?_
                rotate_left
                ·show Act.put _ (some 99) _ = _
                 simp only [Act.put, List.setIfInBounds_toArray, List.set_cons_zero, List.set_cons_succ, i64_w, i32_w]
                 rfl
                refine pure_ (i := 5) (N := some 94) (v := ?_) (a' := ?_) #[true, true, true, true, true, true, false, false, true, false, false] rfl rfl (any_of HT_.out (by kernel_rfl)) (fun _ _ _ h => h) (Or.inl ⟨by rfl, ?_⟩) ?_ ?_
                rotate_left
                ·intro w'
                 go_simp
                 with_reducible rfl
                rotate_left
                ·simp only [Act.put, List.setIfInBounds_toArray, List.set_cons_zero, List.set_cons_succ, i64_w, i32_w]
                 rfl
                refine pure_ (i := 6) (N := some 100) (v := ?_) (a' := ?_) #[true, true, true, true, true, true, true, false, true, false, false] rfl rfl (any_of HT_.out (by kernel_rfl)) (fun _ _ _ h => h) (Or.inl ⟨by rfl, ?_⟩) ?_ ?_
                rotate_left
                ·intro w'
                 go_simp
                 with_reducible rfl
                rotate_left
                ·simp only [Act.put, List.setIfInBounds_toArray, List.set_cons_zero, List.set_cons_succ, i64_w, i32_w]
                 rfl
                refine pure_ (i := 7) (N := some 101) (v := ?_) (a' := ?_) #[true, true, true, true, true, true, true, true, true, false, false] rfl rfl (any_of HT_.out (by kernel_rfl)) (fun _ _ _ h => h) (Or.inl ⟨by rfl, ?_⟩) ?_ ?_
                rotate_left
                ·intro w'
                 go_simp
                 with_reducible rfl
                rotate_left
                ·simp only [Act.put, List.setIfInBounds_toArray, List.set_cons_zero, List.set_cons_succ, i64_w, i32_w]
                 rfl
                exact norm_ (by simp only [putAll, Act.put, List.setIfInBounds_toArray, List.set_cons_zero, List.set_cons_succ]) (hCont (gb477) _ ⟨hHeld, (blkt BK446), (blkt BK447), (blkt BK461), (blkt BK469), (blkt BK477), GW477.out, GE477.out, NB446_477.out, NB477_446.out, NB447_477.out, NB477_447.out, NB461_477.out, NB477_461.out, NB469_477.out, NB477_469.out, (belt HB)⟩)
               skip
               refine box_step ?hg (N := 17) ?hd (cs := #[.int .u64 0, .int .i64 0, .int .u64 0, .int .u64 0, .int .i64 0]) (t := 33) ?hr ?_; (case hd => rfl); (case hg => rfl); (case hr => first | (go_simp; done) | (go_simp; rfl))
               intro gb477 hg w126 hbox hb
               have BK477 := Aside0.mk (hbox)
               have GW477 := bels HB hg
               have GE477 := bels HB hg
               have NB446_477 := blkl BK446 hg
               have NB477_446 := blkg BK446 hg
               have NB447_477 := blkl BK447 hg
               have NB477_447 := blkg BK447 hg
               have NB461_477 := blkl BK461 hg
               have NB477_461 := blkg BK461 hg
               have NB469_477 := blkl BK469 hg
               have NB477_469 := blkg BK469 hg
               replace BK446 := blkb BK446 hb
               replace BK447 := blkb BK447 hb
               replace BK461 := blkb BK461 hb
               replace BK469 := blkb BK469 hb
               replace HB := belb HB hb
               clear hb hbox hg
               refine hK.out _ _ ⟨bc BK461 0, bc BK461 1, bc BK461 2, bc BK461 3, bc BK461 4⟩ (fun hHeld => ?_)
               clear hK K
               refine norm_ (a' := ?_) ?_ ?_
               rotate_left
               ·show Act.put _ (some 17) _ = _
                simp only [Act.put, List.setIfInBounds_toArray, List.set_cons_zero, List.set_cons_succ, i64_w, i32_w]
                rfl
               refine one_ (i := 3) (N := some 98) #[true, true, true, true, false, false, false, false, true, false, false] rfl rfl (one_of HT_.out (by kernel_rfl)) (by decide) (fun K hK => ?_)
               refine goes_ Tryz.func16 (by kernel_rfl) rfl #[.int .u64 a0, .int .i64 a2] (by rfl) rfl rfl argt ?_
               with_reducible refine (vtime_Time_Add.calls a0 a2 t470 _ A99.out).mono ?_
               rintro e w' ⟨rfl, ⟨nd, rfl⟩⟩
               refine ⟨_, rfl, ?_⟩
               refine hK.out _ _ ⟨bc BK461 0, bc BK461 1, bc BK461 2, bc BK461 3, bc BK461 4⟩ (fun hHeld => ?_)
               clear hK K
               refine norm_ (a' := ?_) ?_ ?_
               rotate_left
               ·show Act.put _ (some 98) _ = _
                simp only [Act.put, List.setIfInBounds_toArray, List.set_cons_zero, List.set_cons_succ, i64_w, i32_w]
                rfl
               refine one_ (i := 4) (N := some 99) #[true, true, true, true, true, false, false, false, true, false, false] rfl rfl (one_of HT_.out (by kernel_rfl)) (by decide) (fun K hK => ?_)
               refine goes_ Tryz.func17 (by kernel_rfl) rfl #[.agg #[.int .u64 t455, .int .i64 t456, .int .u64 t457, .int .u64 t458, .int .i64 t459], .int .u64 t470] (by rfl) rfl rfl argt ?_
               with_reducible refine (mean_Mean_Rebase.calls k2 t455 t456 t457 t458 t459 t470 t471 t472 t473 t474 t475 true _ A100.out).mono ?_
               rintro e w127 ⟨rfl, hb⟩
               refine ⟨_, rfl, ?_⟩
               replace BK446 := blkb BK446 hb
               replace BK447 := blkb BK447 hb
               replace BK461 := blkb BK461 hb
               replace BK469 := blkb BK469 hb
               replace BK477 := blkb BK477 hb
               replace HB := belb HB hb
               (try clear hb)
               (try clear hb2)
               (try clear hk)
               (try clear hi)
               refine hK.out _ _ ⟨bc BK461 0, bc BK461 1, bc BK461 2, bc BK461 3, bc BK461 4⟩ (fun hHeld => ?_)
               clear hK K
               refine norm_ (a' := ?_) ?_ ?_
               rotate_left
               ·show Act.put _ (some 99) _ = _
                simp only [Act.put, List.setIfInBounds_toArray, List.set_cons_zero, List.set_cons_succ, i64_w, i32_w]
                rfl
               refine pure_ (i := 5) (N := some 94) (v := ?_) (a' := ?_) #[true, true, true, true, true, true, false, false, true, false, false] rfl rfl (any_of HT_.out (by kernel_rfl)) (fun _ _ _ h => h) (Or.inl ⟨by rfl, ?_⟩) ?_ ?_
               rotate_left
               ·intro w'
                go_simp
                with_reducible rfl
               rotate_left
               ·simp only [Act.put, List.setIfInBounds_toArray, List.set_cons_zero, List.set_cons_succ, i64_w, i32_w]
                rfl
               refine pure_ (i := 6) (N := some 100) (v := ?_) (a' := ?_) #[true, true, true, true, true, true, true, false, true, false, false] rfl rfl (any_of HT_.out (by kernel_rfl)) (fun _ _ _ h => h) (Or.inl ⟨by rfl, ?_⟩) ?_ ?_
               rotate_left
               ·intro w'
                go_simp
                with_reducible rfl
               rotate_left
               ·simp only [Act.put, List.setIfInBounds_toArray, List.set_cons_zero, List.set_cons_succ, i64_w, i32_w]
                rfl
               refine pure_ (i := 7) (N := some 101) (v := ?_) (a' := ?_) #[true, true, true, true, true, true, true, true, true, false, false] rfl rfl (any_of HT_.out (by kernel_rfl)) (fun _ _ _ h => h) (Or.inl ⟨by rfl, ?_⟩) ?_ ?_
               rotate_left
               ·intro w'
                go_simp
                with_reducible rfl
               rotate_left
               ·simp only [Act.put, List.setIfInBounds_toArray, List.set_cons_zero, List.set_cons_succ, i64_w, i32_w]
                rfl
               exact norm_ (by simp only [putAll, Act.put, List.setIfInBounds_toArray, List.set_cons_zero, List.set_cons_succ]) (hCont (gb477) _ ⟨hHeld, (blkt BK446), (blkt BK447), (blkt BK461), (blkt BK469), (blkt BK477), GW477.out, GE477.out, NB446_477.out, NB477_446.out, NB447_477.out, NB477_447.out, NB461_477.out, NB477_461.out, NB469_477.out, NB477_469.out, (belt HB)⟩)
              rintro gb477 w128 ⟨hS_, h0_, h1_, h2_, h3_, h4_, h5_, h6_, h7_, h8_, h9_, h10_, h11_, h12_, h13_, h14_, h15_⟩
              replace BK446 : Aside0 (w128.heap[gb446]? = some (.cells #[.int .u64 x447000_2, .int .u32 x447001_2, .int .u32 x447002_2] 28 (0, 0))) := ⟨h0_⟩
              replace BK447 : Aside0 (w128.heap[gb447]? = some (.cells #[.int .u64 x448000_2, .int .u32 x448001_2, .int .u32 x448002_2] 28 (0, 0))) := ⟨h1_⟩
              replace BK461 : Aside0 (w128.heap[gb461]? = some (.cells #[.int .u64 t455, .int .i64 t456, .int .u64 t457, .int .u64 t458, .int .i64 t459] 33 (0, 0))) := ⟨h2_⟩
              replace BK469 : Aside0 (w128.heap[gb469]? = some (.cells #[.int .u64 t463, .int .i64 t464, .int .u64 t465, .int .u64 t466, .int .i64 t467] 33 (0, 0))) := ⟨h3_⟩
              have BK477 : Aside0 (w128.heap[gb477]? = some (.cells #[.int .u64 0, .int .i64 0, .int .u64 0, .int .u64 0, .int .i64 0] 33 (0, 0))) := ⟨h4_⟩
              have GW477 : Aside0 (w.heap.size ≤ gb477) := ⟨h5_⟩
              have GE477 : Aside0 (w.heap.size ≤ gb477) := ⟨h6_⟩
              have NB446_477 : Aside0 (gb446 ≠ gb477) := ⟨h7_⟩
              have NB477_446 : Aside0 (gb477 ≠ gb446) := ⟨h8_⟩
              have NB447_477 : Aside0 (gb447 ≠ gb477) := ⟨h9_⟩
              have NB477_447 : Aside0 (gb477 ≠ gb447) := ⟨h10_⟩
              have NB461_477 : Aside0 (gb461 ≠ gb477) := ⟨h11_⟩
              have NB477_461 : Aside0 (gb477 ≠ gb461) := ⟨h12_⟩
              have NB469_477 : Aside0 (gb469 ≠ gb477) := ⟨h13_⟩
              have NB477_469 : Aside0 (gb477 ≠ gb469) := ⟨h14_⟩
              replace HB : Aside0 (Below w.heap.size w w128) := ⟨h15_⟩
              clear h0_ h1_ h2_ h3_ h4_ h5_ h6_ h7_ h8_ h9_ h10_ h11_ h12_ h13_ h14_ h15_
              have hHeld : w128.cell? ⟨gb461, 0, none⟩ = some (.int .u64 t455) ∧ w128.cell? ⟨gb461, 1, none⟩ = some (.int .i64 t456) ∧ w128.cell? ⟨gb461, 2, none⟩ = some (.int .u64 t457) ∧ w128.cell? ⟨gb461, 3, none⟩ = some (.int .u64 t458) ∧ w128.cell? ⟨gb461, 4, none⟩ = some (.int .i64 t459) := hS_
              refine norm_ (a' := ?_) ?_ ?_
              rotate_left
              ·simp only [putAll, Act.put, List.setIfInBounds_toArray, List.set_cons_zero, List.set_cons_succ]
               rfl
              refine one_ (i := 9) (N := none) #[true, true, true, true, true, true, true, true, true, true, false] rfl rfl (one_of HT_.out (by kernel_rfl)) (by decide) (fun K hK => ?_)
              have hs129 : w128.cell? ⟨gb477, 0, none⟩ = some (.int .u64 0) := bc BK477 0
              have hfs129 := blk_frozen BK477.out 0
              have hns129_0 := NB446_477.out
              have hns129_1 := NB447_477.out
              have hns129_2 := NB461_477.out
              have hns129_3 := NB469_477.out
              have hms129_0 := NB477_446.out
              have hms129_1 := NB477_447.out
              have hms129_2 := NB477_461.out
              have hms129_3 := NB477_469.out
              have hs130 : w128.cell? ⟨gb477, 1, none⟩ = some (.int .i64 0) := bc BK477 1
              have hfs130 := blk_frozen BK477.out 1
              have hns130_0 := NB446_477.out
              have hns130_1 := NB447_477.out
              have hns130_2 := NB461_477.out
              have hns130_3 := NB469_477.out
              have hms130_0 := NB477_446.out
              have hms130_1 := NB477_447.out
              have hms130_2 := NB477_461.out
              have hms130_3 := NB477_469.out
              have hs131 : w128.cell? ⟨gb477, 2, none⟩ = some (.int .u64 0) := bc BK477 2
              have hfs131 := blk_frozen BK477.out 2
              have hns131_0 := NB446_477.out
              have hns131_1 := NB447_477.out
              have hns131_2 := NB461_477.out
              have hns131_3 := NB469_477.out
              have hms131_0 := NB477_446.out
              have hms131_1 := NB477_447.out
              have hms131_2 := NB477_461.out
              have hms131_3 := NB477_469.out
              have hs132 : w128.cell? ⟨gb477, 3, none⟩ = some (.int .u64 0) := bc BK477 3
              have hfs132 := blk_frozen BK477.out 3
              have hns132_0 := NB446_477.out
              have hns132_1 := NB447_477.out
              have hns132_2 := NB461_477.out
              have hns132_3 := NB469_477.out
              have hms132_0 := NB477_446.out
              have hms132_1 := NB477_447.out
              have hms132_2 := NB477_461.out
              have hms132_3 := NB477_469.out
              have hs133 : w128.cell? ⟨gb477, 4, none⟩ = some (.int .i64 0) := bc BK477 4
              have hfs133 := blk_frozen BK477.out 4
              have hns133_0 := NB446_477.out
              have hns133_1 := NB447_477.out
              have hns133_2 := NB461_477.out
              have hns133_3 := NB469_477.out
              have hms133_0 := NB477_446.out
              have hms133_1 := NB477_447.out
              have hms133_2 := NB477_461.out
              have hms133_3 := NB477_469.out
              refine skip_ (w1 := ?_) (by rfl) rfl ?_ ?_
              rotate_left
              ·go_simp
               rfl
              refine hK.out _ _ ⟨((cell_far (p := ⟨gb477, _, none⟩) NB461_477.out _).trans (((cell_far (p := ⟨gb477, _, none⟩) NB461_477.out _).trans (((cell_far (p := ⟨gb477, _, none⟩) NB461_477.out _).trans (((cell_far (p := ⟨gb477, _, none⟩) NB461_477.out _).trans (((cell_far (p := ⟨gb477, _, none⟩) NB461_477.out _).trans (hHeld.1)))))))))), ((cell_far (p := ⟨gb477, _, none⟩) NB461_477.out _).trans (((cell_far (p := ⟨gb477, _, none⟩) NB461_477.out _).trans (((cell_far (p := ⟨gb477, _, none⟩) NB461_477.out _).trans (((cell_far (p := ⟨gb477, _, none⟩) NB461_477.out _).trans (((cell_far (p := ⟨gb477, _, none⟩) NB461_477.out _).trans (hHeld.2.1)))))))))), ((cell_far (p := ⟨gb477, _, none⟩) NB461_477.out _).trans (((cell_far (p := ⟨gb477, _, none⟩) NB461_477.out _).trans (((cell_far (p := ⟨gb477, _, none⟩) NB461_477.out _).trans (((cell_far (p := ⟨gb477, _, none⟩) NB461_477.out _).trans (((cell_far (p := ⟨gb477, _, none⟩) NB461_477.out _).trans (hHeld.2.2.1)))))))))), ((cell_far (p := ⟨gb477, _, none⟩) NB461_477.out _).trans (((cell_far (p := ⟨gb477, _, none⟩) NB461_477.out _).trans (((cell_far (p := ⟨gb477, _, none⟩) NB461_477.out _).trans (((cell_far (p := ⟨gb477, _, none⟩) NB461_477.out _).trans (((cell_far (p := ⟨gb477, _, none⟩) NB461_477.out _).trans (hHeld.2.2.2.1)))))))))), ((cell_far (p := ⟨gb477, _, none⟩) NB461_477.out _).trans (((cell_far (p := ⟨gb477, _, none⟩) NB461_477.out _).trans (((cell_far (p := ⟨gb477, _, none⟩) NB461_477.out _).trans (((cell_far (p := ⟨gb477, _, none⟩) NB461_477.out _).trans (((cell_far (p := ⟨gb477, _, none⟩) NB461_477.out _).trans (hHeld.2.2.2.2))))))))))⟩ (fun hHeld => ?_)
              clear hK K
              refine pure_ (i := 10) (N := some 18) (v := ?_) (a' := ?_) #[true, true, true, true, true, true, true, true, true, true, true] rfl rfl (any_of HT_.out (by kernel_rfl)) (fun _ _ _ h => h) (Or.inl ⟨by rfl, ?_⟩) ?_ ?_
              rotate_left
              ·intro w'
               go_simp
               with_reducible rfl
              rotate_left
              ·simp only [Act.put, List.setIfInBounds_toArray, List.set_cons_zero, List.set_cons_succ, i64_w, i32_w]
               rfl
              refine done_ (done_of HT_.out (by kernel_rfl)) ?_
              have hnb134 := NB461_477.out
              have hnc134 := NB477_461.out
              have hcz135_0 : w128.cell? ⟨gb461, 0, none⟩ = some (.int .u64 t455) := bc BK461 0
              have hcz135_1 : w128.cell? ⟨gb461, 1, none⟩ = some (.int .i64 t456) := bc BK461 1
              have hcz135_2 : w128.cell? ⟨gb461, 2, none⟩ = some (.int .u64 t457) := bc BK461 2
              have hcz135_3 : w128.cell? ⟨gb461, 3, none⟩ = some (.int .u64 t458) := bc BK461 3
              have hcz135_4 : w128.cell? ⟨gb461, 4, none⟩ = some (.int .i64 t459) := bc BK461 4
              have hfz135_0 := blk_frozen BK461.out 0
              have hfz135_1 := blk_frozen BK461.out 1
              have hfz135_2 := blk_frozen BK461.out 2
              have hfz135_3 := blk_frozen BK461.out 3
              have hfz135_4 := blk_frozen BK461.out 4
              try go_wp2_with (first | ((with_reducible refine gate_callee (f := 12) rfl ?_); refine goesL_ (some 104) rfl rfl Tryz.func12 (by kernel_rfl) rfl #[.agg #[.int .u64 t455, .int .i64 t456, .int .u64 t457, .int .u64 t458, .int .i64 t459]] rfl argt ?_; (with_reducible refine (mean_Mean_Floor.calls k2 t455 t456 t457 t458 t459 t478 true _ A101.out).mono ?_); rintro e w136 ⟨rfl, hb⟩; refine ⟨_, rfl, ?_⟩; replace BK446 := Aside0.mk (blk_below (g := gb446) (o := .cells #[.int .u64 x447000_2, .int .u32 x447001_2, .int .u32 x447002_2] 28 (0, 0)) (by (with_reducible repeat (first | refine blk_drewN ?_ _ | refine blk_drew ?_ | refine blk_alloc ?_ _)); refine blk_far ?_ NB446_477.out _; (with_reducible repeat (first | refine blk_drewN ?_ _ | refine blk_drew ?_ | refine blk_alloc ?_ _)); refine blk_far ?_ NB446_477.out _; (with_reducible repeat (first | refine blk_drewN ?_ _ | refine blk_drew ?_ | refine blk_alloc ?_ _)); refine blk_far ?_ NB446_477.out _; (with_reducible repeat (first | refine blk_drewN ?_ _ | refine blk_drew ?_ | refine blk_alloc ?_ _)); refine blk_far ?_ NB446_477.out _; (with_reducible repeat (first | refine blk_drewN ?_ _ | refine blk_drew ?_ | refine blk_alloc ?_ _)); refine blk_far ?_ NB446_477.out _; exact blkt BK446) hb); replace BK447 := Aside0.mk (blk_below (g := gb447) (o := .cells #[.int .u64 x448000_2, .int .u32 x448001_2, .int .u32 x448002_2] 28 (0, 0)) (by (with_reducible repeat (first | refine blk_drewN ?_ _ | refine blk_drew ?_ | refine blk_alloc ?_ _)); refine blk_far ?_ NB447_477.out _; (with_reducible repeat (first | refine blk_drewN ?_ _ | refine blk_drew ?_ | refine blk_alloc ?_ _)); refine blk_far ?_ NB447_477.out _; (with_reducible repeat (first | refine blk_drewN ?_ _ | refine blk_drew ?_ | refine blk_alloc ?_ _)); refine blk_far ?_ NB447_477.out _; (with_reducible repeat (first | refine blk_drewN ?_ _ | refine blk_drew ?_ | refine blk_alloc ?_ _)); refine blk_far ?_ NB447_477.out _; (with_reducible repeat (first | refine blk_drewN ?_ _ | refine blk_drew ?_ | refine blk_alloc ?_ _)); refine blk_far ?_ NB447_477.out _; exact blkt BK447) hb); replace BK461 := Aside0.mk (blk_below (g := gb461) (o := .cells #[.int .u64 t455, .int .i64 t456, .int .u64 t457, .int .u64 t458, .int .i64 t459] 33 (0, 0)) (by (with_reducible repeat (first | refine blk_drewN ?_ _ | refine blk_drew ?_ | refine blk_alloc ?_ _)); refine blk_far ?_ NB461_477.out _; (with_reducible repeat (first | refine blk_drewN ?_ _ | refine blk_drew ?_ | refine blk_alloc ?_ _)); refine blk_far ?_ NB461_477.out _; (with_reducible repeat (first | refine blk_drewN ?_ _ | refine blk_drew ?_ | refine blk_alloc ?_ _)); refine blk_far ?_ NB461_477.out _; (with_reducible repeat (first | refine blk_drewN ?_ _ | refine blk_drew ?_ | refine blk_alloc ?_ _)); refine blk_far ?_ NB461_477.out _; (with_reducible repeat (first | refine blk_drewN ?_ _ | refine blk_drew ?_ | refine blk_alloc ?_ _)); refine blk_far ?_ NB461_477.out _; exact blkt BK461) hb); replace BK469 := Aside0.mk (blk_below (g := gb469) (o := .cells #[.int .u64 t463, .int .i64 t464, .int .u64 t465, .int .u64 t466, .int .i64 t467] 33 (0, 0)) (by (with_reducible repeat (first | refine blk_drewN ?_ _ | refine blk_drew ?_ | refine blk_alloc ?_ _)); refine blk_far ?_ NB469_477.out _; (with_reducible repeat (first | refine blk_drewN ?_ _ | refine blk_drew ?_ | refine blk_alloc ?_ _)); refine blk_far ?_ NB469_477.out _; (with_reducible repeat (first | refine blk_drewN ?_ _ | refine blk_drew ?_ | refine blk_alloc ?_ _)); refine blk_far ?_ NB469_477.out _; (with_reducible repeat (first | refine blk_drewN ?_ _ | refine blk_drew ?_ | refine blk_alloc ?_ _)); refine blk_far ?_ NB469_477.out _; (with_reducible repeat (first | refine blk_drewN ?_ _ | refine blk_drew ?_ | refine blk_alloc ?_ _)); refine blk_far ?_ NB469_477.out _; exact blkt BK469) hb); replace BK477 := Aside0.mk (blk_below (g := gb477) (o := .cells #[.int .u64 t471, .int .i64 t472, .int .u64 t473, .int .u64 t474, .int .i64 t475] 33 (0, 0)) (by (with_reducible repeat (first | refine blk_drewN ?_ _ | refine blk_drew ?_ | refine blk_alloc ?_ _)); refine blk_put (cs := #[.int .u64 t471, .int .i64 t472, .int .u64 t473, .int .u64 t474, .int .i64 0]) ?_ 4 _ rfl; (with_reducible repeat (first | refine blk_drewN ?_ _ | refine blk_drew ?_ | refine blk_alloc ?_ _)); refine blk_put (cs := #[.int .u64 t471, .int .i64 t472, .int .u64 t473, .int .u64 0, .int .i64 0]) ?_ 3 _ rfl; (with_reducible repeat (first | refine blk_drewN ?_ _ | refine blk_drew ?_ | refine blk_alloc ?_ _)); refine blk_put (cs := #[.int .u64 t471, .int .i64 t472, .int .u64 0, .int .u64 0, .int .i64 0]) ?_ 2 _ rfl; (with_reducible repeat (first | refine blk_drewN ?_ _ | refine blk_drew ?_ | refine blk_alloc ?_ _)); refine blk_put (cs := #[.int .u64 t471, .int .i64 0, .int .u64 0, .int .u64 0, .int .i64 0]) ?_ 1 _ rfl; (with_reducible repeat (first | refine blk_drewN ?_ _ | refine blk_drew ?_ | refine blk_alloc ?_ _)); refine blk_put (cs := #[.int .u64 0, .int .i64 0, .int .u64 0, .int .u64 0, .int .i64 0]) ?_ 0 _ rfl; exact blkt BK477) hb); replace HB := belb HB hb; (try clear hb); (try clear hb2); (try clear hk); (try clear hi); have hnb137 := NB469_477.out; have hnc137 := NB477_469.out; have hcz138_0 : w136.cell? ⟨gb469, 0, none⟩ = some (.int .u64 t463) := bc BK469 0; have hcz138_1 : w136.cell? ⟨gb469, 1, none⟩ = some (.int .i64 t464) := bc BK469 1; have hcz138_2 : w136.cell? ⟨gb469, 2, none⟩ = some (.int .u64 t465) := bc BK469 2; have hcz138_3 : w136.cell? ⟨gb469, 3, none⟩ = some (.int .u64 t466) := bc BK469 3; have hcz138_4 : w136.cell? ⟨gb469, 4, none⟩ = some (.int .i64 t467) := bc BK469 4; have hfz138_0 := blk_frozen BK469.out 0; have hfz138_1 := blk_frozen BK469.out 1; have hfz138_2 := blk_frozen BK469.out 2; have hfz138_3 := blk_frozen BK469.out 3; have hfz138_4 := blk_frozen BK469.out 4) | ((with_reducible refine gate_callee (f := 12) rfl ?_); refine goesL_ (some 109) rfl rfl Tryz.func12 (by kernel_rfl) rfl #[.agg #[.int .u64 t463, .int .i64 t464, .int .u64 t465, .int .u64 t466, .int .i64 t467]] rfl argt ?_; (with_reducible refine (mean_Mean_Floor.calls k2 t463 t464 t465 t466 t467 t480 true _ A102.out).mono ?_); rintro e w139 ⟨rfl, hb⟩; refine ⟨_, rfl, ?_⟩; replace BK446 := blkb BK446 hb; replace BK447 := blkb BK447 hb; replace BK461 := blkb BK461 hb; replace BK469 := blkb BK469 hb; replace BK477 := blkb BK477 hb; replace HB := belb HB hb; (try clear hb); (try clear hb2); (try clear hk); (try clear hi); have hnb140 := NB477_446.out; have hnc140 := NB446_477.out; have hnb141 := NB477_447.out; have hnc141 := NB447_477.out; have hcz142_0 : w139.cell? ⟨gb477, 0, none⟩ = some (.int .u64 t471) := bc BK477 0; have hcz142_1 : w139.cell? ⟨gb477, 1, none⟩ = some (.int .i64 t472) := bc BK477 1; have hcz142_2 : w139.cell? ⟨gb477, 2, none⟩ = some (.int .u64 t473) := bc BK477 2; have hcz142_3 : w139.cell? ⟨gb477, 3, none⟩ = some (.int .u64 t474) := bc BK477 3; have hcz142_4 : w139.cell? ⟨gb477, 4, none⟩ = some (.int .i64 t475) := bc BK477 4; have hfz142_0 := blk_frozen BK477.out 0; have hfz142_1 := blk_frozen BK477.out 1; have hfz142_2 := blk_frozen BK477.out 2; have hfz142_3 := blk_frozen BK477.out 3; have hfz142_4 := blk_frozen BK477.out 4; have hcz143_0 : w139.cell? ⟨gb469, 0, none⟩ = some (.int .u64 t463) := bc BK469 0; have hcz143_1 : w139.cell? ⟨gb469, 1, none⟩ = some (.int .i64 t464) := bc BK469 1; have hcz143_2 : w139.cell? ⟨gb469, 2, none⟩ = some (.int .u64 t465) := bc BK469 2; have hcz143_3 : w139.cell? ⟨gb469, 3, none⟩ = some (.int .u64 t466) := bc BK469 3; have hcz143_4 : w139.cell? ⟨gb469, 4, none⟩ = some (.int .i64 t467) := bc BK469 4; have hfz143_0 := blk_frozen BK469.out 0; have hfz143_1 := blk_frozen BK469.out 1; have hfz143_2 := blk_frozen BK469.out 2; have hfz143_3 := blk_frozen BK469.out 3; have hfz143_4 := blk_frozen BK469.out 4; have hnb144 := NB446_447.out; have hnc144 := NB447_446.out; have hcz145_0 : w139.cell? ⟨gb446, 0, none⟩ = some (.int .u64 x447000_2) := bc BK446 0; have hcz145_1 : w139.cell? ⟨gb446, 1, none⟩ = some (.int .u32 x447001_2) := bc BK446 1; have hcz145_2 : w139.cell? ⟨gb446, 2, none⟩ = some (.int .u32 x447002_2) := bc BK446 2; have hfz145_0 := blk_frozen BK446.out 0; have hfz145_1 := blk_frozen BK446.out 1; have hfz145_2 := blk_frozen BK446.out 2) | (go_at_call 18; (with_reducible refine (vtime_Time_Before.calls t478 x447000_2 false _ A110.out).mono ?_); rintro e w' ⟨rfl, ⟨nd, rfl⟩⟩; have hcz146_0 : w139.cell? ⟨gb447, 0, none⟩ = some (.int .u64 x448000_2) := bc BK447 0; have hcz146_1 : w139.cell? ⟨gb447, 1, none⟩ = some (.int .u32 x448001_2) := bc BK447 1; have hcz146_2 : w139.cell? ⟨gb447, 2, none⟩ = some (.int .u32 x448002_2) := bc BK447 2; have hfz146_0 := blk_frozen BK447.out 0; have hfz146_1 := blk_frozen BK447.out 1; have hfz146_2 := blk_frozen BK447.out 2) | (go_at_call 18; (with_reducible refine (vtime_Time_Before.calls x448000_2 t478 t483 _ A112.out).mono ?_); rintro e w' ⟨rfl, ⟨nd, rfl⟩⟩))
              go_ret
              exact ⟨by first | rfl | (simp [errW_none, errW_some] <;> rfl) | (simp [*, errW_none, errW_some] <;> rfl), belt HB⟩
             rw [if_neg c109] at H
             exact absurd H (by simp)
            rw [if_neg c108] at H
            exact absurd H (by simp)
           replace c107 := Bool.eq_false_iff.mpr c107
           subst c107
           have H1 : (none) = some r := by rw [if_neg (show ¬ (false = true) by decide)] at H; exact H
           clear H
           have H := H1
           clear H1
           exact absurd H (by simp)
          replace c106 := Bool.eq_false_iff.mpr c106
          subst c106
          have H1 : (none) = some r := by rw [if_neg (show ¬ (false = true) by decide)] at H; exact H
          clear H
          have H := H1
          clear H1
          exact absurd H (by simp)
         replace c105 := Bool.eq_false_iff.mpr c105
         subst c105
         have H1 : (none) = some r := by rw [if_neg (show ¬ (false = true) by decide)] at H; exact H
         clear H
         have H := H1
         clear H1
         exact absurd H (by simp)
        replace c104 := Bool.eq_false_iff.mpr c104
        subst c104
        have H1 : (none) = some r := by rw [if_neg (show ¬ (false = true) by decide)] at H; exact H
        clear H
        have H := H1
        clear H1
        exact absurd H (by simp)
       replace c103 := Bool.eq_false_iff.mpr c103
       subst c103
       have H1 : (none) = some r := by rw [if_neg (show ¬ (false = true) by decide)] at H; exact H
       clear H
       have H := H1
       clear H1
       exact absurd H (by simp)
    rw [if_neg c12] at H
    exact absurd H (by simp)
 replace c5 := Bool.eq_false_iff.mpr c5
 subst c5
 have H1 : (none) = some r := by rw [if_neg (show ¬ (false = true) by decide)] at H; exact H
 clear H
 have H := H1
 clear H1
 exact absurd H (by simp)

/-- THE ONE PURE STATEMENT of turnstonelaw08_MeanBetween. -/
def turnstonelaw08_MeanBetween.Pure : Prop := ∀ (a0 : Int) (l1 : List (S28)) (a2 : Int), (Lit.int .u64 a0).wf = true → l1.length ≤ maxLen → (∀ x ∈ l1, wfS28 x) → (Lit.int .i64 a2).wf = true → ∃ k, turnstonelaw08_MeanBetween.f k a0 l1 a2 = some true
theorem turnstonelaw08_MeanBetween.walk (P : turnstonelaw08_MeanBetween.Pure) (a0 : Int) (A1 : Option Addr) (c1 : Nat) (l1 : List (S28)) (a2 : Int) (w : World) (w0 : (Lit.int .u64 a0).wf = true) (hr1 : Kd.C k28 w A1 l1.length l1) (hc1 : l1.length ≤ c1) (hm1 : l1.length ≤ maxLen) (hw1 : ∀ x ∈ l1, wfS28 x) (w2 : (Lit.int .i64 a2).wf = true) :
  Calls Tryz.prog 4 #[.int .u64 a0, .slice A1 l1.length c1, .int .i64 a2] w fun e w' => e = .returned (.bool true) ∧ Below w.heap.size w w' := by
 obtain ⟨k, h⟩ := P a0 l1 a2 w0 hm1 hw1 w2
 refine (turnstonelaw08_MeanBetween.calls k a0 _ _ l1 a2 true w hr1 hc1 h).mono ?_
 rintro e w' ⟨rfl, hd⟩
 exact ⟨rfl, hd⟩

end Go.Proofs.YtccokfebebmaeaaGreatDoor.Print
