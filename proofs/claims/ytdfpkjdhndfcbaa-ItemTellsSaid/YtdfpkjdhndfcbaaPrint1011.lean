/- What each Go function that is named below answers, as a Lean function, and that its walk comes to just that: for whatever arguments that function gives an answer for. Written by a program of this session (wip/mkpr.py, pr.sh). -/
import Derived.Test.YtdfpkjdhndfcbaaPrint1000
import Derived.Test.YtdfpkjdhndfcbaaPrint1001
import Derived.Test.YtdfpkjdhndfcbaaPrint1005
import Derived.Test.YtdfpkjdhndfcbaaPrint1009
import Derived.Test.YtdfpkjdhndfcbaaPrint1010
namespace Go.Proofs.Ytdfpkjdhndfcbaa.Print
open Go.RowKit Go.Proofs.YtdfpkjdhndfcbaaW.PrintWords Go.Proofs.YtdfpkjdhndfcbaaW.PrintLast Go.Proofs.YtdfpkjdhndfcbaaW.PrintMore
attribute [local go_sem] max2_int min2_int max_two min_two max_three min_three max_four min_four   -- for this text's walks alone
open Go.Proofs.Ytdfpkjdhndfcbaa.Bits Go.Proofs.Ytdfpkjdhndfcbaa.Short
attribute [local go_sem] add64_run0 sub64_run0 add64_run sub64_run
set_option linter.unusedVariables false
set_option linter.unusedSimpArgs false

attribute [local go_sem high] eqA26
/-! ### turnstonelaw05_ItemTells: function 4 -/
def turnstonelaw05_ItemTells.j0 : Nat → Bool → Int → Int → Int → Int → Int → Int → Int → Int → Int → Int → Int → Int → Int → Int → Option (Bool)
 | 0, _, _, _, _, _, _, _, _, _, _, _, _, _, _, _ => none
 | k + 1, x43, x405000, x405001, x405002, x405003, x405004, x405005, x405006, x406000, x406001, x406002, x406003, x406004, x406005, x406006 => if x43 = true then (none) else ((turnstonelaw05_Of.f x405000 x405001 x405002 x405003 x405004 x405005 x405006).bind fun bt430 => ((turnstoneref05_Right.f k bt430.1 bt430.2.1 bt430.2.2.1 bt430.2.2.2.1 bt430.2.2.2.2.1 bt430.2.2.2.2.2.1 bt430.2.2.2.2.2.2).bind fun t437 => (if t437 = true then ((turnstonelaw05_Of.f x406000 x406001 x406002 x406003 x406004 x406005 x406006).bind fun bt438 => ((turnstoneref05_Right.f k bt438.1 bt438.2.1 bt438.2.2.1 bt438.2.2.2.1 bt438.2.2.2.2.1 bt438.2.2.2.2.2.1 bt438.2.2.2.2.2.2).bind fun t445 => (if t445 = true then ((item_Item_Ahead.f k x405000 x405001 x405002 x405003 x405004 x405005 x405006 x406000 x406001 x406002 x406003 x406004 x406005 x406006).bind fun t446 => ((turnstonelaw05_Of.f x405000 x405001 x405002 x405003 x405004 x405005 x405006).bind fun bt447 => ((turnstonelaw05_Of.f x406000 x406001 x406002 x406003 x406004 x406005 x406006).bind fun bt454 => ((turnstoneref05_Ahead.f k bt447.1 bt447.2.1 bt447.2.2.1 bt447.2.2.2.1 bt447.2.2.2.2.1 bt447.2.2.2.2.2.1 bt447.2.2.2.2.2.2 bt454.1 bt454.2.1 bt454.2.2.1 bt454.2.2.2.1 bt454.2.2.2.2.1 bt454.2.2.2.2.2.1 bt454.2.2.2.2.2.2).bind fun t461 => (if (t446 == t461) = true then ((item_Item_Due.f k x405000 x405001 x405002 x405003 x405004 x405005 x405006 x406000 x406001 x406002 x406003 x406004 x406005 x406006).bind fun t462 => ((turnstonelaw05_Of.f x405000 x405001 x405002 x405003 x405004 x405005 x405006).bind fun bt463 => ((turnstonelaw05_Of.f x406000 x406001 x406002 x406003 x406004 x406005 x406006).bind fun bt470 => ((turnstoneref05_Due.f k bt463.1 bt463.2.1 bt463.2.2.1 bt463.2.2.2.1 bt463.2.2.2.2.1 bt463.2.2.2.2.2.1 bt463.2.2.2.2.2.2 bt470.1 bt470.2.1 bt470.2.2.1 bt470.2.2.2.1 bt470.2.2.2.2.1 bt470.2.2.2.2.2.1 bt470.2.2.2.2.2.2).bind fun t477 => (some (t462 == t477)))))) else (none)))))) else (some true)))) else (some true))))
def turnstonelaw05_ItemTells.f (k : Nat) (a0_0 : Int) (a0_1 : Int) (a0_2 : Int) (a0_3 : Int) (a0_4 : Int) (a0_5 : Int) (a0_6 : Int) (a1_0 : Int) (a1_1 : Int) (a1_2 : Int) (a1_3 : Int) (a1_4 : Int) (a1_5 : Int) (a1_6 : Int) (a2 : Int) : Option (Bool) := (turnstonelaw05_awake.f).bind fun t406 => (if t406 = true then ((item_Item_Shift.f a0_0 a0_1 a0_2 a0_3 a0_4 a0_5 a0_6 a2).bind fun bt407 => ((item_Item_Right.f a0_0 a0_1 a0_2 a0_3 a0_4 a0_5 a0_6).bind fun t415 => ((turnstonelaw05_Of.f a0_0 a0_1 a0_2 a0_3 a0_4 a0_5 a0_6).bind fun bt416 => ((turnstoneref05_Right.f k bt416.1 bt416.2.1 bt416.2.2.1 bt416.2.2.2.1 bt416.2.2.2.2.1 bt416.2.2.2.2.2.1 bt416.2.2.2.2.2.2).bind fun t423 => (if (t415 != t423) = true then (turnstonelaw05_ItemTells.j0 k true a0_0 a0_1 a0_2 a0_3 a0_4 a0_5 a0_6 a1_0 a1_1 a1_2 a1_3 a1_4 a1_5 a1_6) else ((pos_Pos_Shift.f a0_0 a0_1 a0_2 a2).bind fun bt424 => (if (!(bt407.1 == bt424.1) || (!(bt407.2.1 == bt424.2.1) || (!(bt407.2.2.1 == bt424.2.2)))) = true then (turnstonelaw05_ItemTells.j0 k true a0_0 a0_1 a0_2 a0_3 a0_4 a0_5 a0_6 a1_0 a1_1 a1_2 a1_3 a1_4 a1_5 a1_6) else ((pos_Pos_Shift.f a0_4 a0_5 a0_6 a2).bind fun bt427 => (if (!(bt407.2.2.2.2.1 == bt427.1) || (!(bt407.2.2.2.2.2.1 == bt427.2.1) || (!(bt407.2.2.2.2.2.2 == bt427.2.2)))) = true then (turnstonelaw05_ItemTells.j0 k true a0_0 a0_1 a0_2 a0_3 a0_4 a0_5 a0_6 a1_0 a1_1 a1_2 a1_3 a1_4 a1_5 a1_6) else (turnstonelaw05_ItemTells.j0 k (bt407.2.2.2.1 != a0_3) a0_0 a0_1 a0_2 a0_3 a0_4 a0_5 a0_6 a1_0 a1_1 a1_2 a1_3 a1_4 a1_5 a1_6)))))))))) else (none))
theorem turnstonelaw05_ItemTells.mono_l : ∀ k, (∀ y0 y1 y2 y3 y4 y5 y6 y7 y8 y9 y10 y11 y12 y13 y14, LeO (turnstonelaw05_ItemTells.j0 k y0 y1 y2 y3 y4 y5 y6 y7 y8 y9 y10 y11 y12 y13 y14) (turnstonelaw05_ItemTells.j0 (k + 1) y0 y1 y2 y3 y4 y5 y6 y7 y8 y9 y10 y11 y12 y13 y14))
 | 0 => fun _ _ _ _ _ _ _ _ _ _ _ _ _ _ _ r h => by simp [turnstonelaw05_ItemTells.j0] at h
 | k + 1 => by
  have ih0 := turnstonelaw05_ItemTells.mono_l k
  ·intro y0 y1 y2 y3 y4 y5 y6 y7 y8 y9 y10 y11 y12 y13 y14
   unfold turnstonelaw05_ItemTells.j0
   repeat' first
   | (with_reducible exact ih0 _ _ _ _ _ _ _ _ _ _ _ _ _ _ _)
   | (with_reducible exact item_Item_Ahead.mono _ _ _ _ _ _ _ _ _ _ _ _ _ _ _)
   | (with_reducible exact item_Item_Due.mono _ _ _ _ _ _ _ _ _ _ _ _ _ _ _)
   | (with_reducible exact turnstoneref05_Ahead.mono _ _ _ _ _ _ _ _ _ _ _ _ _ _ _)
   | (with_reducible exact turnstoneref05_Due.mono _ _ _ _ _ _ _ _ _ _ _ _ _ _ _)
   | (with_reducible exact turnstoneref05_Right.mono _ _ _ _ _ _ _ _)
   | (with_reducible exact LeO.refl _)
   | (with_reducible exact LeO.none _)
   | (with_reducible refine LeO.ite ?_ ?_)
   | (with_reducible refine LeO.bind ?_ (fun _ => ?_))
   | exact ih0 _ _ _ _ _ _ _ _ _ _ _ _ _ _ _
   | exact item_Item_Ahead.mono _ _ _ _ _ _ _ _ _ _ _ _ _ _ _
   | exact item_Item_Due.mono _ _ _ _ _ _ _ _ _ _ _ _ _ _ _
   | exact turnstoneref05_Ahead.mono _ _ _ _ _ _ _ _ _ _ _ _ _ _ _
   | exact turnstoneref05_Due.mono _ _ _ _ _ _ _ _ _ _ _ _ _ _ _
   | exact turnstoneref05_Right.mono _ _ _ _ _ _ _ _
   | exact LeO.none _
   | refine LeO.ite ?_ ?_
   | refine LeO.bind ?_ (fun _ => ?_)
theorem turnstonelaw05_ItemTells.mono : ∀ a0 a1 a2 a3 a4 a5 a6 a7 a8 a9 a10 a11 a12 a13 a14 k, LeO (turnstonelaw05_ItemTells.f k a0 a1 a2 a3 a4 a5 a6 a7 a8 a9 a10 a11 a12 a13 a14) (turnstonelaw05_ItemTells.f (k + 1) a0 a1 a2 a3 a4 a5 a6 a7 a8 a9 a10 a11 a12 a13 a14) := by
 intro a0 a1 a2 a3 a4 a5 a6 a7 a8 a9 a10 a11 a12 a13 a14 k
 have ih0 := turnstonelaw05_ItemTells.mono_l k
 unfold turnstonelaw05_ItemTells.f
 repeat' first
   | (with_reducible exact ih0 _ _ _ _ _ _ _ _ _ _ _ _ _ _ _)
   | (with_reducible exact item_Item_Ahead.mono _ _ _ _ _ _ _ _ _ _ _ _ _ _ _)
   | (with_reducible exact item_Item_Due.mono _ _ _ _ _ _ _ _ _ _ _ _ _ _ _)
   | (with_reducible exact turnstoneref05_Ahead.mono _ _ _ _ _ _ _ _ _ _ _ _ _ _ _)
   | (with_reducible exact turnstoneref05_Due.mono _ _ _ _ _ _ _ _ _ _ _ _ _ _ _)
   | (with_reducible exact turnstoneref05_Right.mono _ _ _ _ _ _ _ _)
   | (with_reducible exact LeO.refl _)
   | (with_reducible exact LeO.none _)
   | (with_reducible refine LeO.ite ?_ ?_)
   | (with_reducible refine LeO.bind ?_ (fun _ => ?_))
   | exact ih0 _ _ _ _ _ _ _ _ _ _ _ _ _ _ _
   | exact item_Item_Ahead.mono _ _ _ _ _ _ _ _ _ _ _ _ _ _ _
   | exact item_Item_Due.mono _ _ _ _ _ _ _ _ _ _ _ _ _ _ _
   | exact turnstoneref05_Ahead.mono _ _ _ _ _ _ _ _ _ _ _ _ _ _ _
   | exact turnstoneref05_Due.mono _ _ _ _ _ _ _ _ _ _ _ _ _ _ _
   | exact turnstoneref05_Right.mono _ _ _ _ _ _ _ _
   | exact LeO.none _
   | refine LeO.ite ?_ ?_
   | refine LeO.bind ?_ (fun _ => ?_)
def turnstonelaw05_ItemTells.T4 : Bool × List (List Nat × List Nat) := (true, [([], []), ([0], [0]), ([], []), ([2, 1], [2]), ([3, 3], [3]), ([1, 4], [1, 4]), ([5, 4], [5]), ([6], [6]), ([7, 6], [6, 7]), ([6], [6]), ([9, 6], [6, 9]), ([6], [6]), ([10, 11, 6, 6], [6, 10, 11]), ([8, 12, 6], [6, 8, 12]), ([6, 13], [6, 13]), ([14, 12], [14]), ([15], [15]), ([16, 15], [15, 16]), ([15], [15]), ([18, 15], [15, 18]), ([15], [15]), ([19, 20, 15, 15], [15, 19, 20]), ([17, 21, 15], [15, 17, 21]), ([15, 22], [15, 22]), ([23, 21], [23]), ([24], [24]), ([25, 24], [24, 25]), ([24], [24]), ([27, 24], [24, 27]), ([26, 28, 24], [24, 26, 28]), ([24, 29], [24, 29])])
def turnstonelaw05_ItemTells.B4 : List Nat := [0, 1, 0, 7, 15, 31, 63, 127, 255, 127, 639, 127, 3711, 8191, 16383, 32767, 65535, 131071, 65535, 327679, 65535, 1900543, 4194303, 8388607, 16777215, 33554431, 67108863, 33554431, 167772159, 536870911, 1073741823]
theorem turnstonelaw05_ItemTells.tab4 : rtab .any (opsOf Try.f4 4) = turnstonelaw05_ItemTells.T4 := by kernel_rfl
theorem turnstonelaw05_ItemTells.bits4 : waitsOk turnstonelaw05_ItemTells.T4.2 turnstonelaw05_ItemTells.B4 = true := by kernel_rfl
def turnstonelaw05_ItemTells.T6 : Bool × List (List Nat × List Nat) := (true, [([], []), ([0], [0]), ([1, 1], [1]), ([2], [2]), ([3, 2], [3]), ([4], [4]), ([5, 4, 4], [4, 5]), ([6, 6, 4], [4, 6]), ([7, 4], [4, 7]), ([4, 8], [4, 8]), ([9, 7], [9]), ([10], [10]), ([10], [10]), ([11, 12, 10, 10], [10, 11, 12]), ([10], [10]), ([14, 13, 10], [10, 14]), ([10], [10]), ([16, 15, 10], [10, 16]), ([15, 17, 17, 10], [10, 15, 17]), ([13, 18, 10], [10, 13, 18]), ([19, 18, 10], [10, 19]), ([20], [20]), ([20], [20]), ([21, 22, 20, 20], [20, 21, 22]), ([20], [20]), ([24, 23, 20], [20, 24]), ([20], [20]), ([26, 25, 20], [20, 26]), ([25, 27, 27, 20], [20, 25, 27]), ([23, 28, 20], [20, 23, 28]), ([20, 29, 10], [10, 20, 29]), ([10, 30], [10, 30]), ([31, 28, 0, 1, 2, 3, 4, 5, 6, 7, 8, 9, 10, 11, 12, 13, 14, 15, 16, 17, 18, 19, 20, 21, 22, 23, 24, 25, 26, 27, 28, 29, 30, 31], [31])])
def turnstonelaw05_ItemTells.B6 : List Nat := [0, 1, 3, 7, 15, 31, 63, 127, 255, 511, 1023, 2047, 2047, 8191, 2047, 32767, 2047, 131071, 262143, 524287, 1048575, 2097151, 2097151, 8388607, 2097151, 33554431, 2097151, 134217727, 268435455, 536870911, 1073741823, 2147483647, 4294967295]
theorem turnstonelaw05_ItemTells.tab6 : rtab .any (opsOf Try.f4 6) = turnstonelaw05_ItemTells.T6 := by kernel_rfl
theorem turnstonelaw05_ItemTells.bits6 : waitsOk turnstonelaw05_ItemTells.T6.2 turnstonelaw05_ItemTells.B6 = true := by kernel_rfl
set_option maxHeartbeats 8000000 in
set_option maxRecDepth 100000 in
theorem turnstonelaw05_ItemTells.calls (k : Nat) (a0_0 : Int) (a0_1 : Int) (a0_2 : Int) (a0_3 : Int) (a0_4 : Int) (a0_5 : Int) (a0_6 : Int) (a1_0 : Int) (a1_1 : Int) (a1_2 : Int) (a1_3 : Int) (a1_4 : Int) (a1_5 : Int) (a1_6 : Int) (a2 : Int) (r : Bool) (w : World) (h : turnstonelaw05_ItemTells.f k a0_0 a0_1 a0_2 a0_3 a0_4 a0_5 a0_6 a1_0 a1_1 a1_2 a1_3 a1_4 a1_5 a1_6 a2 = some r) :
  Calls Try.prog 4 #[.agg #[.int .u64 a0_0, .int .u32 a0_1, .int .u32 a0_2, .int .i64 a0_3, .int .u64 a0_4, .int .u32 a0_5, .int .u32 a0_6], .agg #[.int .u64 a1_0, .int .u32 a1_1, .int .u32 a1_2, .int .i64 a1_3, .int .u64 a1_4, .int .u32 a1_5, .int .u32 a1_6], .int .u64 a2] w fun e w' => e = .returned (.bool r) ∧ Below w.heap.size w w' := by
 have hu28 := Try.underlying28
 have hu26 := Try.underlying26
 have HB := Aside0.mk (Below.refl w.heap.size w)
 have H : ((turnstonelaw05_awake.f).bind fun t406 => (if t406 = true then ((item_Item_Shift.f a0_0 a0_1 a0_2 a0_3 a0_4 a0_5 a0_6 a2).bind fun bt407 => ((item_Item_Right.f a0_0 a0_1 a0_2 a0_3 a0_4 a0_5 a0_6).bind fun t415 => ((turnstonelaw05_Of.f a0_0 a0_1 a0_2 a0_3 a0_4 a0_5 a0_6).bind fun bt416 => ((turnstoneref05_Right.f k bt416.1 bt416.2.1 bt416.2.2.1 bt416.2.2.2.1 bt416.2.2.2.2.1 bt416.2.2.2.2.2.1 bt416.2.2.2.2.2.2).bind fun t423 => (if (t415 != t423) = true then (turnstonelaw05_ItemTells.j0 k true a0_0 a0_1 a0_2 a0_3 a0_4 a0_5 a0_6 a1_0 a1_1 a1_2 a1_3 a1_4 a1_5 a1_6) else ((pos_Pos_Shift.f a0_0 a0_1 a0_2 a2).bind fun bt424 => (if (!(bt407.1 == bt424.1) || (!(bt407.2.1 == bt424.2.1) || (!(bt407.2.2.1 == bt424.2.2)))) = true then (turnstonelaw05_ItemTells.j0 k true a0_0 a0_1 a0_2 a0_3 a0_4 a0_5 a0_6 a1_0 a1_1 a1_2 a1_3 a1_4 a1_5 a1_6) else ((pos_Pos_Shift.f a0_4 a0_5 a0_6 a2).bind fun bt427 => (if (!(bt407.2.2.2.2.1 == bt427.1) || (!(bt407.2.2.2.2.2.1 == bt427.2.1) || (!(bt407.2.2.2.2.2.2 == bt427.2.2)))) = true then (turnstonelaw05_ItemTells.j0 k true a0_0 a0_1 a0_2 a0_3 a0_4 a0_5 a0_6 a1_0 a1_1 a1_2 a1_3 a1_4 a1_5 a1_6) else (turnstonelaw05_ItemTells.j0 k (bt407.2.2.2.1 != a0_3) a0_0 a0_1 a0_2 a0_3 a0_4 a0_5 a0_6 a1_0 a1_1 a1_2 a1_3 a1_4 a1_5 a1_6)))))))))) else (none))) = some r := h
 clear h
 replace H := Option.bind_eq_some_iff.mp H
 obtain ⟨t406, A40, H⟩ := H
 replace H : (if t406 = true then ((item_Item_Shift.f a0_0 a0_1 a0_2 a0_3 a0_4 a0_5 a0_6 a2).bind fun bt407 => ((item_Item_Right.f a0_0 a0_1 a0_2 a0_3 a0_4 a0_5 a0_6).bind fun t415 => ((turnstonelaw05_Of.f a0_0 a0_1 a0_2 a0_3 a0_4 a0_5 a0_6).bind fun bt416 => ((turnstoneref05_Right.f k bt416.1 bt416.2.1 bt416.2.2.1 bt416.2.2.2.1 bt416.2.2.2.2.1 bt416.2.2.2.2.2.1 bt416.2.2.2.2.2.2).bind fun t423 => (if (t415 != t423) = true then (turnstonelaw05_ItemTells.j0 k true a0_0 a0_1 a0_2 a0_3 a0_4 a0_5 a0_6 a1_0 a1_1 a1_2 a1_3 a1_4 a1_5 a1_6) else ((pos_Pos_Shift.f a0_0 a0_1 a0_2 a2).bind fun bt424 => (if (!(bt407.1 == bt424.1) || (!(bt407.2.1 == bt424.2.1) || (!(bt407.2.2.1 == bt424.2.2)))) = true then (turnstonelaw05_ItemTells.j0 k true a0_0 a0_1 a0_2 a0_3 a0_4 a0_5 a0_6 a1_0 a1_1 a1_2 a1_3 a1_4 a1_5 a1_6) else ((pos_Pos_Shift.f a0_4 a0_5 a0_6 a2).bind fun bt427 => (if (!(bt407.2.2.2.2.1 == bt427.1) || (!(bt407.2.2.2.2.2.1 == bt427.2.1) || (!(bt407.2.2.2.2.2.2 == bt427.2.2)))) = true then (turnstonelaw05_ItemTells.j0 k true a0_0 a0_1 a0_2 a0_3 a0_4 a0_5 a0_6 a1_0 a1_1 a1_2 a1_3 a1_4 a1_5 a1_6) else (turnstonelaw05_ItemTells.j0 k (bt407.2.2.2.1 != a0_3) a0_0 a0_1 a0_2 a0_3 a0_4 a0_5 a0_6 a1_0 a1_1 a1_2 a1_3 a1_4 a1_5 a1_6)))))))))) else (none)) = some r := H
 have A4 := Aside0.mk A40
 clear A40
 by_cases c5 : t406 = true
 ·subst c5
  have H1 : ((item_Item_Shift.f a0_0 a0_1 a0_2 a0_3 a0_4 a0_5 a0_6 a2).bind fun bt407 => ((item_Item_Right.f a0_0 a0_1 a0_2 a0_3 a0_4 a0_5 a0_6).bind fun t415 => ((turnstonelaw05_Of.f a0_0 a0_1 a0_2 a0_3 a0_4 a0_5 a0_6).bind fun bt416 => ((turnstoneref05_Right.f k bt416.1 bt416.2.1 bt416.2.2.1 bt416.2.2.2.1 bt416.2.2.2.2.1 bt416.2.2.2.2.2.1 bt416.2.2.2.2.2.2).bind fun t423 => (if (t415 != t423) = true then (turnstonelaw05_ItemTells.j0 k true a0_0 a0_1 a0_2 a0_3 a0_4 a0_5 a0_6 a1_0 a1_1 a1_2 a1_3 a1_4 a1_5 a1_6) else ((pos_Pos_Shift.f a0_0 a0_1 a0_2 a2).bind fun bt424 => (if (!(bt407.1 == bt424.1) || (!(bt407.2.1 == bt424.2.1) || (!(bt407.2.2.1 == bt424.2.2)))) = true then (turnstonelaw05_ItemTells.j0 k true a0_0 a0_1 a0_2 a0_3 a0_4 a0_5 a0_6 a1_0 a1_1 a1_2 a1_3 a1_4 a1_5 a1_6) else ((pos_Pos_Shift.f a0_4 a0_5 a0_6 a2).bind fun bt427 => (if (!(bt407.2.2.2.2.1 == bt427.1) || (!(bt407.2.2.2.2.2.1 == bt427.2.1) || (!(bt407.2.2.2.2.2.2 == bt427.2.2)))) = true then (turnstonelaw05_ItemTells.j0 k true a0_0 a0_1 a0_2 a0_3 a0_4 a0_5 a0_6 a1_0 a1_1 a1_2 a1_3 a1_4 a1_5 a1_6) else (turnstonelaw05_ItemTells.j0 k (bt407.2.2.2.1 != a0_3) a0_0 a0_1 a0_2 a0_3 a0_4 a0_5 a0_6 a1_0 a1_1 a1_2 a1_3 a1_4 a1_5 a1_6)))))))))) = some r := by rw [if_pos rfl] at H; exact H
  clear H
  have H := H1
  clear H1
  replace H := Option.bind_eq_some_iff.mp H
  obtain ⟨⟨t407, t408, t409, t410, t411, t412, t413⟩, A60, H⟩ := H
  replace H : ((item_Item_Right.f a0_0 a0_1 a0_2 a0_3 a0_4 a0_5 a0_6).bind fun t415 => ((turnstonelaw05_Of.f a0_0 a0_1 a0_2 a0_3 a0_4 a0_5 a0_6).bind fun bt416 => ((turnstoneref05_Right.f k bt416.1 bt416.2.1 bt416.2.2.1 bt416.2.2.2.1 bt416.2.2.2.2.1 bt416.2.2.2.2.2.1 bt416.2.2.2.2.2.2).bind fun t423 => (if (t415 != t423) = true then (turnstonelaw05_ItemTells.j0 k true a0_0 a0_1 a0_2 a0_3 a0_4 a0_5 a0_6 a1_0 a1_1 a1_2 a1_3 a1_4 a1_5 a1_6) else ((pos_Pos_Shift.f a0_0 a0_1 a0_2 a2).bind fun bt424 => (if (!(t407 == bt424.1) || (!(t408 == bt424.2.1) || (!(t409 == bt424.2.2)))) = true then (turnstonelaw05_ItemTells.j0 k true a0_0 a0_1 a0_2 a0_3 a0_4 a0_5 a0_6 a1_0 a1_1 a1_2 a1_3 a1_4 a1_5 a1_6) else ((pos_Pos_Shift.f a0_4 a0_5 a0_6 a2).bind fun bt427 => (if (!(t411 == bt427.1) || (!(t412 == bt427.2.1) || (!(t413 == bt427.2.2)))) = true then (turnstonelaw05_ItemTells.j0 k true a0_0 a0_1 a0_2 a0_3 a0_4 a0_5 a0_6 a1_0 a1_1 a1_2 a1_3 a1_4 a1_5 a1_6) else (turnstonelaw05_ItemTells.j0 k (t410 != a0_3) a0_0 a0_1 a0_2 a0_3 a0_4 a0_5 a0_6 a1_0 a1_1 a1_2 a1_3 a1_4 a1_5 a1_6))))))))) = some r := H
  have A6 := Aside0.mk A60
  clear A60
  have HC7 := Aside0.mk H
  clear H
  go_enter Try.func4, Try.ntmps4
  go_upto_region 4 with (first | ((with_reducible refine gate_dst (N := 3) rfl ?_); refine box_event ?hg (N := 3) ?hd (cs := #[.int .u64 a0_0, .int .u32 a0_1, .int .u32 a0_2, .int .i64 a0_3, .int .u64 a0_4, .int .u32 a0_5, .int .u32 a0_6]) (t := 28) ?hr ?_; (case hd => rfl); (case hg => rfl); (case hr => first | (go_simp; done) | (go_simp; rfl)); intro gb404 hg w8 hbox hb; have BK404 := Aside0.mk (hbox); have GW404 := bels HB hg; have GE404 := bels HB hg; replace HB := belb HB hb; clear hb hbox hg) | ((with_reducible refine gate_dst (N := 4) rfl ?_); refine box_event ?hg (N := 4) ?hd (cs := #[.int .u64 a1_0, .int .u32 a1_1, .int .u32 a1_2, .int .i64 a1_3, .int .u64 a1_4, .int .u32 a1_5, .int .u32 a1_6]) (t := 28) ?hr ?_; (case hd => rfl); (case hg => rfl); (case hr => first | (go_simp; done) | (go_simp; rfl)); intro gb405 hg w9 hbox hb; have BK405 := Aside0.mk (hbox); have GW405 := bels HB hg; have GE405 := bels HB hg; have NB404_405 := blkl BK404 hg; have NB405_404 := blkg BK404 hg; replace BK404 := blkb BK404 hb; replace HB := belb HB hb; clear hb hbox hg) | ((with_reducible refine gate_callee (f := 6) rfl ?_); refine goesL_ (some 8) rfl rfl Try.func6 (by kernel_rfl) rfl #[] rfl argt ?_; (with_reducible refine (turnstonelaw05_awake.calls  true _ A4.out).mono ?_); rintro e w10 ⟨rfl, hb⟩; refine ⟨_, rfl, ?_⟩; replace BK404 := blkb BK404 hb; replace BK405 := blkb BK405 hb; replace HB := belb HB hb; (try clear hb); (try clear hb2); (try clear hk); (try clear hi); have hnb11 := NB404_405.out; have hnc11 := NB405_404.out; have hcz12_0 : w10.cell? ⟨gb404, 0, none⟩ = some (.int .u64 a0_0) := bc BK404 0; have hcz12_1 : w10.cell? ⟨gb404, 1, none⟩ = some (.int .u32 a0_1) := bc BK404 1; have hcz12_2 : w10.cell? ⟨gb404, 2, none⟩ = some (.int .u32 a0_2) := bc BK404 2; have hcz12_3 : w10.cell? ⟨gb404, 3, none⟩ = some (.int .i64 a0_3) := bc BK404 3; have hcz12_4 : w10.cell? ⟨gb404, 4, none⟩ = some (.int .u64 a0_4) := bc BK404 4; have hcz12_5 : w10.cell? ⟨gb404, 5, none⟩ = some (.int .u32 a0_5) := bc BK404 5; have hcz12_6 : w10.cell? ⟨gb404, 6, none⟩ = some (.int .u32 a0_6) := bc BK404 6; have hfz12_0 := blk_frozen BK404.out 0; have hfz12_1 := blk_frozen BK404.out 1; have hfz12_2 := blk_frozen BK404.out 2; have hfz12_3 := blk_frozen BK404.out 3; have hfz12_4 := blk_frozen BK404.out 4; have hfz12_5 := blk_frozen BK404.out 5; have hfz12_6 := blk_frozen BK404.out 6) | ((with_reducible refine gate_callee (f := 10) rfl ?_); refine goesL_ (some 12) rfl rfl Try.func10 (by kernel_rfl) rfl #[.agg #[.int .u64 a0_0, .int .u32 a0_1, .int .u32 a0_2, .int .i64 a0_3, .int .u64 a0_4, .int .u32 a0_5, .int .u32 a0_6], .int .u64 a2] rfl argt ?_; (with_reducible refine (item_Item_Shift.calls a0_0 a0_1 a0_2 a0_3 a0_4 a0_5 a0_6 a2 t407 t408 t409 t410 t411 t412 t413 _ A6.out).mono ?_); rintro e w13 ⟨rfl, hb⟩; refine ⟨_, rfl, ?_⟩; replace BK404 := blkb BK404 hb; replace BK405 := blkb BK405 hb; replace HB := belb HB hb; (try clear hb); (try clear hb2); (try clear hk); (try clear hi)) | ((with_reducible refine gate_dst (N := 7) rfl ?_); refine box_event ?hg (N := 7) ?hd (cs := #[.int .u64 0, .int .u32 0, .int .u32 0, .int .i64 0, .int .u64 0, .int .u32 0, .int .u32 0]) (t := 28) ?hr ?_; (case hd => rfl); (case hg => rfl); (case hr => first | (go_simp; done) | (go_simp; rfl)); intro gb414 hg w14 hbox hb; have BK414 := Aside0.mk (hbox); have GW414 := bels HB hg; have GE414 := bels HB hg; have NB404_414 := blkl BK404 hg; have NB414_404 := blkg BK404 hg; have NB405_414 := blkl BK405 hg; have NB414_405 := blkg BK405 hg; replace BK404 := blkb BK404 hb; replace BK405 := blkb BK405 hb; replace HB := belb HB hb; clear hb hbox hg; have hnb15 := NB414_404.out; have hnc15 := NB404_414.out; have hnb16 := NB414_405.out; have hnc16 := NB405_414.out; have hcz17_0 : w14.cell? ⟨gb414, 0, none⟩ = some (.int .u64 0) := bc BK414 0; have hcz17_1 : w14.cell? ⟨gb414, 1, none⟩ = some (.int .u32 0) := bc BK414 1; have hcz17_2 : w14.cell? ⟨gb414, 2, none⟩ = some (.int .u32 0) := bc BK414 2; have hcz17_3 : w14.cell? ⟨gb414, 3, none⟩ = some (.int .i64 0) := bc BK414 3; have hcz17_4 : w14.cell? ⟨gb414, 4, none⟩ = some (.int .u64 0) := bc BK414 4; have hcz17_5 : w14.cell? ⟨gb414, 5, none⟩ = some (.int .u32 0) := bc BK414 5; have hcz17_6 : w14.cell? ⟨gb414, 6, none⟩ = some (.int .u32 0) := bc BK414 6; have hfz17_0 := blk_frozen BK414.out 0; have hfz17_1 := blk_frozen BK414.out 1; have hfz17_2 := blk_frozen BK414.out 2; have hfz17_3 := blk_frozen BK414.out 3; have hfz17_4 := blk_frozen BK414.out 4; have hfz17_5 := blk_frozen BK414.out 5; have hfz17_6 := blk_frozen BK414.out 6))
  (try simp only [Act.put, List.setIfInBounds_toArray, List.set_cons_zero, List.set_cons_succ])
  go_cut [43] (fun v43 wc => ∃ (kq : Nat) (x43_6 : Bool), v43 = .bool x43_6 ∧ Aside0 (turnstonelaw05_ItemTells.j0 kq x43_6 a0_0 a0_1 a0_2 a0_3 a0_4 a0_5 a0_6 a1_0 a1_1 a1_2 a1_3 a1_4 a1_5 a1_6 = some r) ∧ Aside0 (kq ≤ k) ∧ Aside0 (wc.heap[gb404]? = some (.cells #[.int .u64 a0_0, .int .u32 a0_1, .int .u32 a0_2, .int .i64 a0_3, .int .u64 a0_4, .int .u32 a0_5, .int .u32 a0_6] 28 (0, 0))) ∧ Aside0 (wc.heap[gb405]? = some (.cells #[.int .u64 a1_0, .int .u32 a1_1, .int .u32 a1_2, .int .i64 a1_3, .int .u64 a1_4, .int .u32 a1_5, .int .u32 a1_6] 28 (0, 0))) ∧ Aside0 (wc.heap[gb414]? = some (.cells #[.int .u64 t407, .int .u32 t408, .int .u32 t409, .int .i64 t410, .int .u64 t411, .int .u32 t412, .int .u32 t413] 28 (0, 0))) ∧ Aside0 (Below w.heap.size w wc))
  case first =>
   have H := HC7.out
   clear HC7
   replace H := Option.bind_eq_some_iff.mp H
   obtain ⟨t415, A180, H⟩ := H
   replace H : ((turnstonelaw05_Of.f a0_0 a0_1 a0_2 a0_3 a0_4 a0_5 a0_6).bind fun bt416 => ((turnstoneref05_Right.f k bt416.1 bt416.2.1 bt416.2.2.1 bt416.2.2.2.1 bt416.2.2.2.2.1 bt416.2.2.2.2.2.1 bt416.2.2.2.2.2.2).bind fun t423 => (if (t415 != t423) = true then (turnstonelaw05_ItemTells.j0 k true a0_0 a0_1 a0_2 a0_3 a0_4 a0_5 a0_6 a1_0 a1_1 a1_2 a1_3 a1_4 a1_5 a1_6) else ((pos_Pos_Shift.f a0_0 a0_1 a0_2 a2).bind fun bt424 => (if (!(t407 == bt424.1) || (!(t408 == bt424.2.1) || (!(t409 == bt424.2.2)))) = true then (turnstonelaw05_ItemTells.j0 k true a0_0 a0_1 a0_2 a0_3 a0_4 a0_5 a0_6 a1_0 a1_1 a1_2 a1_3 a1_4 a1_5 a1_6) else ((pos_Pos_Shift.f a0_4 a0_5 a0_6 a2).bind fun bt427 => (if (!(t411 == bt427.1) || (!(t412 == bt427.2.1) || (!(t413 == bt427.2.2)))) = true then (turnstonelaw05_ItemTells.j0 k true a0_0 a0_1 a0_2 a0_3 a0_4 a0_5 a0_6 a1_0 a1_1 a1_2 a1_3 a1_4 a1_5 a1_6) else (turnstonelaw05_ItemTells.j0 k (t410 != a0_3) a0_0 a0_1 a0_2 a0_3 a0_4 a0_5 a0_6 a1_0 a1_1 a1_2 a1_3 a1_4 a1_5 a1_6)))))))) = some r := H
   have A18 := Aside0.mk A180
   clear A180
   replace H := Option.bind_eq_some_iff.mp H
   obtain ⟨⟨t416, t417, t418, t419, t420, t421, t422⟩, A190, H⟩ := H
   replace H : ((turnstoneref05_Right.f k t416 t417 t418 t419 t420 t421 t422).bind fun t423 => (if (t415 != t423) = true then (turnstonelaw05_ItemTells.j0 k true a0_0 a0_1 a0_2 a0_3 a0_4 a0_5 a0_6 a1_0 a1_1 a1_2 a1_3 a1_4 a1_5 a1_6) else ((pos_Pos_Shift.f a0_0 a0_1 a0_2 a2).bind fun bt424 => (if (!(t407 == bt424.1) || (!(t408 == bt424.2.1) || (!(t409 == bt424.2.2)))) = true then (turnstonelaw05_ItemTells.j0 k true a0_0 a0_1 a0_2 a0_3 a0_4 a0_5 a0_6 a1_0 a1_1 a1_2 a1_3 a1_4 a1_5 a1_6) else ((pos_Pos_Shift.f a0_4 a0_5 a0_6 a2).bind fun bt427 => (if (!(t411 == bt427.1) || (!(t412 == bt427.2.1) || (!(t413 == bt427.2.2)))) = true then (turnstonelaw05_ItemTells.j0 k true a0_0 a0_1 a0_2 a0_3 a0_4 a0_5 a0_6 a1_0 a1_1 a1_2 a1_3 a1_4 a1_5 a1_6) else (turnstonelaw05_ItemTells.j0 k (t410 != a0_3) a0_0 a0_1 a0_2 a0_3 a0_4 a0_5 a0_6 a1_0 a1_1 a1_2 a1_3 a1_4 a1_5 a1_6))))))) = some r := H
   have A19 := Aside0.mk A190
   clear A190
   replace H := Option.bind_eq_some_iff.mp H
   obtain ⟨t423, A200, H⟩ := H
   replace H : (if (t415 != t423) = true then (turnstonelaw05_ItemTells.j0 k true a0_0 a0_1 a0_2 a0_3 a0_4 a0_5 a0_6 a1_0 a1_1 a1_2 a1_3 a1_4 a1_5 a1_6) else ((pos_Pos_Shift.f a0_0 a0_1 a0_2 a2).bind fun bt424 => (if (!(t407 == bt424.1) || (!(t408 == bt424.2.1) || (!(t409 == bt424.2.2)))) = true then (turnstonelaw05_ItemTells.j0 k true a0_0 a0_1 a0_2 a0_3 a0_4 a0_5 a0_6 a1_0 a1_1 a1_2 a1_3 a1_4 a1_5 a1_6) else ((pos_Pos_Shift.f a0_4 a0_5 a0_6 a2).bind fun bt427 => (if (!(t411 == bt427.1) || (!(t412 == bt427.2.1) || (!(t413 == bt427.2.2)))) = true then (turnstonelaw05_ItemTells.j0 k true a0_0 a0_1 a0_2 a0_3 a0_4 a0_5 a0_6 a1_0 a1_1 a1_2 a1_3 a1_4 a1_5 a1_6) else (turnstonelaw05_ItemTells.j0 k (t410 != a0_3) a0_0 a0_1 a0_2 a0_3 a0_4 a0_5 a0_6 a1_0 a1_1 a1_2 a1_3 a1_4 a1_5 a1_6)))))) = some r := H
   have A20 := Aside0.mk A200
   clear A200
   by_cases c21 : (t415 != t423) = true
   ·rw [if_pos c21] at H
    have c21b0 : (t415 != t423) = true := c21
    (try (have c21b1 : decide (t415 = t423) = false := by simpa using c21))
    (try (have c21b2 : (t415 == t423) = false := by simpa using c21))
    (try (have c21b3 : ¬ (t415 = t423) := by simpa using c21))
    clear c21
    (first | rw [c21b0] | (simp only [i64_w, i32_w]; rw [c21b0]) | skip)
    have H' := Aside0.mk H
    clear H
    try go_wp2
    have n0_ : Aside0 ((((((((w14.setCell ⟨gb414, 0, none⟩ (.int .u64 t407)).setCell ⟨gb414, 1, none⟩ (.int .u32 t408)).setCell ⟨gb414, 2, none⟩ (.int .u32 t409)).setCell ⟨gb414, 3, none⟩ (.int .i64 t410)).setCell ⟨gb414, 4, none⟩ (.int .u64 t411)).setCell ⟨gb414, 5, none⟩ (.int .u32 t412)).setCell ⟨gb414, 6, none⟩ (.int .u32 t413)).heap[gb404]? = some (.cells #[.int .u64 a0_0, .int .u32 a0_1, .int .u32 a0_2, .int .i64 a0_3, .int .u64 a0_4, .int .u32 a0_5, .int .u32 a0_6] 28 (0, 0))) := ⟨by (with_reducible repeat (first | refine blk_drewN ?_ _ | refine blk_drew ?_ | refine blk_alloc ?_ _)); refine blk_far ?_ NB404_414.out _; (with_reducible repeat (first | refine blk_drewN ?_ _ | refine blk_drew ?_ | refine blk_alloc ?_ _)); refine blk_far ?_ NB404_414.out _; (with_reducible repeat (first | refine blk_drewN ?_ _ | refine blk_drew ?_ | refine blk_alloc ?_ _)); refine blk_far ?_ NB404_414.out _; (with_reducible repeat (first | refine blk_drewN ?_ _ | refine blk_drew ?_ | refine blk_alloc ?_ _)); refine blk_far ?_ NB404_414.out _; (with_reducible repeat (first | refine blk_drewN ?_ _ | refine blk_drew ?_ | refine blk_alloc ?_ _)); refine blk_far ?_ NB404_414.out _; (with_reducible repeat (first | refine blk_drewN ?_ _ | refine blk_drew ?_ | refine blk_alloc ?_ _)); refine blk_far ?_ NB404_414.out _; (with_reducible repeat (first | refine blk_drewN ?_ _ | refine blk_drew ?_ | refine blk_alloc ?_ _)); refine blk_far ?_ NB404_414.out _; exact blkt BK404⟩
    have n1_ : Aside0 ((((((((w14.setCell ⟨gb414, 0, none⟩ (.int .u64 t407)).setCell ⟨gb414, 1, none⟩ (.int .u32 t408)).setCell ⟨gb414, 2, none⟩ (.int .u32 t409)).setCell ⟨gb414, 3, none⟩ (.int .i64 t410)).setCell ⟨gb414, 4, none⟩ (.int .u64 t411)).setCell ⟨gb414, 5, none⟩ (.int .u32 t412)).setCell ⟨gb414, 6, none⟩ (.int .u32 t413)).heap[gb405]? = some (.cells #[.int .u64 a1_0, .int .u32 a1_1, .int .u32 a1_2, .int .i64 a1_3, .int .u64 a1_4, .int .u32 a1_5, .int .u32 a1_6] 28 (0, 0))) := ⟨by (with_reducible repeat (first | refine blk_drewN ?_ _ | refine blk_drew ?_ | refine blk_alloc ?_ _)); refine blk_far ?_ NB405_414.out _; (with_reducible repeat (first | refine blk_drewN ?_ _ | refine blk_drew ?_ | refine blk_alloc ?_ _)); refine blk_far ?_ NB405_414.out _; (with_reducible repeat (first | refine blk_drewN ?_ _ | refine blk_drew ?_ | refine blk_alloc ?_ _)); refine blk_far ?_ NB405_414.out _; (with_reducible repeat (first | refine blk_drewN ?_ _ | refine blk_drew ?_ | refine blk_alloc ?_ _)); refine blk_far ?_ NB405_414.out _; (with_reducible repeat (first | refine blk_drewN ?_ _ | refine blk_drew ?_ | refine blk_alloc ?_ _)); refine blk_far ?_ NB405_414.out _; (with_reducible repeat (first | refine blk_drewN ?_ _ | refine blk_drew ?_ | refine blk_alloc ?_ _)); refine blk_far ?_ NB405_414.out _; (with_reducible repeat (first | refine blk_drewN ?_ _ | refine blk_drew ?_ | refine blk_alloc ?_ _)); refine blk_far ?_ NB405_414.out _; exact blkt BK405⟩
    have n2_ : Aside0 ((((((((w14.setCell ⟨gb414, 0, none⟩ (.int .u64 t407)).setCell ⟨gb414, 1, none⟩ (.int .u32 t408)).setCell ⟨gb414, 2, none⟩ (.int .u32 t409)).setCell ⟨gb414, 3, none⟩ (.int .i64 t410)).setCell ⟨gb414, 4, none⟩ (.int .u64 t411)).setCell ⟨gb414, 5, none⟩ (.int .u32 t412)).setCell ⟨gb414, 6, none⟩ (.int .u32 t413)).heap[gb414]? = some (.cells #[.int .u64 t407, .int .u32 t408, .int .u32 t409, .int .i64 t410, .int .u64 t411, .int .u32 t412, .int .u32 t413] 28 (0, 0))) := ⟨by (with_reducible repeat (first | refine blk_drewN ?_ _ | refine blk_drew ?_ | refine blk_alloc ?_ _)); refine blk_put (cs := #[.int .u64 t407, .int .u32 t408, .int .u32 t409, .int .i64 t410, .int .u64 t411, .int .u32 t412, .int .u32 0]) ?_ 6 _ rfl; (with_reducible repeat (first | refine blk_drewN ?_ _ | refine blk_drew ?_ | refine blk_alloc ?_ _)); refine blk_put (cs := #[.int .u64 t407, .int .u32 t408, .int .u32 t409, .int .i64 t410, .int .u64 t411, .int .u32 0, .int .u32 0]) ?_ 5 _ rfl; (with_reducible repeat (first | refine blk_drewN ?_ _ | refine blk_drew ?_ | refine blk_alloc ?_ _)); refine blk_put (cs := #[.int .u64 t407, .int .u32 t408, .int .u32 t409, .int .i64 t410, .int .u64 0, .int .u32 0, .int .u32 0]) ?_ 4 _ rfl; (with_reducible repeat (first | refine blk_drewN ?_ _ | refine blk_drew ?_ | refine blk_alloc ?_ _)); refine blk_put (cs := #[.int .u64 t407, .int .u32 t408, .int .u32 t409, .int .i64 0, .int .u64 0, .int .u32 0, .int .u32 0]) ?_ 3 _ rfl; (with_reducible repeat (first | refine blk_drewN ?_ _ | refine blk_drew ?_ | refine blk_alloc ?_ _)); refine blk_put (cs := #[.int .u64 t407, .int .u32 t408, .int .u32 0, .int .i64 0, .int .u64 0, .int .u32 0, .int .u32 0]) ?_ 2 _ rfl; (with_reducible repeat (first | refine blk_drewN ?_ _ | refine blk_drew ?_ | refine blk_alloc ?_ _)); refine blk_put (cs := #[.int .u64 t407, .int .u32 0, .int .u32 0, .int .i64 0, .int .u64 0, .int .u32 0, .int .u32 0]) ?_ 1 _ rfl; (with_reducible repeat (first | refine blk_drewN ?_ _ | refine blk_drew ?_ | refine blk_alloc ?_ _)); refine blk_put (cs := #[.int .u64 0, .int .u32 0, .int .u32 0, .int .i64 0, .int .u64 0, .int .u32 0, .int .u32 0]) ?_ 0 _ rfl; exact blkt BK414⟩
    have n3_ : Aside0 (Below w.heap.size w (((((((w14.setCell ⟨gb414, 0, none⟩ (.int .u64 t407)).setCell ⟨gb414, 1, none⟩ (.int .u32 t408)).setCell ⟨gb414, 2, none⟩ (.int .u32 t409)).setCell ⟨gb414, 3, none⟩ (.int .i64 t410)).setCell ⟨gb414, 4, none⟩ (.int .u64 t411)).setCell ⟨gb414, 5, none⟩ (.int .u32 t412)).setCell ⟨gb414, 6, none⟩ (.int .u32 t413))) := ⟨belt HB⟩
    (try clear BK404)
    (try clear BK405)
    (try clear BK414)
    (try clear HB)
    generalize (((((((w14.setCell ⟨gb414, 0, none⟩ (.int .u64 t407)).setCell ⟨gb414, 1, none⟩ (.int .u32 t408)).setCell ⟨gb414, 2, none⟩ (.int .u32 t409)).setCell ⟨gb414, 3, none⟩ (.int .i64 t410)).setCell ⟨gb414, 4, none⟩ (.int .u64 t411)).setCell ⟨gb414, 5, none⟩ (.int .u32 t412)).setCell ⟨gb414, 6, none⟩ (.int .u32 t413)) = w22 at n0_ n1_ n2_ n3_ ⊢
    have BK404 := n0_
    have BK405 := n1_
    have BK414 := n2_
    have HB := n3_
    clear n0_ n1_ n2_ n3_
    replace BK404 := Aside0.mk (blk_drew BK404.out)
    replace BK405 := Aside0.mk (blk_drew BK405.out)
    replace BK414 := Aside0.mk (blk_drew BK414.out)
    replace HB := Aside0.mk (below_drew1 HB.out)
    refine start_ (n := 31) (S := fun w' => w'.cell? ⟨gb404, 0, none⟩ = some (.int .u64 a0_0) ∧ w'.cell? ⟨gb404, 1, none⟩ = some (.int .u32 a0_1) ∧ w'.cell? ⟨gb404, 2, none⟩ = some (.int .u32 a0_2) ∧ w'.cell? ⟨gb404, 3, none⟩ = some (.int .i64 a0_3) ∧ w'.cell? ⟨gb404, 4, none⟩ = some (.int .u64 a0_4) ∧ w'.cell? ⟨gb404, 5, none⟩ = some (.int .u32 a0_5) ∧ w'.cell? ⟨gb404, 6, none⟩ = some (.int .u32 a0_6)) (ds := []) #[false, false, false, false, false, false, false, false, false, false, false, false, false, false, false, false, false, false, false, false, false, false, false, false, false, false, false, false, false, false, false] (by kernel_rfl) rfl rfl ⟨bc BK404 0, bc BK404 1, bc BK404 2, bc BK404 3, bc BK404 4, bc BK404 5, bc BK404 6⟩ (fun hHeld => ?_); refine with_tabW turnstonelaw05_ItemTells.tab4 turnstonelaw05_ItemTells.bits4 (fun HT_ HW_ => ?_)
    generalize w22.drew = w23 at BK404 BK405 BK414 HB hHeld ⊢
    refine take_ (i := 0) (N := some 13) (v := ?_) (a' := ?_) #[true, false, false, false, false, false, false, false, false, false, false, false, false, false, false, false, false, false, false, false, false, false, false, false, false, false, false, false, false, false, false] rfl rfl (take_ofW HT_.out HW_.out (by kernel_rfl)) (fun _ _ _ h => h) (Or.inl ⟨by rfl, ?_⟩) hHeld ?_ ?_
    rotate_left
    ·rintro w' ⟨s0, s1, s2, s3, s4, s5, s6⟩
     go_simp
     with_reducible rfl
    rotate_left
    ·simp only [Act.put, List.setIfInBounds_toArray, List.set_cons_zero, List.set_cons_succ, i64_w, i32_w]
     rfl
    refine take_ (i := 2) (N := some 15) (v := ?_) (a' := ?_) #[true, false, true, false, false, false, false, false, false, false, false, false, false, false, false, false, false, false, false, false, false, false, false, false, false, false, false, false, false, false, false] rfl rfl (take_ofW HT_.out HW_.out (by kernel_rfl)) (fun _ _ _ h => h) (Or.inl ⟨by rfl, ?_⟩) hHeld ?_ ?_
    rotate_left
    ·rintro w' ⟨s0, s1, s2, s3, s4, s5, s6⟩
     go_simp
     with_reducible rfl
    rotate_left
    ·simp only [Act.put, List.setIfInBounds_toArray, List.set_cons_zero, List.set_cons_succ, i64_w, i32_w]
     rfl
    refine one_ (i := 1) (N := some 14) #[true, true, true, false, false, false, false, false, false, false, false, false, false, false, false, false, false, false, false, false, false, false, false, false, false, false, false, false, false, false, false] rfl rfl (one_of HT_.out (by kernel_rfl)) (by decide) (fun K hK => ?_)
    refine goes_ Try.func11 (by kernel_rfl) rfl #[.agg #[.int .u64 a0_0, .int .u32 a0_1, .int .u32 a0_2, .int .i64 a0_3, .int .u64 a0_4, .int .u32 a0_5, .int .u32 a0_6]] (by rfl) rfl rfl argt ?_
    with_reducible refine (item_Item_Right.calls a0_0 a0_1 a0_2 a0_3 a0_4 a0_5 a0_6 t415 _ A18.out).mono ?_
    rintro e w24 ⟨rfl, hb⟩
    refine ⟨_, rfl, ?_⟩
    replace BK404 := blkb BK404 hb
    replace BK405 := blkb BK405 hb
    replace BK414 := blkb BK414 hb
    replace HB := belb HB hb
    (try clear hb)
    (try clear hb2)
    (try clear hk)
    (try clear hi)
    refine hK.out _ _ ⟨bc BK404 0, bc BK404 1, bc BK404 2, bc BK404 3, bc BK404 4, bc BK404 5, bc BK404 6⟩ (fun hHeld => ?_)
    clear hK K
    refine norm_ (a' := ?_) ?_ ?_
    rotate_left
    ·show Act.put _ (some 14) _ = _
     simp only [Act.put, List.setIfInBounds_toArray, List.set_cons_zero, List.set_cons_succ, i64_w, i32_w]
     rfl
    refine one_ (i := 3) (N := some 16) #[true, true, true, true, false, false, false, false, false, false, false, false, false, false, false, false, false, false, false, false, false, false, false, false, false, false, false, false, false, false, false] rfl rfl (one_of HT_.out (by kernel_rfl)) (by decide) (fun K hK => ?_)
    refine goes_ Try.func13 (by kernel_rfl) rfl #[.agg #[.int .u64 a0_0, .int .u32 a0_1, .int .u32 a0_2, .int .i64 a0_3, .int .u64 a0_4, .int .u32 a0_5, .int .u32 a0_6]] (by rfl) rfl rfl argt ?_
    with_reducible refine (turnstonelaw05_Of.calls a0_0 a0_1 a0_2 a0_3 a0_4 a0_5 a0_6 t416 t417 t418 t419 t420 t421 t422 _ A19.out).mono ?_
    rintro e w25 ⟨rfl, hb⟩
    refine ⟨_, rfl, ?_⟩
    replace BK404 := blkb BK404 hb
    replace BK405 := blkb BK405 hb
    replace BK414 := blkb BK414 hb
    replace HB := belb HB hb
    (try clear hb)
    (try clear hb2)
    (try clear hk)
    (try clear hi)
    refine hK.out _ _ ⟨bc BK404 0, bc BK404 1, bc BK404 2, bc BK404 3, bc BK404 4, bc BK404 5, bc BK404 6⟩ (fun hHeld => ?_)
    clear hK K
    refine norm_ (a' := ?_) ?_ ?_
    rotate_left
    ·show Act.put _ (some 16) _ = _
     simp only [Act.put, List.setIfInBounds_toArray, List.set_cons_zero, List.set_cons_succ, i64_w, i32_w]
     rfl
    refine one_ (i := 4) (N := some 17) #[true, true, true, true, true, false, false, false, false, false, false, false, false, false, false, false, false, false, false, false, false, false, false, false, false, false, false, false, false, false, false] rfl rfl (one_of HT_.out (by kernel_rfl)) (by decide) (fun K hK => ?_)
    refine goes_ Try.func12 (by kernel_rfl) rfl #[.agg #[.int .u64 t416, .int .u32 t417, .int .u32 t418, .int .i64 t419, .int .u64 t420, .int .u32 t421, .int .u32 t422]] (by rfl) rfl rfl argt ?_
    with_reducible refine (turnstoneref05_Right.calls k t416 t417 t418 t419 t420 t421 t422 t423 _ A20.out).mono ?_
    rintro e w26 ⟨rfl, hb⟩
    refine ⟨_, rfl, ?_⟩
    replace BK404 := blkb BK404 hb
    replace BK405 := blkb BK405 hb
    replace BK414 := blkb BK414 hb
    replace HB := belb HB hb
    (try clear hb)
    (try clear hb2)
    (try clear hk)
    (try clear hi)
    refine hK.out _ _ ⟨bc BK404 0, bc BK404 1, bc BK404 2, bc BK404 3, bc BK404 4, bc BK404 5, bc BK404 6⟩ (fun hHeld => ?_)
    clear hK K
    refine norm_ (a' := ?_) ?_ ?_
    rotate_left
    ·show Act.put _ (some 17) _ = _
     simp only [Act.put, List.setIfInBounds_toArray, List.set_cons_zero, List.set_cons_succ, i64_w, i32_w]
     rfl
    refine pure_ (i := 5) (N := some 18) (v := ?_) (a' := ?_) #[true, true, true, true, true, true, false, false, false, false, false, false, false, false, false, false, false, false, false, false, false, false, false, false, false, false, false, false, false, false, false] rfl rfl (any_of HT_.out (by kernel_rfl)) (fun _ _ _ h => h) (Or.inl ⟨by rfl, ?_⟩) ?_ ?_
    rotate_left
    ·intro w'
     go_simp
     with_reducible rfl
    rotate_left
    ·simp only [Act.put, List.setIfInBounds_toArray, List.set_cons_zero, List.set_cons_succ, i64_w, i32_w]
     rfl
    refine pure_ (i := 6) (N := some 19) (v := ?_) (a' := ?_) #[true, true, true, true, true, true, true, false, false, false, false, false, false, false, false, false, false, false, false, false, false, false, false, false, false, false, false, false, false, false, false] rfl rfl (any_of HT_.out (by kernel_rfl)) (fun _ _ _ h => h) (Or.inl ⟨by rfl, ?_⟩) ?_ ?_
    rotate_left
    ·intro w'
     go_simp
     with_reducible rfl
    rotate_left
    ·simp only [Act.put, List.setIfInBounds_toArray, List.set_cons_zero, List.set_cons_succ, i64_w, i32_w]
     rfl
    refine pure_ (i := 7) (N := some 20) (v := undef) (a' := ?_) #[true, true, true, true, true, true, true, true, false, false, false, false, false, false, false, false, false, false, false, false, false, false, false, false, false, false, false, false, false, false, false] rfl rfl (any_of HT_.out (by kernel_rfl)) (fun _ _ _ h => h) (Or.inr ⟨by rfl, rfl⟩) ?_ ?_
    rotate_left
    ·simp only [Act.put, List.setIfInBounds_toArray, List.set_cons_zero, List.set_cons_succ, i64_w, i32_w]
     rfl
    refine pure_ (i := 8) (N := some 21) (v := undef) (a' := ?_) #[true, true, true, true, true, true, true, true, true, false, false, false, false, false, false, false, false, false, false, false, false, false, false, false, false, false, false, false, false, false, false] rfl rfl (any_of HT_.out (by kernel_rfl)) (fun _ _ _ h => h) (Or.inr ⟨by rfl, rfl⟩) ?_ ?_
    rotate_left
    ·simp only [Act.put, List.setIfInBounds_toArray, List.set_cons_zero, List.set_cons_succ, i64_w, i32_w]
     rfl
    refine pure_ (i := 9) (N := some 22) (v := undef) (a' := ?_) #[true, true, true, true, true, true, true, true, true, true, false, false, false, false, false, false, false, false, false, false, false, false, false, false, false, false, false, false, false, false, false] rfl rfl (any_of HT_.out (by kernel_rfl)) (fun _ _ _ h => h) (Or.inr ⟨by rfl, rfl⟩) ?_ ?_
    rotate_left
    ·simp only [Act.put, List.setIfInBounds_toArray, List.set_cons_zero, List.set_cons_succ, i64_w, i32_w]
     rfl
    refine pure_ (i := 10) (N := some 23) (v := undef) (a' := ?_) #[true, true, true, true, true, true, true, true, true, true, true, false, false, false, false, false, false, false, false, false, false, false, false, false, false, false, false, false, false, false, false] rfl rfl (any_of HT_.out (by kernel_rfl)) (fun _ _ _ h => h) (Or.inr ⟨by rfl, rfl⟩) ?_ ?_
    rotate_left
    ·simp only [Act.put, List.setIfInBounds_toArray, List.set_cons_zero, List.set_cons_succ, i64_w, i32_w]
     rfl
    refine pure_ (i := 11) (N := some 24) (v := undef) (a' := ?_) #[true, true, true, true, true, true, true, true, true, true, true, true, false, false, false, false, false, false, false, false, false, false, false, false, false, false, false, false, false, false, false] rfl rfl (any_of HT_.out (by kernel_rfl)) (fun _ _ _ h => h) (Or.inr ⟨by rfl, rfl⟩) ?_ ?_
    rotate_left
    ·simp only [Act.put, List.setIfInBounds_toArray, List.set_cons_zero, List.set_cons_succ, i64_w, i32_w]
     rfl
    refine pure_ (i := 12) (N := some 25) (v := undef) (a' := ?_) #[true, true, true, true, true, true, true, true, true, true, true, true, true, false, false, false, false, false, false, false, false, false, false, false, false, false, false, false, false, false, false] rfl rfl (any_of HT_.out (by kernel_rfl)) (fun _ _ _ h => h) (Or.inr ⟨by rfl, rfl⟩) ?_ ?_
    rotate_left
    ·simp only [Act.put, List.setIfInBounds_toArray, List.set_cons_zero, List.set_cons_succ, i64_w, i32_w]
     rfl
    refine pure_ (i := 13) (N := some 26) (v := undef) (a' := ?_) #[true, true, true, true, true, true, true, true, true, true, true, true, true, true, false, false, false, false, false, false, false, false, false, false, false, false, false, false, false, false, false] rfl rfl (any_of HT_.out (by kernel_rfl)) (fun _ _ _ h => h) (Or.inr ⟨by rfl, rfl⟩) ?_ ?_
    rotate_left
    ·simp only [Act.put, List.setIfInBounds_toArray, List.set_cons_zero, List.set_cons_succ, i64_w, i32_w]
     rfl
    refine pure_ (i := 14) (N := some 27) (v := ?_) (a' := ?_) #[true, true, true, true, true, true, true, true, true, true, true, true, true, true, true, false, false, false, false, false, false, false, false, false, false, false, false, false, false, false, false] rfl rfl (any_of HT_.out (by kernel_rfl)) (fun _ _ _ h => h) (Or.inl ⟨by rfl, ?_⟩) ?_ ?_
    rotate_left
    ·intro w'
     go_simp
     with_reducible rfl
    rotate_left
    ·simp only [Act.put, List.setIfInBounds_toArray, List.set_cons_zero, List.set_cons_succ, i64_w, i32_w]
     rfl
    refine pure_ (i := 15) (N := some 28) (v := ?_) (a' := ?_) #[true, true, true, true, true, true, true, true, true, true, true, true, true, true, true, true, false, false, false, false, false, false, false, false, false, false, false, false, false, false, false] rfl rfl (any_of HT_.out (by kernel_rfl)) (fun _ _ _ h => h) (Or.inl ⟨by rfl, ?_⟩) ?_ ?_
    rotate_left
    ·intro w'
     go_simp
     with_reducible rfl
    rotate_left
    ·simp only [Act.put, List.setIfInBounds_toArray, List.set_cons_zero, List.set_cons_succ, i64_w, i32_w]
     rfl
    refine pure_ (i := 16) (N := some 29) (v := undef) (a' := ?_) #[true, true, true, true, true, true, true, true, true, true, true, true, true, true, true, true, true, false, false, false, false, false, false, false, false, false, false, false, false, false, false] rfl rfl (any_of HT_.out (by kernel_rfl)) (fun _ _ _ h => h) (Or.inr ⟨by rfl, rfl⟩) ?_ ?_
    rotate_left
    ·simp only [Act.put, List.setIfInBounds_toArray, List.set_cons_zero, List.set_cons_succ, i64_w, i32_w]
     rfl
    refine pure_ (i := 17) (N := some 30) (v := undef) (a' := ?_) #[true, true, true, true, true, true, true, true, true, true, true, true, true, true, true, true, true, true, false, false, false, false, false, false, false, false, false, false, false, false, false] rfl rfl (any_of HT_.out (by kernel_rfl)) (fun _ _ _ h => h) (Or.inr ⟨by rfl, rfl⟩) ?_ ?_
    rotate_left
    ·simp only [Act.put, List.setIfInBounds_toArray, List.set_cons_zero, List.set_cons_succ, i64_w, i32_w]
     rfl
    refine pure_ (i := 18) (N := some 31) (v := undef) (a' := ?_) #[true, true, true, true, true, true, true, true, true, true, true, true, true, true, true, true, true, true, true, false, false, false, false, false, false, false, false, false, false, false, false] rfl rfl (any_of HT_.out (by kernel_rfl)) (fun _ _ _ h => h) (Or.inr ⟨by rfl, rfl⟩) ?_ ?_
    rotate_left
    ·simp only [Act.put, List.setIfInBounds_toArray, List.set_cons_zero, List.set_cons_succ, i64_w, i32_w]
     rfl
    refine pure_ (i := 19) (N := some 32) (v := undef) (a' := ?_) #[true, true, true, true, true, true, true, true, true, true, true, true, true, true, true, true, true, true, true, true, false, false, false, false, false, false, false, false, false, false, false] rfl rfl (any_of HT_.out (by kernel_rfl)) (fun _ _ _ h => h) (Or.inr ⟨by rfl, rfl⟩) ?_ ?_
    rotate_left
    ·simp only [Act.put, List.setIfInBounds_toArray, List.set_cons_zero, List.set_cons_succ, i64_w, i32_w]
     rfl
    refine pure_ (i := 20) (N := some 33) (v := undef) (a' := ?_) #[true, true, true, true, true, true, true, true, true, true, true, true, true, true, true, true, true, true, true, true, true, false, false, false, false, false, false, false, false, false, false] rfl rfl (any_of HT_.out (by kernel_rfl)) (fun _ _ _ h => h) (Or.inr ⟨by rfl, rfl⟩) ?_ ?_
    rotate_left
    ·simp only [Act.put, List.setIfInBounds_toArray, List.set_cons_zero, List.set_cons_succ, i64_w, i32_w]
     rfl
    refine pure_ (i := 21) (N := some 34) (v := undef) (a' := ?_) #[true, true, true, true, true, true, true, true, true, true, true, true, true, true, true, true, true, true, true, true, true, true, false, false, false, false, false, false, false, false, false] rfl rfl (any_of HT_.out (by kernel_rfl)) (fun _ _ _ h => h) (Or.inr ⟨by rfl, rfl⟩) ?_ ?_
    rotate_left
    ·simp only [Act.put, List.setIfInBounds_toArray, List.set_cons_zero, List.set_cons_succ, i64_w, i32_w]
     rfl
    refine pure_ (i := 22) (N := some 35) (v := undef) (a' := ?_) #[true, true, true, true, true, true, true, true, true, true, true, true, true, true, true, true, true, true, true, true, true, true, true, false, false, false, false, false, false, false, false] rfl rfl (any_of HT_.out (by kernel_rfl)) (fun _ _ _ h => h) (Or.inr ⟨by rfl, rfl⟩) ?_ ?_
    rotate_left
    ·simp only [Act.put, List.setIfInBounds_toArray, List.set_cons_zero, List.set_cons_succ, i64_w, i32_w]
     rfl
    refine pure_ (i := 23) (N := some 36) (v := ?_) (a' := ?_) #[true, true, true, true, true, true, true, true, true, true, true, true, true, true, true, true, true, true, true, true, true, true, true, true, false, false, false, false, false, false, false] rfl rfl (any_of HT_.out (by kernel_rfl)) (fun _ _ _ h => h) (Or.inl ⟨by rfl, ?_⟩) ?_ ?_
    rotate_left
    ·intro w'
     go_simp
     with_reducible rfl
    rotate_left
    ·simp only [Act.put, List.setIfInBounds_toArray, List.set_cons_zero, List.set_cons_succ, i64_w, i32_w]
     rfl
    refine pure_ (i := 24) (N := some 37) (v := ?_) (a' := ?_) #[true, true, true, true, true, true, true, true, true, true, true, true, true, true, true, true, true, true, true, true, true, true, true, true, true, false, false, false, false, false, false] rfl rfl (any_of HT_.out (by kernel_rfl)) (fun _ _ _ h => h) (Or.inl ⟨by rfl, ?_⟩) ?_ ?_
    rotate_left
    ·intro w'
     go_simp
     with_reducible rfl
    rotate_left
    ·simp only [Act.put, List.setIfInBounds_toArray, List.set_cons_zero, List.set_cons_succ, i64_w, i32_w]
     rfl
    refine pure_ (i := 25) (N := some 38) (v := undef) (a' := ?_) #[true, true, true, true, true, true, true, true, true, true, true, true, true, true, true, true, true, true, true, true, true, true, true, true, true, true, false, false, false, false, false] rfl rfl (any_of HT_.out (by kernel_rfl)) (fun _ _ _ h => h) (Or.inr ⟨by rfl, rfl⟩) ?_ ?_
    rotate_left
    ·simp only [Act.put, List.setIfInBounds_toArray, List.set_cons_zero, List.set_cons_succ, i64_w, i32_w]
     rfl
    refine pure_ (i := 26) (N := some 39) (v := undef) (a' := ?_) #[true, true, true, true, true, true, true, true, true, true, true, true, true, true, true, true, true, true, true, true, true, true, true, true, true, true, true, false, false, false, false] rfl rfl (any_of HT_.out (by kernel_rfl)) (fun _ _ _ h => h) (Or.inr ⟨by rfl, rfl⟩) ?_ ?_
    rotate_left
    ·simp only [Act.put, List.setIfInBounds_toArray, List.set_cons_zero, List.set_cons_succ, i64_w, i32_w]
     rfl
    refine pure_ (i := 27) (N := some 40) (v := undef) (a' := ?_) #[true, true, true, true, true, true, true, true, true, true, true, true, true, true, true, true, true, true, true, true, true, true, true, true, true, true, true, true, false, false, false] rfl rfl (any_of HT_.out (by kernel_rfl)) (fun _ _ _ h => h) (Or.inr ⟨by rfl, rfl⟩) ?_ ?_
    rotate_left
    ·simp only [Act.put, List.setIfInBounds_toArray, List.set_cons_zero, List.set_cons_succ, i64_w, i32_w]
     rfl
    refine pure_ (i := 28) (N := some 41) (v := undef) (a' := ?_) #[true, true, true, true, true, true, true, true, true, true, true, true, true, true, true, true, true, true, true, true, true, true, true, true, true, true, true, true, true, false, false] rfl rfl (any_of HT_.out (by kernel_rfl)) (fun _ _ _ h => h) (Or.inr ⟨by rfl, rfl⟩) ?_ ?_
    rotate_left
    ·simp only [Act.put, List.setIfInBounds_toArray, List.set_cons_zero, List.set_cons_succ, i64_w, i32_w]
     rfl
    refine pure_ (i := 29) (N := some 42) (v := undef) (a' := ?_) #[true, true, true, true, true, true, true, true, true, true, true, true, true, true, true, true, true, true, true, true, true, true, true, true, true, true, true, true, true, true, false] rfl rfl (any_of HT_.out (by kernel_rfl)) (fun _ _ _ h => h) (Or.inr ⟨by rfl, rfl⟩) ?_ ?_
    rotate_left
    ·simp only [Act.put, List.setIfInBounds_toArray, List.set_cons_zero, List.set_cons_succ, i64_w, i32_w]
     rfl
    refine pure_ (i := 30) (N := some 43) (v := ?_) (a' := ?_) #[true, true, true, true, true, true, true, true, true, true, true, true, true, true, true, true, true, true, true, true, true, true, true, true, true, true, true, true, true, true, true] rfl rfl (any_of HT_.out (by kernel_rfl)) (fun _ _ _ h => h) (Or.inl ⟨by rfl, ?_⟩) ?_ ?_
    rotate_left
    ·intro w'
     go_simp
     with_reducible rfl
    rotate_left
    ·simp only [Act.put, List.setIfInBounds_toArray, List.set_cons_zero, List.set_cons_succ, i64_w, i32_w]
     rfl
    refine done_ (done_of HT_.out (by kernel_rfl)) ?_
    try go_wp2
    go_meet
    case rel => exact ⟨_, (true), (by first | rfl | (simp; done) | (simp [*]; done)), H', ⟨by first | omega | exact Nat.le_refl _⟩, ⟨blkt BK404⟩, ⟨blkt BK405⟩, ⟨blkt BK414⟩, ⟨belt HB⟩⟩
   rw [if_neg c21] at H
   have c21b0 : (t415 != t423) = false := by simpa using c21
   (try (have c21b1 : decide (t415 = t423) = true := by simpa using c21))
   (try (have c21b2 : (t415 == t423) = true := by simpa using c21))
   clear c21
   (first | rw [c21b0] | (simp only [i64_w, i32_w]; rw [c21b0]) | skip)
   replace H := Option.bind_eq_some_iff.mp H
   obtain ⟨⟨t424, t425, t426⟩, A270, H⟩ := H
   replace H : (if (!(t407 == t424) || (!(t408 == t425) || (!(t409 == t426)))) = true then (turnstonelaw05_ItemTells.j0 k true a0_0 a0_1 a0_2 a0_3 a0_4 a0_5 a0_6 a1_0 a1_1 a1_2 a1_3 a1_4 a1_5 a1_6) else ((pos_Pos_Shift.f a0_4 a0_5 a0_6 a2).bind fun bt427 => (if (!(t411 == bt427.1) || (!(t412 == bt427.2.1) || (!(t413 == bt427.2.2)))) = true then (turnstonelaw05_ItemTells.j0 k true a0_0 a0_1 a0_2 a0_3 a0_4 a0_5 a0_6 a1_0 a1_1 a1_2 a1_3 a1_4 a1_5 a1_6) else (turnstonelaw05_ItemTells.j0 k (t410 != a0_3) a0_0 a0_1 a0_2 a0_3 a0_4 a0_5 a0_6 a1_0 a1_1 a1_2 a1_3 a1_4 a1_5 a1_6)))) = some r := H
   have A27 := Aside0.mk A270
   clear A270
   by_cases c28 : (!(t407 == t424) || (!(t408 == t425) || (!(t409 == t426)))) = true
   ·rw [if_pos c28] at H
    have c28b0 : (!(t407 == t424) || (!(t408 == t425) || (!(t409 == t426)))) = true := c28
    clear c28
    have H' := Aside0.mk H
    clear H
    try go_wp2
    have n0_ : Aside0 ((((((((w14.setCell ⟨gb414, 0, none⟩ (.int .u64 t407)).setCell ⟨gb414, 1, none⟩ (.int .u32 t408)).setCell ⟨gb414, 2, none⟩ (.int .u32 t409)).setCell ⟨gb414, 3, none⟩ (.int .i64 t410)).setCell ⟨gb414, 4, none⟩ (.int .u64 t411)).setCell ⟨gb414, 5, none⟩ (.int .u32 t412)).setCell ⟨gb414, 6, none⟩ (.int .u32 t413)).heap[gb404]? = some (.cells #[.int .u64 a0_0, .int .u32 a0_1, .int .u32 a0_2, .int .i64 a0_3, .int .u64 a0_4, .int .u32 a0_5, .int .u32 a0_6] 28 (0, 0))) := ⟨by (with_reducible repeat (first | refine blk_drewN ?_ _ | refine blk_drew ?_ | refine blk_alloc ?_ _)); refine blk_far ?_ NB404_414.out _; (with_reducible repeat (first | refine blk_drewN ?_ _ | refine blk_drew ?_ | refine blk_alloc ?_ _)); refine blk_far ?_ NB404_414.out _; (with_reducible repeat (first | refine blk_drewN ?_ _ | refine blk_drew ?_ | refine blk_alloc ?_ _)); refine blk_far ?_ NB404_414.out _; (with_reducible repeat (first | refine blk_drewN ?_ _ | refine blk_drew ?_ | refine blk_alloc ?_ _)); refine blk_far ?_ NB404_414.out _; (with_reducible repeat (first | refine blk_drewN ?_ _ | refine blk_drew ?_ | refine blk_alloc ?_ _)); refine blk_far ?_ NB404_414.out _; (with_reducible repeat (first | refine blk_drewN ?_ _ | refine blk_drew ?_ | refine blk_alloc ?_ _)); refine blk_far ?_ NB404_414.out _; (with_reducible repeat (first | refine blk_drewN ?_ _ | refine blk_drew ?_ | refine blk_alloc ?_ _)); refine blk_far ?_ NB404_414.out _; exact blkt BK404⟩
    have n1_ : Aside0 ((((((((w14.setCell ⟨gb414, 0, none⟩ (.int .u64 t407)).setCell ⟨gb414, 1, none⟩ (.int .u32 t408)).setCell ⟨gb414, 2, none⟩ (.int .u32 t409)).setCell ⟨gb414, 3, none⟩ (.int .i64 t410)).setCell ⟨gb414, 4, none⟩ (.int .u64 t411)).setCell ⟨gb414, 5, none⟩ (.int .u32 t412)).setCell ⟨gb414, 6, none⟩ (.int .u32 t413)).heap[gb405]? = some (.cells #[.int .u64 a1_0, .int .u32 a1_1, .int .u32 a1_2, .int .i64 a1_3, .int .u64 a1_4, .int .u32 a1_5, .int .u32 a1_6] 28 (0, 0))) := ⟨by (with_reducible repeat (first | refine blk_drewN ?_ _ | refine blk_drew ?_ | refine blk_alloc ?_ _)); refine blk_far ?_ NB405_414.out _; (with_reducible repeat (first | refine blk_drewN ?_ _ | refine blk_drew ?_ | refine blk_alloc ?_ _)); refine blk_far ?_ NB405_414.out _; (with_reducible repeat (first | refine blk_drewN ?_ _ | refine blk_drew ?_ | refine blk_alloc ?_ _)); refine blk_far ?_ NB405_414.out _; (with_reducible repeat (first | refine blk_drewN ?_ _ | refine blk_drew ?_ | refine blk_alloc ?_ _)); refine blk_far ?_ NB405_414.out _; (with_reducible repeat (first | refine blk_drewN ?_ _ | refine blk_drew ?_ | refine blk_alloc ?_ _)); refine blk_far ?_ NB405_414.out _; (with_reducible repeat (first | refine blk_drewN ?_ _ | refine blk_drew ?_ | refine blk_alloc ?_ _)); refine blk_far ?_ NB405_414.out _; (with_reducible repeat (first | refine blk_drewN ?_ _ | refine blk_drew ?_ | refine blk_alloc ?_ _)); refine blk_far ?_ NB405_414.out _; exact blkt BK405⟩
    have n2_ : Aside0 ((((((((w14.setCell ⟨gb414, 0, none⟩ (.int .u64 t407)).setCell ⟨gb414, 1, none⟩ (.int .u32 t408)).setCell ⟨gb414, 2, none⟩ (.int .u32 t409)).setCell ⟨gb414, 3, none⟩ (.int .i64 t410)).setCell ⟨gb414, 4, none⟩ (.int .u64 t411)).setCell ⟨gb414, 5, none⟩ (.int .u32 t412)).setCell ⟨gb414, 6, none⟩ (.int .u32 t413)).heap[gb414]? = some (.cells #[.int .u64 t407, .int .u32 t408, .int .u32 t409, .int .i64 t410, .int .u64 t411, .int .u32 t412, .int .u32 t413] 28 (0, 0))) := ⟨by (with_reducible repeat (first | refine blk_drewN ?_ _ | refine blk_drew ?_ | refine blk_alloc ?_ _)); refine blk_put (cs := #[.int .u64 t407, .int .u32 t408, .int .u32 t409, .int .i64 t410, .int .u64 t411, .int .u32 t412, .int .u32 0]) ?_ 6 _ rfl; (with_reducible repeat (first | refine blk_drewN ?_ _ | refine blk_drew ?_ | refine blk_alloc ?_ _)); refine blk_put (cs := #[.int .u64 t407, .int .u32 t408, .int .u32 t409, .int .i64 t410, .int .u64 t411, .int .u32 0, .int .u32 0]) ?_ 5 _ rfl; (with_reducible repeat (first | refine blk_drewN ?_ _ | refine blk_drew ?_ | refine blk_alloc ?_ _)); refine blk_put (cs := #[.int .u64 t407, .int .u32 t408, .int .u32 t409, .int .i64 t410, .int .u64 0, .int .u32 0, .int .u32 0]) ?_ 4 _ rfl; (with_reducible repeat (first | refine blk_drewN ?_ _ | refine blk_drew ?_ | refine blk_alloc ?_ _)); refine blk_put (cs := #[.int .u64 t407, .int .u32 t408, .int .u32 t409, .int .i64 0, .int .u64 0, .int .u32 0, .int .u32 0]) ?_ 3 _ rfl; (with_reducible repeat (first | refine blk_drewN ?_ _ | refine blk_drew ?_ | refine blk_alloc ?_ _)); refine blk_put (cs := #[.int .u64 t407, .int .u32 t408, .int .u32 0, .int .i64 0, .int .u64 0, .int .u32 0, .int .u32 0]) ?_ 2 _ rfl; (with_reducible repeat (first | refine blk_drewN ?_ _ | refine blk_drew ?_ | refine blk_alloc ?_ _)); refine blk_put (cs := #[.int .u64 t407, .int .u32 0, .int .u32 0, .int .i64 0, .int .u64 0, .int .u32 0, .int .u32 0]) ?_ 1 _ rfl; (with_reducible repeat (first | refine blk_drewN ?_ _ | refine blk_drew ?_ | refine blk_alloc ?_ _)); refine blk_put (cs := #[.int .u64 0, .int .u32 0, .int .u32 0, .int .i64 0, .int .u64 0, .int .u32 0, .int .u32 0]) ?_ 0 _ rfl; exact blkt BK414⟩
    have n3_ : Aside0 (Below w.heap.size w (((((((w14.setCell ⟨gb414, 0, none⟩ (.int .u64 t407)).setCell ⟨gb414, 1, none⟩ (.int .u32 t408)).setCell ⟨gb414, 2, none⟩ (.int .u32 t409)).setCell ⟨gb414, 3, none⟩ (.int .i64 t410)).setCell ⟨gb414, 4, none⟩ (.int .u64 t411)).setCell ⟨gb414, 5, none⟩ (.int .u32 t412)).setCell ⟨gb414, 6, none⟩ (.int .u32 t413))) := ⟨belt HB⟩
    (try clear BK404)
    (try clear BK405)
    (try clear BK414)
    (try clear HB)
    generalize (((((((w14.setCell ⟨gb414, 0, none⟩ (.int .u64 t407)).setCell ⟨gb414, 1, none⟩ (.int .u32 t408)).setCell ⟨gb414, 2, none⟩ (.int .u32 t409)).setCell ⟨gb414, 3, none⟩ (.int .i64 t410)).setCell ⟨gb414, 4, none⟩ (.int .u64 t411)).setCell ⟨gb414, 5, none⟩ (.int .u32 t412)).setCell ⟨gb414, 6, none⟩ (.int .u32 t413)) = w29 at n0_ n1_ n2_ n3_ ⊢
    have BK404 := n0_
    have BK405 := n1_
    have BK414 := n2_
    have HB := n3_
    clear n0_ n1_ n2_ n3_
    replace BK404 := Aside0.mk (blk_drew BK404.out)
    replace BK405 := Aside0.mk (blk_drew BK405.out)
    replace BK414 := Aside0.mk (blk_drew BK414.out)
    replace HB := Aside0.mk (below_drew1 HB.out)
    refine start_ (n := 31) (S := fun w' => w'.cell? ⟨gb404, 0, none⟩ = some (.int .u64 a0_0) ∧ w'.cell? ⟨gb404, 1, none⟩ = some (.int .u32 a0_1) ∧ w'.cell? ⟨gb404, 2, none⟩ = some (.int .u32 a0_2) ∧ w'.cell? ⟨gb404, 3, none⟩ = some (.int .i64 a0_3) ∧ w'.cell? ⟨gb404, 4, none⟩ = some (.int .u64 a0_4) ∧ w'.cell? ⟨gb404, 5, none⟩ = some (.int .u32 a0_5) ∧ w'.cell? ⟨gb404, 6, none⟩ = some (.int .u32 a0_6) ∧ w'.cell? ⟨gb414, 0, none⟩ = some (.int .u64 t407) ∧ w'.cell? ⟨gb414, 1, none⟩ = some (.int .u32 t408) ∧ w'.cell? ⟨gb414, 2, none⟩ = some (.int .u32 t409) ∧ w'.cell? ⟨gb414, 3, none⟩ = some (.int .i64 t410) ∧ w'.cell? ⟨gb414, 4, none⟩ = some (.int .u64 t411) ∧ w'.cell? ⟨gb414, 5, none⟩ = some (.int .u32 t412) ∧ w'.cell? ⟨gb414, 6, none⟩ = some (.int .u32 t413)) (ds := []) #[false, false, false, false, false, false, false, false, false, false, false, false, false, false, false, false, false, false, false, false, false, false, false, false, false, false, false, false, false, false, false] (by kernel_rfl) rfl rfl ⟨bc BK404 0, bc BK404 1, bc BK404 2, bc BK404 3, bc BK404 4, bc BK404 5, bc BK404 6, bc BK414 0, bc BK414 1, bc BK414 2, bc BK414 3, bc BK414 4, bc BK414 5, bc BK414 6⟩ (fun hHeld => ?_); refine with_tabW turnstonelaw05_ItemTells.tab4 turnstonelaw05_ItemTells.bits4 (fun HT_ HW_ => ?_)
    generalize w29.drew = w30 at BK404 BK405 BK414 HB hHeld ⊢
    refine take_ (i := 0) (N := some 13) (v := ?_) (a' := ?_) #[true, false, false, false, false, false, false, false, false, false, false, false, false, false, false, false, false, false, false, false, false, false, false, false, false, false, false, false, false, false, false] rfl rfl (take_ofW HT_.out HW_.out (by kernel_rfl)) (fun _ _ _ h => h) (Or.inl ⟨by rfl, ?_⟩) hHeld ?_ ?_
    rotate_left
    ·rintro w' ⟨s0, s1, s2, s3, s4, s5, s6, s7, s8, s9, s10, s11, s12, s13⟩
     go_simp
     with_reducible rfl
    rotate_left
    ·simp only [Act.put, List.setIfInBounds_toArray, List.set_cons_zero, List.set_cons_succ, i64_w, i32_w]
     rfl
    refine take_ (i := 2) (N := some 15) (v := ?_) (a' := ?_) #[true, false, true, false, false, false, false, false, false, false, false, false, false, false, false, false, false, false, false, false, false, false, false, false, false, false, false, false, false, false, false] rfl rfl (take_ofW HT_.out HW_.out (by kernel_rfl)) (fun _ _ _ h => h) (Or.inl ⟨by rfl, ?_⟩) hHeld ?_ ?_
    rotate_left
    ·rintro w' ⟨s0, s1, s2, s3, s4, s5, s6, s7, s8, s9, s10, s11, s12, s13⟩
     go_simp
     with_reducible rfl
    rotate_left
    ·simp only [Act.put, List.setIfInBounds_toArray, List.set_cons_zero, List.set_cons_succ, i64_w, i32_w]
     rfl
    refine one_ (i := 1) (N := some 14) #[true, true, true, false, false, false, false, false, false, false, false, false, false, false, false, false, false, false, false, false, false, false, false, false, false, false, false, false, false, false, false] rfl rfl (one_of HT_.out (by kernel_rfl)) (by decide) (fun K hK => ?_)
    refine goes_ Try.func11 (by kernel_rfl) rfl #[.agg #[.int .u64 a0_0, .int .u32 a0_1, .int .u32 a0_2, .int .i64 a0_3, .int .u64 a0_4, .int .u32 a0_5, .int .u32 a0_6]] (by rfl) rfl rfl argt ?_
    with_reducible refine (item_Item_Right.calls a0_0 a0_1 a0_2 a0_3 a0_4 a0_5 a0_6 t415 _ A18.out).mono ?_
    rintro e w31 ⟨rfl, hb⟩
    refine ⟨_, rfl, ?_⟩
    replace BK404 := blkb BK404 hb
    replace BK405 := blkb BK405 hb
    replace BK414 := blkb BK414 hb
    replace HB := belb HB hb
    (try clear hb)
    (try clear hb2)
    (try clear hk)
    (try clear hi)
    refine hK.out _ _ ⟨bc BK404 0, bc BK404 1, bc BK404 2, bc BK404 3, bc BK404 4, bc BK404 5, bc BK404 6, bc BK414 0, bc BK414 1, bc BK414 2, bc BK414 3, bc BK414 4, bc BK414 5, bc BK414 6⟩ (fun hHeld => ?_)
    clear hK K
    refine norm_ (a' := ?_) ?_ ?_
    rotate_left
    ·show Act.put _ (some 14) _ = _
     simp only [Act.put, List.setIfInBounds_toArray, List.set_cons_zero, List.set_cons_succ, i64_w, i32_w]
     rfl
    refine one_ (i := 3) (N := some 16) #[true, true, true, true, false, false, false, false, false, false, false, false, false, false, false, false, false, false, false, false, false, false, false, false, false, false, false, false, false, false, false] rfl rfl (one_of HT_.out (by kernel_rfl)) (by decide) (fun K hK => ?_)
    refine goes_ Try.func13 (by kernel_rfl) rfl #[.agg #[.int .u64 a0_0, .int .u32 a0_1, .int .u32 a0_2, .int .i64 a0_3, .int .u64 a0_4, .int .u32 a0_5, .int .u32 a0_6]] (by rfl) rfl rfl argt ?_
    with_reducible refine (turnstonelaw05_Of.calls a0_0 a0_1 a0_2 a0_3 a0_4 a0_5 a0_6 t416 t417 t418 t419 t420 t421 t422 _ A19.out).mono ?_
    rintro e w32 ⟨rfl, hb⟩
    refine ⟨_, rfl, ?_⟩
    replace BK404 := blkb BK404 hb
    replace BK405 := blkb BK405 hb
    replace BK414 := blkb BK414 hb
    replace HB := belb HB hb
    (try clear hb)
    (try clear hb2)
    (try clear hk)
    (try clear hi)
    refine hK.out _ _ ⟨bc BK404 0, bc BK404 1, bc BK404 2, bc BK404 3, bc BK404 4, bc BK404 5, bc BK404 6, bc BK414 0, bc BK414 1, bc BK414 2, bc BK414 3, bc BK414 4, bc BK414 5, bc BK414 6⟩ (fun hHeld => ?_)
    clear hK K
    refine norm_ (a' := ?_) ?_ ?_
    rotate_left
    ·show Act.put _ (some 16) _ = _
     simp only [Act.put, List.setIfInBounds_toArray, List.set_cons_zero, List.set_cons_succ, i64_w, i32_w]
     rfl
    refine one_ (i := 4) (N := some 17) #[true, true, true, true, true, false, false, false, false, false, false, false, false, false, false, false, false, false, false, false, false, false, false, false, false, false, false, false, false, false, false] rfl rfl (one_of HT_.out (by kernel_rfl)) (by decide) (fun K hK => ?_)
    refine goes_ Try.func12 (by kernel_rfl) rfl #[.agg #[.int .u64 t416, .int .u32 t417, .int .u32 t418, .int .i64 t419, .int .u64 t420, .int .u32 t421, .int .u32 t422]] (by rfl) rfl rfl argt ?_
    with_reducible refine (turnstoneref05_Right.calls k t416 t417 t418 t419 t420 t421 t422 t423 _ A20.out).mono ?_
    rintro e w33 ⟨rfl, hb⟩
    refine ⟨_, rfl, ?_⟩
    replace BK404 := blkb BK404 hb
    replace BK405 := blkb BK405 hb
    replace BK414 := blkb BK414 hb
    replace HB := belb HB hb
    (try clear hb)
    (try clear hb2)
    (try clear hk)
    (try clear hi)
    refine hK.out _ _ ⟨bc BK404 0, bc BK404 1, bc BK404 2, bc BK404 3, bc BK404 4, bc BK404 5, bc BK404 6, bc BK414 0, bc BK414 1, bc BK414 2, bc BK414 3, bc BK414 4, bc BK414 5, bc BK414 6⟩ (fun hHeld => ?_)
    clear hK K
    refine norm_ (a' := ?_) ?_ ?_
    rotate_left
    ·show Act.put _ (some 17) _ = _
     simp only [Act.put, List.setIfInBounds_toArray, List.set_cons_zero, List.set_cons_succ, i64_w, i32_w]
     rfl
    refine pure_ (i := 5) (N := some 18) (v := ?_) (a' := ?_) #[true, true, true, true, true, true, false, false, false, false, false, false, false, false, false, false, false, false, false, false, false, false, false, false, false, false, false, false, false, false, false] rfl rfl (any_of HT_.out (by kernel_rfl)) (fun _ _ _ h => h) (Or.inl ⟨by rfl, ?_⟩) ?_ ?_
    rotate_left
    ·intro w'
     go_simp
     with_reducible rfl
    rotate_left
    ·simp only [Act.put, List.setIfInBounds_toArray, List.set_cons_zero, List.set_cons_succ, i64_w, i32_w]
     rfl
    refine pure_ (i := 6) (N := some 19) (v := ?_) (a' := ?_) #[true, true, true, true, true, true, true, false, false, false, false, false, false, false, false, false, false, false, false, false, false, false, false, false, false, false, false, false, false, false, false] rfl rfl (any_of HT_.out (by kernel_rfl)) (fun _ _ _ h => h) (Or.inl ⟨by rfl, ?_⟩) ?_ ?_
    rotate_left
    ·intro w'
     go_simp
     with_reducible rfl
    rotate_left
    ·simp only [Act.put, List.setIfInBounds_toArray, List.set_cons_zero, List.set_cons_succ, i64_w, i32_w]
     rfl
    refine pure_ (i := 7) (N := some 20) (v := ?_) (a' := ?_) #[true, true, true, true, true, true, true, true, false, false, false, false, false, false, false, false, false, false, false, false, false, false, false, false, false, false, false, false, false, false, false] rfl rfl (any_of HT_.out (by kernel_rfl)) (fun _ _ _ h => h) (Or.inl ⟨by rfl, ?_⟩) ?_ ?_
    rotate_left
    ·intro w'
     go_simp
     with_reducible rfl
    rotate_left
    ·simp only [Act.put, List.setIfInBounds_toArray, List.set_cons_zero, List.set_cons_succ, i64_w, i32_w]
     rfl
    refine pure_ (i := 9) (N := some 22) (v := ?_) (a' := ?_) #[true, true, true, true, true, true, true, true, false, true, false, false, false, false, false, false, false, false, false, false, false, false, false, false, false, false, false, false, false, false, false] rfl rfl (any_of HT_.out (by kernel_rfl)) (fun _ _ _ h => h) (Or.inl ⟨by rfl, ?_⟩) ?_ ?_
    rotate_left
    ·intro w'
     go_simp
     with_reducible rfl
    rotate_left
    ·simp only [Act.put, List.setIfInBounds_toArray, List.set_cons_zero, List.set_cons_succ, i64_w, i32_w]
     rfl
    refine pure_ (i := 11) (N := some 24) (v := ?_) (a' := ?_) #[true, true, true, true, true, true, true, true, false, true, false, true, false, false, false, false, false, false, false, false, false, false, false, false, false, false, false, false, false, false, false] rfl rfl (any_of HT_.out (by kernel_rfl)) (fun _ _ _ h => h) (Or.inl ⟨by rfl, ?_⟩) ?_ ?_
    rotate_left
    ·intro w'
     go_simp
     with_reducible rfl
    rotate_left
    ·simp only [Act.put, List.setIfInBounds_toArray, List.set_cons_zero, List.set_cons_succ, i64_w, i32_w]
     rfl
    refine take_ (i := 8) (N := some 21) (v := ?_) (a' := ?_) #[true, true, true, true, true, true, true, true, true, true, false, true, false, false, false, false, false, false, false, false, false, false, false, false, false, false, false, false, false, false, false] rfl rfl (take_ofW HT_.out HW_.out (by kernel_rfl)) (fun _ _ _ h => h) (Or.inl ⟨by rfl, ?_⟩) hHeld ?_ ?_
    rotate_left
    ·rintro w' ⟨s0, s1, s2, s3, s4, s5, s6, s7, s8, s9, s10, s11, s12, s13⟩
     go_simp
     with_reducible rfl
    rotate_left
    ·simp only [Act.put, List.setIfInBounds_toArray, List.set_cons_zero, List.set_cons_succ, i64_w, i32_w]
     rfl
    refine take_ (i := 10) (N := some 23) (v := ?_) (a' := ?_) #[true, true, true, true, true, true, true, true, true, true, true, true, false, false, false, false, false, false, false, false, false, false, false, false, false, false, false, false, false, false, false] rfl rfl (take_ofW HT_.out HW_.out (by kernel_rfl)) (fun _ _ _ h => h) (Or.inl ⟨by rfl, ?_⟩) hHeld ?_ ?_
    rotate_left
    ·rintro w' ⟨s0, s1, s2, s3, s4, s5, s6, s7, s8, s9, s10, s11, s12, s13⟩
     go_simp
     with_reducible rfl
    rotate_left
    ·simp only [Act.put, List.setIfInBounds_toArray, List.set_cons_zero, List.set_cons_succ, i64_w, i32_w]
     rfl
    refine one_ (i := 12) (N := some 25) #[true, true, true, true, true, true, true, true, true, true, true, true, true, false, false, false, false, false, false, false, false, false, false, false, false, false, false, false, false, false, false] rfl rfl (one_of HT_.out (by kernel_rfl)) (by decide) (fun K hK => ?_)
    refine goes_ Try.func14 (by kernel_rfl) rfl #[.agg #[.int .u64 a0_0, .int .u32 a0_1, .int .u32 a0_2], .int .u64 a2] (by rfl) rfl rfl argt ?_
    with_reducible refine (pos_Pos_Shift.calls a0_0 a0_1 a0_2 a2 t424 t425 t426 _ A27.out).mono ?_
    rintro e w34 ⟨rfl, hb⟩
    refine ⟨_, rfl, ?_⟩
    replace BK404 := blkb BK404 hb
    replace BK405 := blkb BK405 hb
    replace BK414 := blkb BK414 hb
    replace HB := belb HB hb
    (try clear hb)
    (try clear hb2)
    (try clear hk)
    (try clear hi)
    refine hK.out _ _ ⟨bc BK404 0, bc BK404 1, bc BK404 2, bc BK404 3, bc BK404 4, bc BK404 5, bc BK404 6, bc BK414 0, bc BK414 1, bc BK414 2, bc BK414 3, bc BK414 4, bc BK414 5, bc BK414 6⟩ (fun hHeld => ?_)
    clear hK K
    refine norm_ (a' := ?_) ?_ ?_
    rotate_left
    ·show Act.put _ (some 25) _ = _
     simp only [Act.put, List.setIfInBounds_toArray, List.set_cons_zero, List.set_cons_succ, i64_w, i32_w]
     rfl
    refine pure_ (i := 13) (N := some 26) (v := ?_) (a' := ?_) #[true, true, true, true, true, true, true, true, true, true, true, true, true, true, false, false, false, false, false, false, false, false, false, false, false, false, false, false, false, false, false] rfl rfl (any_of HT_.out (by kernel_rfl)) (fun _ _ _ h => h) (Or.inl ⟨by rfl, ?_⟩) ?_ ?_
    rotate_left
    ·intro w'
     go_simp
     with_reducible rfl
    rotate_left
    ·simp only [Act.put, List.setIfInBounds_toArray, List.set_cons_zero, List.set_cons_succ, i64_w, i32_w]
     rfl
    refine pure_ (i := 14) (N := some 27) (v := ?_) (a' := ?_) #[true, true, true, true, true, true, true, true, true, true, true, true, true, true, true, false, false, false, false, false, false, false, false, false, false, false, false, false, false, false, false] rfl rfl (any_of HT_.out (by kernel_rfl)) (fun _ _ _ h => h) (Or.inl ⟨by rfl, ?_⟩) ?_ ?_
    rotate_left
    ·intro w'
     go_simp
     with_reducible rfl
    rotate_left
    ·simp only [Act.put, List.setIfInBounds_toArray, List.set_cons_zero, List.set_cons_succ, i64_w, i32_w]
     rfl
    refine pure_ (i := 15) (N := some 28) (v := ?_) (a' := ?_) #[true, true, true, true, true, true, true, true, true, true, true, true, true, true, true, true, false, false, false, false, false, false, false, false, false, false, false, false, false, false, false] rfl rfl (any_of HT_.out (by kernel_rfl)) (fun _ _ _ h => h) (Or.inl ⟨by rfl, ?_⟩) ?_ ?_
    rotate_left
    ·intro w'
     go_simp
     with_reducible rfl
    rotate_left
    ·simp only [Act.put, List.setIfInBounds_toArray, List.set_cons_zero, List.set_cons_succ, i64_w, i32_w]
     rfl
    refine pure_ (i := 16) (N := some 29) (v := undef) (a' := ?_) #[true, true, true, true, true, true, true, true, true, true, true, true, true, true, true, true, true, false, false, false, false, false, false, false, false, false, false, false, false, false, false] rfl rfl (any_of HT_.out (by kernel_rfl)) (fun _ _ _ h => h) (Or.inr ⟨by rfl, rfl⟩) ?_ ?_
    rotate_left
    ·simp only [Act.put, List.setIfInBounds_toArray, List.set_cons_zero, List.set_cons_succ, i64_w, i32_w]
     rfl
    refine pure_ (i := 17) (N := some 30) (v := undef) (a' := ?_) #[true, true, true, true, true, true, true, true, true, true, true, true, true, true, true, true, true, true, false, false, false, false, false, false, false, false, false, false, false, false, false] rfl rfl (any_of HT_.out (by kernel_rfl)) (fun _ _ _ h => h) (Or.inr ⟨by rfl, rfl⟩) ?_ ?_
    rotate_left
    ·simp only [Act.put, List.setIfInBounds_toArray, List.set_cons_zero, List.set_cons_succ, i64_w, i32_w]
     rfl
    refine pure_ (i := 18) (N := some 31) (v := undef) (a' := ?_) #[true, true, true, true, true, true, true, true, true, true, true, true, true, true, true, true, true, true, true, false, false, false, false, false, false, false, false, false, false, false, false] rfl rfl (any_of HT_.out (by kernel_rfl)) (fun _ _ _ h => h) (Or.inr ⟨by rfl, rfl⟩) ?_ ?_
    rotate_left
    ·simp only [Act.put, List.setIfInBounds_toArray, List.set_cons_zero, List.set_cons_succ, i64_w, i32_w]
     rfl
    refine pure_ (i := 19) (N := some 32) (v := undef) (a' := ?_) #[true, true, true, true, true, true, true, true, true, true, true, true, true, true, true, true, true, true, true, true, false, false, false, false, false, false, false, false, false, false, false] rfl rfl (any_of HT_.out (by kernel_rfl)) (fun _ _ _ h => h) (Or.inr ⟨by rfl, rfl⟩) ?_ ?_
    rotate_left
    ·simp only [Act.put, List.setIfInBounds_toArray, List.set_cons_zero, List.set_cons_succ, i64_w, i32_w]
     rfl
    refine pure_ (i := 20) (N := some 33) (v := undef) (a' := ?_) #[true, true, true, true, true, true, true, true, true, true, true, true, true, true, true, true, true, true, true, true, true, false, false, false, false, false, false, false, false, false, false] rfl rfl (any_of HT_.out (by kernel_rfl)) (fun _ _ _ h => h) (Or.inr ⟨by rfl, rfl⟩) ?_ ?_
    rotate_left
    ·simp only [Act.put, List.setIfInBounds_toArray, List.set_cons_zero, List.set_cons_succ, i64_w, i32_w]
     rfl
    refine pure_ (i := 21) (N := some 34) (v := undef) (a' := ?_) #[true, true, true, true, true, true, true, true, true, true, true, true, true, true, true, true, true, true, true, true, true, true, false, false, false, false, false, false, false, false, false] rfl rfl (any_of HT_.out (by kernel_rfl)) (fun _ _ _ h => h) (Or.inr ⟨by rfl, rfl⟩) ?_ ?_
    rotate_left
    ·simp only [Act.put, List.setIfInBounds_toArray, List.set_cons_zero, List.set_cons_succ, i64_w, i32_w]
     rfl
    refine pure_ (i := 22) (N := some 35) (v := undef) (a' := ?_) #[true, true, true, true, true, true, true, true, true, true, true, true, true, true, true, true, true, true, true, true, true, true, true, false, false, false, false, false, false, false, false] rfl rfl (any_of HT_.out (by kernel_rfl)) (fun _ _ _ h => h) (Or.inr ⟨by rfl, rfl⟩) ?_ ?_
    rotate_left
    ·simp only [Act.put, List.setIfInBounds_toArray, List.set_cons_zero, List.set_cons_succ, i64_w, i32_w]
     rfl
    refine pure_ (i := 23) (N := some 36) (v := ?_) (a' := ?_) #[true, true, true, true, true, true, true, true, true, true, true, true, true, true, true, true, true, true, true, true, true, true, true, true, false, false, false, false, false, false, false] rfl rfl (any_of HT_.out (by kernel_rfl)) (fun _ _ _ h => h) (Or.inl ⟨by rfl, ?_⟩) ?_ ?_
    rotate_left
    ·intro w'
     go_simp
     with_reducible rfl
    rotate_left
    ·simp only [Act.put, List.setIfInBounds_toArray, List.set_cons_zero, List.set_cons_succ, i64_w, i32_w]
     rfl
    refine pure_ (i := 24) (N := some 37) (v := ?_) (a' := ?_) #[true, true, true, true, true, true, true, true, true, true, true, true, true, true, true, true, true, true, true, true, true, true, true, true, true, false, false, false, false, false, false] rfl rfl (any_of HT_.out (by kernel_rfl)) (fun _ _ _ h => h) (Or.inl ⟨by rfl, ?_⟩) ?_ ?_
    rotate_left
    ·intro w'
     go_simp
     with_reducible rfl
    rotate_left
    ·simp only [Act.put, List.setIfInBounds_toArray, List.set_cons_zero, List.set_cons_succ, i64_w, i32_w]
     rfl
    refine pure_ (i := 25) (N := some 38) (v := undef) (a' := ?_) #[true, true, true, true, true, true, true, true, true, true, true, true, true, true, true, true, true, true, true, true, true, true, true, true, true, true, false, false, false, false, false] rfl rfl (any_of HT_.out (by kernel_rfl)) (fun _ _ _ h => h) (Or.inr ⟨by rfl, rfl⟩) ?_ ?_
    rotate_left
    ·simp only [Act.put, List.setIfInBounds_toArray, List.set_cons_zero, List.set_cons_succ, i64_w, i32_w]
     rfl
    refine pure_ (i := 26) (N := some 39) (v := undef) (a' := ?_) #[true, true, true, true, true, true, true, true, true, true, true, true, true, true, true, true, true, true, true, true, true, true, true, true, true, true, true, false, false, false, false] rfl rfl (any_of HT_.out (by kernel_rfl)) (fun _ _ _ h => h) (Or.inr ⟨by rfl, rfl⟩) ?_ ?_
    rotate_left
    ·simp only [Act.put, List.setIfInBounds_toArray, List.set_cons_zero, List.set_cons_succ, i64_w, i32_w]
     rfl
    refine pure_ (i := 27) (N := some 40) (v := undef) (a' := ?_) #[true, true, true, true, true, true, true, true, true, true, true, true, true, true, true, true, true, true, true, true, true, true, true, true, true, true, true, true, false, false, false] rfl rfl (any_of HT_.out (by kernel_rfl)) (fun _ _ _ h => h) (Or.inr ⟨by rfl, rfl⟩) ?_ ?_
    rotate_left
    ·simp only [Act.put, List.setIfInBounds_toArray, List.set_cons_zero, List.set_cons_succ, i64_w, i32_w]
     rfl
    refine pure_ (i := 28) (N := some 41) (v := undef) (a' := ?_) #[true, true, true, true, true, true, true, true, true, true, true, true, true, true, true, true, true, true, true, true, true, true, true, true, true, true, true, true, true, false, false] rfl rfl (any_of HT_.out (by kernel_rfl)) (fun _ _ _ h => h) (Or.inr ⟨by rfl, rfl⟩) ?_ ?_
    rotate_left
    ·simp only [Act.put, List.setIfInBounds_toArray, List.set_cons_zero, List.set_cons_succ, i64_w, i32_w]
     rfl
    refine pure_ (i := 29) (N := some 42) (v := undef) (a' := ?_) #[true, true, true, true, true, true, true, true, true, true, true, true, true, true, true, true, true, true, true, true, true, true, true, true, true, true, true, true, true, true, false] rfl rfl (any_of HT_.out (by kernel_rfl)) (fun _ _ _ h => h) (Or.inr ⟨by rfl, rfl⟩) ?_ ?_
    rotate_left
    ·simp only [Act.put, List.setIfInBounds_toArray, List.set_cons_zero, List.set_cons_succ, i64_w, i32_w]
     rfl
    refine pure_ (i := 30) (N := some 43) (v := ?_) (a' := ?_) #[true, true, true, true, true, true, true, true, true, true, true, true, true, true, true, true, true, true, true, true, true, true, true, true, true, true, true, true, true, true, true] rfl rfl (any_of HT_.out (by kernel_rfl)) (fun _ _ _ h => h) (Or.inl ⟨by rfl, ?_⟩) ?_ ?_
    rotate_left
    ·intro w'
     go_simp
     with_reducible rfl
    rotate_left
    ·simp only [Act.put, List.setIfInBounds_toArray, List.set_cons_zero, List.set_cons_succ, i64_w, i32_w]
     rfl
    refine done_ (done_of HT_.out (by kernel_rfl)) ?_
    try go_wp2
    go_meet
    case rel => exact ⟨_, (true), (by first | rfl | (simp; done) | (simp [*]; done)), H', ⟨by first | omega | exact Nat.le_refl _⟩, ⟨blkt BK404⟩, ⟨blkt BK405⟩, ⟨blkt BK414⟩, ⟨belt HB⟩⟩
   rw [if_neg c28] at H
   have c28b0 : (!(t407 == t424) || (!(t408 == t425) || (!(t409 == t426)))) = false := by simpa using c28
   clear c28
   replace H := Option.bind_eq_some_iff.mp H
   obtain ⟨⟨t427, t428, t429⟩, A350, H⟩ := H
   replace H : (if (!(t411 == t427) || (!(t412 == t428) || (!(t413 == t429)))) = true then (turnstonelaw05_ItemTells.j0 k true a0_0 a0_1 a0_2 a0_3 a0_4 a0_5 a0_6 a1_0 a1_1 a1_2 a1_3 a1_4 a1_5 a1_6) else (turnstonelaw05_ItemTells.j0 k (t410 != a0_3) a0_0 a0_1 a0_2 a0_3 a0_4 a0_5 a0_6 a1_0 a1_1 a1_2 a1_3 a1_4 a1_5 a1_6)) = some r := H
   have A35 := Aside0.mk A350
   clear A350
   by_cases c36 : (!(t411 == t427) || (!(t412 == t428) || (!(t413 == t429)))) = true
   ·rw [if_pos c36] at H
    have c36b0 : (!(t411 == t427) || (!(t412 == t428) || (!(t413 == t429)))) = true := c36
    clear c36
    have H' := Aside0.mk H
    clear H
    try go_wp2
    have n0_ : Aside0 ((((((((w14.setCell ⟨gb414, 0, none⟩ (.int .u64 t407)).setCell ⟨gb414, 1, none⟩ (.int .u32 t408)).setCell ⟨gb414, 2, none⟩ (.int .u32 t409)).setCell ⟨gb414, 3, none⟩ (.int .i64 t410)).setCell ⟨gb414, 4, none⟩ (.int .u64 t411)).setCell ⟨gb414, 5, none⟩ (.int .u32 t412)).setCell ⟨gb414, 6, none⟩ (.int .u32 t413)).heap[gb404]? = some (.cells #[.int .u64 a0_0, .int .u32 a0_1, .int .u32 a0_2, .int .i64 a0_3, .int .u64 a0_4, .int .u32 a0_5, .int .u32 a0_6] 28 (0, 0))) := ⟨by (with_reducible repeat (first | refine blk_drewN ?_ _ | refine blk_drew ?_ | refine blk_alloc ?_ _)); refine blk_far ?_ NB404_414.out _; (with_reducible repeat (first | refine blk_drewN ?_ _ | refine blk_drew ?_ | refine blk_alloc ?_ _)); refine blk_far ?_ NB404_414.out _; (with_reducible repeat (first | refine blk_drewN ?_ _ | refine blk_drew ?_ | refine blk_alloc ?_ _)); refine blk_far ?_ NB404_414.out _; (with_reducible repeat (first | refine blk_drewN ?_ _ | refine blk_drew ?_ | refine blk_alloc ?_ _)); refine blk_far ?_ NB404_414.out _; (with_reducible repeat (first | refine blk_drewN ?_ _ | refine blk_drew ?_ | refine blk_alloc ?_ _)); refine blk_far ?_ NB404_414.out _; (with_reducible repeat (first | refine blk_drewN ?_ _ | refine blk_drew ?_ | refine blk_alloc ?_ _)); refine blk_far ?_ NB404_414.out _; (with_reducible repeat (first | refine blk_drewN ?_ _ | refine blk_drew ?_ | refine blk_alloc ?_ _)); refine blk_far ?_ NB404_414.out _; exact blkt BK404⟩
    have n1_ : Aside0 ((((((((w14.setCell ⟨gb414, 0, none⟩ (.int .u64 t407)).setCell ⟨gb414, 1, none⟩ (.int .u32 t408)).setCell ⟨gb414, 2, none⟩ (.int .u32 t409)).setCell ⟨gb414, 3, none⟩ (.int .i64 t410)).setCell ⟨gb414, 4, none⟩ (.int .u64 t411)).setCell ⟨gb414, 5, none⟩ (.int .u32 t412)).setCell ⟨gb414, 6, none⟩ (.int .u32 t413)).heap[gb405]? = some (.cells #[.int .u64 a1_0, .int .u32 a1_1, .int .u32 a1_2, .int .i64 a1_3, .int .u64 a1_4, .int .u32 a1_5, .int .u32 a1_6] 28 (0, 0))) := ⟨by (with_reducible repeat (first | refine blk_drewN ?_ _ | refine blk_drew ?_ | refine blk_alloc ?_ _)); refine blk_far ?_ NB405_414.out _; (with_reducible repeat (first | refine blk_drewN ?_ _ | refine blk_drew ?_ | refine blk_alloc ?_ _)); refine blk_far ?_ NB405_414.out _; (with_reducible repeat (first | refine blk_drewN ?_ _ | refine blk_drew ?_ | refine blk_alloc ?_ _)); refine blk_far ?_ NB405_414.out _; (with_reducible repeat (first | refine blk_drewN ?_ _ | refine blk_drew ?_ | refine blk_alloc ?_ _)); refine blk_far ?_ NB405_414.out _; (with_reducible repeat (first | refine blk_drewN ?_ _ | refine blk_drew ?_ | refine blk_alloc ?_ _)); refine blk_far ?_ NB405_414.out _; (with_reducible repeat (first | refine blk_drewN ?_ _ | refine blk_drew ?_ | refine blk_alloc ?_ _)); refine blk_far ?_ NB405_414.out _; (with_reducible repeat (first | refine blk_drewN ?_ _ | refine blk_drew ?_ | refine blk_alloc ?_ _)); refine blk_far ?_ NB405_414.out _; exact blkt BK405⟩
    have n2_ : Aside0 ((((((((w14.setCell ⟨gb414, 0, none⟩ (.int .u64 t407)).setCell ⟨gb414, 1, none⟩ (.int .u32 t408)).setCell ⟨gb414, 2, none⟩ (.int .u32 t409)).setCell ⟨gb414, 3, none⟩ (.int .i64 t410)).setCell ⟨gb414, 4, none⟩ (.int .u64 t411)).setCell ⟨gb414, 5, none⟩ (.int .u32 t412)).setCell ⟨gb414, 6, none⟩ (.int .u32 t413)).heap[gb414]? = some (.cells #[.int .u64 t407, .int .u32 t408, .int .u32 t409, .int .i64 t410, .int .u64 t411, .int .u32 t412, .int .u32 t413] 28 (0, 0))) := ⟨by (with_reducible repeat (first | refine blk_drewN ?_ _ | refine blk_drew ?_ | refine blk_alloc ?_ _)); refine blk_put (cs := #[.int .u64 t407, .int .u32 t408, .int .u32 t409, .int .i64 t410, .int .u64 t411, .int .u32 t412, .int .u32 0]) ?_ 6 _ rfl; (with_reducible repeat (first | refine blk_drewN ?_ _ | refine blk_drew ?_ | refine blk_alloc ?_ _)); refine blk_put (cs := #[.int .u64 t407, .int .u32 t408, .int .u32 t409, .int .i64 t410, .int .u64 t411, .int .u32 0, .int .u32 0]) ?_ 5 _ rfl; (with_reducible repeat (first | refine blk_drewN ?_ _ | refine blk_drew ?_ | refine blk_alloc ?_ _)); refine blk_put (cs := #[.int .u64 t407, .int .u32 t408, .int .u32 t409, .int .i64 t410, .int .u64 0, .int .u32 0, .int .u32 0]) ?_ 4 _ rfl; (with_reducible repeat (first | refine blk_drewN ?_ _ | refine blk_drew ?_ | refine blk_alloc ?_ _)); refine blk_put (cs := #[.int .u64 t407, .int .u32 t408, .int .u32 t409, .int .i64 0, .int .u64 0, .int .u32 0, .int .u32 0]) ?_ 3 _ rfl; (with_reducible repeat (first | refine blk_drewN ?_ _ | refine blk_drew ?_ | refine blk_alloc ?_ _)); refine blk_put (cs := #[.int .u64 t407, .int .u32 t408, .int .u32 0, .int .i64 0, .int .u64 0, .int .u32 0, .int .u32 0]) ?_ 2 _ rfl; (with_reducible repeat (first | refine blk_drewN ?_ _ | refine blk_drew ?_ | refine blk_alloc ?_ _)); refine blk_put (cs := #[.int .u64 t407, .int .u32 0, .int .u32 0, .int .i64 0, .int .u64 0, .int .u32 0, .int .u32 0]) ?_ 1 _ rfl; (with_reducible repeat (first | refine blk_drewN ?_ _ | refine blk_drew ?_ | refine blk_alloc ?_ _)); refine blk_put (cs := #[.int .u64 0, .int .u32 0, .int .u32 0, .int .i64 0, .int .u64 0, .int .u32 0, .int .u32 0]) ?_ 0 _ rfl; exact blkt BK414⟩
    have n3_ : Aside0 (Below w.heap.size w (((((((w14.setCell ⟨gb414, 0, none⟩ (.int .u64 t407)).setCell ⟨gb414, 1, none⟩ (.int .u32 t408)).setCell ⟨gb414, 2, none⟩ (.int .u32 t409)).setCell ⟨gb414, 3, none⟩ (.int .i64 t410)).setCell ⟨gb414, 4, none⟩ (.int .u64 t411)).setCell ⟨gb414, 5, none⟩ (.int .u32 t412)).setCell ⟨gb414, 6, none⟩ (.int .u32 t413))) := ⟨belt HB⟩
    (try clear BK404)
    (try clear BK405)
    (try clear BK414)
    (try clear HB)
    generalize (((((((w14.setCell ⟨gb414, 0, none⟩ (.int .u64 t407)).setCell ⟨gb414, 1, none⟩ (.int .u32 t408)).setCell ⟨gb414, 2, none⟩ (.int .u32 t409)).setCell ⟨gb414, 3, none⟩ (.int .i64 t410)).setCell ⟨gb414, 4, none⟩ (.int .u64 t411)).setCell ⟨gb414, 5, none⟩ (.int .u32 t412)).setCell ⟨gb414, 6, none⟩ (.int .u32 t413)) = w37 at n0_ n1_ n2_ n3_ ⊢
    have BK404 := n0_
    have BK405 := n1_
    have BK414 := n2_
    have HB := n3_
    clear n0_ n1_ n2_ n3_
    replace BK404 := Aside0.mk (blk_drew BK404.out)
    replace BK405 := Aside0.mk (blk_drew BK405.out)
    replace BK414 := Aside0.mk (blk_drew BK414.out)
    replace HB := Aside0.mk (below_drew1 HB.out)
    refine start_ (n := 31) (S := fun w' => w'.cell? ⟨gb404, 0, none⟩ = some (.int .u64 a0_0) ∧ w'.cell? ⟨gb404, 1, none⟩ = some (.int .u32 a0_1) ∧ w'.cell? ⟨gb404, 2, none⟩ = some (.int .u32 a0_2) ∧ w'.cell? ⟨gb404, 3, none⟩ = some (.int .i64 a0_3) ∧ w'.cell? ⟨gb404, 4, none⟩ = some (.int .u64 a0_4) ∧ w'.cell? ⟨gb404, 5, none⟩ = some (.int .u32 a0_5) ∧ w'.cell? ⟨gb404, 6, none⟩ = some (.int .u32 a0_6) ∧ w'.cell? ⟨gb414, 0, none⟩ = some (.int .u64 t407) ∧ w'.cell? ⟨gb414, 1, none⟩ = some (.int .u32 t408) ∧ w'.cell? ⟨gb414, 2, none⟩ = some (.int .u32 t409) ∧ w'.cell? ⟨gb414, 3, none⟩ = some (.int .i64 t410) ∧ w'.cell? ⟨gb414, 4, none⟩ = some (.int .u64 t411) ∧ w'.cell? ⟨gb414, 5, none⟩ = some (.int .u32 t412) ∧ w'.cell? ⟨gb414, 6, none⟩ = some (.int .u32 t413)) (ds := []) #[false, false, false, false, false, false, false, false, false, false, false, false, false, false, false, false, false, false, false, false, false, false, false, false, false, false, false, false, false, false, false] (by kernel_rfl) rfl rfl ⟨bc BK404 0, bc BK404 1, bc BK404 2, bc BK404 3, bc BK404 4, bc BK404 5, bc BK404 6, bc BK414 0, bc BK414 1, bc BK414 2, bc BK414 3, bc BK414 4, bc BK414 5, bc BK414 6⟩ (fun hHeld => ?_); refine with_tabW turnstonelaw05_ItemTells.tab4 turnstonelaw05_ItemTells.bits4 (fun HT_ HW_ => ?_)
    generalize w37.drew = w38 at BK404 BK405 BK414 HB hHeld ⊢
    refine take_ (i := 0) (N := some 13) (v := ?_) (a' := ?_) #[true, false, false, false, false, false, false, false, false, false, false, false, false, false, false, false, false, false, false, false, false, false, false, false, false, false, false, false, false, false, false] rfl rfl (take_ofW HT_.out HW_.out (by kernel_rfl)) (fun _ _ _ h => h) (Or.inl ⟨by rfl, ?_⟩) hHeld ?_ ?_
    rotate_left
    ·rintro w' ⟨s0, s1, s2, s3, s4, s5, s6, s7, s8, s9, s10, s11, s12, s13⟩
     go_simp
     with_reducible rfl
    rotate_left
    ·simp only [Act.put, List.setIfInBounds_toArray, List.set_cons_zero, List.set_cons_succ, i64_w, i32_w]
     rfl
    refine take_ (i := 2) (N := some 15) (v := ?_) (a' := ?_) #[true, false, true, false, false, false, false, false, false, false, false, false, false, false, false, false, false, false, false, false, false, false, false, false, false, false, false, false, false, false, false] rfl rfl (take_ofW HT_.out HW_.out (by kernel_rfl)) (fun _ _ _ h => h) (Or.inl ⟨by rfl, ?_⟩) hHeld ?_ ?_
    rotate_left
    ·rintro w' ⟨s0, s1, s2, s3, s4, s5, s6, s7, s8, s9, s10, s11, s12, s13⟩
     go_simp
     with_reducible rfl
    rotate_left
    ·simp only [Act.put, List.setIfInBounds_toArray, List.set_cons_zero, List.set_cons_succ, i64_w, i32_w]
     rfl
    refine one_ (i := 1) (N := some 14) #[true, true, true, false, false, false, false, false, false, false, false, false, false, false, false, false, false, false, false, false, false, false, false, false, false, false, false, false, false, false, false] rfl rfl (one_of HT_.out (by kernel_rfl)) (by decide) (fun K hK => ?_)
    refine goes_ Try.func11 (by kernel_rfl) rfl #[.agg #[.int .u64 a0_0, .int .u32 a0_1, .int .u32 a0_2, .int .i64 a0_3, .int .u64 a0_4, .int .u32 a0_5, .int .u32 a0_6]] (by rfl) rfl rfl argt ?_
    with_reducible refine (item_Item_Right.calls a0_0 a0_1 a0_2 a0_3 a0_4 a0_5 a0_6 t415 _ A18.out).mono ?_
    rintro e w39 ⟨rfl, hb⟩
    refine ⟨_, rfl, ?_⟩
    replace BK404 := blkb BK404 hb
    replace BK405 := blkb BK405 hb
    replace BK414 := blkb BK414 hb
    replace HB := belb HB hb
    (try clear hb)
    (try clear hb2)
    (try clear hk)
    (try clear hi)
    refine hK.out _ _ ⟨bc BK404 0, bc BK404 1, bc BK404 2, bc BK404 3, bc BK404 4, bc BK404 5, bc BK404 6, bc BK414 0, bc BK414 1, bc BK414 2, bc BK414 3, bc BK414 4, bc BK414 5, bc BK414 6⟩ (fun hHeld => ?_)
    clear hK K
    refine norm_ (a' := ?_) ?_ ?_
    rotate_left
    ·show Act.put _ (some 14) _ = _
     simp only [Act.put, List.setIfInBounds_toArray, List.set_cons_zero, List.set_cons_succ, i64_w, i32_w]
     rfl
    refine one_ (i := 3) (N := some 16) #[true, true, true, true, false, false, false, false, false, false, false, false, false, false, false, false, false, false, false, false, false, false, false, false, false, false, false, false, false, false, false] rfl rfl (one_of HT_.out (by kernel_rfl)) (by decide) (fun K hK => ?_)
    refine goes_ Try.func13 (by kernel_rfl) rfl #[.agg #[.int .u64 a0_0, .int .u32 a0_1, .int .u32 a0_2, .int .i64 a0_3, .int .u64 a0_4, .int .u32 a0_5, .int .u32 a0_6]] (by rfl) rfl rfl argt ?_
    with_reducible refine (turnstonelaw05_Of.calls a0_0 a0_1 a0_2 a0_3 a0_4 a0_5 a0_6 t416 t417 t418 t419 t420 t421 t422 _ A19.out).mono ?_
    rintro e w40 ⟨rfl, hb⟩
    refine ⟨_, rfl, ?_⟩
    replace BK404 := blkb BK404 hb
    replace BK405 := blkb BK405 hb
    replace BK414 := blkb BK414 hb
    replace HB := belb HB hb
    (try clear hb)
    (try clear hb2)
    (try clear hk)
    (try clear hi)
    refine hK.out _ _ ⟨bc BK404 0, bc BK404 1, bc BK404 2, bc BK404 3, bc BK404 4, bc BK404 5, bc BK404 6, bc BK414 0, bc BK414 1, bc BK414 2, bc BK414 3, bc BK414 4, bc BK414 5, bc BK414 6⟩ (fun hHeld => ?_)
    clear hK K
    refine norm_ (a' := ?_) ?_ ?_
    rotate_left
    ·show Act.put _ (some 16) _ = _
     simp only [Act.put, List.setIfInBounds_toArray, List.set_cons_zero, List.set_cons_succ, i64_w, i32_w]
     rfl
    refine one_ (i := 4) (N := some 17) #[true, true, true, true, true, false, false, false, false, false, false, false, false, false, false, false, false, false, false, false, false, false, false, false, false, false, false, false, false, false, false] rfl rfl (one_of HT_.out (by kernel_rfl)) (by decide) (fun K hK => ?_)
    refine goes_ Try.func12 (by kernel_rfl) rfl #[.agg #[.int .u64 t416, .int .u32 t417, .int .u32 t418, .int .i64 t419, .int .u64 t420, .int .u32 t421, .int .u32 t422]] (by rfl) rfl rfl argt ?_
    with_reducible refine (turnstoneref05_Right.calls k t416 t417 t418 t419 t420 t421 t422 t423 _ A20.out).mono ?_
    rintro e w41 ⟨rfl, hb⟩
    refine ⟨_, rfl, ?_⟩
    replace BK404 := blkb BK404 hb
    replace BK405 := blkb BK405 hb
    replace BK414 := blkb BK414 hb
    replace HB := belb HB hb
    (try clear hb)
    (try clear hb2)
    (try clear hk)
    (try clear hi)
    refine hK.out _ _ ⟨bc BK404 0, bc BK404 1, bc BK404 2, bc BK404 3, bc BK404 4, bc BK404 5, bc BK404 6, bc BK414 0, bc BK414 1, bc BK414 2, bc BK414 3, bc BK414 4, bc BK414 5, bc BK414 6⟩ (fun hHeld => ?_)
    clear hK K
    refine norm_ (a' := ?_) ?_ ?_
    rotate_left
    ·show Act.put _ (some 17) _ = _
     simp only [Act.put, List.setIfInBounds_toArray, List.set_cons_zero, List.set_cons_succ, i64_w, i32_w]
     rfl
    refine pure_ (i := 5) (N := some 18) (v := ?_) (a' := ?_) #[true, true, true, true, true, true, false, false, false, false, false, false, false, false, false, false, false, false, false, false, false, false, false, false, false, false, false, false, false, false, false] rfl rfl (any_of HT_.out (by kernel_rfl)) (fun _ _ _ h => h) (Or.inl ⟨by rfl, ?_⟩) ?_ ?_
    rotate_left
    ·intro w'
     go_simp
     with_reducible rfl
    rotate_left
    ·simp only [Act.put, List.setIfInBounds_toArray, List.set_cons_zero, List.set_cons_succ, i64_w, i32_w]
     rfl
    refine pure_ (i := 6) (N := some 19) (v := ?_) (a' := ?_) #[true, true, true, true, true, true, true, false, false, false, false, false, false, false, false, false, false, false, false, false, false, false, false, false, false, false, false, false, false, false, false] rfl rfl (any_of HT_.out (by kernel_rfl)) (fun _ _ _ h => h) (Or.inl ⟨by rfl, ?_⟩) ?_ ?_
    rotate_left
    ·intro w'
     go_simp
     with_reducible rfl
    rotate_left
    ·simp only [Act.put, List.setIfInBounds_toArray, List.set_cons_zero, List.set_cons_succ, i64_w, i32_w]
     rfl
    refine pure_ (i := 7) (N := some 20) (v := ?_) (a' := ?_) #[true, true, true, true, true, true, true, true, false, false, false, false, false, false, false, false, false, false, false, false, false, false, false, false, false, false, false, false, false, false, false] rfl rfl (any_of HT_.out (by kernel_rfl)) (fun _ _ _ h => h) (Or.inl ⟨by rfl, ?_⟩) ?_ ?_
    rotate_left
    ·intro w'
     go_simp
     with_reducible rfl
    rotate_left
    ·simp only [Act.put, List.setIfInBounds_toArray, List.set_cons_zero, List.set_cons_succ, i64_w, i32_w]
     rfl
    refine pure_ (i := 9) (N := some 22) (v := ?_) (a' := ?_) #[true, true, true, true, true, true, true, true, false, true, false, false, false, false, false, false, false, false, false, false, false, false, false, false, false, false, false, false, false, false, false] rfl rfl (any_of HT_.out (by kernel_rfl)) (fun _ _ _ h => h) (Or.inl ⟨by rfl, ?_⟩) ?_ ?_
    rotate_left
    ·intro w'
     go_simp
     with_reducible rfl
    rotate_left
    ·simp only [Act.put, List.setIfInBounds_toArray, List.set_cons_zero, List.set_cons_succ, i64_w, i32_w]
     rfl
    refine pure_ (i := 11) (N := some 24) (v := ?_) (a' := ?_) #[true, true, true, true, true, true, true, true, false, true, false, true, false, false, false, false, false, false, false, false, false, false, false, false, false, false, false, false, false, false, false] rfl rfl (any_of HT_.out (by kernel_rfl)) (fun _ _ _ h => h) (Or.inl ⟨by rfl, ?_⟩) ?_ ?_
    rotate_left
    ·intro w'
     go_simp
     with_reducible rfl
    rotate_left
    ·simp only [Act.put, List.setIfInBounds_toArray, List.set_cons_zero, List.set_cons_succ, i64_w, i32_w]
     rfl
    refine take_ (i := 8) (N := some 21) (v := ?_) (a' := ?_) #[true, true, true, true, true, true, true, true, true, true, false, true, false, false, false, false, false, false, false, false, false, false, false, false, false, false, false, false, false, false, false] rfl rfl (take_ofW HT_.out HW_.out (by kernel_rfl)) (fun _ _ _ h => h) (Or.inl ⟨by rfl, ?_⟩) hHeld ?_ ?_
    rotate_left
    ·rintro w' ⟨s0, s1, s2, s3, s4, s5, s6, s7, s8, s9, s10, s11, s12, s13⟩
     go_simp
     with_reducible rfl
    rotate_left
    ·simp only [Act.put, List.setIfInBounds_toArray, List.set_cons_zero, List.set_cons_succ, i64_w, i32_w]
     rfl
    refine take_ (i := 10) (N := some 23) (v := ?_) (a' := ?_) #[true, true, true, true, true, true, true, true, true, true, true, true, false, false, false, false, false, false, false, false, false, false, false, false, false, false, false, false, false, false, false] rfl rfl (take_ofW HT_.out HW_.out (by kernel_rfl)) (fun _ _ _ h => h) (Or.inl ⟨by rfl, ?_⟩) hHeld ?_ ?_
    rotate_left
    ·rintro w' ⟨s0, s1, s2, s3, s4, s5, s6, s7, s8, s9, s10, s11, s12, s13⟩
     go_simp
     with_reducible rfl
    rotate_left
    ·simp only [Act.put, List.setIfInBounds_toArray, List.set_cons_zero, List.set_cons_succ, i64_w, i32_w]
     rfl
    refine one_ (i := 12) (N := some 25) #[true, true, true, true, true, true, true, true, true, true, true, true, true, false, false, false, false, false, false, false, false, false, false, false, false, false, false, false, false, false, false] rfl rfl (one_of HT_.out (by kernel_rfl)) (by decide) (fun K hK => ?_)
    refine goes_ Try.func14 (by kernel_rfl) rfl #[.agg #[.int .u64 a0_0, .int .u32 a0_1, .int .u32 a0_2], .int .u64 a2] (by rfl) rfl rfl argt ?_
    with_reducible refine (pos_Pos_Shift.calls a0_0 a0_1 a0_2 a2 t424 t425 t426 _ A27.out).mono ?_
    rintro e w42 ⟨rfl, hb⟩
    refine ⟨_, rfl, ?_⟩
    replace BK404 := blkb BK404 hb
    replace BK405 := blkb BK405 hb
    replace BK414 := blkb BK414 hb
    replace HB := belb HB hb
    (try clear hb)
    (try clear hb2)
    (try clear hk)
    (try clear hi)
    refine hK.out _ _ ⟨bc BK404 0, bc BK404 1, bc BK404 2, bc BK404 3, bc BK404 4, bc BK404 5, bc BK404 6, bc BK414 0, bc BK414 1, bc BK414 2, bc BK414 3, bc BK414 4, bc BK414 5, bc BK414 6⟩ (fun hHeld => ?_)
    clear hK K
    refine norm_ (a' := ?_) ?_ ?_
    rotate_left
    ·show Act.put _ (some 25) _ = _
     simp only [Act.put, List.setIfInBounds_toArray, List.set_cons_zero, List.set_cons_succ, i64_w, i32_w]
     rfl
    refine pure_ (i := 13) (N := some 26) (v := ?_) (a' := ?_) #[true, true, true, true, true, true, true, true, true, true, true, true, true, true, false, false, false, false, false, false, false, false, false, false, false, false, false, false, false, false, false] rfl rfl (any_of HT_.out (by kernel_rfl)) (fun _ _ _ h => h) (Or.inl ⟨by rfl, ?_⟩) ?_ ?_
    rotate_left
    ·intro w'
     go_simp
     with_reducible rfl
    rotate_left
    ·simp only [Act.put, List.setIfInBounds_toArray, List.set_cons_zero, List.set_cons_succ, i64_w, i32_w]
     rfl
    refine pure_ (i := 14) (N := some 27) (v := ?_) (a' := ?_) #[true, true, true, true, true, true, true, true, true, true, true, true, true, true, true, false, false, false, false, false, false, false, false, false, false, false, false, false, false, false, false] rfl rfl (any_of HT_.out (by kernel_rfl)) (fun _ _ _ h => h) (Or.inl ⟨by rfl, ?_⟩) ?_ ?_
    rotate_left
    ·intro w'
     go_simp
     with_reducible rfl
    rotate_left
    ·simp only [Act.put, List.setIfInBounds_toArray, List.set_cons_zero, List.set_cons_succ, i64_w, i32_w]
     rfl
    refine pure_ (i := 15) (N := some 28) (v := ?_) (a' := ?_) #[true, true, true, true, true, true, true, true, true, true, true, true, true, true, true, true, false, false, false, false, false, false, false, false, false, false, false, false, false, false, false] rfl rfl (any_of HT_.out (by kernel_rfl)) (fun _ _ _ h => h) (Or.inl ⟨by rfl, ?_⟩) ?_ ?_
    rotate_left
    ·intro w'
     go_simp
     with_reducible rfl
    rotate_left
    ·simp only [Act.put, List.setIfInBounds_toArray, List.set_cons_zero, List.set_cons_succ, i64_w, i32_w]
     rfl
    refine pure_ (i := 16) (N := some 29) (v := ?_) (a' := ?_) #[true, true, true, true, true, true, true, true, true, true, true, true, true, true, true, true, true, false, false, false, false, false, false, false, false, false, false, false, false, false, false] rfl rfl (any_of HT_.out (by kernel_rfl)) (fun _ _ _ h => h) (Or.inl ⟨by rfl, ?_⟩) ?_ ?_
    rotate_left
    ·intro w'
     go_simp
     with_reducible rfl
    rotate_left
    ·simp only [Act.put, List.setIfInBounds_toArray, List.set_cons_zero, List.set_cons_succ, i64_w, i32_w]
     rfl
    refine pure_ (i := 18) (N := some 31) (v := ?_) (a' := ?_) #[true, true, true, true, true, true, true, true, true, true, true, true, true, true, true, true, true, false, true, false, false, false, false, false, false, false, false, false, false, false, false] rfl rfl (any_of HT_.out (by kernel_rfl)) (fun _ _ _ h => h) (Or.inl ⟨by rfl, ?_⟩) ?_ ?_
    rotate_left
    ·intro w'
     go_simp
     with_reducible rfl
    rotate_left
    ·simp only [Act.put, List.setIfInBounds_toArray, List.set_cons_zero, List.set_cons_succ, i64_w, i32_w]
     rfl
    refine pure_ (i := 20) (N := some 33) (v := ?_) (a' := ?_) #[true, true, true, true, true, true, true, true, true, true, true, true, true, true, true, true, true, false, true, false, true, false, false, false, false, false, false, false, false, false, false] rfl rfl (any_of HT_.out (by kernel_rfl)) (fun _ _ _ h => h) (Or.inl ⟨by rfl, ?_⟩) ?_ ?_
    rotate_left
    ·intro w'
     go_simp
     with_reducible rfl
    rotate_left
    ·simp only [Act.put, List.setIfInBounds_toArray, List.set_cons_zero, List.set_cons_succ, i64_w, i32_w]
     rfl
    refine take_ (i := 17) (N := some 30) (v := ?_) (a' := ?_) #[true, true, true, true, true, true, true, true, true, true, true, true, true, true, true, true, true, true, true, false, true, false, false, false, false, false, false, false, false, false, false] rfl rfl (take_ofW HT_.out HW_.out (by kernel_rfl)) (fun _ _ _ h => h) (Or.inl ⟨by rfl, ?_⟩) hHeld ?_ ?_
    rotate_left
    ·rintro w' ⟨s0, s1, s2, s3, s4, s5, s6, s7, s8, s9, s10, s11, s12, s13⟩
     go_simp
     with_reducible rfl
    rotate_left
    ·simp only [Act.put, List.setIfInBounds_toArray, List.set_cons_zero, List.set_cons_succ, i64_w, i32_w]
     rfl
    refine take_ (i := 19) (N := some 32) (v := ?_) (a' := ?_) #[true, true, true, true, true, true, true, true, true, true, true, true, true, true, true, true, true, true, true, true, true, false, false, false, false, false, false, false, false, false, false] rfl rfl (take_ofW HT_.out HW_.out (by kernel_rfl)) (fun _ _ _ h => h) (Or.inl ⟨by rfl, ?_⟩) hHeld ?_ ?_
    rotate_left
    ·rintro w' ⟨s0, s1, s2, s3, s4, s5, s6, s7, s8, s9, s10, s11, s12, s13⟩
     go_simp
     with_reducible rfl
    rotate_left
    ·simp only [Act.put, List.setIfInBounds_toArray, List.set_cons_zero, List.set_cons_succ, i64_w, i32_w]
     rfl
    refine one_ (i := 21) (N := some 34) #[true, true, true, true, true, true, true, true, true, true, true, true, true, true, true, true, true, true, true, true, true, true, false, false, false, false, false, false, false, false, false] rfl rfl (one_of HT_.out (by kernel_rfl)) (by decide) (fun K hK => ?_)
    refine goes_ Try.func14 (by kernel_rfl) rfl #[.agg #[.int .u64 a0_4, .int .u32 a0_5, .int .u32 a0_6], .int .u64 a2] (by rfl) rfl rfl argt ?_
    with_reducible refine (pos_Pos_Shift.calls a0_4 a0_5 a0_6 a2 t427 t428 t429 _ A35.out).mono ?_
    rintro e w43 ⟨rfl, hb⟩
    refine ⟨_, rfl, ?_⟩
    replace BK404 := blkb BK404 hb
    replace BK405 := blkb BK405 hb
    replace BK414 := blkb BK414 hb
    replace HB := belb HB hb
    (try clear hb)
    (try clear hb2)
    (try clear hk)
    (try clear hi)
    refine hK.out _ _ ⟨bc BK404 0, bc BK404 1, bc BK404 2, bc BK404 3, bc BK404 4, bc BK404 5, bc BK404 6, bc BK414 0, bc BK414 1, bc BK414 2, bc BK414 3, bc BK414 4, bc BK414 5, bc BK414 6⟩ (fun hHeld => ?_)
    clear hK K
    refine norm_ (a' := ?_) ?_ ?_
    rotate_left
    ·show Act.put _ (some 34) _ = _
     simp only [Act.put, List.setIfInBounds_toArray, List.set_cons_zero, List.set_cons_succ, i64_w, i32_w]
     rfl
    refine pure_ (i := 22) (N := some 35) (v := ?_) (a' := ?_) #[true, true, true, true, true, true, true, true, true, true, true, true, true, true, true, true, true, true, true, true, true, true, true, false, false, false, false, false, false, false, false] rfl rfl (any_of HT_.out (by kernel_rfl)) (fun _ _ _ h => h) (Or.inl ⟨by rfl, ?_⟩) ?_ ?_
    rotate_left
    ·intro w'
     go_simp
     with_reducible rfl
    rotate_left
    ·simp only [Act.put, List.setIfInBounds_toArray, List.set_cons_zero, List.set_cons_succ, i64_w, i32_w]
     rfl
    refine pure_ (i := 23) (N := some 36) (v := ?_) (a' := ?_) #[true, true, true, true, true, true, true, true, true, true, true, true, true, true, true, true, true, true, true, true, true, true, true, true, false, false, false, false, false, false, false] rfl rfl (any_of HT_.out (by kernel_rfl)) (fun _ _ _ h => h) (Or.inl ⟨by rfl, ?_⟩) ?_ ?_
    rotate_left
    ·intro w'
     go_simp
     with_reducible rfl
    rotate_left
    ·simp only [Act.put, List.setIfInBounds_toArray, List.set_cons_zero, List.set_cons_succ, i64_w, i32_w]
     rfl
    refine pure_ (i := 24) (N := some 37) (v := ?_) (a' := ?_) #[true, true, true, true, true, true, true, true, true, true, true, true, true, true, true, true, true, true, true, true, true, true, true, true, true, false, false, false, false, false, false] rfl rfl (any_of HT_.out (by kernel_rfl)) (fun _ _ _ h => h) (Or.inl ⟨by rfl, ?_⟩) ?_ ?_
    rotate_left
    ·intro w'
     go_simp
     with_reducible rfl
    rotate_left
    ·simp only [Act.put, List.setIfInBounds_toArray, List.set_cons_zero, List.set_cons_succ, i64_w, i32_w]
     rfl
    refine pure_ (i := 25) (N := some 38) (v := undef) (a' := ?_) #[true, true, true, true, true, true, true, true, true, true, true, true, true, true, true, true, true, true, true, true, true, true, true, true, true, true, false, false, false, false, false] rfl rfl (any_of HT_.out (by kernel_rfl)) (fun _ _ _ h => h) (Or.inr ⟨by rfl, rfl⟩) ?_ ?_
    rotate_left
    ·simp only [Act.put, List.setIfInBounds_toArray, List.set_cons_zero, List.set_cons_succ, i64_w, i32_w]
     rfl
    refine pure_ (i := 26) (N := some 39) (v := undef) (a' := ?_) #[true, true, true, true, true, true, true, true, true, true, true, true, true, true, true, true, true, true, true, true, true, true, true, true, true, true, true, false, false, false, false] rfl rfl (any_of HT_.out (by kernel_rfl)) (fun _ _ _ h => h) (Or.inr ⟨by rfl, rfl⟩) ?_ ?_
    rotate_left
    ·simp only [Act.put, List.setIfInBounds_toArray, List.set_cons_zero, List.set_cons_succ, i64_w, i32_w]
     rfl
    refine pure_ (i := 27) (N := some 40) (v := undef) (a' := ?_) #[true, true, true, true, true, true, true, true, true, true, true, true, true, true, true, true, true, true, true, true, true, true, true, true, true, true, true, true, false, false, false] rfl rfl (any_of HT_.out (by kernel_rfl)) (fun _ _ _ h => h) (Or.inr ⟨by rfl, rfl⟩) ?_ ?_
    rotate_left
    ·simp only [Act.put, List.setIfInBounds_toArray, List.set_cons_zero, List.set_cons_succ, i64_w, i32_w]
     rfl
    refine pure_ (i := 28) (N := some 41) (v := undef) (a' := ?_) #[true, true, true, true, true, true, true, true, true, true, true, true, true, true, true, true, true, true, true, true, true, true, true, true, true, true, true, true, true, false, false] rfl rfl (any_of HT_.out (by kernel_rfl)) (fun _ _ _ h => h) (Or.inr ⟨by rfl, rfl⟩) ?_ ?_
    rotate_left
    ·simp only [Act.put, List.setIfInBounds_toArray, List.set_cons_zero, List.set_cons_succ, i64_w, i32_w]
     rfl
    refine pure_ (i := 29) (N := some 42) (v := undef) (a' := ?_) #[true, true, true, true, true, true, true, true, true, true, true, true, true, true, true, true, true, true, true, true, true, true, true, true, true, true, true, true, true, true, false] rfl rfl (any_of HT_.out (by kernel_rfl)) (fun _ _ _ h => h) (Or.inr ⟨by rfl, rfl⟩) ?_ ?_
    rotate_left
    ·simp only [Act.put, List.setIfInBounds_toArray, List.set_cons_zero, List.set_cons_succ, i64_w, i32_w]
     rfl
    refine pure_ (i := 30) (N := some 43) (v := ?_) (a' := ?_) #[true, true, true, true, true, true, true, true, true, true, true, true, true, true, true, true, true, true, true, true, true, true, true, true, true, true, true, true, true, true, true] rfl rfl (any_of HT_.out (by kernel_rfl)) (fun _ _ _ h => h) (Or.inl ⟨by rfl, ?_⟩) ?_ ?_
    rotate_left
    ·intro w'
     go_simp
     with_reducible rfl
    rotate_left
    ·simp only [Act.put, List.setIfInBounds_toArray, List.set_cons_zero, List.set_cons_succ, i64_w, i32_w]
     rfl
    refine done_ (done_of HT_.out (by kernel_rfl)) ?_
    try go_wp2
    go_meet
    case rel => exact ⟨_, (true), (by first | rfl | (simp; done) | (simp [*]; done)), H', ⟨by first | omega | exact Nat.le_refl _⟩, ⟨blkt BK404⟩, ⟨blkt BK405⟩, ⟨blkt BK414⟩, ⟨belt HB⟩⟩
   rw [if_neg c36] at H
   have c36b0 : (!(t411 == t427) || (!(t412 == t428) || (!(t413 == t429)))) = false := by simpa using c36
   clear c36
   have H' := Aside0.mk H
   clear H
   try go_wp2
   have n0_ : Aside0 ((((((((w14.setCell ⟨gb414, 0, none⟩ (.int .u64 t407)).setCell ⟨gb414, 1, none⟩ (.int .u32 t408)).setCell ⟨gb414, 2, none⟩ (.int .u32 t409)).setCell ⟨gb414, 3, none⟩ (.int .i64 t410)).setCell ⟨gb414, 4, none⟩ (.int .u64 t411)).setCell ⟨gb414, 5, none⟩ (.int .u32 t412)).setCell ⟨gb414, 6, none⟩ (.int .u32 t413)).heap[gb404]? = some (.cells #[.int .u64 a0_0, .int .u32 a0_1, .int .u32 a0_2, .int .i64 a0_3, .int .u64 a0_4, .int .u32 a0_5, .int .u32 a0_6] 28 (0, 0))) := ⟨by (with_reducible repeat (first | refine blk_drewN ?_ _ | refine blk_drew ?_ | refine blk_alloc ?_ _)); refine blk_far ?_ NB404_414.out _; (with_reducible repeat (first | refine blk_drewN ?_ _ | refine blk_drew ?_ | refine blk_alloc ?_ _)); refine blk_far ?_ NB404_414.out _; (with_reducible repeat (first | refine blk_drewN ?_ _ | refine blk_drew ?_ | refine blk_alloc ?_ _)); refine blk_far ?_ NB404_414.out _; (with_reducible repeat (first | refine blk_drewN ?_ _ | refine blk_drew ?_ | refine blk_alloc ?_ _)); refine blk_far ?_ NB404_414.out _; (with_reducible repeat (first | refine blk_drewN ?_ _ | refine blk_drew ?_ | refine blk_alloc ?_ _)); refine blk_far ?_ NB404_414.out _; (with_reducible repeat (first | refine blk_drewN ?_ _ | refine blk_drew ?_ | refine blk_alloc ?_ _)); refine blk_far ?_ NB404_414.out _; (with_reducible repeat (first | refine blk_drewN ?_ _ | refine blk_drew ?_ | refine blk_alloc ?_ _)); refine blk_far ?_ NB404_414.out _; exact blkt BK404⟩
   have n1_ : Aside0 ((((((((w14.setCell ⟨gb414, 0, none⟩ (.int .u64 t407)).setCell ⟨gb414, 1, none⟩ (.int .u32 t408)).setCell ⟨gb414, 2, none⟩ (.int .u32 t409)).setCell ⟨gb414, 3, none⟩ (.int .i64 t410)).setCell ⟨gb414, 4, none⟩ (.int .u64 t411)).setCell ⟨gb414, 5, none⟩ (.int .u32 t412)).setCell ⟨gb414, 6, none⟩ (.int .u32 t413)).heap[gb405]? = some (.cells #[.int .u64 a1_0, .int .u32 a1_1, .int .u32 a1_2, .int .i64 a1_3, .int .u64 a1_4, .int .u32 a1_5, .int .u32 a1_6] 28 (0, 0))) := ⟨by (with_reducible repeat (first | refine blk_drewN ?_ _ | refine blk_drew ?_ | refine blk_alloc ?_ _)); refine blk_far ?_ NB405_414.out _; (with_reducible repeat (first | refine blk_drewN ?_ _ | refine blk_drew ?_ | refine blk_alloc ?_ _)); refine blk_far ?_ NB405_414.out _; (with_reducible repeat (first | refine blk_drewN ?_ _ | refine blk_drew ?_ | refine blk_alloc ?_ _)); refine blk_far ?_ NB405_414.out _; (with_reducible repeat (first | refine blk_drewN ?_ _ | refine blk_drew ?_ | refine blk_alloc ?_ _)); refine blk_far ?_ NB405_414.out _; (with_reducible repeat (first | refine blk_drewN ?_ _ | refine blk_drew ?_ | refine blk_alloc ?_ _)); refine blk_far ?_ NB405_414.out _; (with_reducible repeat (first | refine blk_drewN ?_ _ | refine blk_drew ?_ | refine blk_alloc ?_ _)); refine blk_far ?_ NB405_414.out _; (with_reducible repeat (first | refine blk_drewN ?_ _ | refine blk_drew ?_ | refine blk_alloc ?_ _)); refine blk_far ?_ NB405_414.out _; exact blkt BK405⟩
   have n2_ : Aside0 ((((((((w14.setCell ⟨gb414, 0, none⟩ (.int .u64 t407)).setCell ⟨gb414, 1, none⟩ (.int .u32 t408)).setCell ⟨gb414, 2, none⟩ (.int .u32 t409)).setCell ⟨gb414, 3, none⟩ (.int .i64 t410)).setCell ⟨gb414, 4, none⟩ (.int .u64 t411)).setCell ⟨gb414, 5, none⟩ (.int .u32 t412)).setCell ⟨gb414, 6, none⟩ (.int .u32 t413)).heap[gb414]? = some (.cells #[.int .u64 t407, .int .u32 t408, .int .u32 t409, .int .i64 t410, .int .u64 t411, .int .u32 t412, .int .u32 t413] 28 (0, 0))) := ⟨by (with_reducible repeat (first | refine blk_drewN ?_ _ | refine blk_drew ?_ | refine blk_alloc ?_ _)); refine blk_put (cs := #[.int .u64 t407, .int .u32 t408, .int .u32 t409, .int .i64 t410, .int .u64 t411, .int .u32 t412, .int .u32 0]) ?_ 6 _ rfl; (with_reducible repeat (first | refine blk_drewN ?_ _ | refine blk_drew ?_ | refine blk_alloc ?_ _)); refine blk_put (cs := #[.int .u64 t407, .int .u32 t408, .int .u32 t409, .int .i64 t410, .int .u64 t411, .int .u32 0, .int .u32 0]) ?_ 5 _ rfl; (with_reducible repeat (first | refine blk_drewN ?_ _ | refine blk_drew ?_ | refine blk_alloc ?_ _)); refine blk_put (cs := #[.int .u64 t407, .int .u32 t408, .int .u32 t409, .int .i64 t410, .int .u64 0, .int .u32 0, .int .u32 0]) ?_ 4 _ rfl; (with_reducible repeat (first | refine blk_drewN ?_ _ | refine blk_drew ?_ | refine blk_alloc ?_ _)); refine blk_put (cs := #[.int .u64 t407, .int .u32 t408, .int .u32 t409, .int .i64 0, .int .u64 0, .int .u32 0, .int .u32 0]) ?_ 3 _ rfl; (with_reducible repeat (first | refine blk_drewN ?_ _ | refine blk_drew ?_ | refine blk_alloc ?_ _)); refine blk_put (cs := #[.int .u64 t407, .int .u32 t408, .int .u32 0, .int .i64 0, .int .u64 0, .int .u32 0, .int .u32 0]) ?_ 2 _ rfl; (with_reducible repeat (first | refine blk_drewN ?_ _ | refine blk_drew ?_ | refine blk_alloc ?_ _)); refine blk_put (cs := #[.int .u64 t407, .int .u32 0, .int .u32 0, .int .i64 0, .int .u64 0, .int .u32 0, .int .u32 0]) ?_ 1 _ rfl; (with_reducible repeat (first | refine blk_drewN ?_ _ | refine blk_drew ?_ | refine blk_alloc ?_ _)); refine blk_put (cs := #[.int .u64 0, .int .u32 0, .int .u32 0, .int .i64 0, .int .u64 0, .int .u32 0, .int .u32 0]) ?_ 0 _ rfl; exact blkt BK414⟩
   have n3_ : Aside0 (Below w.heap.size w (((((((w14.setCell ⟨gb414, 0, none⟩ (.int .u64 t407)).setCell ⟨gb414, 1, none⟩ (.int .u32 t408)).setCell ⟨gb414, 2, none⟩ (.int .u32 t409)).setCell ⟨gb414, 3, none⟩ (.int .i64 t410)).setCell ⟨gb414, 4, none⟩ (.int .u64 t411)).setCell ⟨gb414, 5, none⟩ (.int .u32 t412)).setCell ⟨gb414, 6, none⟩ (.int .u32 t413))) := ⟨belt HB⟩
   (try clear BK404)
   (try clear BK405)
   (try clear BK414)
   (try clear HB)
   generalize (((((((w14.setCell ⟨gb414, 0, none⟩ (.int .u64 t407)).setCell ⟨gb414, 1, none⟩ (.int .u32 t408)).setCell ⟨gb414, 2, none⟩ (.int .u32 t409)).setCell ⟨gb414, 3, none⟩ (.int .i64 t410)).setCell ⟨gb414, 4, none⟩ (.int .u64 t411)).setCell ⟨gb414, 5, none⟩ (.int .u32 t412)).setCell ⟨gb414, 6, none⟩ (.int .u32 t413)) = w44 at n0_ n1_ n2_ n3_ ⊢
   have BK404 := n0_
   have BK405 := n1_
   have BK414 := n2_
   have HB := n3_
   clear n0_ n1_ n2_ n3_
   replace BK404 := Aside0.mk (blk_drew BK404.out)
   replace BK405 := Aside0.mk (blk_drew BK405.out)
   replace BK414 := Aside0.mk (blk_drew BK414.out)
   replace HB := Aside0.mk (below_drew1 HB.out)
   refine start_ (n := 31) (S := fun w' => w'.cell? ⟨gb404, 0, none⟩ = some (.int .u64 a0_0) ∧ w'.cell? ⟨gb404, 1, none⟩ = some (.int .u32 a0_1) ∧ w'.cell? ⟨gb404, 2, none⟩ = some (.int .u32 a0_2) ∧ w'.cell? ⟨gb404, 3, none⟩ = some (.int .i64 a0_3) ∧ w'.cell? ⟨gb404, 4, none⟩ = some (.int .u64 a0_4) ∧ w'.cell? ⟨gb404, 5, none⟩ = some (.int .u32 a0_5) ∧ w'.cell? ⟨gb404, 6, none⟩ = some (.int .u32 a0_6) ∧ w'.cell? ⟨gb414, 0, none⟩ = some (.int .u64 t407) ∧ w'.cell? ⟨gb414, 1, none⟩ = some (.int .u32 t408) ∧ w'.cell? ⟨gb414, 2, none⟩ = some (.int .u32 t409) ∧ w'.cell? ⟨gb414, 3, none⟩ = some (.int .i64 t410) ∧ w'.cell? ⟨gb414, 4, none⟩ = some (.int .u64 t411) ∧ w'.cell? ⟨gb414, 5, none⟩ = some (.int .u32 t412) ∧ w'.cell? ⟨gb414, 6, none⟩ = some (.int .u32 t413)) (ds := []) #[false, false, false, false, false, false, false, false, false, false, false, false, false, false, false, false, false, false, false, false, false, false, false, false, false, false, false, false, false, false, false] (by kernel_rfl) rfl rfl ⟨bc BK404 0, bc BK404 1, bc BK404 2, bc BK404 3, bc BK404 4, bc BK404 5, bc BK404 6, bc BK414 0, bc BK414 1, bc BK414 2, bc BK414 3, bc BK414 4, bc BK414 5, bc BK414 6⟩ (fun hHeld => ?_); refine with_tabW turnstonelaw05_ItemTells.tab4 turnstonelaw05_ItemTells.bits4 (fun HT_ HW_ => ?_)
   generalize w44.drew = w45 at BK404 BK405 BK414 HB hHeld ⊢
   refine take_ (i := 0) (N := some 13) (v := ?_) (a' := ?_) #[true, false, false, false, false, false, false, false, false, false, false, false, false, false, false, false, false, false, false, false, false, false, false, false, false, false, false, false, false, false, false] rfl rfl (take_ofW HT_.out HW_.out (by kernel_rfl)) (fun _ _ _ h => h) (Or.inl ⟨by rfl, ?_⟩) hHeld ?_ ?_
   rotate_left
   ·rintro w' ⟨s0, s1, s2, s3, s4, s5, s6, s7, s8, s9, s10, s11, s12, s13⟩
    go_simp
    with_reducible rfl
   rotate_left
   ·simp only [Act.put, List.setIfInBounds_toArray, List.set_cons_zero, List.set_cons_succ, i64_w, i32_w]
    rfl
   refine take_ (i := 2) (N := some 15) (v := ?_) (a' := ?_) #[true, false, true, false, false, false, false, false, false, false, false, false, false, false, false, false, false, false, false, false, false, false, false, false, false, false, false, false, false, false, false] rfl rfl (take_ofW HT_.out HW_.out (by kernel_rfl)) (fun _ _ _ h => h) (Or.inl ⟨by rfl, ?_⟩) hHeld ?_ ?_
   rotate_left
   ·rintro w' ⟨s0, s1, s2, s3, s4, s5, s6, s7, s8, s9, s10, s11, s12, s13⟩
    go_simp
    with_reducible rfl
   rotate_left
   ·simp only [Act.put, List.setIfInBounds_toArray, List.set_cons_zero, List.set_cons_succ, i64_w, i32_w]
    rfl
   refine one_ (i := 1) (N := some 14) #[true, true, true, false, false, false, false, false, false, false, false, false, false, false, false, false, false, false, false, false, false, false, false, false, false, false, false, false, false, false, false] rfl rfl (one_of HT_.out (by kernel_rfl)) (by decide) (fun K hK => ?_)
   refine goes_ Try.func11 (by kernel_rfl) rfl #[.agg #[.int .u64 a0_0, .int .u32 a0_1, .int .u32 a0_2, .int .i64 a0_3, .int .u64 a0_4, .int .u32 a0_5, .int .u32 a0_6]] (by rfl) rfl rfl argt ?_
   with_reducible refine (item_Item_Right.calls a0_0 a0_1 a0_2 a0_3 a0_4 a0_5 a0_6 t415 _ A18.out).mono ?_
   rintro e w46 ⟨rfl, hb⟩
   refine ⟨_, rfl, ?_⟩
   replace BK404 := blkb BK404 hb
   replace BK405 := blkb BK405 hb
   replace BK414 := blkb BK414 hb
   replace HB := belb HB hb
   (try clear hb)
   (try clear hb2)
   (try clear hk)
   (try clear hi)
   refine hK.out _ _ ⟨bc BK404 0, bc BK404 1, bc BK404 2, bc BK404 3, bc BK404 4, bc BK404 5, bc BK404 6, bc BK414 0, bc BK414 1, bc BK414 2, bc BK414 3, bc BK414 4, bc BK414 5, bc BK414 6⟩ (fun hHeld => ?_)
   clear hK K
   refine norm_ (a' := ?_) ?_ ?_
   rotate_left
   ·show Act.put _ (some 14) _ = _
    simp only [Act.put, List.setIfInBounds_toArray, List.set_cons_zero, List.set_cons_succ, i64_w, i32_w]
    rfl
   refine one_ (i := 3) (N := some 16) #[true, true, true, true, false, false, false, false, false, false, false, false, false, false, false, false, false, false, false, false, false, false, false, false, false, false, false, false, false, false, false] rfl rfl (one_of HT_.out (by kernel_rfl)) (by decide) (fun K hK => ?_)
   refine goes_ Try.func13 (by kernel_rfl) rfl #[.agg #[.int .u64 a0_0, .int .u32 a0_1, .int .u32 a0_2, .int .i64 a0_3, .int .u64 a0_4, .int .u32 a0_5, .int .u32 a0_6]] (by rfl) rfl rfl argt ?_
   with_reducible refine (turnstonelaw05_Of.calls a0_0 a0_1 a0_2 a0_3 a0_4 a0_5 a0_6 t416 t417 t418 t419 t420 t421 t422 _ A19.out).mono ?_
   rintro e w47 ⟨rfl, hb⟩
   refine ⟨_, rfl, ?_⟩
   replace BK404 := blkb BK404 hb
   replace BK405 := blkb BK405 hb
   replace BK414 := blkb BK414 hb
   replace HB := belb HB hb
   (try clear hb)
   (try clear hb2)
   (try clear hk)
   (try clear hi)
   refine hK.out _ _ ⟨bc BK404 0, bc BK404 1, bc BK404 2, bc BK404 3, bc BK404 4, bc BK404 5, bc BK404 6, bc BK414 0, bc BK414 1, bc BK414 2, bc BK414 3, bc BK414 4, bc BK414 5, bc BK414 6⟩ (fun hHeld => ?_)
   clear hK K
   refine norm_ (a' := ?_) ?_ ?_
   rotate_left
   ·show Act.put _ (some 16) _ = _
    simp only [Act.put, List.setIfInBounds_toArray, List.set_cons_zero, List.set_cons_succ, i64_w, i32_w]
    rfl
   refine one_ (i := 4) (N := some 17) #[true, true, true, true, true, false, false, false, false, false, false, false, false, false, false, false, false, false, false, false, false, false, false, false, false, false, false, false, false, false, false] rfl rfl (one_of HT_.out (by kernel_rfl)) (by decide) (fun K hK => ?_)
   refine goes_ Try.func12 (by kernel_rfl) rfl #[.agg #[.int .u64 t416, .int .u32 t417, .int .u32 t418, .int .i64 t419, .int .u64 t420, .int .u32 t421, .int .u32 t422]] (by rfl) rfl rfl argt ?_
   with_reducible refine (turnstoneref05_Right.calls k t416 t417 t418 t419 t420 t421 t422 t423 _ A20.out).mono ?_
   rintro e w48 ⟨rfl, hb⟩
   refine ⟨_, rfl, ?_⟩
   replace BK404 := blkb BK404 hb
   replace BK405 := blkb BK405 hb
   replace BK414 := blkb BK414 hb
   replace HB := belb HB hb
   (try clear hb)
   (try clear hb2)
   (try clear hk)
   (try clear hi)
   refine hK.out _ _ ⟨bc BK404 0, bc BK404 1, bc BK404 2, bc BK404 3, bc BK404 4, bc BK404 5, bc BK404 6, bc BK414 0, bc BK414 1, bc BK414 2, bc BK414 3, bc BK414 4, bc BK414 5, bc BK414 6⟩ (fun hHeld => ?_)
   clear hK K
   refine norm_ (a' := ?_) ?_ ?_
   rotate_left
   ·show Act.put _ (some 17) _ = _
    simp only [Act.put, List.setIfInBounds_toArray, List.set_cons_zero, List.set_cons_succ, i64_w, i32_w]
    rfl
   refine pure_ (i := 5) (N := some 18) (v := ?_) (a' := ?_) #[true, true, true, true, true, true, false, false, false, false, false, false, false, false, false, false, false, false, false, false, false, false, false, false, false, false, false, false, false, false, false] rfl rfl (any_of HT_.out (by kernel_rfl)) (fun _ _ _ h => h) (Or.inl ⟨by rfl, ?_⟩) ?_ ?_
   rotate_left
   ·intro w'
    go_simp
    with_reducible rfl
   rotate_left
   ·simp only [Act.put, List.setIfInBounds_toArray, List.set_cons_zero, List.set_cons_succ, i64_w, i32_w]
    rfl
   refine pure_ (i := 6) (N := some 19) (v := ?_) (a' := ?_) #[true, true, true, true, true, true, true, false, false, false, false, false, false, false, false, false, false, false, false, false, false, false, false, false, false, false, false, false, false, false, false] rfl rfl (any_of HT_.out (by kernel_rfl)) (fun _ _ _ h => h) (Or.inl ⟨by rfl, ?_⟩) ?_ ?_
   rotate_left
   ·intro w'
    go_simp
    with_reducible rfl
   rotate_left
   ·simp only [Act.put, List.setIfInBounds_toArray, List.set_cons_zero, List.set_cons_succ, i64_w, i32_w]
    rfl
   refine pure_ (i := 7) (N := some 20) (v := ?_) (a' := ?_) #[true, true, true, true, true, true, true, true, false, false, false, false, false, false, false, false, false, false, false, false, false, false, false, false, false, false, false, false, false, false, false] rfl rfl (any_of HT_.out (by kernel_rfl)) (fun _ _ _ h => h) (Or.inl ⟨by rfl, ?_⟩) ?_ ?_
   rotate_left
   ·intro w'
    go_simp
    with_reducible rfl
   rotate_left
   ·simp only [Act.put, List.setIfInBounds_toArray, List.set_cons_zero, List.set_cons_succ, i64_w, i32_w]
    rfl
   refine pure_ (i := 9) (N := some 22) (v := ?_) (a' := ?_) #[true, true, true, true, true, true, true, true, false, true, false, false, false, false, false, false, false, false, false, false, false, false, false, false, false, false, false, false, false, false, false] rfl rfl (any_of HT_.out (by kernel_rfl)) (fun _ _ _ h => h) (Or.inl ⟨by rfl, ?_⟩) ?_ ?_
   rotate_left
   ·intro w'
    go_simp
    with_reducible rfl
   rotate_left
   ·simp only [Act.put, List.setIfInBounds_toArray, List.set_cons_zero, List.set_cons_succ, i64_w, i32_w]
    rfl
   refine pure_ (i := 11) (N := some 24) (v := ?_) (a' := ?_) #[true, true, true, true, true, true, true, true, false, true, false, true, false, false, false, false, false, false, false, false, false, false, false, false, false, false, false, false, false, false, false] rfl rfl (any_of HT_.out (by kernel_rfl)) (fun _ _ _ h => h) (Or.inl ⟨by rfl, ?_⟩) ?_ ?_
   rotate_left
   ·intro w'
    go_simp
    with_reducible rfl
   rotate_left
   ·simp only [Act.put, List.setIfInBounds_toArray, List.set_cons_zero, List.set_cons_succ, i64_w, i32_w]
    rfl
   refine take_ (i := 8) (N := some 21) (v := ?_) (a' := ?_) #[true, true, true, true, true, true, true, true, true, true, false, true, false, false, false, false, false, false, false, false, false, false, false, false, false, false, false, false, false, false, false] rfl rfl (take_ofW HT_.out HW_.out (by kernel_rfl)) (fun _ _ _ h => h) (Or.inl ⟨by rfl, ?_⟩) hHeld ?_ ?_
   rotate_left
   ·rintro w' ⟨s0, s1, s2, s3, s4, s5, s6, s7, s8, s9, s10, s11, s12, s13⟩
    go_simp
    with_reducible rfl
   rotate_left
   ·simp only [Act.put, List.setIfInBounds_toArray, List.set_cons_zero, List.set_cons_succ, i64_w, i32_w]
    rfl
   refine take_ (i := 10) (N := some 23) (v := ?_) (a' := ?_) #[true, true, true, true, true, true, true, true, true, true, true, true, false, false, false, false, false, false, false, false, false, false, false, false, false, false, false, false, false, false, false] rfl rfl (take_ofW HT_.out HW_.out (by kernel_rfl)) (fun _ _ _ h => h) (Or.inl ⟨by rfl, ?_⟩) hHeld ?_ ?_
   rotate_left
   ·rintro w' ⟨s0, s1, s2, s3, s4, s5, s6, s7, s8, s9, s10, s11, s12, s13⟩
    go_simp
    with_reducible rfl
   rotate_left
   ·simp only [Act.put, List.setIfInBounds_toArray, List.set_cons_zero, List.set_cons_succ, i64_w, i32_w]
    rfl
   refine one_ (i := 12) (N := some 25) #[true, true, true, true, true, true, true, true, true, true, true, true, true, false, false, false, false, false, false, false, false, false, false, false, false, false, false, false, false, false, false] rfl rfl (one_of HT_.out (by kernel_rfl)) (by decide) (fun K hK => ?_)
   refine goes_ Try.func14 (by kernel_rfl) rfl #[.agg #[.int .u64 a0_0, .int .u32 a0_1, .int .u32 a0_2], .int .u64 a2] (by rfl) rfl rfl argt ?_
   with_reducible refine (pos_Pos_Shift.calls a0_0 a0_1 a0_2 a2 t424 t425 t426 _ A27.out).mono ?_
   rintro e w49 ⟨rfl, hb⟩
   refine ⟨_, rfl, ?_⟩
   replace BK404 := blkb BK404 hb
   replace BK405 := blkb BK405 hb
   replace BK414 := blkb BK414 hb
   replace HB := belb HB hb
   (try clear hb)
   (try clear hb2)
   (try clear hk)
   (try clear hi)
   refine hK.out _ _ ⟨bc BK404 0, bc BK404 1, bc BK404 2, bc BK404 3, bc BK404 4, bc BK404 5, bc BK404 6, bc BK414 0, bc BK414 1, bc BK414 2, bc BK414 3, bc BK414 4, bc BK414 5, bc BK414 6⟩ (fun hHeld => ?_)
   clear hK K
   refine norm_ (a' := ?_) ?_ ?_
   rotate_left
   ·show Act.put _ (some 25) _ = _
    simp only [Act.put, List.setIfInBounds_toArray, List.set_cons_zero, List.set_cons_succ, i64_w, i32_w]
    rfl
   refine pure_ (i := 13) (N := some 26) (v := ?_) (a' := ?_) #[true, true, true, true, true, true, true, true, true, true, true, true, true, true, false, false, false, false, false, false, false, false, false, false, false, false, false, false, false, false, false] rfl rfl (any_of HT_.out (by kernel_rfl)) (fun _ _ _ h => h) (Or.inl ⟨by rfl, ?_⟩) ?_ ?_
   rotate_left
   ·intro w'
    go_simp
    with_reducible rfl
   rotate_left
   ·simp only [Act.put, List.setIfInBounds_toArray, List.set_cons_zero, List.set_cons_succ, i64_w, i32_w]
    rfl
   refine pure_ (i := 14) (N := some 27) (v := ?_) (a' := ?_) #[true, true, true, true, true, true, true, true, true, true, true, true, true, true, true, false, false, false, false, false, false, false, false, false, false, false, false, false, false, false, false] rfl rfl (any_of HT_.out (by kernel_rfl)) (fun _ _ _ h => h) (Or.inl ⟨by rfl, ?_⟩) ?_ ?_
   rotate_left
   ·intro w'
    go_simp
    with_reducible rfl
   rotate_left
   ·simp only [Act.put, List.setIfInBounds_toArray, List.set_cons_zero, List.set_cons_succ, i64_w, i32_w]
    rfl
   refine pure_ (i := 15) (N := some 28) (v := ?_) (a' := ?_) #[true, true, true, true, true, true, true, true, true, true, true, true, true, true, true, true, false, false, false, false, false, false, false, false, false, false, false, false, false, false, false] rfl rfl (any_of HT_.out (by kernel_rfl)) (fun _ _ _ h => h) (Or.inl ⟨by rfl, ?_⟩) ?_ ?_
   rotate_left
   ·intro w'
    go_simp
    with_reducible rfl
   rotate_left
   ·simp only [Act.put, List.setIfInBounds_toArray, List.set_cons_zero, List.set_cons_succ, i64_w, i32_w]
    rfl
   refine pure_ (i := 16) (N := some 29) (v := ?_) (a' := ?_) #[true, true, true, true, true, true, true, true, true, true, true, true, true, true, true, true, true, false, false, false, false, false, false, false, false, false, false, false, false, false, false] rfl rfl (any_of HT_.out (by kernel_rfl)) (fun _ _ _ h => h) (Or.inl ⟨by rfl, ?_⟩) ?_ ?_
   rotate_left
   ·intro w'
    go_simp
    with_reducible rfl
   rotate_left
   ·simp only [Act.put, List.setIfInBounds_toArray, List.set_cons_zero, List.set_cons_succ, i64_w, i32_w]
    rfl
   refine pure_ (i := 18) (N := some 31) (v := ?_) (a' := ?_) #[true, true, true, true, true, true, true, true, true, true, true, true, true, true, true, true, true, false, true, false, false, false, false, false, false, false, false, false, false, false, false] rfl rfl (any_of HT_.out (by kernel_rfl)) (fun _ _ _ h => h) (Or.inl ⟨by rfl, ?_⟩) ?_ ?_
   rotate_left
   ·intro w'
    go_simp
    with_reducible rfl
   rotate_left
   ·simp only [Act.put, List.setIfInBounds_toArray, List.set_cons_zero, List.set_cons_succ, i64_w, i32_w]
    rfl
   refine pure_ (i := 20) (N := some 33) (v := ?_) (a' := ?_) #[true, true, true, true, true, true, true, true, true, true, true, true, true, true, true, true, true, false, true, false, true, false, false, false, false, false, false, false, false, false, false] rfl rfl (any_of HT_.out (by kernel_rfl)) (fun _ _ _ h => h) (Or.inl ⟨by rfl, ?_⟩) ?_ ?_
   rotate_left
   ·intro w'
    go_simp
    with_reducible rfl
   rotate_left
   ·simp only [Act.put, List.setIfInBounds_toArray, List.set_cons_zero, List.set_cons_succ, i64_w, i32_w]
    rfl
   refine take_ (i := 17) (N := some 30) (v := ?_) (a' := ?_) #[true, true, true, true, true, true, true, true, true, true, true, true, true, true, true, true, true, true, true, false, true, false, false, false, false, false, false, false, false, false, false] rfl rfl (take_ofW HT_.out HW_.out (by kernel_rfl)) (fun _ _ _ h => h) (Or.inl ⟨by rfl, ?_⟩) hHeld ?_ ?_
   rotate_left
   ·rintro w' ⟨s0, s1, s2, s3, s4, s5, s6, s7, s8, s9, s10, s11, s12, s13⟩
    go_simp
    with_reducible rfl
   rotate_left
   ·simp only [Act.put, List.setIfInBounds_toArray, List.set_cons_zero, List.set_cons_succ, i64_w, i32_w]
    rfl
   refine take_ (i := 19) (N := some 32) (v := ?_) (a' := ?_) #[true, true, true, true, true, true, true, true, true, true, true, true, true, true, true, true, true, true, true, true, true, false, false, false, false, false, false, false, false, false, false] rfl rfl (take_ofW HT_.out HW_.out (by kernel_rfl)) (fun _ _ _ h => h) (Or.inl ⟨by rfl, ?_⟩) hHeld ?_ ?_
   rotate_left
   ·rintro w' ⟨s0, s1, s2, s3, s4, s5, s6, s7, s8, s9, s10, s11, s12, s13⟩
    go_simp
    with_reducible rfl
   rotate_left
   ·simp only [Act.put, List.setIfInBounds_toArray, List.set_cons_zero, List.set_cons_succ, i64_w, i32_w]
    rfl
   refine one_ (i := 21) (N := some 34) #[true, true, true, true, true, true, true, true, true, true, true, true, true, true, true, true, true, true, true, true, true, true, false, false, false, false, false, false, false, false, false] rfl rfl (one_of HT_.out (by kernel_rfl)) (by decide) (fun K hK => ?_)
   refine goes_ Try.func14 (by kernel_rfl) rfl #[.agg #[.int .u64 a0_4, .int .u32 a0_5, .int .u32 a0_6], .int .u64 a2] (by rfl) rfl rfl argt ?_
   with_reducible refine (pos_Pos_Shift.calls a0_4 a0_5 a0_6 a2 t427 t428 t429 _ A35.out).mono ?_
   rintro e w50 ⟨rfl, hb⟩
   refine ⟨_, rfl, ?_⟩
   replace BK404 := blkb BK404 hb
   replace BK405 := blkb BK405 hb
   replace BK414 := blkb BK414 hb
   replace HB := belb HB hb
   (try clear hb)
   (try clear hb2)
   (try clear hk)
   (try clear hi)
   refine hK.out _ _ ⟨bc BK404 0, bc BK404 1, bc BK404 2, bc BK404 3, bc BK404 4, bc BK404 5, bc BK404 6, bc BK414 0, bc BK414 1, bc BK414 2, bc BK414 3, bc BK414 4, bc BK414 5, bc BK414 6⟩ (fun hHeld => ?_)
   clear hK K
   refine norm_ (a' := ?_) ?_ ?_
   rotate_left
   ·show Act.put _ (some 34) _ = _
    simp only [Act.put, List.setIfInBounds_toArray, List.set_cons_zero, List.set_cons_succ, i64_w, i32_w]
    rfl
   refine pure_ (i := 22) (N := some 35) (v := ?_) (a' := ?_) #[true, true, true, true, true, true, true, true, true, true, true, true, true, true, true, true, true, true, true, true, true, true, true, false, false, false, false, false, false, false, false] rfl rfl (any_of HT_.out (by kernel_rfl)) (fun _ _ _ h => h) (Or.inl ⟨by rfl, ?_⟩) ?_ ?_
   rotate_left
   ·intro w'
    go_simp
    with_reducible rfl
   rotate_left
   ·simp only [Act.put, List.setIfInBounds_toArray, List.set_cons_zero, List.set_cons_succ, i64_w, i32_w]
    rfl
   refine pure_ (i := 23) (N := some 36) (v := ?_) (a' := ?_) #[true, true, true, true, true, true, true, true, true, true, true, true, true, true, true, true, true, true, true, true, true, true, true, true, false, false, false, false, false, false, false] rfl rfl (any_of HT_.out (by kernel_rfl)) (fun _ _ _ h => h) (Or.inl ⟨by rfl, ?_⟩) ?_ ?_
   rotate_left
   ·intro w'
    go_simp
    with_reducible rfl
   rotate_left
   ·simp only [Act.put, List.setIfInBounds_toArray, List.set_cons_zero, List.set_cons_succ, i64_w, i32_w]
    rfl
   refine pure_ (i := 24) (N := some 37) (v := ?_) (a' := ?_) #[true, true, true, true, true, true, true, true, true, true, true, true, true, true, true, true, true, true, true, true, true, true, true, true, true, false, false, false, false, false, false] rfl rfl (any_of HT_.out (by kernel_rfl)) (fun _ _ _ h => h) (Or.inl ⟨by rfl, ?_⟩) ?_ ?_
   rotate_left
   ·intro w'
    go_simp
    with_reducible rfl
   rotate_left
   ·simp only [Act.put, List.setIfInBounds_toArray, List.set_cons_zero, List.set_cons_succ, i64_w, i32_w]
    rfl
   refine pure_ (i := 25) (N := some 38) (v := ?_) (a' := ?_) #[true, true, true, true, true, true, true, true, true, true, true, true, true, true, true, true, true, true, true, true, true, true, true, true, true, true, false, false, false, false, false] rfl rfl (any_of HT_.out (by kernel_rfl)) (fun _ _ _ h => h) (Or.inl ⟨by rfl, ?_⟩) ?_ ?_
   rotate_left
   ·intro w'
    go_simp
    with_reducible rfl
   rotate_left
   ·simp only [Act.put, List.setIfInBounds_toArray, List.set_cons_zero, List.set_cons_succ, i64_w, i32_w]
    rfl
   refine pure_ (i := 27) (N := some 40) (v := ?_) (a' := ?_) #[true, true, true, true, true, true, true, true, true, true, true, true, true, true, true, true, true, true, true, true, true, true, true, true, true, true, false, true, false, false, false] rfl rfl (any_of HT_.out (by kernel_rfl)) (fun _ _ _ h => h) (Or.inl ⟨by rfl, ?_⟩) ?_ ?_
   rotate_left
   ·intro w'
    go_simp
    with_reducible rfl
   rotate_left
   ·simp only [Act.put, List.setIfInBounds_toArray, List.set_cons_zero, List.set_cons_succ, i64_w, i32_w]
    rfl
   refine take_ (i := 26) (N := some 39) (v := ?_) (a' := ?_) #[true, true, true, true, true, true, true, true, true, true, true, true, true, true, true, true, true, true, true, true, true, true, true, true, true, true, true, true, false, false, false] rfl rfl (take_ofW HT_.out HW_.out (by kernel_rfl)) (fun _ _ _ h => h) (Or.inl ⟨by rfl, ?_⟩) hHeld ?_ ?_
   rotate_left
   ·rintro w' ⟨s0, s1, s2, s3, s4, s5, s6, s7, s8, s9, s10, s11, s12, s13⟩
    go_simp
    with_reducible rfl
   rotate_left
   ·simp only [Act.put, List.setIfInBounds_toArray, List.set_cons_zero, List.set_cons_succ, i64_w, i32_w]
    rfl
   refine take_ (i := 28) (N := some 41) (v := ?_) (a' := ?_) #[true, true, true, true, true, true, true, true, true, true, true, true, true, true, true, true, true, true, true, true, true, true, true, true, true, true, true, true, true, false, false] rfl rfl (take_ofW HT_.out HW_.out (by kernel_rfl)) (fun _ _ _ h => h) (Or.inl ⟨by rfl, ?_⟩) hHeld ?_ ?_
   rotate_left
   ·rintro w' ⟨s0, s1, s2, s3, s4, s5, s6, s7, s8, s9, s10, s11, s12, s13⟩
    go_simp
    with_reducible rfl
   rotate_left
   ·simp only [Act.put, List.setIfInBounds_toArray, List.set_cons_zero, List.set_cons_succ, i64_w, i32_w]
    rfl
   refine pure_ (i := 29) (N := some 42) (v := ?_) (a' := ?_) #[true, true, true, true, true, true, true, true, true, true, true, true, true, true, true, true, true, true, true, true, true, true, true, true, true, true, true, true, true, true, false] rfl rfl (any_of HT_.out (by kernel_rfl)) (fun _ _ _ h => h) (Or.inl ⟨by rfl, ?_⟩) ?_ ?_
   rotate_left
   ·intro w'
    go_simp
    with_reducible rfl
   rotate_left
   ·simp only [Act.put, List.setIfInBounds_toArray, List.set_cons_zero, List.set_cons_succ, i64_w, i32_w]
    rfl
   refine pure_ (i := 30) (N := some 43) (v := ?_) (a' := ?_) #[true, true, true, true, true, true, true, true, true, true, true, true, true, true, true, true, true, true, true, true, true, true, true, true, true, true, true, true, true, true, true] rfl rfl (any_of HT_.out (by kernel_rfl)) (fun _ _ _ h => h) (Or.inl ⟨by rfl, ?_⟩) ?_ ?_
   rotate_left
   ·intro w'
    go_simp
    with_reducible rfl
   rotate_left
   ·simp only [Act.put, List.setIfInBounds_toArray, List.set_cons_zero, List.set_cons_succ, i64_w, i32_w]
    rfl
   refine done_ (done_of HT_.out (by kernel_rfl)) ?_
   try go_wp2
   go_meet
   case rel => exact ⟨_, ((t410 != a0_3)), (by first | rfl | (simp; done) | (simp [*]; done)), H', ⟨by first | omega | exact Nat.le_refl _⟩, ⟨blkt BK404⟩, ⟨blkt BK405⟩, ⟨blkt BK414⟩, ⟨belt HB⟩⟩
  case rest =>
   clear HC7
   try clear c1
   try clear p2
   try clear c3
   try clear c11
   try clear c12
   try clear c13
   try clear c14
   try clear c36
   try clear c36b0
   obtain ⟨kq, x43_6, rfl, HA, HJ6, BK404, BK405, BK414, HB⟩ := hcut
   cases kq with
   | zero => exact absurd HA.out (by simp [turnstonelaw05_ItemTells.j0])
   | succ kj6 =>
    have H := HA.out
    clear HA
    simp only [turnstonelaw05_ItemTells.j0] at H
    by_cases c51 : x43_6 = true
    ·subst c51
     have H1 : (none) = some r := by rw [if_pos rfl] at H; exact H
     clear H
     have H := H1
     clear H1
     exact absurd H (by simp)
    replace c51 := Bool.eq_false_iff.mpr c51
    subst c51
    have H1 : ((turnstonelaw05_Of.f a0_0 a0_1 a0_2 a0_3 a0_4 a0_5 a0_6).bind fun bt430 => ((turnstoneref05_Right.f kj6 bt430.1 bt430.2.1 bt430.2.2.1 bt430.2.2.2.1 bt430.2.2.2.2.1 bt430.2.2.2.2.2.1 bt430.2.2.2.2.2.2).bind fun t437 => (if t437 = true then ((turnstonelaw05_Of.f a1_0 a1_1 a1_2 a1_3 a1_4 a1_5 a1_6).bind fun bt438 => ((turnstoneref05_Right.f kj6 bt438.1 bt438.2.1 bt438.2.2.1 bt438.2.2.2.1 bt438.2.2.2.2.1 bt438.2.2.2.2.2.1 bt438.2.2.2.2.2.2).bind fun t445 => (if t445 = true then ((item_Item_Ahead.f kj6 a0_0 a0_1 a0_2 a0_3 a0_4 a0_5 a0_6 a1_0 a1_1 a1_2 a1_3 a1_4 a1_5 a1_6).bind fun t446 => ((turnstonelaw05_Of.f a0_0 a0_1 a0_2 a0_3 a0_4 a0_5 a0_6).bind fun bt447 => ((turnstonelaw05_Of.f a1_0 a1_1 a1_2 a1_3 a1_4 a1_5 a1_6).bind fun bt454 => ((turnstoneref05_Ahead.f kj6 bt447.1 bt447.2.1 bt447.2.2.1 bt447.2.2.2.1 bt447.2.2.2.2.1 bt447.2.2.2.2.2.1 bt447.2.2.2.2.2.2 bt454.1 bt454.2.1 bt454.2.2.1 bt454.2.2.2.1 bt454.2.2.2.2.1 bt454.2.2.2.2.2.1 bt454.2.2.2.2.2.2).bind fun t461 => (if (t446 == t461) = true then ((item_Item_Due.f kj6 a0_0 a0_1 a0_2 a0_3 a0_4 a0_5 a0_6 a1_0 a1_1 a1_2 a1_3 a1_4 a1_5 a1_6).bind fun t462 => ((turnstonelaw05_Of.f a0_0 a0_1 a0_2 a0_3 a0_4 a0_5 a0_6).bind fun bt463 => ((turnstonelaw05_Of.f a1_0 a1_1 a1_2 a1_3 a1_4 a1_5 a1_6).bind fun bt470 => ((turnstoneref05_Due.f kj6 bt463.1 bt463.2.1 bt463.2.2.1 bt463.2.2.2.1 bt463.2.2.2.2.1 bt463.2.2.2.2.2.1 bt463.2.2.2.2.2.2 bt470.1 bt470.2.1 bt470.2.2.1 bt470.2.2.2.1 bt470.2.2.2.2.1 bt470.2.2.2.2.2.1 bt470.2.2.2.2.2.2).bind fun t477 => (some (t462 == t477)))))) else (none)))))) else (some true)))) else (some true)))) = some r := by rw [if_neg (show ¬ (false = true) by decide)] at H; exact H
    clear H
    have H := H1
    clear H1
    replace H := Option.bind_eq_some_iff.mp H
    obtain ⟨⟨t430, t431, t432, t433, t434, t435, t436⟩, A520, H⟩ := H
    replace H : ((turnstoneref05_Right.f kj6 t430 t431 t432 t433 t434 t435 t436).bind fun t437 => (if t437 = true then ((turnstonelaw05_Of.f a1_0 a1_1 a1_2 a1_3 a1_4 a1_5 a1_6).bind fun bt438 => ((turnstoneref05_Right.f kj6 bt438.1 bt438.2.1 bt438.2.2.1 bt438.2.2.2.1 bt438.2.2.2.2.1 bt438.2.2.2.2.2.1 bt438.2.2.2.2.2.2).bind fun t445 => (if t445 = true then ((item_Item_Ahead.f kj6 a0_0 a0_1 a0_2 a0_3 a0_4 a0_5 a0_6 a1_0 a1_1 a1_2 a1_3 a1_4 a1_5 a1_6).bind fun t446 => ((turnstonelaw05_Of.f a0_0 a0_1 a0_2 a0_3 a0_4 a0_5 a0_6).bind fun bt447 => ((turnstonelaw05_Of.f a1_0 a1_1 a1_2 a1_3 a1_4 a1_5 a1_6).bind fun bt454 => ((turnstoneref05_Ahead.f kj6 bt447.1 bt447.2.1 bt447.2.2.1 bt447.2.2.2.1 bt447.2.2.2.2.1 bt447.2.2.2.2.2.1 bt447.2.2.2.2.2.2 bt454.1 bt454.2.1 bt454.2.2.1 bt454.2.2.2.1 bt454.2.2.2.2.1 bt454.2.2.2.2.2.1 bt454.2.2.2.2.2.2).bind fun t461 => (if (t446 == t461) = true then ((item_Item_Due.f kj6 a0_0 a0_1 a0_2 a0_3 a0_4 a0_5 a0_6 a1_0 a1_1 a1_2 a1_3 a1_4 a1_5 a1_6).bind fun t462 => ((turnstonelaw05_Of.f a0_0 a0_1 a0_2 a0_3 a0_4 a0_5 a0_6).bind fun bt463 => ((turnstonelaw05_Of.f a1_0 a1_1 a1_2 a1_3 a1_4 a1_5 a1_6).bind fun bt470 => ((turnstoneref05_Due.f kj6 bt463.1 bt463.2.1 bt463.2.2.1 bt463.2.2.2.1 bt463.2.2.2.2.1 bt463.2.2.2.2.2.1 bt463.2.2.2.2.2.2 bt470.1 bt470.2.1 bt470.2.2.1 bt470.2.2.2.1 bt470.2.2.2.2.1 bt470.2.2.2.2.2.1 bt470.2.2.2.2.2.2).bind fun t477 => (some (t462 == t477)))))) else (none)))))) else (some true)))) else (some true))) = some r := H
    have A52 := Aside0.mk A520
    clear A520
    replace H := Option.bind_eq_some_iff.mp H
    obtain ⟨t437, A530, H⟩ := H
    replace H : (if t437 = true then ((turnstonelaw05_Of.f a1_0 a1_1 a1_2 a1_3 a1_4 a1_5 a1_6).bind fun bt438 => ((turnstoneref05_Right.f kj6 bt438.1 bt438.2.1 bt438.2.2.1 bt438.2.2.2.1 bt438.2.2.2.2.1 bt438.2.2.2.2.2.1 bt438.2.2.2.2.2.2).bind fun t445 => (if t445 = true then ((item_Item_Ahead.f kj6 a0_0 a0_1 a0_2 a0_3 a0_4 a0_5 a0_6 a1_0 a1_1 a1_2 a1_3 a1_4 a1_5 a1_6).bind fun t446 => ((turnstonelaw05_Of.f a0_0 a0_1 a0_2 a0_3 a0_4 a0_5 a0_6).bind fun bt447 => ((turnstonelaw05_Of.f a1_0 a1_1 a1_2 a1_3 a1_4 a1_5 a1_6).bind fun bt454 => ((turnstoneref05_Ahead.f kj6 bt447.1 bt447.2.1 bt447.2.2.1 bt447.2.2.2.1 bt447.2.2.2.2.1 bt447.2.2.2.2.2.1 bt447.2.2.2.2.2.2 bt454.1 bt454.2.1 bt454.2.2.1 bt454.2.2.2.1 bt454.2.2.2.2.1 bt454.2.2.2.2.2.1 bt454.2.2.2.2.2.2).bind fun t461 => (if (t446 == t461) = true then ((item_Item_Due.f kj6 a0_0 a0_1 a0_2 a0_3 a0_4 a0_5 a0_6 a1_0 a1_1 a1_2 a1_3 a1_4 a1_5 a1_6).bind fun t462 => ((turnstonelaw05_Of.f a0_0 a0_1 a0_2 a0_3 a0_4 a0_5 a0_6).bind fun bt463 => ((turnstonelaw05_Of.f a1_0 a1_1 a1_2 a1_3 a1_4 a1_5 a1_6).bind fun bt470 => ((turnstoneref05_Due.f kj6 bt463.1 bt463.2.1 bt463.2.2.1 bt463.2.2.2.1 bt463.2.2.2.2.1 bt463.2.2.2.2.2.1 bt463.2.2.2.2.2.2 bt470.1 bt470.2.1 bt470.2.2.1 bt470.2.2.2.1 bt470.2.2.2.2.1 bt470.2.2.2.2.2.1 bt470.2.2.2.2.2.2).bind fun t477 => (some (t462 == t477)))))) else (none)))))) else (some true)))) else (some true)) = some r := H
    have A53 := Aside0.mk A530
    clear A530
    by_cases c54 : t437 = true
    ·subst c54
     have H1 : ((turnstonelaw05_Of.f a1_0 a1_1 a1_2 a1_3 a1_4 a1_5 a1_6).bind fun bt438 => ((turnstoneref05_Right.f kj6 bt438.1 bt438.2.1 bt438.2.2.1 bt438.2.2.2.1 bt438.2.2.2.2.1 bt438.2.2.2.2.2.1 bt438.2.2.2.2.2.2).bind fun t445 => (if t445 = true then ((item_Item_Ahead.f kj6 a0_0 a0_1 a0_2 a0_3 a0_4 a0_5 a0_6 a1_0 a1_1 a1_2 a1_3 a1_4 a1_5 a1_6).bind fun t446 => ((turnstonelaw05_Of.f a0_0 a0_1 a0_2 a0_3 a0_4 a0_5 a0_6).bind fun bt447 => ((turnstonelaw05_Of.f a1_0 a1_1 a1_2 a1_3 a1_4 a1_5 a1_6).bind fun bt454 => ((turnstoneref05_Ahead.f kj6 bt447.1 bt447.2.1 bt447.2.2.1 bt447.2.2.2.1 bt447.2.2.2.2.1 bt447.2.2.2.2.2.1 bt447.2.2.2.2.2.2 bt454.1 bt454.2.1 bt454.2.2.1 bt454.2.2.2.1 bt454.2.2.2.2.1 bt454.2.2.2.2.2.1 bt454.2.2.2.2.2.2).bind fun t461 => (if (t446 == t461) = true then ((item_Item_Due.f kj6 a0_0 a0_1 a0_2 a0_3 a0_4 a0_5 a0_6 a1_0 a1_1 a1_2 a1_3 a1_4 a1_5 a1_6).bind fun t462 => ((turnstonelaw05_Of.f a0_0 a0_1 a0_2 a0_3 a0_4 a0_5 a0_6).bind fun bt463 => ((turnstonelaw05_Of.f a1_0 a1_1 a1_2 a1_3 a1_4 a1_5 a1_6).bind fun bt470 => ((turnstoneref05_Due.f kj6 bt463.1 bt463.2.1 bt463.2.2.1 bt463.2.2.2.1 bt463.2.2.2.2.1 bt463.2.2.2.2.2.1 bt463.2.2.2.2.2.2 bt470.1 bt470.2.1 bt470.2.2.1 bt470.2.2.2.1 bt470.2.2.2.2.1 bt470.2.2.2.2.2.1 bt470.2.2.2.2.2.2).bind fun t477 => (some (t462 == t477)))))) else (none)))))) else (some true)))) = some r := by rw [if_pos rfl] at H; exact H
     clear H
     have H := H1
     clear H1
     replace H := Option.bind_eq_some_iff.mp H
     obtain ⟨⟨t438, t439, t440, t441, t442, t443, t444⟩, A550, H⟩ := H
     replace H : ((turnstoneref05_Right.f kj6 t438 t439 t440 t441 t442 t443 t444).bind fun t445 => (if t445 = true then ((item_Item_Ahead.f kj6 a0_0 a0_1 a0_2 a0_3 a0_4 a0_5 a0_6 a1_0 a1_1 a1_2 a1_3 a1_4 a1_5 a1_6).bind fun t446 => ((turnstonelaw05_Of.f a0_0 a0_1 a0_2 a0_3 a0_4 a0_5 a0_6).bind fun bt447 => ((turnstonelaw05_Of.f a1_0 a1_1 a1_2 a1_3 a1_4 a1_5 a1_6).bind fun bt454 => ((turnstoneref05_Ahead.f kj6 bt447.1 bt447.2.1 bt447.2.2.1 bt447.2.2.2.1 bt447.2.2.2.2.1 bt447.2.2.2.2.2.1 bt447.2.2.2.2.2.2 bt454.1 bt454.2.1 bt454.2.2.1 bt454.2.2.2.1 bt454.2.2.2.2.1 bt454.2.2.2.2.2.1 bt454.2.2.2.2.2.2).bind fun t461 => (if (t446 == t461) = true then ((item_Item_Due.f kj6 a0_0 a0_1 a0_2 a0_3 a0_4 a0_5 a0_6 a1_0 a1_1 a1_2 a1_3 a1_4 a1_5 a1_6).bind fun t462 => ((turnstonelaw05_Of.f a0_0 a0_1 a0_2 a0_3 a0_4 a0_5 a0_6).bind fun bt463 => ((turnstonelaw05_Of.f a1_0 a1_1 a1_2 a1_3 a1_4 a1_5 a1_6).bind fun bt470 => ((turnstoneref05_Due.f kj6 bt463.1 bt463.2.1 bt463.2.2.1 bt463.2.2.2.1 bt463.2.2.2.2.1 bt463.2.2.2.2.2.1 bt463.2.2.2.2.2.2 bt470.1 bt470.2.1 bt470.2.2.1 bt470.2.2.2.1 bt470.2.2.2.2.1 bt470.2.2.2.2.2.1 bt470.2.2.2.2.2.2).bind fun t477 => (some (t462 == t477)))))) else (none)))))) else (some true))) = some r := H
     have A55 := Aside0.mk A550
     clear A550
     replace H := Option.bind_eq_some_iff.mp H
     obtain ⟨t445, A560, H⟩ := H
     replace H : (if t445 = true then ((item_Item_Ahead.f kj6 a0_0 a0_1 a0_2 a0_3 a0_4 a0_5 a0_6 a1_0 a1_1 a1_2 a1_3 a1_4 a1_5 a1_6).bind fun t446 => ((turnstonelaw05_Of.f a0_0 a0_1 a0_2 a0_3 a0_4 a0_5 a0_6).bind fun bt447 => ((turnstonelaw05_Of.f a1_0 a1_1 a1_2 a1_3 a1_4 a1_5 a1_6).bind fun bt454 => ((turnstoneref05_Ahead.f kj6 bt447.1 bt447.2.1 bt447.2.2.1 bt447.2.2.2.1 bt447.2.2.2.2.1 bt447.2.2.2.2.2.1 bt447.2.2.2.2.2.2 bt454.1 bt454.2.1 bt454.2.2.1 bt454.2.2.2.1 bt454.2.2.2.2.1 bt454.2.2.2.2.2.1 bt454.2.2.2.2.2.2).bind fun t461 => (if (t446 == t461) = true then ((item_Item_Due.f kj6 a0_0 a0_1 a0_2 a0_3 a0_4 a0_5 a0_6 a1_0 a1_1 a1_2 a1_3 a1_4 a1_5 a1_6).bind fun t462 => ((turnstonelaw05_Of.f a0_0 a0_1 a0_2 a0_3 a0_4 a0_5 a0_6).bind fun bt463 => ((turnstonelaw05_Of.f a1_0 a1_1 a1_2 a1_3 a1_4 a1_5 a1_6).bind fun bt470 => ((turnstoneref05_Due.f kj6 bt463.1 bt463.2.1 bt463.2.2.1 bt463.2.2.2.1 bt463.2.2.2.2.1 bt463.2.2.2.2.2.1 bt463.2.2.2.2.2.2 bt470.1 bt470.2.1 bt470.2.2.1 bt470.2.2.2.1 bt470.2.2.2.2.1 bt470.2.2.2.2.2.1 bt470.2.2.2.2.2.2).bind fun t477 => (some (t462 == t477)))))) else (none)))))) else (some true)) = some r := H
     have A56 := Aside0.mk A560
     clear A560
     by_cases c57 : t445 = true
     ·subst c57
      have H1 : ((item_Item_Ahead.f kj6 a0_0 a0_1 a0_2 a0_3 a0_4 a0_5 a0_6 a1_0 a1_1 a1_2 a1_3 a1_4 a1_5 a1_6).bind fun t446 => ((turnstonelaw05_Of.f a0_0 a0_1 a0_2 a0_3 a0_4 a0_5 a0_6).bind fun bt447 => ((turnstonelaw05_Of.f a1_0 a1_1 a1_2 a1_3 a1_4 a1_5 a1_6).bind fun bt454 => ((turnstoneref05_Ahead.f kj6 bt447.1 bt447.2.1 bt447.2.2.1 bt447.2.2.2.1 bt447.2.2.2.2.1 bt447.2.2.2.2.2.1 bt447.2.2.2.2.2.2 bt454.1 bt454.2.1 bt454.2.2.1 bt454.2.2.2.1 bt454.2.2.2.2.1 bt454.2.2.2.2.2.1 bt454.2.2.2.2.2.2).bind fun t461 => (if (t446 == t461) = true then ((item_Item_Due.f kj6 a0_0 a0_1 a0_2 a0_3 a0_4 a0_5 a0_6 a1_0 a1_1 a1_2 a1_3 a1_4 a1_5 a1_6).bind fun t462 => ((turnstonelaw05_Of.f a0_0 a0_1 a0_2 a0_3 a0_4 a0_5 a0_6).bind fun bt463 => ((turnstonelaw05_Of.f a1_0 a1_1 a1_2 a1_3 a1_4 a1_5 a1_6).bind fun bt470 => ((turnstoneref05_Due.f kj6 bt463.1 bt463.2.1 bt463.2.2.1 bt463.2.2.2.1 bt463.2.2.2.2.1 bt463.2.2.2.2.2.1 bt463.2.2.2.2.2.2 bt470.1 bt470.2.1 bt470.2.2.1 bt470.2.2.2.1 bt470.2.2.2.2.1 bt470.2.2.2.2.2.1 bt470.2.2.2.2.2.2).bind fun t477 => (some (t462 == t477)))))) else (none)))))) = some r := by rw [if_pos rfl] at H; exact H
      clear H
      have H := H1
      clear H1
      replace H := Option.bind_eq_some_iff.mp H
      obtain ⟨t446, A580, H⟩ := H
      replace H : ((turnstonelaw05_Of.f a0_0 a0_1 a0_2 a0_3 a0_4 a0_5 a0_6).bind fun bt447 => ((turnstonelaw05_Of.f a1_0 a1_1 a1_2 a1_3 a1_4 a1_5 a1_6).bind fun bt454 => ((turnstoneref05_Ahead.f kj6 bt447.1 bt447.2.1 bt447.2.2.1 bt447.2.2.2.1 bt447.2.2.2.2.1 bt447.2.2.2.2.2.1 bt447.2.2.2.2.2.2 bt454.1 bt454.2.1 bt454.2.2.1 bt454.2.2.2.1 bt454.2.2.2.2.1 bt454.2.2.2.2.2.1 bt454.2.2.2.2.2.2).bind fun t461 => (if (t446 == t461) = true then ((item_Item_Due.f kj6 a0_0 a0_1 a0_2 a0_3 a0_4 a0_5 a0_6 a1_0 a1_1 a1_2 a1_3 a1_4 a1_5 a1_6).bind fun t462 => ((turnstonelaw05_Of.f a0_0 a0_1 a0_2 a0_3 a0_4 a0_5 a0_6).bind fun bt463 => ((turnstonelaw05_Of.f a1_0 a1_1 a1_2 a1_3 a1_4 a1_5 a1_6).bind fun bt470 => ((turnstoneref05_Due.f kj6 bt463.1 bt463.2.1 bt463.2.2.1 bt463.2.2.2.1 bt463.2.2.2.2.1 bt463.2.2.2.2.2.1 bt463.2.2.2.2.2.2 bt470.1 bt470.2.1 bt470.2.2.1 bt470.2.2.2.1 bt470.2.2.2.2.1 bt470.2.2.2.2.2.1 bt470.2.2.2.2.2.2).bind fun t477 => (some (t462 == t477)))))) else (none))))) = some r := H
      have A58 := Aside0.mk A580
      clear A580
      replace H := Option.bind_eq_some_iff.mp H
      obtain ⟨⟨t447, t448, t449, t450, t451, t452, t453⟩, A590, H⟩ := H
      replace H : ((turnstonelaw05_Of.f a1_0 a1_1 a1_2 a1_3 a1_4 a1_5 a1_6).bind fun bt454 => ((turnstoneref05_Ahead.f kj6 t447 t448 t449 t450 t451 t452 t453 bt454.1 bt454.2.1 bt454.2.2.1 bt454.2.2.2.1 bt454.2.2.2.2.1 bt454.2.2.2.2.2.1 bt454.2.2.2.2.2.2).bind fun t461 => (if (t446 == t461) = true then ((item_Item_Due.f kj6 a0_0 a0_1 a0_2 a0_3 a0_4 a0_5 a0_6 a1_0 a1_1 a1_2 a1_3 a1_4 a1_5 a1_6).bind fun t462 => ((turnstonelaw05_Of.f a0_0 a0_1 a0_2 a0_3 a0_4 a0_5 a0_6).bind fun bt463 => ((turnstonelaw05_Of.f a1_0 a1_1 a1_2 a1_3 a1_4 a1_5 a1_6).bind fun bt470 => ((turnstoneref05_Due.f kj6 bt463.1 bt463.2.1 bt463.2.2.1 bt463.2.2.2.1 bt463.2.2.2.2.1 bt463.2.2.2.2.2.1 bt463.2.2.2.2.2.2 bt470.1 bt470.2.1 bt470.2.2.1 bt470.2.2.2.1 bt470.2.2.2.2.1 bt470.2.2.2.2.2.1 bt470.2.2.2.2.2.2).bind fun t477 => (some (t462 == t477)))))) else (none)))) = some r := H
      have A59 := Aside0.mk A590
      clear A590
      replace H := Option.bind_eq_some_iff.mp H
      obtain ⟨⟨t454, t455, t456, t457, t458, t459, t460⟩, A600, H⟩ := H
      replace H : ((turnstoneref05_Ahead.f kj6 t447 t448 t449 t450 t451 t452 t453 t454 t455 t456 t457 t458 t459 t460).bind fun t461 => (if (t446 == t461) = true then ((item_Item_Due.f kj6 a0_0 a0_1 a0_2 a0_3 a0_4 a0_5 a0_6 a1_0 a1_1 a1_2 a1_3 a1_4 a1_5 a1_6).bind fun t462 => ((turnstonelaw05_Of.f a0_0 a0_1 a0_2 a0_3 a0_4 a0_5 a0_6).bind fun bt463 => ((turnstonelaw05_Of.f a1_0 a1_1 a1_2 a1_3 a1_4 a1_5 a1_6).bind fun bt470 => ((turnstoneref05_Due.f kj6 bt463.1 bt463.2.1 bt463.2.2.1 bt463.2.2.2.1 bt463.2.2.2.2.1 bt463.2.2.2.2.2.1 bt463.2.2.2.2.2.2 bt470.1 bt470.2.1 bt470.2.2.1 bt470.2.2.2.1 bt470.2.2.2.2.1 bt470.2.2.2.2.2.1 bt470.2.2.2.2.2.2).bind fun t477 => (some (t462 == t477)))))) else (none))) = some r := H
      have A60 := Aside0.mk A600
      clear A600
      replace H := Option.bind_eq_some_iff.mp H
      obtain ⟨t461, A610, H⟩ := H
      replace H : (if (t446 == t461) = true then ((item_Item_Due.f kj6 a0_0 a0_1 a0_2 a0_3 a0_4 a0_5 a0_6 a1_0 a1_1 a1_2 a1_3 a1_4 a1_5 a1_6).bind fun t462 => ((turnstonelaw05_Of.f a0_0 a0_1 a0_2 a0_3 a0_4 a0_5 a0_6).bind fun bt463 => ((turnstonelaw05_Of.f a1_0 a1_1 a1_2 a1_3 a1_4 a1_5 a1_6).bind fun bt470 => ((turnstoneref05_Due.f kj6 bt463.1 bt463.2.1 bt463.2.2.1 bt463.2.2.2.1 bt463.2.2.2.2.1 bt463.2.2.2.2.2.1 bt463.2.2.2.2.2.2 bt470.1 bt470.2.1 bt470.2.2.1 bt470.2.2.2.1 bt470.2.2.2.2.1 bt470.2.2.2.2.2.1 bt470.2.2.2.2.2.2).bind fun t477 => (some (t462 == t477)))))) else (none)) = some r := H
      have A61 := Aside0.mk A610
      clear A610
      by_cases c62 : (t446 == t461) = true
      ·rw [if_pos c62] at H
       have c62b0 : (t446 == t461) = true := c62
       (try (have c62b1 : decide (t446 = t461) = true := by simpa using c62))
       (try (have c62b2 : (t446 == t461) = true := by simpa using c62))
       clear c62
       replace H := Option.bind_eq_some_iff.mp H
       obtain ⟨t462, A630, H⟩ := H
       replace H : ((turnstonelaw05_Of.f a0_0 a0_1 a0_2 a0_3 a0_4 a0_5 a0_6).bind fun bt463 => ((turnstonelaw05_Of.f a1_0 a1_1 a1_2 a1_3 a1_4 a1_5 a1_6).bind fun bt470 => ((turnstoneref05_Due.f kj6 bt463.1 bt463.2.1 bt463.2.2.1 bt463.2.2.2.1 bt463.2.2.2.2.1 bt463.2.2.2.2.2.1 bt463.2.2.2.2.2.2 bt470.1 bt470.2.1 bt470.2.2.1 bt470.2.2.2.1 bt470.2.2.2.2.1 bt470.2.2.2.2.2.1 bt470.2.2.2.2.2.2).bind fun t477 => (some (t462 == t477))))) = some r := H
       have A63 := Aside0.mk A630
       clear A630
       replace H := Option.bind_eq_some_iff.mp H
       obtain ⟨⟨t463, t464, t465, t466, t467, t468, t469⟩, A640, H⟩ := H
       replace H : ((turnstonelaw05_Of.f a1_0 a1_1 a1_2 a1_3 a1_4 a1_5 a1_6).bind fun bt470 => ((turnstoneref05_Due.f kj6 t463 t464 t465 t466 t467 t468 t469 bt470.1 bt470.2.1 bt470.2.2.1 bt470.2.2.2.1 bt470.2.2.2.2.1 bt470.2.2.2.2.2.1 bt470.2.2.2.2.2.2).bind fun t477 => (some (t462 == t477)))) = some r := H
       have A64 := Aside0.mk A640
       clear A640
       replace H := Option.bind_eq_some_iff.mp H
       obtain ⟨⟨t470, t471, t472, t473, t474, t475, t476⟩, A650, H⟩ := H
       replace H : ((turnstoneref05_Due.f kj6 t463 t464 t465 t466 t467 t468 t469 t470 t471 t472 t473 t474 t475 t476).bind fun t477 => (some (t462 == t477))) = some r := H
       have A65 := Aside0.mk A650
       clear A650
       replace H := Option.bind_eq_some_iff.mp H
       obtain ⟨t477, A660, H⟩ := H
       replace H : (some (t462 == t477)) = some r := H
       have A66 := Aside0.mk A660
       clear A660
       obtain rfl := Option.some.inj H
       try go_wp2
       replace BK404 := Aside0.mk (blk_drew BK404.out)
       replace BK405 := Aside0.mk (blk_drew BK405.out)
       replace BK414 := Aside0.mk (blk_drew BK414.out)
       replace HB := Aside0.mk (below_drew1 HB.out)
       refine start_ (n := 33) (S := fun w' => w'.cell? ⟨gb404, 0, none⟩ = some (.int .u64 a0_0) ∧ w'.cell? ⟨gb404, 1, none⟩ = some (.int .u32 a0_1) ∧ w'.cell? ⟨gb404, 2, none⟩ = some (.int .u32 a0_2) ∧ w'.cell? ⟨gb404, 3, none⟩ = some (.int .i64 a0_3) ∧ w'.cell? ⟨gb404, 4, none⟩ = some (.int .u64 a0_4) ∧ w'.cell? ⟨gb404, 5, none⟩ = some (.int .u32 a0_5) ∧ w'.cell? ⟨gb404, 6, none⟩ = some (.int .u32 a0_6) ∧ w'.cell? ⟨gb405, 0, none⟩ = some (.int .u64 a1_0) ∧ w'.cell? ⟨gb405, 1, none⟩ = some (.int .u32 a1_1) ∧ w'.cell? ⟨gb405, 2, none⟩ = some (.int .u32 a1_2) ∧ w'.cell? ⟨gb405, 3, none⟩ = some (.int .i64 a1_3) ∧ w'.cell? ⟨gb405, 4, none⟩ = some (.int .u64 a1_4) ∧ w'.cell? ⟨gb405, 5, none⟩ = some (.int .u32 a1_5) ∧ w'.cell? ⟨gb405, 6, none⟩ = some (.int .u32 a1_6)) (ds := []) #[false, false, false, false, false, false, false, false, false, false, false, false, false, false, false, false, false, false, false, false, false, false, false, false, false, false, false, false, false, false, false, false, false] (by kernel_rfl) rfl rfl ⟨bc BK404 0, bc BK404 1, bc BK404 2, bc BK404 3, bc BK404 4, bc BK404 5, bc BK404 6, bc BK405 0, bc BK405 1, bc BK405 2, bc BK405 3, bc BK405 4, bc BK405 5, bc BK405 6⟩ (fun hHeld => ?_); refine with_tabW turnstonelaw05_ItemTells.tab6 turnstonelaw05_ItemTells.bits6 (fun HT_ HW_ => ?_)
       generalize wc.drew = w67 at BK404 BK405 BK414 HB hHeld ⊢
       refine take_ (i := 0) (N := some 44) (v := ?_) (a' := ?_) #[true, false, false, false, false, false, false, false, false, false, false, false, false, false, false, false, false, false, false, false, false, false, false, false, false, false, false, false, false, false, false, false, false] rfl rfl (take_ofW HT_.out HW_.out (by kernel_rfl)) (fun _ _ _ h => h) (Or.inl ⟨by rfl, ?_⟩) hHeld ?_ ?_
       rotate_left
       ·rintro w' ⟨s0, s1, s2, s3, s4, s5, s6, s7, s8, s9, s10, s11, s12, s13⟩
        go_simp
        with_reducible rfl
       rotate_left
       ·simp only [Act.put, List.setIfInBounds_toArray, List.set_cons_zero, List.set_cons_succ, i64_w, i32_w]
        rfl
       refine one_ (i := 1) (N := some 45) #[true, true, false, false, false, false, false, false, false, false, false, false, false, false, false, false, false, false, false, false, false, false, false, false, false, false, false, false, false, false, false, false, false] rfl rfl (one_of HT_.out (by kernel_rfl)) (by decide) (fun K hK => ?_)
       refine goes_ Try.func13 (by kernel_rfl) rfl #[.agg #[.int .u64 a0_0, .int .u32 a0_1, .int .u32 a0_2, .int .i64 a0_3, .int .u64 a0_4, .int .u32 a0_5, .int .u32 a0_6]] (by rfl) rfl rfl argt ?_
       with_reducible refine (turnstonelaw05_Of.calls a0_0 a0_1 a0_2 a0_3 a0_4 a0_5 a0_6 t430 t431 t432 t433 t434 t435 t436 _ A52.out).mono ?_
       rintro e w68 ⟨rfl, hb⟩
       refine ⟨_, rfl, ?_⟩
       replace BK404 := blkb BK404 hb
       replace BK405 := blkb BK405 hb
       replace BK414 := blkb BK414 hb
       replace HB := belb HB hb
       (try clear hb)
       (try clear hb2)
       (try clear hk)
       (try clear hi)
       refine hK.out _ _ ⟨bc BK404 0, bc BK404 1, bc BK404 2, bc BK404 3, bc BK404 4, bc BK404 5, bc BK404 6, bc BK405 0, bc BK405 1, bc BK405 2, bc BK405 3, bc BK405 4, bc BK405 5, bc BK405 6⟩ (fun hHeld => ?_)
       clear hK K
       refine norm_ (a' := ?_) ?_ ?_
       rotate_left
       ·show Act.put _ (some 45) _ = _
        simp only [Act.put, List.setIfInBounds_toArray, List.set_cons_zero, List.set_cons_succ, i64_w, i32_w]
        rfl
       refine one_ (i := 2) (N := some 46) #[true, true, true, false, false, false, false, false, false, false, false, false, false, false, false, false, false, false, false, false, false, false, false, false, false, false, false, false, false, false, false, false, false] rfl rfl (one_of HT_.out (by kernel_rfl)) (by decide) (fun K hK => ?_)
       refine goes_ Try.func12 (by kernel_rfl) rfl #[.agg #[.int .u64 t430, .int .u32 t431, .int .u32 t432, .int .i64 t433, .int .u64 t434, .int .u32 t435, .int .u32 t436]] (by rfl) rfl rfl argt ?_
       with_reducible refine (turnstoneref05_Right.calls kj6 t430 t431 t432 t433 t434 t435 t436 true _ A53.out).mono ?_
       rintro e w69 ⟨rfl, hb⟩
       refine ⟨_, rfl, ?_⟩
       replace BK404 := blkb BK404 hb
       replace BK405 := blkb BK405 hb
       replace BK414 := blkb BK414 hb
       replace HB := belb HB hb
       (try clear hb)
       (try clear hb2)
       (try clear hk)
       (try clear hi)
       refine hK.out _ _ ⟨bc BK404 0, bc BK404 1, bc BK404 2, bc BK404 3, bc BK404 4, bc BK404 5, bc BK404 6, bc BK405 0, bc BK405 1, bc BK405 2, bc BK405 3, bc BK405 4, bc BK405 5, bc BK405 6⟩ (fun hHeld => ?_)
       clear hK K
       refine norm_ (a' := ?_) ?_ ?_
       rotate_left
       ·show Act.put _ (some 46) _ = _
        simp only [Act.put, List.setIfInBounds_toArray, List.set_cons_zero, List.set_cons_succ, i64_w, i32_w]
        rfl
       refine pure_ (i := 3) (N := some 47) (v := ?_) (a' := ?_) #[true, true, true, true, false, false, false, false, false, false, false, false, false, false, false, false, false, false, false, false, false, false, false, false, false, false, false, false, false, false, false, false, false] rfl rfl (any_of HT_.out (by kernel_rfl)) (fun _ _ _ h => h) (Or.inl ⟨by rfl, ?_⟩) ?_ ?_
       rotate_left
       ·intro w'
        go_simp
        with_reducible rfl
       rotate_left
       ·simp only [Act.put, List.setIfInBounds_toArray, List.set_cons_zero, List.set_cons_succ, i64_w, i32_w]
        rfl
       refine pure_ (i := 4) (N := some 48) (v := ?_) (a' := ?_) #[true, true, true, true, true, false, false, false, false, false, false, false, false, false, false, false, false, false, false, false, false, false, false, false, false, false, false, false, false, false, false, false, false] rfl rfl (any_of HT_.out (by kernel_rfl)) (fun _ _ _ h => h) (Or.inl ⟨by rfl, ?_⟩) ?_ ?_
       rotate_left
       ·intro w'
        go_simp
        with_reducible rfl
       rotate_left
       ·simp only [Act.put, List.setIfInBounds_toArray, List.set_cons_zero, List.set_cons_succ, i64_w, i32_w]
        rfl
       refine take_ (i := 5) (N := some 49) (v := ?_) (a' := ?_) #[true, true, true, true, true, true, false, false, false, false, false, false, false, false, false, false, false, false, false, false, false, false, false, false, false, false, false, false, false, false, false, false, false] rfl rfl (take_ofW HT_.out HW_.out (by kernel_rfl)) (fun _ _ _ h => h) (Or.inl ⟨by rfl, ?_⟩) hHeld ?_ ?_
       rotate_left
       ·rintro w' ⟨s0, s1, s2, s3, s4, s5, s6, s7, s8, s9, s10, s11, s12, s13⟩
        go_simp
        with_reducible rfl
       rotate_left
       ·simp only [Act.put, List.setIfInBounds_toArray, List.set_cons_zero, List.set_cons_succ, i64_w, i32_w]
        rfl
       refine one_ (i := 6) (N := some 50) #[true, true, true, true, true, true, true, false, false, false, false, false, false, false, false, false, false, false, false, false, false, false, false, false, false, false, false, false, false, false, false, false, false] rfl rfl (one_of HT_.out (by kernel_rfl)) (by decide) (fun K hK => ?_)
       refine goes_ Try.func13 (by kernel_rfl) rfl #[.agg #[.int .u64 a1_0, .int .u32 a1_1, .int .u32 a1_2, .int .i64 a1_3, .int .u64 a1_4, .int .u32 a1_5, .int .u32 a1_6]] (by rfl) rfl rfl argt ?_
       with_reducible refine (turnstonelaw05_Of.calls a1_0 a1_1 a1_2 a1_3 a1_4 a1_5 a1_6 t438 t439 t440 t441 t442 t443 t444 _ A55.out).mono ?_
       rintro e w70 ⟨rfl, hb⟩
       refine ⟨_, rfl, ?_⟩
       replace BK404 := blkb BK404 hb
       replace BK405 := blkb BK405 hb
       replace BK414 := blkb BK414 hb
       replace HB := belb HB hb
       (try clear hb)
       (try clear hb2)
       (try clear hk)
       (try clear hi)
       refine hK.out _ _ ⟨bc BK404 0, bc BK404 1, bc BK404 2, bc BK404 3, bc BK404 4, bc BK404 5, bc BK404 6, bc BK405 0, bc BK405 1, bc BK405 2, bc BK405 3, bc BK405 4, bc BK405 5, bc BK405 6⟩ (fun hHeld => ?_)
       clear hK K
       refine norm_ (a' := ?_) ?_ ?_
       rotate_left
       ·show Act.put _ (some 50) _ = _
        simp only [Act.put, List.setIfInBounds_toArray, List.set_cons_zero, List.set_cons_succ, i64_w, i32_w]
        rfl
       refine one_ (i := 7) (N := some 51) #[true, true, true, true, true, true, true, true, false, false, false, false, false, false, false, false, false, false, false, false, false, false, false, false, false, false, false, false, false, false, false, false, false] rfl rfl (one_of HT_.out (by kernel_rfl)) (by decide) (fun K hK => ?_)
       refine goes_ Try.func12 (by kernel_rfl) rfl #[.agg #[.int .u64 t438, .int .u32 t439, .int .u32 t440, .int .i64 t441, .int .u64 t442, .int .u32 t443, .int .u32 t444]] (by rfl) rfl rfl argt ?_
       with_reducible refine (turnstoneref05_Right.calls kj6 t438 t439 t440 t441 t442 t443 t444 true _ A56.out).mono ?_
       rintro e w71 ⟨rfl, hb⟩
       refine ⟨_, rfl, ?_⟩
       replace BK404 := blkb BK404 hb
       replace BK405 := blkb BK405 hb
       replace BK414 := blkb BK414 hb
       replace HB := belb HB hb
       (try clear hb)
       (try clear hb2)
       (try clear hk)
       (try clear hi)
       refine hK.out _ _ ⟨bc BK404 0, bc BK404 1, bc BK404 2, bc BK404 3, bc BK404 4, bc BK404 5, bc BK404 6, bc BK405 0, bc BK405 1, bc BK405 2, bc BK405 3, bc BK405 4, bc BK405 5, bc BK405 6⟩ (fun hHeld => ?_)
       clear hK K
       refine norm_ (a' := ?_) ?_ ?_
       rotate_left
       ·show Act.put _ (some 51) _ = _
        simp only [Act.put, List.setIfInBounds_toArray, List.set_cons_zero, List.set_cons_succ, i64_w, i32_w]
        rfl
       refine pure_ (i := 8) (N := some 52) (v := ?_) (a' := ?_) #[true, true, true, true, true, true, true, true, true, false, false, false, false, false, false, false, false, false, false, false, false, false, false, false, false, false, false, false, false, false, false, false, false] rfl rfl (any_of HT_.out (by kernel_rfl)) (fun _ _ _ h => h) (Or.inl ⟨by rfl, ?_⟩) ?_ ?_
       rotate_left
       ·intro w'
        go_simp
        with_reducible rfl
       rotate_left
       ·simp only [Act.put, List.setIfInBounds_toArray, List.set_cons_zero, List.set_cons_succ, i64_w, i32_w]
        rfl
       refine pure_ (i := 9) (N := some 53) (v := ?_) (a' := ?_) #[true, true, true, true, true, true, true, true, true, true, false, false, false, false, false, false, false, false, false, false, false, false, false, false, false, false, false, false, false, false, false, false, false] rfl rfl (any_of HT_.out (by kernel_rfl)) (fun _ _ _ h => h) (Or.inl ⟨by rfl, ?_⟩) ?_ ?_
       rotate_left
       ·intro w'
        go_simp
        with_reducible rfl
       rotate_left
       ·simp only [Act.put, List.setIfInBounds_toArray, List.set_cons_zero, List.set_cons_succ, i64_w, i32_w]
        rfl
       refine pure_ (i := 10) (N := some 54) (v := ?_) (a' := ?_) #[true, true, true, true, true, true, true, true, true, true, true, false, false, false, false, false, false, false, false, false, false, false, false, false, false, false, false, false, false, false, false, false, false] rfl rfl (any_of HT_.out (by kernel_rfl)) (fun _ _ _ h => h) (Or.inl ⟨by rfl, ?_⟩) ?_ ?_
       rotate_left
       ·intro w'
        go_simp
        with_reducible rfl
       rotate_left
       ·simp only [Act.put, List.setIfInBounds_toArray, List.set_cons_zero, List.set_cons_succ, i64_w, i32_w]
        rfl
       refine take_ (i := 11) (N := some 55) (v := ?_) (a' := ?_) #[true, true, true, true, true, true, true, true, true, true, true, true, false, false, false, false, false, false, false, false, false, false, false, false, false, false, false, false, false, false, false, false, false] rfl rfl (take_ofW HT_.out HW_.out (by kernel_rfl)) (fun _ _ _ h => h) (Or.inl ⟨by rfl, ?_⟩) hHeld ?_ ?_
       rotate_left
       ·rintro w' ⟨s0, s1, s2, s3, s4, s5, s6, s7, s8, s9, s10, s11, s12, s13⟩
        go_simp
        with_reducible rfl
       rotate_left
       ·simp only [Act.put, List.setIfInBounds_toArray, List.set_cons_zero, List.set_cons_succ, i64_w, i32_w]
        rfl
       refine take_ (i := 12) (N := some 56) (v := ?_) (a' := ?_) #[true, true, true, true, true, true, true, true, true, true, true, true, true, false, false, false, false, false, false, false, false, false, false, false, false, false, false, false, false, false, false, false, false] rfl rfl (take_ofW HT_.out HW_.out (by kernel_rfl)) (fun _ _ _ h => h) (Or.inl ⟨by rfl, ?_⟩) hHeld ?_ ?_
       rotate_left
       ·rintro w' ⟨s0, s1, s2, s3, s4, s5, s6, s7, s8, s9, s10, s11, s12, s13⟩
        go_simp
        with_reducible rfl
       rotate_left
       ·simp only [Act.put, List.setIfInBounds_toArray, List.set_cons_zero, List.set_cons_succ, i64_w, i32_w]
        rfl
       refine take_ (i := 14) (N := some 58) (v := ?_) (a' := ?_) #[true, true, true, true, true, true, true, true, true, true, true, true, true, false, true, false, false, false, false, false, false, false, false, false, false, false, false, false, false, false, false, false, false] rfl rfl (take_ofW HT_.out HW_.out (by kernel_rfl)) (fun _ _ _ h => h) (Or.inl ⟨by rfl, ?_⟩) hHeld ?_ ?_
       rotate_left
       ·rintro w' ⟨s0, s1, s2, s3, s4, s5, s6, s7, s8, s9, s10, s11, s12, s13⟩
        go_simp
        with_reducible rfl
       rotate_left
       ·simp only [Act.put, List.setIfInBounds_toArray, List.set_cons_zero, List.set_cons_succ, i64_w, i32_w]
        rfl
       refine take_ (i := 16) (N := some 60) (v := ?_) (a' := ?_) #[true, true, true, true, true, true, true, true, true, true, true, true, true, false, true, false, true, false, false, false, false, false, false, false, false, false, false, false, false, false, false, false, false] rfl rfl (take_ofW HT_.out HW_.out (by kernel_rfl)) (fun _ _ _ h => h) (Or.inl ⟨by rfl, ?_⟩) hHeld ?_ ?_
       rotate_left
       ·rintro w' ⟨s0, s1, s2, s3, s4, s5, s6, s7, s8, s9, s10, s11, s12, s13⟩
        go_simp
        with_reducible rfl
       rotate_left
       ·simp only [Act.put, List.setIfInBounds_toArray, List.set_cons_zero, List.set_cons_succ, i64_w, i32_w]
        rfl
       refine one_ (i := 13) (N := some 57) #[true, true, true, true, true, true, true, true, true, true, true, true, true, true, true, false, true, false, false, false, false, false, false, false, false, false, false, false, false, false, false, false, false] rfl rfl (one_of HT_.out (by kernel_rfl)) (by decide) (fun K hK => ?_)
       refine goes_ Try.func8 (by kernel_rfl) rfl #[.agg #[.int .u64 a0_0, .int .u32 a0_1, .int .u32 a0_2, .int .i64 a0_3, .int .u64 a0_4, .int .u32 a0_5, .int .u32 a0_6], .agg #[.int .u64 a1_0, .int .u32 a1_1, .int .u32 a1_2, .int .i64 a1_3, .int .u64 a1_4, .int .u32 a1_5, .int .u32 a1_6]] (by rfl) rfl rfl argt ?_
       with_reducible refine (item_Item_Ahead.calls kj6 a0_0 a0_1 a0_2 a0_3 a0_4 a0_5 a0_6 a1_0 a1_1 a1_2 a1_3 a1_4 a1_5 a1_6 t446 _ A58.out).mono ?_
       rintro e w72 ⟨rfl, hb⟩
       refine ⟨_, rfl, ?_⟩
       replace BK404 := blkb BK404 hb
       replace BK405 := blkb BK405 hb
       replace BK414 := blkb BK414 hb
       replace HB := belb HB hb
       (try clear hb)
       (try clear hb2)
       (try clear hk)
       (try clear hi)
       refine hK.out _ _ ⟨bc BK404 0, bc BK404 1, bc BK404 2, bc BK404 3, bc BK404 4, bc BK404 5, bc BK404 6, bc BK405 0, bc BK405 1, bc BK405 2, bc BK405 3, bc BK405 4, bc BK405 5, bc BK405 6⟩ (fun hHeld => ?_)
       clear hK K
       refine norm_ (a' := ?_) ?_ ?_
       rotate_left
       ·show Act.put _ (some 57) _ = _
        simp only [Act.put, List.setIfInBounds_toArray, List.set_cons_zero, List.set_cons_succ, i64_w, i32_w]
        rfl
       refine one_ (i := 15) (N := some 59) #[true, true, true, true, true, true, true, true, true, true, true, true, true, true, true, true, true, false, false, false, false, false, false, false, false, false, false, false, false, false, false, false, false] rfl rfl (one_of HT_.out (by kernel_rfl)) (by decide) (fun K hK => ?_)
       refine goes_ Try.func13 (by kernel_rfl) rfl #[.agg #[.int .u64 a0_0, .int .u32 a0_1, .int .u32 a0_2, .int .i64 a0_3, .int .u64 a0_4, .int .u32 a0_5, .int .u32 a0_6]] (by rfl) rfl rfl argt ?_
       with_reducible refine (turnstonelaw05_Of.calls a0_0 a0_1 a0_2 a0_3 a0_4 a0_5 a0_6 t447 t448 t449 t450 t451 t452 t453 _ A59.out).mono ?_
       rintro e w73 ⟨rfl, hb⟩
       refine ⟨_, rfl, ?_⟩
       replace BK404 := blkb BK404 hb
       replace BK405 := blkb BK405 hb
       replace BK414 := blkb BK414 hb
       replace HB := belb HB hb
       (try clear hb)
       (try clear hb2)
       (try clear hk)
       (try clear hi)
       refine hK.out _ _ ⟨bc BK404 0, bc BK404 1, bc BK404 2, bc BK404 3, bc BK404 4, bc BK404 5, bc BK404 6, bc BK405 0, bc BK405 1, bc BK405 2, bc BK405 3, bc BK405 4, bc BK405 5, bc BK405 6⟩ (fun hHeld => ?_)
       clear hK K
       refine norm_ (a' := ?_) ?_ ?_
       rotate_left
       ·show Act.put _ (some 59) _ = _
        simp only [Act.put, List.setIfInBounds_toArray, List.set_cons_zero, List.set_cons_succ, i64_w, i32_w]
        rfl
       refine one_ (i := 17) (N := some 61) #[true, true, true, true, true, true, true, true, true, true, true, true, true, true, true, true, true, true, false, false, false, false, false, false, false, false, false, false, false, false, false, false, false] rfl rfl (one_of HT_.out (by kernel_rfl)) (by decide) (fun K hK => ?_)
       refine goes_ Try.func13 (by kernel_rfl) rfl #[.agg #[.int .u64 a1_0, .int .u32 a1_1, .int .u32 a1_2, .int .i64 a1_3, .int .u64 a1_4, .int .u32 a1_5, .int .u32 a1_6]] (by rfl) rfl rfl argt ?_
       with_reducible refine (turnstonelaw05_Of.calls a1_0 a1_1 a1_2 a1_3 a1_4 a1_5 a1_6 t454 t455 t456 t457 t458 t459 t460 _ A60.out).mono ?_
       rintro e w74 ⟨rfl, hb⟩
       refine ⟨_, rfl, ?_⟩
       replace BK404 := blkb BK404 hb
       replace BK405 := blkb BK405 hb
       replace BK414 := blkb BK414 hb
       replace HB := belb HB hb
       (try clear hb)
       (try clear hb2)
       (try clear hk)
       (try clear hi)
       refine hK.out _ _ ⟨bc BK404 0, bc BK404 1, bc BK404 2, bc BK404 3, bc BK404 4, bc BK404 5, bc BK404 6, bc BK405 0, bc BK405 1, bc BK405 2, bc BK405 3, bc BK405 4, bc BK405 5, bc BK405 6⟩ (fun hHeld => ?_)
       clear hK K
       refine norm_ (a' := ?_) ?_ ?_
       rotate_left
       ·show Act.put _ (some 61) _ = _
        simp only [Act.put, List.setIfInBounds_toArray, List.set_cons_zero, List.set_cons_succ, i64_w, i32_w]
        rfl
       refine one_ (i := 18) (N := some 62) #[true, true, true, true, true, true, true, true, true, true, true, true, true, true, true, true, true, true, true, false, false, false, false, false, false, false, false, false, false, false, false, false, false] rfl rfl (one_of HT_.out (by kernel_rfl)) (by decide) (fun K hK => ?_)
       refine goes_ Try.func15 (by kernel_rfl) rfl #[.agg #[.int .u64 t447, .int .u32 t448, .int .u32 t449, .int .i64 t450, .int .u64 t451, .int .u32 t452, .int .u32 t453], .agg #[.int .u64 t454, .int .u32 t455, .int .u32 t456, .int .i64 t457, .int .u64 t458, .int .u32 t459, .int .u32 t460]] (by rfl) rfl rfl argt ?_
       with_reducible refine (turnstoneref05_Ahead.calls kj6 t447 t448 t449 t450 t451 t452 t453 t454 t455 t456 t457 t458 t459 t460 t461 _ A61.out).mono ?_
       rintro e w75 ⟨rfl, hb⟩
       refine ⟨_, rfl, ?_⟩
       replace BK404 := blkb BK404 hb
       replace BK405 := blkb BK405 hb
       replace BK414 := blkb BK414 hb
       replace HB := belb HB hb
       (try clear hb)
       (try clear hb2)
       (try clear hk)
       (try clear hi)
       refine hK.out _ _ ⟨bc BK404 0, bc BK404 1, bc BK404 2, bc BK404 3, bc BK404 4, bc BK404 5, bc BK404 6, bc BK405 0, bc BK405 1, bc BK405 2, bc BK405 3, bc BK405 4, bc BK405 5, bc BK405 6⟩ (fun hHeld => ?_)
       clear hK K
       refine norm_ (a' := ?_) ?_ ?_
       rotate_left
       ·show Act.put _ (some 62) _ = _
        simp only [Act.put, List.setIfInBounds_toArray, List.set_cons_zero, List.set_cons_succ, i64_w, i32_w]
        rfl
       refine pure_ (i := 19) (N := some 63) (v := ?_) (a' := ?_) #[true, true, true, true, true, true, true, true, true, true, true, true, true, true, true, true, true, true, true, true, false, false, false, false, false, false, false, false, false, false, false, false, false] rfl rfl (any_of HT_.out (by kernel_rfl)) (fun _ _ _ h => h) (Or.inl ⟨by rfl, ?_⟩) ?_ ?_
       rotate_left
       ·intro w'
        go_simp
        with_reducible rfl
       rotate_left
       ·simp only [Act.put, List.setIfInBounds_toArray, List.set_cons_zero, List.set_cons_succ, i64_w, i32_w]
        rfl
       refine pure_ (i := 20) (N := some 64) (v := ?_) (a' := ?_) #[true, true, true, true, true, true, true, true, true, true, true, true, true, true, true, true, true, true, true, true, true, false, false, false, false, false, false, false, false, false, false, false, false] rfl rfl (any_of HT_.out (by kernel_rfl)) (fun _ _ _ h => h) (Or.inl ⟨by rfl, ?_⟩) ?_ ?_
       rotate_left
       ·intro w'
        go_simp
        with_reducible rfl
       rotate_left
       ·simp only [Act.put, List.setIfInBounds_toArray, List.set_cons_zero, List.set_cons_succ, i64_w, i32_w]
        rfl
       refine take_ (i := 21) (N := some 65) (v := ?_) (a' := ?_) #[true, true, true, true, true, true, true, true, true, true, true, true, true, true, true, true, true, true, true, true, true, true, false, false, false, false, false, false, false, false, false, false, false] rfl rfl (take_ofW HT_.out HW_.out (by kernel_rfl)) (fun _ _ _ h => h) (Or.inl ⟨by rfl, ?_⟩) hHeld ?_ ?_
       rotate_left
       ·rintro w' ⟨s0, s1, s2, s3, s4, s5, s6, s7, s8, s9, s10, s11, s12, s13⟩
        go_simp
        with_reducible rfl
       rotate_left
       ·simp only [Act.put, List.setIfInBounds_toArray, List.set_cons_zero, List.set_cons_succ, i64_w, i32_w]
        rfl
       refine take_ (i := 22) (N := some 66) (v := ?_) (a' := ?_) #[true, true, true, true, true, true, true, true, true, true, true, true, true, true, true, true, true, true, true, true, true, true, true, false, false, false, false, false, false, false, false, false, false] rfl rfl (take_ofW HT_.out HW_.out (by kernel_rfl)) (fun _ _ _ h => h) (Or.inl ⟨by rfl, ?_⟩) hHeld ?_ ?_
       rotate_left
       ·rintro w' ⟨s0, s1, s2, s3, s4, s5, s6, s7, s8, s9, s10, s11, s12, s13⟩
        go_simp
        with_reducible rfl
       rotate_left
       ·simp only [Act.put, List.setIfInBounds_toArray, List.set_cons_zero, List.set_cons_succ, i64_w, i32_w]
        rfl
       refine take_ (i := 24) (N := some 68) (v := ?_) (a' := ?_) #[true, true, true, true, true, true, true, true, true, true, true, true, true, true, true, true, true, true, true, true, true, true, true, false, true, false, false, false, false, false, false, false, false] rfl rfl (take_ofW HT_.out HW_.out (by kernel_rfl)) (fun _ _ _ h => h) (Or.inl ⟨by rfl, ?_⟩) hHeld ?_ ?_
       rotate_left
       ·rintro w' ⟨s0, s1, s2, s3, s4, s5, s6, s7, s8, s9, s10, s11, s12, s13⟩
        go_simp
        with_reducible rfl
       rotate_left
       ·simp only [Act.put, List.setIfInBounds_toArray, List.set_cons_zero, List.set_cons_succ, i64_w, i32_w]
        rfl
       refine take_ (i := 26) (N := some 70) (v := ?_) (a' := ?_) #[true, true, true, true, true, true, true, true, true, true, true, true, true, true, true, true, true, true, true, true, true, true, true, false, true, false, true, false, false, false, false, false, false] rfl rfl (take_ofW HT_.out HW_.out (by kernel_rfl)) (fun _ _ _ h => h) (Or.inl ⟨by rfl, ?_⟩) hHeld ?_ ?_
       rotate_left
       ·rintro w' ⟨s0, s1, s2, s3, s4, s5, s6, s7, s8, s9, s10, s11, s12, s13⟩
        go_simp
        with_reducible rfl
       rotate_left
       ·simp only [Act.put, List.setIfInBounds_toArray, List.set_cons_zero, List.set_cons_succ, i64_w, i32_w]
        rfl
       refine one_ (i := 23) (N := some 67) #[true, true, true, true, true, true, true, true, true, true, true, true, true, true, true, true, true, true, true, true, true, true, true, true, true, false, true, false, false, false, false, false, false] rfl rfl (one_of HT_.out (by kernel_rfl)) (by decide) (fun K hK => ?_)
       refine goes_ Try.func9 (by kernel_rfl) rfl #[.agg #[.int .u64 a0_0, .int .u32 a0_1, .int .u32 a0_2, .int .i64 a0_3, .int .u64 a0_4, .int .u32 a0_5, .int .u32 a0_6], .agg #[.int .u64 a1_0, .int .u32 a1_1, .int .u32 a1_2, .int .i64 a1_3, .int .u64 a1_4, .int .u32 a1_5, .int .u32 a1_6]] (by rfl) rfl rfl argt ?_
       with_reducible refine (item_Item_Due.calls kj6 a0_0 a0_1 a0_2 a0_3 a0_4 a0_5 a0_6 a1_0 a1_1 a1_2 a1_3 a1_4 a1_5 a1_6 t462 _ A63.out).mono ?_
       rintro e w76 ⟨rfl, hb⟩
       refine ⟨_, rfl, ?_⟩
       replace BK404 := blkb BK404 hb
       replace BK405 := blkb BK405 hb
       replace BK414 := blkb BK414 hb
       replace HB := belb HB hb
       (try clear hb)
       (try clear hb2)
       (try clear hk)
       (try clear hi)
       refine hK.out _ _ ⟨bc BK404 0, bc BK404 1, bc BK404 2, bc BK404 3, bc BK404 4, bc BK404 5, bc BK404 6, bc BK405 0, bc BK405 1, bc BK405 2, bc BK405 3, bc BK405 4, bc BK405 5, bc BK405 6⟩ (fun hHeld => ?_)
       clear hK K
       refine norm_ (a' := ?_) ?_ ?_
       rotate_left
       ·show Act.put _ (some 67) _ = _
        simp only [Act.put, List.setIfInBounds_toArray, List.set_cons_zero, List.set_cons_succ, i64_w, i32_w]
        rfl
       refine one_ (i := 25) (N := some 69) #[true, true, true, true, true, true, true, true, true, true, true, true, true, true, true, true, true, true, true, true, true, true, true, true, true, true, true, false, false, false, false, false, false] rfl rfl (one_of HT_.out (by kernel_rfl)) (by decide) (fun K hK => ?_)
       refine goes_ Try.func13 (by kernel_rfl) rfl #[.agg #[.int .u64 a0_0, .int .u32 a0_1, .int .u32 a0_2, .int .i64 a0_3, .int .u64 a0_4, .int .u32 a0_5, .int .u32 a0_6]] (by rfl) rfl rfl argt ?_
       with_reducible refine (turnstonelaw05_Of.calls a0_0 a0_1 a0_2 a0_3 a0_4 a0_5 a0_6 t463 t464 t465 t466 t467 t468 t469 _ A64.out).mono ?_
       rintro e w77 ⟨rfl, hb⟩
       refine ⟨_, rfl, ?_⟩
       replace BK404 := blkb BK404 hb
       replace BK405 := blkb BK405 hb
       replace BK414 := blkb BK414 hb
       replace HB := belb HB hb
       (try clear hb)
       (try clear hb2)
       (try clear hk)
       (try clear hi)
       refine hK.out _ _ ⟨bc BK404 0, bc BK404 1, bc BK404 2, bc BK404 3, bc BK404 4, bc BK404 5, bc BK404 6, bc BK405 0, bc BK405 1, bc BK405 2, bc BK405 3, bc BK405 4, bc BK405 5, bc BK405 6⟩ (fun hHeld => ?_)
       clear hK K
       refine norm_ (a' := ?_) ?_ ?_
       rotate_left
       ·show Act.put _ (some 69) _ = _
        simp only [Act.put, List.setIfInBounds_toArray, List.set_cons_zero, List.set_cons_succ, i64_w, i32_w]
        rfl
       refine one_ (i := 27) (N := some 71) #[true, true, true, true, true, true, true, true, true, true, true, true, true, true, true, true, true, true, true, true, true, true, true, true, true, true, true, true, false, false, false, false, false] rfl rfl (one_of HT_.out (by kernel_rfl)) (by decide) (fun K hK => ?_)
       refine goes_ Try.func13 (by kernel_rfl) rfl #[.agg #[.int .u64 a1_0, .int .u32 a1_1, .int .u32 a1_2, .int .i64 a1_3, .int .u64 a1_4, .int .u32 a1_5, .int .u32 a1_6]] (by rfl) rfl rfl argt ?_
       with_reducible refine (turnstonelaw05_Of.calls a1_0 a1_1 a1_2 a1_3 a1_4 a1_5 a1_6 t470 t471 t472 t473 t474 t475 t476 _ A65.out).mono ?_
       rintro e w78 ⟨rfl, hb⟩
       refine ⟨_, rfl, ?_⟩
       replace BK404 := blkb BK404 hb
       replace BK405 := blkb BK405 hb
       replace BK414 := blkb BK414 hb
       replace HB := belb HB hb
       (try clear hb)
       (try clear hb2)
       (try clear hk)
       (try clear hi)
       refine hK.out _ _ ⟨bc BK404 0, bc BK404 1, bc BK404 2, bc BK404 3, bc BK404 4, bc BK404 5, bc BK404 6, bc BK405 0, bc BK405 1, bc BK405 2, bc BK405 3, bc BK405 4, bc BK405 5, bc BK405 6⟩ (fun hHeld => ?_)
       clear hK K
       refine norm_ (a' := ?_) ?_ ?_
       rotate_left
       ·show Act.put _ (some 71) _ = _
        simp only [Act.put, List.setIfInBounds_toArray, List.set_cons_zero, List.set_cons_succ, i64_w, i32_w]
        rfl
       refine one_ (i := 28) (N := some 72) #[true, true, true, true, true, true, true, true, true, true, true, true, true, true, true, true, true, true, true, true, true, true, true, true, true, true, true, true, true, false, false, false, false] rfl rfl (one_of HT_.out (by kernel_rfl)) (by decide) (fun K hK => ?_)
       refine goes_ Try.func16 (by kernel_rfl) rfl #[.agg #[.int .u64 t463, .int .u32 t464, .int .u32 t465, .int .i64 t466, .int .u64 t467, .int .u32 t468, .int .u32 t469], .agg #[.int .u64 t470, .int .u32 t471, .int .u32 t472, .int .i64 t473, .int .u64 t474, .int .u32 t475, .int .u32 t476]] (by rfl) rfl rfl argt ?_
       with_reducible refine (turnstoneref05_Due.calls kj6 t463 t464 t465 t466 t467 t468 t469 t470 t471 t472 t473 t474 t475 t476 t477 _ A66.out).mono ?_
       rintro e w79 ⟨rfl, hb⟩
       refine ⟨_, rfl, ?_⟩
       replace BK404 := blkb BK404 hb
       replace BK405 := blkb BK405 hb
       replace BK414 := blkb BK414 hb
       replace HB := belb HB hb
       (try clear hb)
       (try clear hb2)
       (try clear hk)
       (try clear hi)
       refine hK.out _ _ ⟨bc BK404 0, bc BK404 1, bc BK404 2, bc BK404 3, bc BK404 4, bc BK404 5, bc BK404 6, bc BK405 0, bc BK405 1, bc BK405 2, bc BK405 3, bc BK405 4, bc BK405 5, bc BK405 6⟩ (fun hHeld => ?_)
       clear hK K
       refine norm_ (a' := ?_) ?_ ?_
       rotate_left
       ·show Act.put _ (some 72) _ = _
        simp only [Act.put, List.setIfInBounds_toArray, List.set_cons_zero, List.set_cons_succ, i64_w, i32_w]
        rfl
       refine pure_ (i := 29) (N := some 73) (v := ?_) (a' := ?_) #[true, true, true, true, true, true, true, true, true, true, true, true, true, true, true, true, true, true, true, true, true, true, true, true, true, true, true, true, true, true, false, false, false] rfl rfl (any_of HT_.out (by kernel_rfl)) (fun _ _ _ h => h) (Or.inl ⟨by rfl, ?_⟩) ?_ ?_
       rotate_left
       ·intro w'
        go_simp
        with_reducible rfl
       rotate_left
       ·simp only [Act.put, List.setIfInBounds_toArray, List.set_cons_zero, List.set_cons_succ, i64_w, i32_w]
        rfl
       refine pure_ (i := 30) (N := some 74) (v := ?_) (a' := ?_) #[true, true, true, true, true, true, true, true, true, true, true, true, true, true, true, true, true, true, true, true, true, true, true, true, true, true, true, true, true, true, true, false, false] rfl rfl (any_of HT_.out (by kernel_rfl)) (fun _ _ _ h => h) (Or.inl ⟨by rfl, ?_⟩) ?_ ?_
       rotate_left
       ·intro w'
        go_simp
        with_reducible rfl
       rotate_left
       ·simp only [Act.put, List.setIfInBounds_toArray, List.set_cons_zero, List.set_cons_succ, i64_w, i32_w]
        rfl
       refine pure_ (i := 31) (N := some 75) (v := ?_) (a' := ?_) #[true, true, true, true, true, true, true, true, true, true, true, true, true, true, true, true, true, true, true, true, true, true, true, true, true, true, true, true, true, true, true, true, false] rfl rfl (any_of HT_.out (by kernel_rfl)) (fun _ _ _ h => h) (Or.inl ⟨by rfl, ?_⟩) ?_ ?_
       rotate_left
       ·intro w'
        go_simp
        with_reducible rfl
       rotate_left
       ·simp only [Act.put, List.setIfInBounds_toArray, List.set_cons_zero, List.set_cons_succ, i64_w, i32_w]
        rfl
       refine pure_ (i := 32) (N := some 6) (v := ?_) (a' := ?_) #[true, true, true, true, true, true, true, true, true, true, true, true, true, true, true, true, true, true, true, true, true, true, true, true, true, true, true, true, true, true, true, true, true] rfl rfl (any_of HT_.out (by kernel_rfl)) (fun _ _ _ h => h) (Or.inl ⟨by rfl, ?_⟩) ?_ ?_
       rotate_left
       ·intro w'
        go_simp
        with_reducible rfl
       rotate_left
       ·simp only [Act.put, List.setIfInBounds_toArray, List.set_cons_zero, List.set_cons_succ, i64_w, i32_w]
        rfl
       refine done_ (done_of HT_.out (by kernel_rfl)) ?_
       try go_wp2
       go_ret
       exact ⟨by first | rfl | (simp [errW_none, errW_some] <;> rfl) | (simp [*, errW_none, errW_some] <;> rfl), belt HB⟩
      rw [if_neg c62] at H
      have c62b0 : (t446 == t461) = false := by simpa using c62
      (try (have c62b1 : decide (t446 = t461) = false := by simpa using c62))
      (try (have c62b2 : (t446 == t461) = false := by simpa using c62))
      (try (have c62b3 : ¬ (t446 = t461) := by simpa using c62))
      clear c62
      exact absurd H (by simp)
     replace c57 := Bool.eq_false_iff.mpr c57
     subst c57
     have H1 : (some true) = some r := by rw [if_neg (show ¬ (false = true) by decide)] at H; exact H
     clear H
     have H := H1
     clear H1
     obtain rfl := Option.some.inj H
     try go_wp2
     replace BK404 := Aside0.mk (blk_drew BK404.out)
     replace BK405 := Aside0.mk (blk_drew BK405.out)
     replace BK414 := Aside0.mk (blk_drew BK414.out)
     replace HB := Aside0.mk (below_drew1 HB.out)
     refine start_ (n := 33) (S := fun w' => w'.cell? ⟨gb404, 0, none⟩ = some (.int .u64 a0_0) ∧ w'.cell? ⟨gb404, 1, none⟩ = some (.int .u32 a0_1) ∧ w'.cell? ⟨gb404, 2, none⟩ = some (.int .u32 a0_2) ∧ w'.cell? ⟨gb404, 3, none⟩ = some (.int .i64 a0_3) ∧ w'.cell? ⟨gb404, 4, none⟩ = some (.int .u64 a0_4) ∧ w'.cell? ⟨gb404, 5, none⟩ = some (.int .u32 a0_5) ∧ w'.cell? ⟨gb404, 6, none⟩ = some (.int .u32 a0_6) ∧ w'.cell? ⟨gb405, 0, none⟩ = some (.int .u64 a1_0) ∧ w'.cell? ⟨gb405, 1, none⟩ = some (.int .u32 a1_1) ∧ w'.cell? ⟨gb405, 2, none⟩ = some (.int .u32 a1_2) ∧ w'.cell? ⟨gb405, 3, none⟩ = some (.int .i64 a1_3) ∧ w'.cell? ⟨gb405, 4, none⟩ = some (.int .u64 a1_4) ∧ w'.cell? ⟨gb405, 5, none⟩ = some (.int .u32 a1_5) ∧ w'.cell? ⟨gb405, 6, none⟩ = some (.int .u32 a1_6)) (ds := []) #[false, false, false, false, false, false, false, false, false, false, false, false, false, false, false, false, false, false, false, false, false, false, false, false, false, false, false, false, false, false, false, false, false] (by kernel_rfl) rfl rfl ⟨bc BK404 0, bc BK404 1, bc BK404 2, bc BK404 3, bc BK404 4, bc BK404 5, bc BK404 6, bc BK405 0, bc BK405 1, bc BK405 2, bc BK405 3, bc BK405 4, bc BK405 5, bc BK405 6⟩ (fun hHeld => ?_); refine with_tabW turnstonelaw05_ItemTells.tab6 turnstonelaw05_ItemTells.bits6 (fun HT_ HW_ => ?_)
     generalize wc.drew = w80 at BK404 BK405 BK414 HB hHeld ⊢
     refine take_ (i := 0) (N := some 44) (v := ?_) (a' := ?_) #[true, false, false, false, false, false, false, false, false, false, false, false, false, false, false, false, false, false, false, false, false, false, false, false, false, false, false, false, false, false, false, false, false] rfl rfl (take_ofW HT_.out HW_.out (by kernel_rfl)) (fun _ _ _ h => h) (Or.inl ⟨by rfl, ?_⟩) hHeld ?_ ?_
     rotate_left
     ·rintro w' ⟨s0, s1, s2, s3, s4, s5, s6, s7, s8, s9, s10, s11, s12, s13⟩
      go_simp
      with_reducible rfl
     rotate_left
     ·simp only [Act.put, List.setIfInBounds_toArray, List.set_cons_zero, List.set_cons_succ, i64_w, i32_w]
      rfl
     refine one_ (i := 1) (N := some 45) #[true, true, false, false, false, false, false, false, false, false, false, false, false, false, false, false, false, false, false, false, false, false, false, false, false, false, false, false, false, false, false, false, false] rfl rfl (one_of HT_.out (by kernel_rfl)) (by decide) (fun K hK => ?_)
     refine goes_ Try.func13 (by kernel_rfl) rfl #[.agg #[.int .u64 a0_0, .int .u32 a0_1, .int .u32 a0_2, .int .i64 a0_3, .int .u64 a0_4, .int .u32 a0_5, .int .u32 a0_6]] (by rfl) rfl rfl argt ?_
     with_reducible refine (turnstonelaw05_Of.calls a0_0 a0_1 a0_2 a0_3 a0_4 a0_5 a0_6 t430 t431 t432 t433 t434 t435 t436 _ A52.out).mono ?_
     rintro e w81 ⟨rfl, hb⟩
     refine ⟨_, rfl, ?_⟩
     replace BK404 := blkb BK404 hb
     replace BK405 := blkb BK405 hb
     replace BK414 := blkb BK414 hb
     replace HB := belb HB hb
     (try clear hb)
     (try clear hb2)
     (try clear hk)
     (try clear hi)
     refine hK.out _ _ ⟨bc BK404 0, bc BK404 1, bc BK404 2, bc BK404 3, bc BK404 4, bc BK404 5, bc BK404 6, bc BK405 0, bc BK405 1, bc BK405 2, bc BK405 3, bc BK405 4, bc BK405 5, bc BK405 6⟩ (fun hHeld => ?_)
     clear hK K
     refine norm_ (a' := ?_) ?_ ?_
     rotate_left
     ·show Act.put _ (some 45) _ = _
      simp only [Act.put, List.setIfInBounds_toArray, List.set_cons_zero, List.set_cons_succ, i64_w, i32_w]
      rfl
     refine one_ (i := 2) (N := some 46) #[true, true, true, false, false, false, false, false, false, false, false, false, false, false, false, false, false, false, false, false, false, false, false, false, false, false, false, false, false, false, false, false, false] rfl rfl (one_of HT_.out (by kernel_rfl)) (by decide) (fun K hK => ?_)
     refine goes_ Try.func12 (by kernel_rfl) rfl #[.agg #[.int .u64 t430, .int .u32 t431, .int .u32 t432, .int .i64 t433, .int .u64 t434, .int .u32 t435, .int .u32 t436]] (by rfl) rfl rfl argt ?_
     with_reducible refine (turnstoneref05_Right.calls kj6 t430 t431 t432 t433 t434 t435 t436 true _ A53.out).mono ?_
     rintro e w82 ⟨rfl, hb⟩
     refine ⟨_, rfl, ?_⟩
     replace BK404 := blkb BK404 hb
     replace BK405 := blkb BK405 hb
     replace BK414 := blkb BK414 hb
     replace HB := belb HB hb
     (try clear hb)
     (try clear hb2)
     (try clear hk)
     (try clear hi)
     refine hK.out _ _ ⟨bc BK404 0, bc BK404 1, bc BK404 2, bc BK404 3, bc BK404 4, bc BK404 5, bc BK404 6, bc BK405 0, bc BK405 1, bc BK405 2, bc BK405 3, bc BK405 4, bc BK405 5, bc BK405 6⟩ (fun hHeld => ?_)
     clear hK K
     refine norm_ (a' := ?_) ?_ ?_
     rotate_left
     ·show Act.put _ (some 46) _ = _
      simp only [Act.put, List.setIfInBounds_toArray, List.set_cons_zero, List.set_cons_succ, i64_w, i32_w]
      rfl
     refine pure_ (i := 3) (N := some 47) (v := ?_) (a' := ?_) #[true, true, true, true, false, false, false, false, false, false, false, false, false, false, false, false, false, false, false, false, false, false, false, false, false, false, false, false, false, false, false, false, false] rfl rfl (any_of HT_.out (by kernel_rfl)) (fun _ _ _ h => h) (Or.inl ⟨by rfl, ?_⟩) ?_ ?_
     rotate_left
     ·intro w'
      go_simp
      with_reducible rfl
     rotate_left
     ·simp only [Act.put, List.setIfInBounds_toArray, List.set_cons_zero, List.set_cons_succ, i64_w, i32_w]
      rfl
     refine pure_ (i := 4) (N := some 48) (v := ?_) (a' := ?_) #[true, true, true, true, true, false, false, false, false, false, false, false, false, false, false, false, false, false, false, false, false, false, false, false, false, false, false, false, false, false, false, false, false] rfl rfl (any_of HT_.out (by kernel_rfl)) (fun _ _ _ h => h) (Or.inl ⟨by rfl, ?_⟩) ?_ ?_
     rotate_left
     ·intro w'
      go_simp
      with_reducible rfl
     rotate_left
     ·simp only [Act.put, List.setIfInBounds_toArray, List.set_cons_zero, List.set_cons_succ, i64_w, i32_w]
      rfl
     refine take_ (i := 5) (N := some 49) (v := ?_) (a' := ?_) #[true, true, true, true, true, true, false, false, false, false, false, false, false, false, false, false, false, false, false, false, false, false, false, false, false, false, false, false, false, false, false, false, false] rfl rfl (take_ofW HT_.out HW_.out (by kernel_rfl)) (fun _ _ _ h => h) (Or.inl ⟨by rfl, ?_⟩) hHeld ?_ ?_
     rotate_left
     ·rintro w' ⟨s0, s1, s2, s3, s4, s5, s6, s7, s8, s9, s10, s11, s12, s13⟩
      go_simp
      with_reducible rfl
     rotate_left
     ·simp only [Act.put, List.setIfInBounds_toArray, List.set_cons_zero, List.set_cons_succ, i64_w, i32_w]
      rfl
     refine one_ (i := 6) (N := some 50) #[true, true, true, true, true, true, true, false, false, false, false, false, false, false, false, false, false, false, false, false, false, false, false, false, false, false, false, false, false, false, false, false, false] rfl rfl (one_of HT_.out (by kernel_rfl)) (by decide) (fun K hK => ?_)
     refine goes_ Try.func13 (by kernel_rfl) rfl #[.agg #[.int .u64 a1_0, .int .u32 a1_1, .int .u32 a1_2, .int .i64 a1_3, .int .u64 a1_4, .int .u32 a1_5, .int .u32 a1_6]] (by rfl) rfl rfl argt ?_
     with_reducible refine (turnstonelaw05_Of.calls a1_0 a1_1 a1_2 a1_3 a1_4 a1_5 a1_6 t438 t439 t440 t441 t442 t443 t444 _ A55.out).mono ?_
     rintro e w83 ⟨rfl, hb⟩
     refine ⟨_, rfl, ?_⟩
     replace BK404 := blkb BK404 hb
     replace BK405 := blkb BK405 hb
     replace BK414 := blkb BK414 hb
     replace HB := belb HB hb
     (try clear hb)
     (try clear hb2)
     (try clear hk)
     (try clear hi)
     refine hK.out _ _ ⟨bc BK404 0, bc BK404 1, bc BK404 2, bc BK404 3, bc BK404 4, bc BK404 5, bc BK404 6, bc BK405 0, bc BK405 1, bc BK405 2, bc BK405 3, bc BK405 4, bc BK405 5, bc BK405 6⟩ (fun hHeld => ?_)
     clear hK K
     refine norm_ (a' := ?_) ?_ ?_
     rotate_left
     ·show Act.put _ (some 50) _ = _
      simp only [Act.put, List.setIfInBounds_toArray, List.set_cons_zero, List.set_cons_succ, i64_w, i32_w]
      rfl
     refine one_ (i := 7) (N := some 51) #[true, true, true, true, true, true, true, true, false, false, false, false, false, false, false, false, false, false, false, false, false, false, false, false, false, false, false, false, false, false, false, false, false] rfl rfl (one_of HT_.out (by kernel_rfl)) (by decide) (fun K hK => ?_)
     refine goes_ Try.func12 (by kernel_rfl) rfl #[.agg #[.int .u64 t438, .int .u32 t439, .int .u32 t440, .int .i64 t441, .int .u64 t442, .int .u32 t443, .int .u32 t444]] (by rfl) rfl rfl argt ?_
     with_reducible refine (turnstoneref05_Right.calls kj6 t438 t439 t440 t441 t442 t443 t444 false _ A56.out).mono ?_
     rintro e w84 ⟨rfl, hb⟩
     refine ⟨_, rfl, ?_⟩
     replace BK404 := blkb BK404 hb
     replace BK405 := blkb BK405 hb
     replace BK414 := blkb BK414 hb
     replace HB := belb HB hb
     (try clear hb)
     (try clear hb2)
     (try clear hk)
     (try clear hi)
     refine hK.out _ _ ⟨bc BK404 0, bc BK404 1, bc BK404 2, bc BK404 3, bc BK404 4, bc BK404 5, bc BK404 6, bc BK405 0, bc BK405 1, bc BK405 2, bc BK405 3, bc BK405 4, bc BK405 5, bc BK405 6⟩ (fun hHeld => ?_)
     clear hK K
     refine norm_ (a' := ?_) ?_ ?_
     rotate_left
     ·show Act.put _ (some 51) _ = _
      simp only [Act.put, List.setIfInBounds_toArray, List.set_cons_zero, List.set_cons_succ, i64_w, i32_w]
      rfl
     refine pure_ (i := 8) (N := some 52) (v := ?_) (a' := ?_) #[true, true, true, true, true, true, true, true, true, false, false, false, false, false, false, false, false, false, false, false, false, false, false, false, false, false, false, false, false, false, false, false, false] rfl rfl (any_of HT_.out (by kernel_rfl)) (fun _ _ _ h => h) (Or.inl ⟨by rfl, ?_⟩) ?_ ?_
     rotate_left
     ·intro w'
      go_simp
      with_reducible rfl
     rotate_left
     ·simp only [Act.put, List.setIfInBounds_toArray, List.set_cons_zero, List.set_cons_succ, i64_w, i32_w]
      rfl
     refine pure_ (i := 9) (N := some 53) (v := ?_) (a' := ?_) #[true, true, true, true, true, true, true, true, true, true, false, false, false, false, false, false, false, false, false, false, false, false, false, false, false, false, false, false, false, false, false, false, false] rfl rfl (any_of HT_.out (by kernel_rfl)) (fun _ _ _ h => h) (Or.inl ⟨by rfl, ?_⟩) ?_ ?_
     rotate_left
     ·intro w'
      go_simp
      with_reducible rfl
     rotate_left
     ·simp only [Act.put, List.setIfInBounds_toArray, List.set_cons_zero, List.set_cons_succ, i64_w, i32_w]
      rfl
     refine pure_ (i := 10) (N := some 54) (v := ?_) (a' := ?_) #[true, true, true, true, true, true, true, true, true, true, true, false, false, false, false, false, false, false, false, false, false, false, false, false, false, false, false, false, false, false, false, false, false] rfl rfl (any_of HT_.out (by kernel_rfl)) (fun _ _ _ h => h) (Or.inl ⟨by rfl, ?_⟩) ?_ ?_
     rotate_left
     ·intro w'
      go_simp
      with_reducible rfl
     rotate_left
     ·simp only [Act.put, List.setIfInBounds_toArray, List.set_cons_zero, List.set_cons_succ, i64_w, i32_w]
      rfl
     refine pure_ (i := 11) (N := some 55) (v := undef) (a' := ?_) #[true, true, true, true, true, true, true, true, true, true, true, true, false, false, false, false, false, false, false, false, false, false, false, false, false, false, false, false, false, false, false, false, false] rfl rfl (any_of HT_.out (by kernel_rfl)) (fun _ _ _ h => h) (Or.inr ⟨by rfl, rfl⟩) ?_ ?_
     rotate_left
     ·simp only [Act.put, List.setIfInBounds_toArray, List.set_cons_zero, List.set_cons_succ, i64_w, i32_w]
      rfl
     refine pure_ (i := 12) (N := some 56) (v := undef) (a' := ?_) #[true, true, true, true, true, true, true, true, true, true, true, true, true, false, false, false, false, false, false, false, false, false, false, false, false, false, false, false, false, false, false, false, false] rfl rfl (any_of HT_.out (by kernel_rfl)) (fun _ _ _ h => h) (Or.inr ⟨by rfl, rfl⟩) ?_ ?_
     rotate_left
     ·simp only [Act.put, List.setIfInBounds_toArray, List.set_cons_zero, List.set_cons_succ, i64_w, i32_w]
      rfl
     refine pure_ (i := 13) (N := some 57) (v := undef) (a' := ?_) #[true, true, true, true, true, true, true, true, true, true, true, true, true, true, false, false, false, false, false, false, false, false, false, false, false, false, false, false, false, false, false, false, false] rfl rfl (any_of HT_.out (by kernel_rfl)) (fun _ _ _ h => h) (Or.inr ⟨by rfl, rfl⟩) ?_ ?_
     rotate_left
     ·simp only [Act.put, List.setIfInBounds_toArray, List.set_cons_zero, List.set_cons_succ, i64_w, i32_w]
      rfl
     refine pure_ (i := 14) (N := some 58) (v := undef) (a' := ?_) #[true, true, true, true, true, true, true, true, true, true, true, true, true, true, true, false, false, false, false, false, false, false, false, false, false, false, false, false, false, false, false, false, false] rfl rfl (any_of HT_.out (by kernel_rfl)) (fun _ _ _ h => h) (Or.inr ⟨by rfl, rfl⟩) ?_ ?_
     rotate_left
     ·simp only [Act.put, List.setIfInBounds_toArray, List.set_cons_zero, List.set_cons_succ, i64_w, i32_w]
      rfl
     refine pure_ (i := 15) (N := some 59) (v := undef) (a' := ?_) #[true, true, true, true, true, true, true, true, true, true, true, true, true, true, true, true, false, false, false, false, false, false, false, false, false, false, false, false, false, false, false, false, false] rfl rfl (any_of HT_.out (by kernel_rfl)) (fun _ _ _ h => h) (Or.inr ⟨by rfl, rfl⟩) ?_ ?_
     rotate_left
     ·simp only [Act.put, List.setIfInBounds_toArray, List.set_cons_zero, List.set_cons_succ, i64_w, i32_w]
      rfl
     refine pure_ (i := 16) (N := some 60) (v := undef) (a' := ?_) #[true, true, true, true, true, true, true, true, true, true, true, true, true, true, true, true, true, false, false, false, false, false, false, false, false, false, false, false, false, false, false, false, false] rfl rfl (any_of HT_.out (by kernel_rfl)) (fun _ _ _ h => h) (Or.inr ⟨by rfl, rfl⟩) ?_ ?_
     rotate_left
     ·simp only [Act.put, List.setIfInBounds_toArray, List.set_cons_zero, List.set_cons_succ, i64_w, i32_w]
      rfl
     refine pure_ (i := 17) (N := some 61) (v := undef) (a' := ?_) #[true, true, true, true, true, true, true, true, true, true, true, true, true, true, true, true, true, true, false, false, false, false, false, false, false, false, false, false, false, false, false, false, false] rfl rfl (any_of HT_.out (by kernel_rfl)) (fun _ _ _ h => h) (Or.inr ⟨by rfl, rfl⟩) ?_ ?_
     rotate_left
     ·simp only [Act.put, List.setIfInBounds_toArray, List.set_cons_zero, List.set_cons_succ, i64_w, i32_w]
      rfl
     refine pure_ (i := 18) (N := some 62) (v := undef) (a' := ?_) #[true, true, true, true, true, true, true, true, true, true, true, true, true, true, true, true, true, true, true, false, false, false, false, false, false, false, false, false, false, false, false, false, false] rfl rfl (any_of HT_.out (by kernel_rfl)) (fun _ _ _ h => h) (Or.inr ⟨by rfl, rfl⟩) ?_ ?_
     rotate_left
     ·simp only [Act.put, List.setIfInBounds_toArray, List.set_cons_zero, List.set_cons_succ, i64_w, i32_w]
      rfl
     refine pure_ (i := 19) (N := some 63) (v := undef) (a' := ?_) #[true, true, true, true, true, true, true, true, true, true, true, true, true, true, true, true, true, true, true, true, false, false, false, false, false, false, false, false, false, false, false, false, false] rfl rfl (any_of HT_.out (by kernel_rfl)) (fun _ _ _ h => h) (Or.inr ⟨by rfl, rfl⟩) ?_ ?_
     rotate_left
     ·simp only [Act.put, List.setIfInBounds_toArray, List.set_cons_zero, List.set_cons_succ, i64_w, i32_w]
      rfl
     refine pure_ (i := 20) (N := some 64) (v := undef) (a' := ?_) #[true, true, true, true, true, true, true, true, true, true, true, true, true, true, true, true, true, true, true, true, true, false, false, false, false, false, false, false, false, false, false, false, false] rfl rfl (any_of HT_.out (by kernel_rfl)) (fun _ _ _ h => h) (Or.inr ⟨by rfl, rfl⟩) ?_ ?_
     rotate_left
     ·simp only [Act.put, List.setIfInBounds_toArray, List.set_cons_zero, List.set_cons_succ, i64_w, i32_w]
      rfl
     refine pure_ (i := 21) (N := some 65) (v := undef) (a' := ?_) #[true, true, true, true, true, true, true, true, true, true, true, true, true, true, true, true, true, true, true, true, true, true, false, false, false, false, false, false, false, false, false, false, false] rfl rfl (any_of HT_.out (by kernel_rfl)) (fun _ _ _ h => h) (Or.inr ⟨by rfl, rfl⟩) ?_ ?_
     rotate_left
     ·simp only [Act.put, List.setIfInBounds_toArray, List.set_cons_zero, List.set_cons_succ, i64_w, i32_w]
      rfl
     refine pure_ (i := 22) (N := some 66) (v := undef) (a' := ?_) #[true, true, true, true, true, true, true, true, true, true, true, true, true, true, true, true, true, true, true, true, true, true, true, false, false, false, false, false, false, false, false, false, false] rfl rfl (any_of HT_.out (by kernel_rfl)) (fun _ _ _ h => h) (Or.inr ⟨by rfl, rfl⟩) ?_ ?_
     rotate_left
     ·simp only [Act.put, List.setIfInBounds_toArray, List.set_cons_zero, List.set_cons_succ, i64_w, i32_w]
      rfl
     refine pure_ (i := 23) (N := some 67) (v := undef) (a' := ?_) #[true, true, true, true, true, true, true, true, true, true, true, true, true, true, true, true, true, true, true, true, true, true, true, true, false, false, false, false, false, false, false, false, false] rfl rfl (any_of HT_.out (by kernel_rfl)) (fun _ _ _ h => h) (Or.inr ⟨by rfl, rfl⟩) ?_ ?_
     rotate_left
     ·simp only [Act.put, List.setIfInBounds_toArray, List.set_cons_zero, List.set_cons_succ, i64_w, i32_w]
      rfl
     refine pure_ (i := 24) (N := some 68) (v := undef) (a' := ?_) #[true, true, true, true, true, true, true, true, true, true, true, true, true, true, true, true, true, true, true, true, true, true, true, true, true, false, false, false, false, false, false, false, false] rfl rfl (any_of HT_.out (by kernel_rfl)) (fun _ _ _ h => h) (Or.inr ⟨by rfl, rfl⟩) ?_ ?_
     rotate_left
     ·simp only [Act.put, List.setIfInBounds_toArray, List.set_cons_zero, List.set_cons_succ, i64_w, i32_w]
      rfl
     refine pure_ (i := 25) (N := some 69) (v := undef) (a' := ?_) #[true, true, true, true, true, true, true, true, true, true, true, true, true, true, true, true, true, true, true, true, true, true, true, true, true, true, false, false, false, false, false, false, false] rfl rfl (any_of HT_.out (by kernel_rfl)) (fun _ _ _ h => h) (Or.inr ⟨by rfl, rfl⟩) ?_ ?_
     rotate_left
     ·simp only [Act.put, List.setIfInBounds_toArray, List.set_cons_zero, List.set_cons_succ, i64_w, i32_w]
      rfl
     refine pure_ (i := 26) (N := some 70) (v := undef) (a' := ?_) #[true, true, true, true, true, true, true, true, true, true, true, true, true, true, true, true, true, true, true, true, true, true, true, true, true, true, true, false, false, false, false, false, false] rfl rfl (any_of HT_.out (by kernel_rfl)) (fun _ _ _ h => h) (Or.inr ⟨by rfl, rfl⟩) ?_ ?_
     rotate_left
     ·simp only [Act.put, List.setIfInBounds_toArray, List.set_cons_zero, List.set_cons_succ, i64_w, i32_w]
      rfl
     refine pure_ (i := 27) (N := some 71) (v := undef) (a' := ?_) #[true, true, true, true, true, true, true, true, true, true, true, true, true, true, true, true, true, true, true, true, true, true, true, true, true, true, true, true, false, false, false, false, false] rfl rfl (any_of HT_.out (by kernel_rfl)) (fun _ _ _ h => h) (Or.inr ⟨by rfl, rfl⟩) ?_ ?_
     rotate_left
     ·simp only [Act.put, List.setIfInBounds_toArray, List.set_cons_zero, List.set_cons_succ, i64_w, i32_w]
      rfl
     refine pure_ (i := 28) (N := some 72) (v := undef) (a' := ?_) #[true, true, true, true, true, true, true, true, true, true, true, true, true, true, true, true, true, true, true, true, true, true, true, true, true, true, true, true, true, false, false, false, false] rfl rfl (any_of HT_.out (by kernel_rfl)) (fun _ _ _ h => h) (Or.inr ⟨by rfl, rfl⟩) ?_ ?_
     rotate_left
     ·simp only [Act.put, List.setIfInBounds_toArray, List.set_cons_zero, List.set_cons_succ, i64_w, i32_w]
      rfl
     refine pure_ (i := 29) (N := some 73) (v := undef) (a' := ?_) #[true, true, true, true, true, true, true, true, true, true, true, true, true, true, true, true, true, true, true, true, true, true, true, true, true, true, true, true, true, true, false, false, false] rfl rfl (any_of HT_.out (by kernel_rfl)) (fun _ _ _ h => h) (Or.inr ⟨by rfl, rfl⟩) ?_ ?_
     rotate_left
     ·simp only [Act.put, List.setIfInBounds_toArray, List.set_cons_zero, List.set_cons_succ, i64_w, i32_w]
      rfl
     refine pure_ (i := 30) (N := some 74) (v := undef) (a' := ?_) #[true, true, true, true, true, true, true, true, true, true, true, true, true, true, true, true, true, true, true, true, true, true, true, true, true, true, true, true, true, true, true, false, false] rfl rfl (any_of HT_.out (by kernel_rfl)) (fun _ _ _ h => h) (Or.inr ⟨by rfl, rfl⟩) ?_ ?_
     rotate_left
     ·simp only [Act.put, List.setIfInBounds_toArray, List.set_cons_zero, List.set_cons_succ, i64_w, i32_w]
      rfl
     refine pure_ (i := 31) (N := some 75) (v := ?_) (a' := ?_) #[true, true, true, true, true, true, true, true, true, true, true, true, true, true, true, true, true, true, true, true, true, true, true, true, true, true, true, true, true, true, true, true, false] rfl rfl (any_of HT_.out (by kernel_rfl)) (fun _ _ _ h => h) (Or.inl ⟨by rfl, ?_⟩) ?_ ?_
     rotate_left
     ·intro w'
      go_simp
      with_reducible rfl
     rotate_left
     ·simp only [Act.put, List.setIfInBounds_toArray, List.set_cons_zero, List.set_cons_succ, i64_w, i32_w]
      rfl
     refine pure_ (i := 32) (N := some 6) (v := ?_) (a' := ?_) #[true, true, true, true, true, true, true, true, true, true, true, true, true, true, true, true, true, true, true, true, true, true, true, true, true, true, true, true, true, true, true, true, true] rfl rfl (any_of HT_.out (by kernel_rfl)) (fun _ _ _ h => h) (Or.inl ⟨by rfl, ?_⟩) ?_ ?_
     rotate_left
     ·intro w'
      go_simp
      with_reducible rfl
     rotate_left
     ·simp only [Act.put, List.setIfInBounds_toArray, List.set_cons_zero, List.set_cons_succ, i64_w, i32_w]
      rfl
     refine done_ (done_of HT_.out (by kernel_rfl)) ?_
     try go_wp2
     go_ret
     exact ⟨by first | rfl | (simp [errW_none, errW_some] <;> rfl) | (simp [*, errW_none, errW_some] <;> rfl), belt HB⟩
    replace c54 := Bool.eq_false_iff.mpr c54
    subst c54
    have H1 : (some true) = some r := by rw [if_neg (show ¬ (false = true) by decide)] at H; exact H
    clear H
    have H := H1
    clear H1
    obtain rfl := Option.some.inj H
    try go_wp2
    replace BK404 := Aside0.mk (blk_drew BK404.out)
    replace BK405 := Aside0.mk (blk_drew BK405.out)
    replace BK414 := Aside0.mk (blk_drew BK414.out)
    replace HB := Aside0.mk (below_drew1 HB.out)
    refine start_ (n := 33) (S := fun w' => w'.cell? ⟨gb404, 0, none⟩ = some (.int .u64 a0_0) ∧ w'.cell? ⟨gb404, 1, none⟩ = some (.int .u32 a0_1) ∧ w'.cell? ⟨gb404, 2, none⟩ = some (.int .u32 a0_2) ∧ w'.cell? ⟨gb404, 3, none⟩ = some (.int .i64 a0_3) ∧ w'.cell? ⟨gb404, 4, none⟩ = some (.int .u64 a0_4) ∧ w'.cell? ⟨gb404, 5, none⟩ = some (.int .u32 a0_5) ∧ w'.cell? ⟨gb404, 6, none⟩ = some (.int .u32 a0_6)) (ds := []) #[false, false, false, false, false, false, false, false, false, false, false, false, false, false, false, false, false, false, false, false, false, false, false, false, false, false, false, false, false, false, false, false, false] (by kernel_rfl) rfl rfl ⟨bc BK404 0, bc BK404 1, bc BK404 2, bc BK404 3, bc BK404 4, bc BK404 5, bc BK404 6⟩ (fun hHeld => ?_); refine with_tabW turnstonelaw05_ItemTells.tab6 turnstonelaw05_ItemTells.bits6 (fun HT_ HW_ => ?_)
    generalize wc.drew = w85 at BK404 BK405 BK414 HB hHeld ⊢
    refine take_ (i := 0) (N := some 44) (v := ?_) (a' := ?_) #[true, false, false, false, false, false, false, false, false, false, false, false, false, false, false, false, false, false, false, false, false, false, false, false, false, false, false, false, false, false, false, false, false] rfl rfl (take_ofW HT_.out HW_.out (by kernel_rfl)) (fun _ _ _ h => h) (Or.inl ⟨by rfl, ?_⟩) hHeld ?_ ?_
    rotate_left
    ·rintro w' ⟨s0, s1, s2, s3, s4, s5, s6⟩
     go_simp
     with_reducible rfl
    rotate_left
    ·simp only [Act.put, List.setIfInBounds_toArray, List.set_cons_zero, List.set_cons_succ, i64_w, i32_w]
     rfl
    refine one_ (i := 1) (N := some 45) #[true, true, false, false, false, false, false, false, false, false, false, false, false, false, false, false, false, false, false, false, false, false, false, false, false, false, false, false, false, false, false, false, false] rfl rfl (one_of HT_.out (by kernel_rfl)) (by decide) (fun K hK => ?_)
    refine goes_ Try.func13 (by kernel_rfl) rfl #[.agg #[.int .u64 a0_0, .int .u32 a0_1, .int .u32 a0_2, .int .i64 a0_3, .int .u64 a0_4, .int .u32 a0_5, .int .u32 a0_6]] (by rfl) rfl rfl argt ?_
    with_reducible refine (turnstonelaw05_Of.calls a0_0 a0_1 a0_2 a0_3 a0_4 a0_5 a0_6 t430 t431 t432 t433 t434 t435 t436 _ A52.out).mono ?_
    rintro e w86 ⟨rfl, hb⟩
    refine ⟨_, rfl, ?_⟩
    replace BK404 := blkb BK404 hb
    replace BK405 := blkb BK405 hb
    replace BK414 := blkb BK414 hb
    replace HB := belb HB hb
    (try clear hb)
    (try clear hb2)
    (try clear hk)
    (try clear hi)
    refine hK.out _ _ ⟨bc BK404 0, bc BK404 1, bc BK404 2, bc BK404 3, bc BK404 4, bc BK404 5, bc BK404 6⟩ (fun hHeld => ?_)
    clear hK K
    refine norm_ (a' := ?_) ?_ ?_
    rotate_left
    ·show Act.put _ (some 45) _ = _
     simp only [Act.put, List.setIfInBounds_toArray, List.set_cons_zero, List.set_cons_succ, i64_w, i32_w]
     rfl
    refine one_ (i := 2) (N := some 46) #[true, true, true, false, false, false, false, false, false, false, false, false, false, false, false, false, false, false, false, false, false, false, false, false, false, false, false, false, false, false, false, false, false] rfl rfl (one_of HT_.out (by kernel_rfl)) (by decide) (fun K hK => ?_)
    refine goes_ Try.func12 (by kernel_rfl) rfl #[.agg #[.int .u64 t430, .int .u32 t431, .int .u32 t432, .int .i64 t433, .int .u64 t434, .int .u32 t435, .int .u32 t436]] (by rfl) rfl rfl argt ?_
    with_reducible refine (turnstoneref05_Right.calls kj6 t430 t431 t432 t433 t434 t435 t436 false _ A53.out).mono ?_
    rintro e w87 ⟨rfl, hb⟩
    refine ⟨_, rfl, ?_⟩
    replace BK404 := blkb BK404 hb
    replace BK405 := blkb BK405 hb
    replace BK414 := blkb BK414 hb
    replace HB := belb HB hb
    (try clear hb)
    (try clear hb2)
    (try clear hk)
    (try clear hi)
    refine hK.out _ _ ⟨bc BK404 0, bc BK404 1, bc BK404 2, bc BK404 3, bc BK404 4, bc BK404 5, bc BK404 6⟩ (fun hHeld => ?_)
    clear hK K
    refine norm_ (a' := ?_) ?_ ?_
    rotate_left
    ·show Act.put _ (some 46) _ = _
     simp only [Act.put, List.setIfInBounds_toArray, List.set_cons_zero, List.set_cons_succ, i64_w, i32_w]
     rfl
    refine pure_ (i := 3) (N := some 47) (v := ?_) (a' := ?_) #[true, true, true, true, false, false, false, false, false, false, false, false, false, false, false, false, false, false, false, false, false, false, false, false, false, false, false, false, false, false, false, false, false] rfl rfl (any_of HT_.out (by kernel_rfl)) (fun _ _ _ h => h) (Or.inl ⟨by rfl, ?_⟩) ?_ ?_
    rotate_left
    ·intro w'
     go_simp
     with_reducible rfl
    rotate_left
    ·simp only [Act.put, List.setIfInBounds_toArray, List.set_cons_zero, List.set_cons_succ, i64_w, i32_w]
     rfl
    refine pure_ (i := 4) (N := some 48) (v := ?_) (a' := ?_) #[true, true, true, true, true, false, false, false, false, false, false, false, false, false, false, false, false, false, false, false, false, false, false, false, false, false, false, false, false, false, false, false, false] rfl rfl (any_of HT_.out (by kernel_rfl)) (fun _ _ _ h => h) (Or.inl ⟨by rfl, ?_⟩) ?_ ?_
    rotate_left
    ·intro w'
     go_simp
     with_reducible rfl
    rotate_left
    ·simp only [Act.put, List.setIfInBounds_toArray, List.set_cons_zero, List.set_cons_succ, i64_w, i32_w]
     rfl
    refine pure_ (i := 5) (N := some 49) (v := undef) (a' := ?_) #[true, true, true, true, true, true, false, false, false, false, false, false, false, false, false, false, false, false, false, false, false, false, false, false, false, false, false, false, false, false, false, false, false] rfl rfl (any_of HT_.out (by kernel_rfl)) (fun _ _ _ h => h) (Or.inr ⟨by rfl, rfl⟩) ?_ ?_
    rotate_left
    ·simp only [Act.put, List.setIfInBounds_toArray, List.set_cons_zero, List.set_cons_succ, i64_w, i32_w]
     rfl
    refine pure_ (i := 6) (N := some 50) (v := undef) (a' := ?_) #[true, true, true, true, true, true, true, false, false, false, false, false, false, false, false, false, false, false, false, false, false, false, false, false, false, false, false, false, false, false, false, false, false] rfl rfl (any_of HT_.out (by kernel_rfl)) (fun _ _ _ h => h) (Or.inr ⟨by rfl, rfl⟩) ?_ ?_
    rotate_left
    ·simp only [Act.put, List.setIfInBounds_toArray, List.set_cons_zero, List.set_cons_succ, i64_w, i32_w]
     rfl
    refine pure_ (i := 7) (N := some 51) (v := undef) (a' := ?_) #[true, true, true, true, true, true, true, true, false, false, false, false, false, false, false, false, false, false, false, false, false, false, false, false, false, false, false, false, false, false, false, false, false] rfl rfl (any_of HT_.out (by kernel_rfl)) (fun _ _ _ h => h) (Or.inr ⟨by rfl, rfl⟩) ?_ ?_
    rotate_left
    ·simp only [Act.put, List.setIfInBounds_toArray, List.set_cons_zero, List.set_cons_succ, i64_w, i32_w]
     rfl
    refine pure_ (i := 8) (N := some 52) (v := undef) (a' := ?_) #[true, true, true, true, true, true, true, true, true, false, false, false, false, false, false, false, false, false, false, false, false, false, false, false, false, false, false, false, false, false, false, false, false] rfl rfl (any_of HT_.out (by kernel_rfl)) (fun _ _ _ h => h) (Or.inr ⟨by rfl, rfl⟩) ?_ ?_
    rotate_left
    ·simp only [Act.put, List.setIfInBounds_toArray, List.set_cons_zero, List.set_cons_succ, i64_w, i32_w]
     rfl
    refine pure_ (i := 9) (N := some 53) (v := ?_) (a' := ?_) #[true, true, true, true, true, true, true, true, true, true, false, false, false, false, false, false, false, false, false, false, false, false, false, false, false, false, false, false, false, false, false, false, false] rfl rfl (any_of HT_.out (by kernel_rfl)) (fun _ _ _ h => h) (Or.inl ⟨by rfl, ?_⟩) ?_ ?_
    rotate_left
    ·intro w'
     go_simp
     with_reducible rfl
    rotate_left
    ·simp only [Act.put, List.setIfInBounds_toArray, List.set_cons_zero, List.set_cons_succ, i64_w, i32_w]
     rfl
    refine pure_ (i := 10) (N := some 54) (v := ?_) (a' := ?_) #[true, true, true, true, true, true, true, true, true, true, true, false, false, false, false, false, false, false, false, false, false, false, false, false, false, false, false, false, false, false, false, false, false] rfl rfl (any_of HT_.out (by kernel_rfl)) (fun _ _ _ h => h) (Or.inl ⟨by rfl, ?_⟩) ?_ ?_
    rotate_left
    ·intro w'
     go_simp
     with_reducible rfl
    rotate_left
    ·simp only [Act.put, List.setIfInBounds_toArray, List.set_cons_zero, List.set_cons_succ, i64_w, i32_w]
     rfl
    refine pure_ (i := 11) (N := some 55) (v := undef) (a' := ?_) #[true, true, true, true, true, true, true, true, true, true, true, true, false, false, false, false, false, false, false, false, false, false, false, false, false, false, false, false, false, false, false, false, false] rfl rfl (any_of HT_.out (by kernel_rfl)) (fun _ _ _ h => h) (Or.inr ⟨by rfl, rfl⟩) ?_ ?_
    rotate_left
    ·simp only [Act.put, List.setIfInBounds_toArray, List.set_cons_zero, List.set_cons_succ, i64_w, i32_w]
     rfl
    refine pure_ (i := 12) (N := some 56) (v := undef) (a' := ?_) #[true, true, true, true, true, true, true, true, true, true, true, true, true, false, false, false, false, false, false, false, false, false, false, false, false, false, false, false, false, false, false, false, false] rfl rfl (any_of HT_.out (by kernel_rfl)) (fun _ _ _ h => h) (Or.inr ⟨by rfl, rfl⟩) ?_ ?_
    rotate_left
    ·simp only [Act.put, List.setIfInBounds_toArray, List.set_cons_zero, List.set_cons_succ, i64_w, i32_w]
     rfl
    refine pure_ (i := 13) (N := some 57) (v := undef) (a' := ?_) #[true, true, true, true, true, true, true, true, true, true, true, true, true, true, false, false, false, false, false, false, false, false, false, false, false, false, false, false, false, false, false, false, false] rfl rfl (any_of HT_.out (by kernel_rfl)) (fun _ _ _ h => h) (Or.inr ⟨by rfl, rfl⟩) ?_ ?_
    rotate_left
    ·simp only [Act.put, List.setIfInBounds_toArray, List.set_cons_zero, List.set_cons_succ, i64_w, i32_w]
     rfl
    refine pure_ (i := 14) (N := some 58) (v := undef) (a' := ?_) #[true, true, true, true, true, true, true, true, true, true, true, true, true, true, true, false, false, false, false, false, false, false, false, false, false, false, false, false, false, false, false, false, false] rfl rfl (any_of HT_.out (by kernel_rfl)) (fun _ _ _ h => h) (Or.inr ⟨by rfl, rfl⟩) ?_ ?_
    rotate_left
    ·simp only [Act.put, List.setIfInBounds_toArray, List.set_cons_zero, List.set_cons_succ, i64_w, i32_w]
     rfl
    refine pure_ (i := 15) (N := some 59) (v := undef) (a' := ?_) #[true, true, true, true, true, true, true, true, true, true, true, true, true, true, true, true, false, false, false, false, false, false, false, false, false, false, false, false, false, false, false, false, false] rfl rfl (any_of HT_.out (by kernel_rfl)) (fun _ _ _ h => h) (Or.inr ⟨by rfl, rfl⟩) ?_ ?_
    rotate_left
    ·simp only [Act.put, List.setIfInBounds_toArray, List.set_cons_zero, List.set_cons_succ, i64_w, i32_w]
     rfl
    refine pure_ (i := 16) (N := some 60) (v := undef) (a' := ?_) #[true, true, true, true, true, true, true, true, true, true, true, true, true, true, true, true, true, false, false, false, false, false, false, false, false, false, false, false, false, false, false, false, false] rfl rfl (any_of HT_.out (by kernel_rfl)) (fun _ _ _ h => h) (Or.inr ⟨by rfl, rfl⟩) ?_ ?_
    rotate_left
    ·simp only [Act.put, List.setIfInBounds_toArray, List.set_cons_zero, List.set_cons_succ, i64_w, i32_w]
     rfl
    refine pure_ (i := 17) (N := some 61) (v := undef) (a' := ?_) #[true, true, true, true, true, true, true, true, true, true, true, true, true, true, true, true, true, true, false, false, false, false, false, false, false, false, false, false, false, false, false, false, false] rfl rfl (any_of HT_.out (by kernel_rfl)) (fun _ _ _ h => h) (Or.inr ⟨by rfl, rfl⟩) ?_ ?_
    rotate_left
    ·simp only [Act.put, List.setIfInBounds_toArray, List.set_cons_zero, List.set_cons_succ, i64_w, i32_w]
     rfl
    refine pure_ (i := 18) (N := some 62) (v := undef) (a' := ?_) #[true, true, true, true, true, true, true, true, true, true, true, true, true, true, true, true, true, true, true, false, false, false, false, false, false, false, false, false, false, false, false, false, false] rfl rfl (any_of HT_.out (by kernel_rfl)) (fun _ _ _ h => h) (Or.inr ⟨by rfl, rfl⟩) ?_ ?_
    rotate_left
    ·simp only [Act.put, List.setIfInBounds_toArray, List.set_cons_zero, List.set_cons_succ, i64_w, i32_w]
     rfl
    refine pure_ (i := 19) (N := some 63) (v := undef) (a' := ?_) #[true, true, true, true, true, true, true, true, true, true, true, true, true, true, true, true, true, true, true, true, false, false, false, false, false, false, false, false, false, false, false, false, false] rfl rfl (any_of HT_.out (by kernel_rfl)) (fun _ _ _ h => h) (Or.inr ⟨by rfl, rfl⟩) ?_ ?_
    rotate_left
    ·simp only [Act.put, List.setIfInBounds_toArray, List.set_cons_zero, List.set_cons_succ, i64_w, i32_w]
     rfl
    refine pure_ (i := 20) (N := some 64) (v := undef) (a' := ?_) #[true, true, true, true, true, true, true, true, true, true, true, true, true, true, true, true, true, true, true, true, true, false, false, false, false, false, false, false, false, false, false, false, false] rfl rfl (any_of HT_.out (by kernel_rfl)) (fun _ _ _ h => h) (Or.inr ⟨by rfl, rfl⟩) ?_ ?_
    rotate_left
    ·simp only [Act.put, List.setIfInBounds_toArray, List.set_cons_zero, List.set_cons_succ, i64_w, i32_w]
     rfl
    refine pure_ (i := 21) (N := some 65) (v := undef) (a' := ?_) #[true, true, true, true, true, true, true, true, true, true, true, true, true, true, true, true, true, true, true, true, true, true, false, false, false, false, false, false, false, false, false, false, false] rfl rfl (any_of HT_.out (by kernel_rfl)) (fun _ _ _ h => h) (Or.inr ⟨by rfl, rfl⟩) ?_ ?_
    rotate_left
    ·simp only [Act.put, List.setIfInBounds_toArray, List.set_cons_zero, List.set_cons_succ, i64_w, i32_w]
     rfl
    refine pure_ (i := 22) (N := some 66) (v := undef) (a' := ?_) #[true, true, true, true, true, true, true, true, true, true, true, true, true, true, true, true, true, true, true, true, true, true, true, false, false, false, false, false, false, false, false, false, false] rfl rfl (any_of HT_.out (by kernel_rfl)) (fun _ _ _ h => h) (Or.inr ⟨by rfl, rfl⟩) ?_ ?_
    rotate_left
    ·simp only [Act.put, List.setIfInBounds_toArray, List.set_cons_zero, List.set_cons_succ, i64_w, i32_w]
     rfl
    refine pure_ (i := 23) (N := some 67) (v := undef) (a' := ?_) #[true, true, true, true, true, true, true, true, true, true, true, true, true, true, true, true, true, true, true, true, true, true, true, true, false, false, false, false, false, false, false, false, false] rfl rfl (any_of HT_.out (by kernel_rfl)) (fun _ _ _ h => h) (Or.inr ⟨by rfl, rfl⟩) ?_ ?_
    rotate_left
    ·simp only [Act.put, List.setIfInBounds_toArray, List.set_cons_zero, List.set_cons_succ, i64_w, i32_w]
     rfl
    refine pure_ (i := 24) (N := some 68) (v := undef) (a' := ?_) #[true, true, true, true, true, true, true, true, true, true, true, true, true, true, true, true, true, true, true, true, true, true, true, true, true, false, false, false, false, false, false, false, false] rfl rfl (any_of HT_.out (by kernel_rfl)) (fun _ _ _ h => h) (Or.inr ⟨by rfl, rfl⟩) ?_ ?_
    rotate_left
    ·simp only [Act.put, List.setIfInBounds_toArray, List.set_cons_zero, List.set_cons_succ, i64_w, i32_w]
     rfl
    refine pure_ (i := 25) (N := some 69) (v := undef) (a' := ?_) #[true, true, true, true, true, true, true, true, true, true, true, true, true, true, true, true, true, true, true, true, true, true, true, true, true, true, false, false, false, false, false, false, false] rfl rfl (any_of HT_.out (by kernel_rfl)) (fun _ _ _ h => h) (Or.inr ⟨by rfl, rfl⟩) ?_ ?_
    rotate_left
    ·simp only [Act.put, List.setIfInBounds_toArray, List.set_cons_zero, List.set_cons_succ, i64_w, i32_w]
     rfl
    refine pure_ (i := 26) (N := some 70) (v := undef) (a' := ?_) #[true, true, true, true, true, true, true, true, true, true, true, true, true, true, true, true, true, true, true, true, true, true, true, true, true, true, true, false, false, false, false, false, false] rfl rfl (any_of HT_.out (by kernel_rfl)) (fun _ _ _ h => h) (Or.inr ⟨by rfl, rfl⟩) ?_ ?_
    rotate_left
    ·simp only [Act.put, List.setIfInBounds_toArray, List.set_cons_zero, List.set_cons_succ, i64_w, i32_w]
     rfl
    refine pure_ (i := 27) (N := some 71) (v := undef) (a' := ?_) #[true, true, true, true, true, true, true, true, true, true, true, true, true, true, true, true, true, true, true, true, true, true, true, true, true, true, true, true, false, false, false, false, false] rfl rfl (any_of HT_.out (by kernel_rfl)) (fun _ _ _ h => h) (Or.inr ⟨by rfl, rfl⟩) ?_ ?_
    rotate_left
    ·simp only [Act.put, List.setIfInBounds_toArray, List.set_cons_zero, List.set_cons_succ, i64_w, i32_w]
     rfl
    refine pure_ (i := 28) (N := some 72) (v := undef) (a' := ?_) #[true, true, true, true, true, true, true, true, true, true, true, true, true, true, true, true, true, true, true, true, true, true, true, true, true, true, true, true, true, false, false, false, false] rfl rfl (any_of HT_.out (by kernel_rfl)) (fun _ _ _ h => h) (Or.inr ⟨by rfl, rfl⟩) ?_ ?_
    rotate_left
    ·simp only [Act.put, List.setIfInBounds_toArray, List.set_cons_zero, List.set_cons_succ, i64_w, i32_w]
     rfl
    refine pure_ (i := 29) (N := some 73) (v := undef) (a' := ?_) #[true, true, true, true, true, true, true, true, true, true, true, true, true, true, true, true, true, true, true, true, true, true, true, true, true, true, true, true, true, true, false, false, false] rfl rfl (any_of HT_.out (by kernel_rfl)) (fun _ _ _ h => h) (Or.inr ⟨by rfl, rfl⟩) ?_ ?_
    rotate_left
    ·simp only [Act.put, List.setIfInBounds_toArray, List.set_cons_zero, List.set_cons_succ, i64_w, i32_w]
     rfl
    refine pure_ (i := 30) (N := some 74) (v := undef) (a' := ?_) #[true, true, true, true, true, true, true, true, true, true, true, true, true, true, true, true, true, true, true, true, true, true, true, true, true, true, true, true, true, true, true, false, false] rfl rfl (any_of HT_.out (by kernel_rfl)) (fun _ _ _ h => h) (Or.inr ⟨by rfl, rfl⟩) ?_ ?_
    rotate_left
    ·simp only [Act.put, List.setIfInBounds_toArray, List.set_cons_zero, List.set_cons_succ, i64_w, i32_w]
     rfl
    refine pure_ (i := 31) (N := some 75) (v := ?_) (a' := ?_) #[true, true, true, true, true, true, true, true, true, true, true, true, true, true, true, true, true, true, true, true, true, true, true, true, true, true, true, true, true, true, true, true, false] rfl rfl (any_of HT_.out (by kernel_rfl)) (fun _ _ _ h => h) (Or.inl ⟨by rfl, ?_⟩) ?_ ?_
    rotate_left
    ·intro w'
     go_simp
     with_reducible rfl
    rotate_left
    ·simp only [Act.put, List.setIfInBounds_toArray, List.set_cons_zero, List.set_cons_succ, i64_w, i32_w]
     rfl
    refine pure_ (i := 32) (N := some 6) (v := ?_) (a' := ?_) #[true, true, true, true, true, true, true, true, true, true, true, true, true, true, true, true, true, true, true, true, true, true, true, true, true, true, true, true, true, true, true, true, true] rfl rfl (any_of HT_.out (by kernel_rfl)) (fun _ _ _ h => h) (Or.inl ⟨by rfl, ?_⟩) ?_ ?_
    rotate_left
    ·intro w'
     go_simp
     with_reducible rfl
    rotate_left
    ·simp only [Act.put, List.setIfInBounds_toArray, List.set_cons_zero, List.set_cons_succ, i64_w, i32_w]
     rfl
    refine done_ (done_of HT_.out (by kernel_rfl)) ?_
    try go_wp2
    go_ret
    exact ⟨by first | rfl | (simp [errW_none, errW_some] <;> rfl) | (simp [*, errW_none, errW_some] <;> rfl), belt HB⟩
 replace c5 := Bool.eq_false_iff.mpr c5
 subst c5
 have H1 : (none) = some r := by rw [if_neg (show ¬ (false = true) by decide)] at H; exact H
 clear H
 have H := H1
 clear H1
 exact absurd H (by simp)

/-- THE ONE PURE STATEMENT of turnstonelaw05_ItemTells. -/
def turnstonelaw05_ItemTells.Pure : Prop := ∀ (a0_0 : Int) (a0_1 : Int) (a0_2 : Int) (a0_3 : Int) (a0_4 : Int) (a0_5 : Int) (a0_6 : Int) (a1_0 : Int) (a1_1 : Int) (a1_2 : Int) (a1_3 : Int) (a1_4 : Int) (a1_5 : Int) (a1_6 : Int) (a2 : Int), (Lit.int .u64 a0_0).wf = true → (Lit.int .u32 a0_1).wf = true → (Lit.int .u32 a0_2).wf = true → (Lit.int .i64 a0_3).wf = true → (Lit.int .u64 a0_4).wf = true → (Lit.int .u32 a0_5).wf = true → (Lit.int .u32 a0_6).wf = true → (Lit.int .u64 a1_0).wf = true → (Lit.int .u32 a1_1).wf = true → (Lit.int .u32 a1_2).wf = true → (Lit.int .i64 a1_3).wf = true → (Lit.int .u64 a1_4).wf = true → (Lit.int .u32 a1_5).wf = true → (Lit.int .u32 a1_6).wf = true → (Lit.int .u64 a2).wf = true → ∃ k, turnstonelaw05_ItemTells.f k a0_0 a0_1 a0_2 a0_3 a0_4 a0_5 a0_6 a1_0 a1_1 a1_2 a1_3 a1_4 a1_5 a1_6 a2 = some true
theorem turnstonelaw05_ItemTells.walk (P : turnstonelaw05_ItemTells.Pure) (a0_0 : Int) (a0_1 : Int) (a0_2 : Int) (a0_3 : Int) (a0_4 : Int) (a0_5 : Int) (a0_6 : Int) (a1_0 : Int) (a1_1 : Int) (a1_2 : Int) (a1_3 : Int) (a1_4 : Int) (a1_5 : Int) (a1_6 : Int) (a2 : Int) (w : World) (w0_0 : (Lit.int .u64 a0_0).wf = true) (w0_1 : (Lit.int .u32 a0_1).wf = true) (w0_2 : (Lit.int .u32 a0_2).wf = true) (w0_3 : (Lit.int .i64 a0_3).wf = true) (w0_4 : (Lit.int .u64 a0_4).wf = true) (w0_5 : (Lit.int .u32 a0_5).wf = true) (w0_6 : (Lit.int .u32 a0_6).wf = true) (w1_0 : (Lit.int .u64 a1_0).wf = true) (w1_1 : (Lit.int .u32 a1_1).wf = true) (w1_2 : (Lit.int .u32 a1_2).wf = true) (w1_3 : (Lit.int .i64 a1_3).wf = true) (w1_4 : (Lit.int .u64 a1_4).wf = true) (w1_5 : (Lit.int .u32 a1_5).wf = true) (w1_6 : (Lit.int .u32 a1_6).wf = true) (w2 : (Lit.int .u64 a2).wf = true) :
  Calls Try.prog 4 #[.agg #[.int .u64 a0_0, .int .u32 a0_1, .int .u32 a0_2, .int .i64 a0_3, .int .u64 a0_4, .int .u32 a0_5, .int .u32 a0_6], .agg #[.int .u64 a1_0, .int .u32 a1_1, .int .u32 a1_2, .int .i64 a1_3, .int .u64 a1_4, .int .u32 a1_5, .int .u32 a1_6], .int .u64 a2] w fun e w' => e = .returned (.bool true) ∧ Below w.heap.size w w' := by
 obtain ⟨k, h⟩ := P a0_0 a0_1 a0_2 a0_3 a0_4 a0_5 a0_6 a1_0 a1_1 a1_2 a1_3 a1_4 a1_5 a1_6 a2 w0_0 w0_1 w0_2 w0_3 w0_4 w0_5 w0_6 w1_0 w1_1 w1_2 w1_3 w1_4 w1_5 w1_6 w2
 refine (turnstonelaw05_ItemTells.calls k a0_0 a0_1 a0_2 a0_3 a0_4 a0_5 a0_6 a1_0 a1_1 a1_2 a1_3 a1_4 a1_5 a1_6 a2 true w h).mono ?_
 rintro e w' ⟨rfl, hd⟩
 exact ⟨rfl, hd⟩

end Go.Proofs.Ytdfpkjdhndfcbaa.Print
