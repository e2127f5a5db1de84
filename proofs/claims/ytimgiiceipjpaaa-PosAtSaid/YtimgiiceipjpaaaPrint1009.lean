/- What each Go function that is named below answers, as a Lean function, and that its walk comes to just that: for whatever arguments that function gives an answer for. Written by a program of this session (wip/mkpr.py, pr.sh). -/
import Derived.Test.YtimgiiceipjpaaaPrint1000
import Derived.Test.YtimgiiceipjpaaaPrint1001
import Derived.Test.YtimgiiceipjpaaaPrint1005
import Derived.Test.YtimgiiceipjpaaaPrint1002
namespace Go.Proofs.Ytimgiiceipjpaaa.Print
open Go.RowKit Go.Proofs.YtimgiiceipjpaaaW.PrintWords Go.Proofs.YtimgiiceipjpaaaW.PrintLast Go.Proofs.YtimgiiceipjpaaaW.PrintMore
attribute [local go_sem] max2_int min2_int max_two min_two max_three min_three max_four min_four   -- for this text's walks alone
open Go.Proofs.Ytimgiiceipjpaaa.Bits Go.Proofs.Ytimgiiceipjpaaa.Short
attribute [local go_sem] add64_run0 sub64_run0 add64_run sub64_run
set_option linter.unusedVariables false
set_option linter.unusedSimpArgs false

attribute [local go_sem high] eqA71
/-! ### turnstonelaw04_PosAt: function 13 -/
def turnstonelaw04_PosAt.f (k : Nat) (a0 : Int) (a1_0 : Int) (a1_1 : Int) (a2 : Int) (a3_0 : Int) (a3_1 : Int) (a3_2 : Int) (a4 : Int) : Option (Bool) := (turnstonelaw04_awake.f).bind fun t490 => (if t490 = true then ((pos_At.f k a0 a1_0 a1_1 a2).bind fun bt491 => ((turnstonelaw01_Of.f k a1_0 a1_1).bind fun bt496 => ((turnstoneref04_At.f k a0 bt496.1 bt496.2 a2).bind fun bt500 => ((pos_Pos_Move.f k a3_0 a3_1 a3_2 a4).bind fun bt505 => ((turnstoneref01_U.f k a4).bind fun bt510 => ((turnstoneref01_U.f k (IntKind.u64.wrap (a3_1))).bind fun bt514 => ((turnstoneref01_Add.f k bt510.1 bt510.2 bt514.1 bt514.2).bind fun bt518 => ((turnstoneref04_At.f k a3_0 bt518.1 bt518.2 a3_2).bind fun bt522 => ((turnstonelaw04_Of.f bt491.1 bt491.2.1 bt491.2.2.1).bind fun bt527 => (if (bt527.1 == bt500.1 && (bt527.2.1 == bt500.2.1 && (bt527.2.2 == bt500.2.2.1))) = true then (if (bt491.2.2.2 == bt500.2.2.2) = true then ((turnstonelaw04_Of.f bt505.1 bt505.2.1 bt505.2.2.1).bind fun bt530 => (if (bt530.1 == bt522.1 && (bt530.2.1 == bt522.2.1 && (bt530.2.2 == bt522.2.2.1))) = true then (some (bt505.2.2.2 == bt522.2.2.2)) else (none))) else (none)) else (none))))))))))) else (none))
theorem turnstonelaw04_PosAt.mono : ∀ a0 a1 a2 a3 a4 a5 a6 a7 k, LeO (turnstonelaw04_PosAt.f k a0 a1 a2 a3 a4 a5 a6 a7) (turnstonelaw04_PosAt.f (k + 1) a0 a1 a2 a3 a4 a5 a6 a7) := by
 intro a0 a1 a2 a3 a4 a5 a6 a7 k
 unfold turnstonelaw04_PosAt.f
 repeat' first
   | (with_reducible exact pos_At.mono _ _ _ _ _)
   | (with_reducible exact pos_Pos_Move.mono _ _ _ _ _)
   | (with_reducible exact turnstonelaw01_Of.mono _ _ _)
   | (with_reducible exact turnstoneref01_Add.mono _ _ _ _ _)
   | (with_reducible exact turnstoneref01_U.mono _ _)
   | (with_reducible exact turnstoneref04_At.mono _ _ _ _ _)
   | (with_reducible exact LeO.refl _)
   | (with_reducible exact LeO.none _)
   | (with_reducible refine LeO.ite ?_ ?_)
   | (with_reducible refine LeO.bind ?_ (fun _ => ?_))
   | exact pos_At.mono _ _ _ _ _
   | exact pos_Pos_Move.mono _ _ _ _ _
   | exact turnstonelaw01_Of.mono _ _ _
   | exact turnstoneref01_Add.mono _ _ _ _ _
   | exact turnstoneref01_U.mono _ _
   | exact turnstoneref04_At.mono _ _ _ _ _
   | exact LeO.none _
   | refine LeO.ite ?_ ?_
   | refine LeO.bind ?_ (fun _ => ?_)
def turnstonelaw04_PosAt.T6 : Bool × List (List Nat × List Nat) := (true, [([], []), ([0], [0]), ([], []), ([2], [2]), ([], []), ([4], [4]), ([5], [5]), ([6, 3], [6]), ([3, 7, 7], [3, 7]), ([], []), ([9], [9]), ([1, 8, 10, 8], [1, 8, 10]), ([11], [11]), ([12], [12]), ([12], [12]), ([], []), ([15, 13, 11, 0, 1, 2, 3, 4, 5, 6, 7, 8, 9, 10, 11, 12, 13, 15], [13, 15]), ([14, 16, 0, 1, 2, 3, 4, 5, 6, 7, 8, 9, 10, 11, 12, 13, 14, 15, 16], [14])])
def turnstonelaw04_PosAt.B6 : List Nat := [0, 1, 0, 4, 0, 16, 48, 124, 252, 0, 512, 2047, 4095, 8191, 8191, 0, 49151, 131071]
theorem turnstonelaw04_PosAt.tab6 : rtab .any (opsOf Try.f13 6) = turnstonelaw04_PosAt.T6 := by kernel_rfl
theorem turnstonelaw04_PosAt.bits6 : waitsOk turnstonelaw04_PosAt.T6.2 turnstonelaw04_PosAt.B6 = true := by kernel_rfl
def turnstonelaw04_PosAt.T7 : Bool × List (List Nat × List Nat) := (true, [([], []), ([0], [0]), ([], []), ([1, 2], [1, 2]), ([3, 1], [3]), ([4], [4]), ([4], [4]), ([5, 6, 4], [4, 5, 6]), ([4, 7], [4, 7]), ([8, 4], [8]), ([9], [9]), ([10, 9, 9], [9, 10]), ([9], [9]), ([11, 12, 9], [9, 11, 12]), ([9, 13], [9, 13]), ([14, 11], [14]), ([15], [15]), ([15], [15]), ([16, 17, 15], [15, 16, 17]), ([15, 18], [15, 18]), ([19, 15, 0, 1, 2, 3, 4, 5, 6, 7, 8, 9, 10, 11, 12, 13, 14, 15, 16, 17, 18, 19], [19])])
def turnstonelaw04_PosAt.B7 : List Nat := [0, 1, 0, 7, 15, 31, 31, 127, 255, 511, 1023, 2047, 1023, 8191, 16383, 32767, 65535, 65535, 262143, 524287, 1048575]
theorem turnstonelaw04_PosAt.tab7 : rtab .any (opsOf Try.f13 7) = turnstonelaw04_PosAt.T7 := by kernel_rfl
theorem turnstonelaw04_PosAt.bits7 : waitsOk turnstonelaw04_PosAt.T7.2 turnstonelaw04_PosAt.B7 = true := by kernel_rfl
set_option maxHeartbeats 8000000 in
set_option maxRecDepth 100000 in
theorem turnstonelaw04_PosAt.calls (k : Nat) (a0 : Int) (a1_0 : Int) (a1_1 : Int) (a2 : Int) (a3_0 : Int) (a3_1 : Int) (a3_2 : Int) (a4 : Int) (r : Bool) (w : World) (h : turnstonelaw04_PosAt.f k a0 a1_0 a1_1 a2 a3_0 a3_1 a3_2 a4 = some r) :
  Calls Try.prog 13 #[.int .u64 a0, .agg #[.int .i64 a1_0, .int .u64 a1_1], .int .u32 a2, .agg #[.int .u64 a3_0, .int .u32 a3_1, .int .u32 a3_2], .int .u64 a4] w fun e w' => e = .returned (.bool r) ∧ Below w.heap.size w w' := by
 have hu59 := Try.underlying59
 have hu67 := Try.underlying67
 have hu71 := Try.underlying71
 have HB := Aside0.mk (Below.refl w.heap.size w)
 have H : ((turnstonelaw04_awake.f).bind fun t490 => (if t490 = true then ((pos_At.f k a0 a1_0 a1_1 a2).bind fun bt491 => ((turnstonelaw01_Of.f k a1_0 a1_1).bind fun bt496 => ((turnstoneref04_At.f k a0 bt496.1 bt496.2 a2).bind fun bt500 => ((pos_Pos_Move.f k a3_0 a3_1 a3_2 a4).bind fun bt505 => ((turnstoneref01_U.f k a4).bind fun bt510 => ((turnstoneref01_U.f k (IntKind.u64.wrap (a3_1))).bind fun bt514 => ((turnstoneref01_Add.f k bt510.1 bt510.2 bt514.1 bt514.2).bind fun bt518 => ((turnstoneref04_At.f k a3_0 bt518.1 bt518.2 a3_2).bind fun bt522 => ((turnstonelaw04_Of.f bt491.1 bt491.2.1 bt491.2.2.1).bind fun bt527 => (if (bt527.1 == bt500.1 && (bt527.2.1 == bt500.2.1 && (bt527.2.2 == bt500.2.2.1))) = true then (if (bt491.2.2.2 == bt500.2.2.2) = true then ((turnstonelaw04_Of.f bt505.1 bt505.2.1 bt505.2.2.1).bind fun bt530 => (if (bt530.1 == bt522.1 && (bt530.2.1 == bt522.2.1 && (bt530.2.2 == bt522.2.2.1))) = true then (some (bt505.2.2.2 == bt522.2.2.2)) else (none))) else (none)) else (none))))))))))) else (none))) = some r := h
 clear h
 replace H := Option.bind_eq_some_iff.mp H
 obtain ⟨t490, A60, H⟩ := H
 replace H : (if t490 = true then ((pos_At.f k a0 a1_0 a1_1 a2).bind fun bt491 => ((turnstonelaw01_Of.f k a1_0 a1_1).bind fun bt496 => ((turnstoneref04_At.f k a0 bt496.1 bt496.2 a2).bind fun bt500 => ((pos_Pos_Move.f k a3_0 a3_1 a3_2 a4).bind fun bt505 => ((turnstoneref01_U.f k a4).bind fun bt510 => ((turnstoneref01_U.f k (IntKind.u64.wrap (a3_1))).bind fun bt514 => ((turnstoneref01_Add.f k bt510.1 bt510.2 bt514.1 bt514.2).bind fun bt518 => ((turnstoneref04_At.f k a3_0 bt518.1 bt518.2 a3_2).bind fun bt522 => ((turnstonelaw04_Of.f bt491.1 bt491.2.1 bt491.2.2.1).bind fun bt527 => (if (bt527.1 == bt500.1 && (bt527.2.1 == bt500.2.1 && (bt527.2.2 == bt500.2.2.1))) = true then (if (bt491.2.2.2 == bt500.2.2.2) = true then ((turnstonelaw04_Of.f bt505.1 bt505.2.1 bt505.2.2.1).bind fun bt530 => (if (bt530.1 == bt522.1 && (bt530.2.1 == bt522.2.1 && (bt530.2.2 == bt522.2.2.1))) = true then (some (bt505.2.2.2 == bt522.2.2.2)) else (none))) else (none)) else (none))))))))))) else (none)) = some r := H
 have A6 := Aside0.mk A60
 clear A60
 by_cases c7 : t490 = true
 ·subst c7
  have H1 : ((pos_At.f k a0 a1_0 a1_1 a2).bind fun bt491 => ((turnstonelaw01_Of.f k a1_0 a1_1).bind fun bt496 => ((turnstoneref04_At.f k a0 bt496.1 bt496.2 a2).bind fun bt500 => ((pos_Pos_Move.f k a3_0 a3_1 a3_2 a4).bind fun bt505 => ((turnstoneref01_U.f k a4).bind fun bt510 => ((turnstoneref01_U.f k (IntKind.u64.wrap (a3_1))).bind fun bt514 => ((turnstoneref01_Add.f k bt510.1 bt510.2 bt514.1 bt514.2).bind fun bt518 => ((turnstoneref04_At.f k a3_0 bt518.1 bt518.2 a3_2).bind fun bt522 => ((turnstonelaw04_Of.f bt491.1 bt491.2.1 bt491.2.2.1).bind fun bt527 => (if (bt527.1 == bt500.1 && (bt527.2.1 == bt500.2.1 && (bt527.2.2 == bt500.2.2.1))) = true then (if (bt491.2.2.2 == bt500.2.2.2) = true then ((turnstonelaw04_Of.f bt505.1 bt505.2.1 bt505.2.2.1).bind fun bt530 => (if (bt530.1 == bt522.1 && (bt530.2.1 == bt522.2.1 && (bt530.2.2 == bt522.2.2.1))) = true then (some (bt505.2.2.2 == bt522.2.2.2)) else (none))) else (none)) else (none))))))))))) = some r := by rw [if_pos rfl] at H; exact H
  clear H
  have H := H1
  clear H1
  replace H := Option.bind_eq_some_iff.mp H
  obtain ⟨⟨t491, t492, t493, t494⟩, A80, H⟩ := H
  replace H : ((turnstonelaw01_Of.f k a1_0 a1_1).bind fun bt496 => ((turnstoneref04_At.f k a0 bt496.1 bt496.2 a2).bind fun bt500 => ((pos_Pos_Move.f k a3_0 a3_1 a3_2 a4).bind fun bt505 => ((turnstoneref01_U.f k a4).bind fun bt510 => ((turnstoneref01_U.f k (IntKind.u64.wrap (a3_1))).bind fun bt514 => ((turnstoneref01_Add.f k bt510.1 bt510.2 bt514.1 bt514.2).bind fun bt518 => ((turnstoneref04_At.f k a3_0 bt518.1 bt518.2 a3_2).bind fun bt522 => ((turnstonelaw04_Of.f t491 t492 t493).bind fun bt527 => (if (bt527.1 == bt500.1 && (bt527.2.1 == bt500.2.1 && (bt527.2.2 == bt500.2.2.1))) = true then (if (t494 == bt500.2.2.2) = true then ((turnstonelaw04_Of.f bt505.1 bt505.2.1 bt505.2.2.1).bind fun bt530 => (if (bt530.1 == bt522.1 && (bt530.2.1 == bt522.2.1 && (bt530.2.2 == bt522.2.2.1))) = true then (some (bt505.2.2.2 == bt522.2.2.2)) else (none))) else (none)) else (none)))))))))) = some r := H
  have A8 := Aside0.mk A80
  clear A80
  replace H := Option.bind_eq_some_iff.mp H
  obtain ⟨⟨t496, t497⟩, A90, H⟩ := H
  replace H : ((turnstoneref04_At.f k a0 t496 t497 a2).bind fun bt500 => ((pos_Pos_Move.f k a3_0 a3_1 a3_2 a4).bind fun bt505 => ((turnstoneref01_U.f k a4).bind fun bt510 => ((turnstoneref01_U.f k (IntKind.u64.wrap (a3_1))).bind fun bt514 => ((turnstoneref01_Add.f k bt510.1 bt510.2 bt514.1 bt514.2).bind fun bt518 => ((turnstoneref04_At.f k a3_0 bt518.1 bt518.2 a3_2).bind fun bt522 => ((turnstonelaw04_Of.f t491 t492 t493).bind fun bt527 => (if (bt527.1 == bt500.1 && (bt527.2.1 == bt500.2.1 && (bt527.2.2 == bt500.2.2.1))) = true then (if (t494 == bt500.2.2.2) = true then ((turnstonelaw04_Of.f bt505.1 bt505.2.1 bt505.2.2.1).bind fun bt530 => (if (bt530.1 == bt522.1 && (bt530.2.1 == bt522.2.1 && (bt530.2.2 == bt522.2.2.1))) = true then (some (bt505.2.2.2 == bt522.2.2.2)) else (none))) else (none)) else (none))))))))) = some r := H
  have A9 := Aside0.mk A90
  clear A90
  replace H := Option.bind_eq_some_iff.mp H
  obtain ⟨⟨t500, t501, t502, t503⟩, A100, H⟩ := H
  replace H : ((pos_Pos_Move.f k a3_0 a3_1 a3_2 a4).bind fun bt505 => ((turnstoneref01_U.f k a4).bind fun bt510 => ((turnstoneref01_U.f k (IntKind.u64.wrap (a3_1))).bind fun bt514 => ((turnstoneref01_Add.f k bt510.1 bt510.2 bt514.1 bt514.2).bind fun bt518 => ((turnstoneref04_At.f k a3_0 bt518.1 bt518.2 a3_2).bind fun bt522 => ((turnstonelaw04_Of.f t491 t492 t493).bind fun bt527 => (if (bt527.1 == t500 && (bt527.2.1 == t501 && (bt527.2.2 == t502))) = true then (if (t494 == t503) = true then ((turnstonelaw04_Of.f bt505.1 bt505.2.1 bt505.2.2.1).bind fun bt530 => (if (bt530.1 == bt522.1 && (bt530.2.1 == bt522.2.1 && (bt530.2.2 == bt522.2.2.1))) = true then (some (bt505.2.2.2 == bt522.2.2.2)) else (none))) else (none)) else (none)))))))) = some r := H
  have A10 := Aside0.mk A100
  clear A100
  replace H := Option.bind_eq_some_iff.mp H
  obtain ⟨⟨t505, t506, t507, t508⟩, A110, H⟩ := H
  replace H : ((turnstoneref01_U.f k a4).bind fun bt510 => ((turnstoneref01_U.f k (IntKind.u64.wrap (a3_1))).bind fun bt514 => ((turnstoneref01_Add.f k bt510.1 bt510.2 bt514.1 bt514.2).bind fun bt518 => ((turnstoneref04_At.f k a3_0 bt518.1 bt518.2 a3_2).bind fun bt522 => ((turnstonelaw04_Of.f t491 t492 t493).bind fun bt527 => (if (bt527.1 == t500 && (bt527.2.1 == t501 && (bt527.2.2 == t502))) = true then (if (t494 == t503) = true then ((turnstonelaw04_Of.f t505 t506 t507).bind fun bt530 => (if (bt530.1 == bt522.1 && (bt530.2.1 == bt522.2.1 && (bt530.2.2 == bt522.2.2.1))) = true then (some (t508 == bt522.2.2.2)) else (none))) else (none)) else (none))))))) = some r := H
  have A11 := Aside0.mk A110
  clear A110
  replace H := Option.bind_eq_some_iff.mp H
  obtain ⟨⟨t510, t511⟩, A120, H⟩ := H
  replace H : ((turnstoneref01_U.f k (IntKind.u64.wrap (a3_1))).bind fun bt514 => ((turnstoneref01_Add.f k t510 t511 bt514.1 bt514.2).bind fun bt518 => ((turnstoneref04_At.f k a3_0 bt518.1 bt518.2 a3_2).bind fun bt522 => ((turnstonelaw04_Of.f t491 t492 t493).bind fun bt527 => (if (bt527.1 == t500 && (bt527.2.1 == t501 && (bt527.2.2 == t502))) = true then (if (t494 == t503) = true then ((turnstonelaw04_Of.f t505 t506 t507).bind fun bt530 => (if (bt530.1 == bt522.1 && (bt530.2.1 == bt522.2.1 && (bt530.2.2 == bt522.2.2.1))) = true then (some (t508 == bt522.2.2.2)) else (none))) else (none)) else (none)))))) = some r := H
  have A12 := Aside0.mk A120
  clear A120
  replace H := Option.bind_eq_some_iff.mp H
  obtain ⟨⟨t514, t515⟩, A130, H⟩ := H
  replace H : ((turnstoneref01_Add.f k t510 t511 t514 t515).bind fun bt518 => ((turnstoneref04_At.f k a3_0 bt518.1 bt518.2 a3_2).bind fun bt522 => ((turnstonelaw04_Of.f t491 t492 t493).bind fun bt527 => (if (bt527.1 == t500 && (bt527.2.1 == t501 && (bt527.2.2 == t502))) = true then (if (t494 == t503) = true then ((turnstonelaw04_Of.f t505 t506 t507).bind fun bt530 => (if (bt530.1 == bt522.1 && (bt530.2.1 == bt522.2.1 && (bt530.2.2 == bt522.2.2.1))) = true then (some (t508 == bt522.2.2.2)) else (none))) else (none)) else (none))))) = some r := H
  have A13 := Aside0.mk A130
  clear A130
  replace H := Option.bind_eq_some_iff.mp H
  obtain ⟨⟨t518, t519⟩, A140, H⟩ := H
  replace H : ((turnstoneref04_At.f k a3_0 t518 t519 a3_2).bind fun bt522 => ((turnstonelaw04_Of.f t491 t492 t493).bind fun bt527 => (if (bt527.1 == t500 && (bt527.2.1 == t501 && (bt527.2.2 == t502))) = true then (if (t494 == t503) = true then ((turnstonelaw04_Of.f t505 t506 t507).bind fun bt530 => (if (bt530.1 == bt522.1 && (bt530.2.1 == bt522.2.1 && (bt530.2.2 == bt522.2.2.1))) = true then (some (t508 == bt522.2.2.2)) else (none))) else (none)) else (none)))) = some r := H
  have A14 := Aside0.mk A140
  clear A140
  replace H := Option.bind_eq_some_iff.mp H
  obtain ⟨⟨t522, t523, t524, t525⟩, A150, H⟩ := H
  replace H : ((turnstonelaw04_Of.f t491 t492 t493).bind fun bt527 => (if (bt527.1 == t500 && (bt527.2.1 == t501 && (bt527.2.2 == t502))) = true then (if (t494 == t503) = true then ((turnstonelaw04_Of.f t505 t506 t507).bind fun bt530 => (if (bt530.1 == t522 && (bt530.2.1 == t523 && (bt530.2.2 == t524))) = true then (some (t508 == t525)) else (none))) else (none)) else (none))) = some r := H
  have A15 := Aside0.mk A150
  clear A150
  replace H := Option.bind_eq_some_iff.mp H
  obtain ⟨⟨t527, t528, t529⟩, A160, H⟩ := H
  replace H : (if (t527 == t500 && (t528 == t501 && (t529 == t502))) = true then (if (t494 == t503) = true then ((turnstonelaw04_Of.f t505 t506 t507).bind fun bt530 => (if (bt530.1 == t522 && (bt530.2.1 == t523 && (bt530.2.2 == t524))) = true then (some (t508 == t525)) else (none))) else (none)) else (none)) = some r := H
  have A16 := Aside0.mk A160
  clear A160
  by_cases c17 : (t527 == t500 && (t528 == t501 && (t529 == t502))) = true
  ·rw [if_pos c17] at H
   have c17b0 : (t527 == t500 && (t528 == t501 && (t529 == t502))) = true := c17
   (try (have c17b1 : decide (t527 = t500 && (t528 == t501 && (t529 == t502))) = true := by simpa using c17))
   (try (have c17b2 : (t527 == t500 && (t528 == t501 && (t529 == t502))) = true := by simpa using c17))
   clear c17
   by_cases c18 : (t494 == t503) = true
   ·rw [if_pos c18] at H
    have c18b0 : (t494 == t503) = true := c18
    (try (have c18b1 : decide (t494 = t503) = true := by simpa using c18))
    (try (have c18b2 : (t494 == t503) = true := by simpa using c18))
    clear c18
    replace H := Option.bind_eq_some_iff.mp H
    obtain ⟨⟨t530, t531, t532⟩, A190, H⟩ := H
    replace H : (if (t530 == t522 && (t531 == t523 && (t532 == t524))) = true then (some (t508 == t525)) else (none)) = some r := H
    have A19 := Aside0.mk A190
    clear A190
    by_cases c20 : (t530 == t522 && (t531 == t523 && (t532 == t524))) = true
    ·rw [if_pos c20] at H
     have c20b0 : (t530 == t522 && (t531 == t523 && (t532 == t524))) = true := c20
     (try (have c20b1 : decide (t530 = t522 && (t531 == t523 && (t532 == t524))) = true := by simpa using c20))
     (try (have c20b2 : (t530 == t522 && (t531 == t523 && (t532 == t524))) = true := by simpa using c20))
     clear c20
     obtain rfl := Option.some.inj H
     go_enter Try.func13, Try.ntmps13
     try go_wp2_with (first | ((with_reducible refine gate_dst (N := 6) rfl ?_); refine box_event ?hg (N := 6) ?hd (cs := #[.int .i64 a1_0, .int .u64 a1_1]) (t := 59) ?hr ?_; (case hd => rfl); (case hg => rfl); (case hr => first | (go_simp; done) | (go_simp; rfl)); intro gb488 hg w21 hbox hb; have BK488 := Aside0.mk (hbox); have GW488 := bels HB hg; have GE488 := bels HB hg; replace HB := belb HB hb; clear hb hbox hg) | ((with_reducible refine gate_dst (N := 8) rfl ?_); refine box_event ?hg (N := 8) ?hd (cs := #[.int .u64 a3_0, .int .u32 a3_1, .int .u32 a3_2]) (t := 67) ?hr ?_; (case hd => rfl); (case hg => rfl); (case hr => first | (go_simp; done) | (go_simp; rfl)); intro gb489 hg w22 hbox hb; have BK489 := Aside0.mk (hbox); have GW489 := bels HB hg; have GE489 := bels HB hg; have NB488_489 := blkl BK488 hg; have NB489_488 := blkg BK488 hg; replace BK488 := blkb BK488 hb; replace HB := belb HB hb; clear hb hbox hg) | ((with_reducible refine gate_callee (f := 44) rfl ?_); refine goesL_ (some 19) rfl rfl Try.func44 (by kernel_rfl) rfl #[] rfl argt ?_; (with_reducible refine (turnstonelaw04_awake.calls  true _ A6.out).mono ?_); rintro e w23 ⟨rfl, hb⟩; refine ⟨_, rfl, ?_⟩; replace BK488 := blkb BK488 hb; replace BK489 := blkb BK489 hb; replace HB := belb HB hb; (try clear hb); (try clear hb2); (try clear hk); (try clear hi); have hnb24 := NB488_489.out; have hnc24 := NB489_488.out; have hcz25_0 : w23.cell? ⟨gb488, 0, none⟩ = some (.int .i64 a1_0) := bc BK488 0; have hcz25_1 : w23.cell? ⟨gb488, 1, none⟩ = some (.int .u64 a1_1) := bc BK488 1; have hfz25_0 := blk_frozen BK488.out 0; have hfz25_1 := blk_frozen BK488.out 1) | ((with_reducible refine gate_callee (f := 45) rfl ?_); refine goesL_ (some 25) rfl rfl Try.func45 (by kernel_rfl) rfl #[.int .u64 a0, .agg #[.int .i64 a1_0, .int .u64 a1_1], .int .u32 a2] rfl argt ?_; (with_reducible refine (pos_At.calls k a0 a1_0 a1_1 a2 t491 t492 t493 t494 _ A8.out).mono ?_); rintro e w26 ⟨rfl, hb⟩; refine ⟨_, rfl, ?_⟩; replace BK488 := blkb BK488 hb; replace BK489 := blkb BK489 hb; replace HB := belb HB hb; (try clear hb); (try clear hb2); (try clear hk); (try clear hi)) | ((with_reducible refine gate_dst (N := 11) rfl ?_); refine box_event ?hg (N := 11) ?hd (cs := #[.int .u64 0, .int .u32 0, .int .u32 0]) (t := 67) ?hr ?_; (case hd => rfl); (case hg => rfl); (case hr => first | (go_simp; done) | (go_simp; rfl)); intro gb495 hg w27 hbox hb; have BK495 := Aside0.mk (hbox); have GW495 := bels HB hg; have GE495 := bels HB hg; have NB488_495 := blkl BK488 hg; have NB495_488 := blkg BK488 hg; have NB489_495 := blkl BK489 hg; have NB495_489 := blkg BK489 hg; replace BK488 := blkb BK488 hb; replace BK489 := blkb BK489 hb; replace HB := belb HB hb; clear hb hbox hg; have hnb28 := NB495_488.out; have hnc28 := NB488_495.out; have hnb29 := NB495_489.out; have hnc29 := NB489_495.out; have hcz30_0 : w27.cell? ⟨gb495, 0, none⟩ = some (.int .u64 0) := bc BK495 0; have hcz30_1 : w27.cell? ⟨gb495, 1, none⟩ = some (.int .u32 0) := bc BK495 1; have hcz30_2 : w27.cell? ⟨gb495, 2, none⟩ = some (.int .u32 0) := bc BK495 2; have hfz30_0 := blk_frozen BK495.out 0; have hfz30_1 := blk_frozen BK495.out 1; have hfz30_2 := blk_frozen BK495.out 2; have hcz31_0 : w27.cell? ⟨gb488, 0, none⟩ = some (.int .i64 a1_0) := bc BK488 0; have hcz31_1 : w27.cell? ⟨gb488, 1, none⟩ = some (.int .u64 a1_1) := bc BK488 1; have hfz31_0 := blk_frozen BK488.out 0; have hfz31_1 := blk_frozen BK488.out 1) | ((with_reducible refine gate_callee (f := 41) rfl ?_); refine goesL_ (some 31) rfl rfl Try.func41 (by kernel_rfl) rfl #[.agg #[.int .i64 a1_0, .int .u64 a1_1]] rfl argt ?_; (with_reducible refine (turnstonelaw01_Of.calls k a1_0 a1_1 t496 t497 _ A9.out).mono ?_); rintro e w32 ⟨v498, rfl, ho0, hb⟩; refine ⟨_, rfl, ?_⟩; have HO499 := Aside0.mk (Kd.V_lower (Kd.V_mono (ok' := fun k_ => k_ ≠ gb488 ∧ k_ ≠ gb489 ∧ k_ ≠ gb495) ho0 (fun k_ hk_ => ⟨(Kd.freshB (g := gb488) (o := .cells #[.int .i64 a1_0, .int .u64 a1_1] 59 (0, 0)) (by (with_reducible repeat (first | refine blk_drewN ?_ _ | refine blk_drew ?_ | refine blk_alloc ?_ _)); refine blk_far ?_ NB488_495.out _; (with_reducible repeat (first | refine blk_drewN ?_ _ | refine blk_drew ?_ | refine blk_alloc ?_ _)); refine blk_far ?_ NB488_495.out _; (with_reducible repeat (first | refine blk_drewN ?_ _ | refine blk_drew ?_ | refine blk_alloc ?_ _)); refine blk_far ?_ NB488_495.out _; exact blkt BK488) k_ hk_), (Kd.freshB (g := gb489) (o := .cells #[.int .u64 a3_0, .int .u32 a3_1, .int .u32 a3_2] 67 (0, 0)) (by (with_reducible repeat (first | refine blk_drewN ?_ _ | refine blk_drew ?_ | refine blk_alloc ?_ _)); refine blk_far ?_ NB489_495.out _; (with_reducible repeat (first | refine blk_drewN ?_ _ | refine blk_drew ?_ | refine blk_alloc ?_ _)); refine blk_far ?_ NB489_495.out _; (with_reducible repeat (first | refine blk_drewN ?_ _ | refine blk_drew ?_ | refine blk_alloc ?_ _)); refine blk_far ?_ NB489_495.out _; exact blkt BK489) k_ hk_), (Kd.freshB (g := gb495) (o := .cells #[.int .u64 t491, .int .u32 t492, .int .u32 t493] 67 (0, 0)) (by (with_reducible repeat (first | refine blk_drewN ?_ _ | refine blk_drew ?_ | refine blk_alloc ?_ _)); refine blk_put (cs := #[.int .u64 t491, .int .u32 t492, .int .u32 0]) ?_ 2 _ rfl; (with_reducible repeat (first | refine blk_drewN ?_ _ | refine blk_drew ?_ | refine blk_alloc ?_ _)); refine blk_put (cs := #[.int .u64 t491, .int .u32 0, .int .u32 0]) ?_ 1 _ rfl; (with_reducible repeat (first | refine blk_drewN ?_ _ | refine blk_drew ?_ | refine blk_alloc ?_ _)); refine blk_put (cs := #[.int .u64 0, .int .u32 0, .int .u32 0]) ?_ 0 _ rfl; exact blkt BK495) k_ hk_)⟩)) (below_size (belt HB))); replace BK488 := Aside0.mk (blk_below (g := gb488) (o := .cells #[.int .i64 a1_0, .int .u64 a1_1] 59 (0, 0)) (by (with_reducible repeat (first | refine blk_drewN ?_ _ | refine blk_drew ?_ | refine blk_alloc ?_ _)); refine blk_far ?_ NB488_495.out _; (with_reducible repeat (first | refine blk_drewN ?_ _ | refine blk_drew ?_ | refine blk_alloc ?_ _)); refine blk_far ?_ NB488_495.out _; (with_reducible repeat (first | refine blk_drewN ?_ _ | refine blk_drew ?_ | refine blk_alloc ?_ _)); refine blk_far ?_ NB488_495.out _; exact blkt BK488) hb); replace BK489 := Aside0.mk (blk_below (g := gb489) (o := .cells #[.int .u64 a3_0, .int .u32 a3_1, .int .u32 a3_2] 67 (0, 0)) (by (with_reducible repeat (first | refine blk_drewN ?_ _ | refine blk_drew ?_ | refine blk_alloc ?_ _)); refine blk_far ?_ NB489_495.out _; (with_reducible repeat (first | refine blk_drewN ?_ _ | refine blk_drew ?_ | refine blk_alloc ?_ _)); refine blk_far ?_ NB489_495.out _; (with_reducible repeat (first | refine blk_drewN ?_ _ | refine blk_drew ?_ | refine blk_alloc ?_ _)); refine blk_far ?_ NB489_495.out _; exact blkt BK489) hb); replace BK495 := Aside0.mk (blk_below (g := gb495) (o := .cells #[.int .u64 t491, .int .u32 t492, .int .u32 t493] 67 (0, 0)) (by (with_reducible repeat (first | refine blk_drewN ?_ _ | refine blk_drew ?_ | refine blk_alloc ?_ _)); refine blk_put (cs := #[.int .u64 t491, .int .u32 t492, .int .u32 0]) ?_ 2 _ rfl; (with_reducible repeat (first | refine blk_drewN ?_ _ | refine blk_drew ?_ | refine blk_alloc ?_ _)); refine blk_put (cs := #[.int .u64 t491, .int .u32 0, .int .u32 0]) ?_ 1 _ rfl; (with_reducible repeat (first | refine blk_drewN ?_ _ | refine blk_drew ?_ | refine blk_alloc ?_ _)); refine blk_put (cs := #[.int .u64 0, .int .u32 0, .int .u32 0]) ?_ 0 _ rfl; exact blkt BK495) hb); replace HB := belb HB hb; (try clear hb); (try clear hb2); (try clear hk); (try clear hi); (try clear ho0); obtain ⟨Ao33, co33, eo33⟩ := Kd.V_slice HO499.out; subst eo33) | ((with_reducible refine gate_callee (f := 46) rfl ?_); refine goesL_ (some 33) rfl rfl Try.func46 (by kernel_rfl) rfl #[.int .u64 a0, .agg #[.bool t496, .slice Ao33 t497.length co33], .int .u32 a2] rfl argt ?_; (with_reducible refine (turnstoneref04_At.calls k a0 t496 _ _ t497 a2 t500 t501 t502 t503 _ ?side1 ?side2 A10.out).mono ?_); (case side1 => repeat (first | exact (Kd.V_reads' HO499.out).2.2 | (with_reducible refine Kd.C_alloc ?_ _) | (with_reducible refine Kd.C_drewN ?_ _) | (with_reducible refine Kd.C_drew ?_))); (case side2 => exact (Kd.V_reads' HO499.out).2.1); rintro e w34 ⟨rfl, hb⟩; refine ⟨_, rfl, ?_⟩; replace HO499 := vb HO499 hb; replace BK488 := blkb BK488 hb; replace BK489 := blkb BK489 hb; replace BK495 := blkb BK495 hb; replace HB := belb HB hb; (try clear hb); (try clear hb2); (try clear hk); (try clear hi)) | ((with_reducible refine gate_dst (N := 13) rfl ?_); refine box_event ?hg (N := 13) ?hd (cs := #[.int .u64 0, .int .u32 0, .int .u32 0]) (t := 71) ?hr ?_; (case hd => rfl); (case hg => rfl); (case hr => first | (go_simp; done) | (go_simp; rfl)); intro gb504 hg w35 hbox hb; replace HO499 := Aside0.mk (Kd.V_below (Kd.V_elderB (vt HO499) gb504 (Nat.le_of_eq hg.symm)) hb); have BK504 := Aside0.mk (hbox); have GW504 := bels HB hg; have GE504 := bels HB hg; have NB488_504 := blkl BK488 hg; have NB504_488 := blkg BK488 hg; have NB489_504 := blkl BK489 hg; have NB504_489 := blkg BK489 hg; have NB495_504 := blkl BK495 hg; have NB504_495 := blkg BK495 hg; replace BK488 := blkb BK488 hb; replace BK489 := blkb BK489 hb; replace BK495 := blkb BK495 hb; replace HB := belb HB hb; clear hb hbox hg; have hnb36 := NB504_488.out; have hnc36 := NB488_504.out; have hnb37 := NB504_489.out; have hnc37 := NB489_504.out; have hnb38 := NB504_495.out; have hnc38 := NB495_504.out; have hcz39_0 : w35.cell? ⟨gb504, 0, none⟩ = some (.int .u64 0) := bc BK504 0; have hcz39_1 : w35.cell? ⟨gb504, 1, none⟩ = some (.int .u32 0) := bc BK504 1; have hcz39_2 : w35.cell? ⟨gb504, 2, none⟩ = some (.int .u32 0) := bc BK504 2; have hfz39_0 := blk_frozen BK504.out 0; have hfz39_1 := blk_frozen BK504.out 1; have hfz39_2 := blk_frozen BK504.out 2; have hcz40_0 : w35.cell? ⟨gb489, 0, none⟩ = some (.int .u64 a3_0) := bc BK489 0; have hcz40_1 : w35.cell? ⟨gb489, 1, none⟩ = some (.int .u32 a3_1) := bc BK489 1; have hcz40_2 : w35.cell? ⟨gb489, 2, none⟩ = some (.int .u32 a3_2) := bc BK489 2; have hfz40_0 := blk_frozen BK489.out 0; have hfz40_1 := blk_frozen BK489.out 1; have hfz40_2 := blk_frozen BK489.out 2) | ((with_reducible refine gate_callee (f := 47) rfl ?_); refine goesL_ (some 39) rfl rfl Try.func47 (by kernel_rfl) rfl #[.agg #[.int .u64 a3_0, .int .u32 a3_1, .int .u32 a3_2], .int .u64 a4] rfl argt ?_; (with_reducible refine (pos_Pos_Move.calls k a3_0 a3_1 a3_2 a4 t505 t506 t507 t508 _ A11.out).mono ?_); rintro e w41 ⟨rfl, hb⟩; refine ⟨_, rfl, ?_⟩; replace HO499 := Aside0.mk (Kd.V_below (by (with_reducible repeat (first | apply Kd.V_alloc | apply Kd.V_drewN | apply Kd.V_drew)); exact (Kd.V_mono (Kd.V_far (p := ⟨gb504, 2, none⟩) (Kd.V_far (p := ⟨gb504, 1, none⟩) (Kd.V_far (p := ⟨gb504, 0, none⟩) (Kd.V_mono HO499.out (fun k_ hk => (⟨hk, hk.2⟩ : _ ∧ k_ ≠ gb504))) (fun _ hk => hk.2) (.int .u64 t500)) (fun _ hk => hk.2) (.int .u32 t501)) (fun _ hk => hk.2) (.int .u32 t502)) (fun _ h_ => h_.1))) hb); replace BK488 := Aside0.mk (blk_below (g := gb488) (o := .cells #[.int .i64 a1_0, .int .u64 a1_1] 59 (0, 0)) (by (with_reducible repeat (first | refine blk_drewN ?_ _ | refine blk_drew ?_ | refine blk_alloc ?_ _)); refine blk_far ?_ NB488_504.out _; (with_reducible repeat (first | refine blk_drewN ?_ _ | refine blk_drew ?_ | refine blk_alloc ?_ _)); refine blk_far ?_ NB488_504.out _; (with_reducible repeat (first | refine blk_drewN ?_ _ | refine blk_drew ?_ | refine blk_alloc ?_ _)); refine blk_far ?_ NB488_504.out _; exact blkt BK488) hb); replace BK489 := Aside0.mk (blk_below (g := gb489) (o := .cells #[.int .u64 a3_0, .int .u32 a3_1, .int .u32 a3_2] 67 (0, 0)) (by (with_reducible repeat (first | refine blk_drewN ?_ _ | refine blk_drew ?_ | refine blk_alloc ?_ _)); refine blk_far ?_ NB489_504.out _; (with_reducible repeat (first | refine blk_drewN ?_ _ | refine blk_drew ?_ | refine blk_alloc ?_ _)); refine blk_far ?_ NB489_504.out _; (with_reducible repeat (first | refine blk_drewN ?_ _ | refine blk_drew ?_ | refine blk_alloc ?_ _)); refine blk_far ?_ NB489_504.out _; exact blkt BK489) hb); replace BK495 := Aside0.mk (blk_below (g := gb495) (o := .cells #[.int .u64 t491, .int .u32 t492, .int .u32 t493] 67 (0, 0)) (by (with_reducible repeat (first | refine blk_drewN ?_ _ | refine blk_drew ?_ | refine blk_alloc ?_ _)); refine blk_far ?_ NB495_504.out _; (with_reducible repeat (first | refine blk_drewN ?_ _ | refine blk_drew ?_ | refine blk_alloc ?_ _)); refine blk_far ?_ NB495_504.out _; (with_reducible repeat (first | refine blk_drewN ?_ _ | refine blk_drew ?_ | refine blk_alloc ?_ _)); refine blk_far ?_ NB495_504.out _; exact blkt BK495) hb); replace BK504 := Aside0.mk (blk_below (g := gb504) (o := .cells #[.int .u64 t500, .int .u32 t501, .int .u32 t502] 71 (0, 0)) (by (with_reducible repeat (first | refine blk_drewN ?_ _ | refine blk_drew ?_ | refine blk_alloc ?_ _)); refine blk_put (cs := #[.int .u64 t500, .int .u32 t501, .int .u32 0]) ?_ 2 _ rfl; (with_reducible repeat (first | refine blk_drewN ?_ _ | refine blk_drew ?_ | refine blk_alloc ?_ _)); refine blk_put (cs := #[.int .u64 t500, .int .u32 0, .int .u32 0]) ?_ 1 _ rfl; (with_reducible repeat (first | refine blk_drewN ?_ _ | refine blk_drew ?_ | refine blk_alloc ?_ _)); refine blk_put (cs := #[.int .u64 0, .int .u32 0, .int .u32 0]) ?_ 0 _ rfl; exact blkt BK504) hb); replace HB := belb HB hb; (try clear hb); (try clear hb2); (try clear hk); (try clear hi)) | ((with_reducible refine gate_dst (N := 15) rfl ?_); refine box_event ?hg (N := 15) ?hd (cs := #[.int .u64 0, .int .u32 0, .int .u32 0]) (t := 67) ?hr ?_; (case hd => rfl); (case hg => rfl); (case hr => first | (go_simp; done) | (go_simp; rfl)); intro gb509 hg w42 hbox hb; replace HO499 := Aside0.mk (Kd.V_below (Kd.V_elderB (vt HO499) gb509 (Nat.le_of_eq hg.symm)) hb); have BK509 := Aside0.mk (hbox); have GW509 := bels HB hg; have GE509 := bels HB hg; have NB488_509 := blkl BK488 hg; have NB509_488 := blkg BK488 hg; have NB489_509 := blkl BK489 hg; have NB509_489 := blkg BK489 hg; have NB495_509 := blkl BK495 hg; have NB509_495 := blkg BK495 hg; have NB504_509 := blkl BK504 hg; have NB509_504 := blkg BK504 hg; replace BK488 := blkb BK488 hb; replace BK489 := blkb BK489 hb; replace BK495 := blkb BK495 hb; replace BK504 := blkb BK504 hb; replace HB := belb HB hb; clear hb hbox hg; have hnb43 := NB509_488.out; have hnc43 := NB488_509.out; have hnb44 := NB509_489.out; have hnc44 := NB489_509.out; have hnb45 := NB509_495.out; have hnc45 := NB495_509.out; have hnb46 := NB509_504.out; have hnc46 := NB504_509.out; have hcz47_0 : w42.cell? ⟨gb509, 0, none⟩ = some (.int .u64 0) := bc BK509 0; have hcz47_1 : w42.cell? ⟨gb509, 1, none⟩ = some (.int .u32 0) := bc BK509 1; have hcz47_2 : w42.cell? ⟨gb509, 2, none⟩ = some (.int .u32 0) := bc BK509 2; have hfz47_0 := blk_frozen BK509.out 0; have hfz47_1 := blk_frozen BK509.out 1; have hfz47_2 := blk_frozen BK509.out 2))
     have n0_ : Aside0 (Kd.V (Kd.int .i64) 3 (((w42.setCell ⟨gb509, 0, none⟩ (.int .u64 t505)).setCell ⟨gb509, 1, none⟩ (.int .u32 t506)).setCell ⟨gb509, 2, none⟩ (.int .u32 t507)) w.heap.size (fun k_ => k_ ≠ gb488 ∧ k_ ≠ gb489 ∧ k_ ≠ gb495 ∧ k_ ≠ gb504 ∧ k_ ≠ gb509) (.slice Ao33 t497.length co33) t497) := ⟨by (with_reducible repeat (first | apply Kd.V_alloc | apply Kd.V_drewN | apply Kd.V_drew)); exact Kd.V_mono (Kd.V_far (p := ⟨gb509, 2, none⟩) (Kd.V_far (p := ⟨gb509, 1, none⟩) (Kd.V_far (p := ⟨gb509, 0, none⟩) (Kd.V_mono HO499.out (fun k_ hk => (⟨hk, hk.2⟩ : _ ∧ k_ ≠ gb509))) (fun _ hk => hk.2) (.int .u64 t505)) (fun _ hk => hk.2) (.int .u32 t506)) (fun _ hk => hk.2) (.int .u32 t507)) (fun _ hk => ⟨hk.1.1.1.1, ⟨hk.1.1.1.2.1, ⟨hk.1.1.1.2.2, ⟨hk.1.1.2, hk.1.2⟩⟩⟩⟩)⟩
     have n1_ : Aside0 ((((w42.setCell ⟨gb509, 0, none⟩ (.int .u64 t505)).setCell ⟨gb509, 1, none⟩ (.int .u32 t506)).setCell ⟨gb509, 2, none⟩ (.int .u32 t507)).heap[gb488]? = some (.cells #[.int .i64 a1_0, .int .u64 a1_1] 59 (0, 0))) := ⟨by (with_reducible repeat (first | refine blk_drewN ?_ _ | refine blk_drew ?_ | refine blk_alloc ?_ _)); refine blk_far ?_ NB488_509.out _; (with_reducible repeat (first | refine blk_drewN ?_ _ | refine blk_drew ?_ | refine blk_alloc ?_ _)); refine blk_far ?_ NB488_509.out _; (with_reducible repeat (first | refine blk_drewN ?_ _ | refine blk_drew ?_ | refine blk_alloc ?_ _)); refine blk_far ?_ NB488_509.out _; exact blkt BK488⟩
     have n2_ : Aside0 ((((w42.setCell ⟨gb509, 0, none⟩ (.int .u64 t505)).setCell ⟨gb509, 1, none⟩ (.int .u32 t506)).setCell ⟨gb509, 2, none⟩ (.int .u32 t507)).heap[gb489]? = some (.cells #[.int .u64 a3_0, .int .u32 a3_1, .int .u32 a3_2] 67 (0, 0))) := ⟨by (with_reducible repeat (first | refine blk_drewN ?_ _ | refine blk_drew ?_ | refine blk_alloc ?_ _)); refine blk_far ?_ NB489_509.out _; (with_reducible repeat (first | refine blk_drewN ?_ _ | refine blk_drew ?_ | refine blk_alloc ?_ _)); refine blk_far ?_ NB489_509.out _; (with_reducible repeat (first | refine blk_drewN ?_ _ | refine blk_drew ?_ | refine blk_alloc ?_ _)); refine blk_far ?_ NB489_509.out _; exact blkt BK489⟩
     have n3_ : Aside0 ((((w42.setCell ⟨gb509, 0, none⟩ (.int .u64 t505)).setCell ⟨gb509, 1, none⟩ (.int .u32 t506)).setCell ⟨gb509, 2, none⟩ (.int .u32 t507)).heap[gb495]? = some (.cells #[.int .u64 t491, .int .u32 t492, .int .u32 t493] 67 (0, 0))) := ⟨by (with_reducible repeat (first | refine blk_drewN ?_ _ | refine blk_drew ?_ | refine blk_alloc ?_ _)); refine blk_far ?_ NB495_509.out _; (with_reducible repeat (first | refine blk_drewN ?_ _ | refine blk_drew ?_ | refine blk_alloc ?_ _)); refine blk_far ?_ NB495_509.out _; (with_reducible repeat (first | refine blk_drewN ?_ _ | refine blk_drew ?_ | refine blk_alloc ?_ _)); refine blk_far ?_ NB495_509.out _; exact blkt BK495⟩
     have n4_ : Aside0 ((((w42.setCell ⟨gb509, 0, none⟩ (.int .u64 t505)).setCell ⟨gb509, 1, none⟩ (.int .u32 t506)).setCell ⟨gb509, 2, none⟩ (.int .u32 t507)).heap[gb504]? = some (.cells #[.int .u64 t500, .int .u32 t501, .int .u32 t502] 71 (0, 0))) := ⟨by (with_reducible repeat (first | refine blk_drewN ?_ _ | refine blk_drew ?_ | refine blk_alloc ?_ _)); refine blk_far ?_ NB504_509.out _; (with_reducible repeat (first | refine blk_drewN ?_ _ | refine blk_drew ?_ | refine blk_alloc ?_ _)); refine blk_far ?_ NB504_509.out _; (with_reducible repeat (first | refine blk_drewN ?_ _ | refine blk_drew ?_ | refine blk_alloc ?_ _)); refine blk_far ?_ NB504_509.out _; exact blkt BK504⟩
     have n5_ : Aside0 ((((w42.setCell ⟨gb509, 0, none⟩ (.int .u64 t505)).setCell ⟨gb509, 1, none⟩ (.int .u32 t506)).setCell ⟨gb509, 2, none⟩ (.int .u32 t507)).heap[gb509]? = some (.cells #[.int .u64 t505, .int .u32 t506, .int .u32 t507] 67 (0, 0))) := ⟨by (with_reducible repeat (first | refine blk_drewN ?_ _ | refine blk_drew ?_ | refine blk_alloc ?_ _)); refine blk_put (cs := #[.int .u64 t505, .int .u32 t506, .int .u32 0]) ?_ 2 _ rfl; (with_reducible repeat (first | refine blk_drewN ?_ _ | refine blk_drew ?_ | refine blk_alloc ?_ _)); refine blk_put (cs := #[.int .u64 t505, .int .u32 0, .int .u32 0]) ?_ 1 _ rfl; (with_reducible repeat (first | refine blk_drewN ?_ _ | refine blk_drew ?_ | refine blk_alloc ?_ _)); refine blk_put (cs := #[.int .u64 0, .int .u32 0, .int .u32 0]) ?_ 0 _ rfl; exact blkt BK509⟩
     have n6_ : Aside0 (Below w.heap.size w (((w42.setCell ⟨gb509, 0, none⟩ (.int .u64 t505)).setCell ⟨gb509, 1, none⟩ (.int .u32 t506)).setCell ⟨gb509, 2, none⟩ (.int .u32 t507))) := ⟨belt HB⟩
     (try clear HO499)
     (try clear BK488)
     (try clear BK489)
     (try clear BK495)
     (try clear BK504)
     (try clear BK509)
     (try clear HB)
     generalize (((w42.setCell ⟨gb509, 0, none⟩ (.int .u64 t505)).setCell ⟨gb509, 1, none⟩ (.int .u32 t506)).setCell ⟨gb509, 2, none⟩ (.int .u32 t507)) = w48 at n0_ n1_ n2_ n3_ n4_ n5_ n6_ ⊢
     have HO499 := n0_
     have BK488 := n1_
     have BK489 := n2_
     have BK495 := n3_
     have BK504 := n4_
     have BK509 := n5_
     have HB := n6_
     clear n0_ n1_ n2_ n3_ n4_ n5_ n6_
     replace HO499 := Aside0.mk (Kd.V_drew HO499.out)
     replace BK488 := Aside0.mk (blk_drew BK488.out)
     replace BK489 := Aside0.mk (blk_drew BK489.out)
     replace BK495 := Aside0.mk (blk_drew BK495.out)
     replace BK504 := Aside0.mk (blk_drew BK504.out)
     replace BK509 := Aside0.mk (blk_drew BK509.out)
     replace HB := Aside0.mk (below_drew1 HB.out)
     refine start_ (n := 18) (S := fun w' => w'.cell? ⟨gb489, 0, none⟩ = some (.int .u64 a3_0) ∧ w'.cell? ⟨gb489, 1, none⟩ = some (.int .u32 a3_1) ∧ w'.cell? ⟨gb489, 2, none⟩ = some (.int .u32 a3_2)) (ds := []) #[false, false, false, false, false, false, false, false, false, false, false, false, false, false, false, false, false, false] (by kernel_rfl) rfl rfl ⟨bc BK489 0, bc BK489 1, bc BK489 2⟩ (fun hHeld => ?_); refine with_tabW turnstonelaw04_PosAt.tab6 turnstonelaw04_PosAt.bits6 (fun HT_ HW_ => ?_)
     generalize w48.drew = w49 at HO499 BK488 BK489 BK495 BK504 BK509 HB hHeld ⊢
     refine pure_ (i := 0) (N := some 43) (v := ?_) (a' := ?_) #[true, false, false, false, false, false, false, false, false, false, false, false, false, false, false, false, false, false] rfl rfl (any_of HT_.out (by kernel_rfl)) (fun _ _ _ h => h) (Or.inl ⟨by rfl, ?_⟩) ?_ ?_
     rotate_left
     ·intro w'
      go_simp
      with_reducible rfl
     rotate_left
     ·simp only [Act.put, List.setIfInBounds_toArray, List.set_cons_zero, List.set_cons_succ, i64_w, i32_w]
      rfl
     refine pure_ (i := 2) (N := some 45) (v := ?_) (a' := ?_) #[true, false, true, false, false, false, false, false, false, false, false, false, false, false, false, false, false, false] rfl rfl (any_of HT_.out (by kernel_rfl)) (fun _ _ _ h => h) (Or.inl ⟨by rfl, ?_⟩) ?_ ?_
     rotate_left
     ·intro w'
      go_simp
      with_reducible rfl
     rotate_left
     ·simp only [Act.put, List.setIfInBounds_toArray, List.set_cons_zero, List.set_cons_succ, i64_w, i32_w]
      rfl
     refine pure_ (i := 4) (N := some 47) (v := ?_) (a' := ?_) #[true, false, true, false, true, false, false, false, false, false, false, false, false, false, false, false, false, false] rfl rfl (any_of HT_.out (by kernel_rfl)) (fun _ _ _ h => h) (Or.inl ⟨by rfl, ?_⟩) ?_ ?_
     rotate_left
     ·intro w'
      go_simp
      with_reducible rfl
     rotate_left
     ·simp only [Act.put, List.setIfInBounds_toArray, List.set_cons_zero, List.set_cons_succ, i64_w, i32_w]
      rfl
     refine pure_ (i := 9) (N := some 52) (v := ?_) (a' := ?_) #[true, false, true, false, true, false, false, false, false, true, false, false, false, false, false, false, false, false] rfl rfl (any_of HT_.out (by kernel_rfl)) (fun _ _ _ h => h) (Or.inl ⟨by rfl, ?_⟩) ?_ ?_
     rotate_left
     ·intro w'
      go_simp
      with_reducible rfl
     rotate_left
     ·simp only [Act.put, List.setIfInBounds_toArray, List.set_cons_zero, List.set_cons_succ, i64_w, i32_w]
      rfl
     refine take_ (i := 1) (N := some 44) (v := ?_) (a' := ?_) #[true, true, true, false, true, false, false, false, false, true, false, false, false, false, false, false, false, false] rfl rfl (take_ofW HT_.out HW_.out (by kernel_rfl)) (fun _ _ _ h => h) (Or.inl ⟨by rfl, ?_⟩) hHeld ?_ ?_
     rotate_left
     ·rintro w' ⟨s0, s1, s2⟩
      go_simp
      with_reducible rfl
     rotate_left
     ·simp only [Act.put, List.setIfInBounds_toArray, List.set_cons_zero, List.set_cons_succ, i64_w, i32_w]
      rfl
     refine take_ (i := 5) (N := some 48) (v := ?_) (a' := ?_) #[true, true, true, false, true, true, false, false, false, true, false, false, false, false, false, false, false, false] rfl rfl (take_ofW HT_.out HW_.out (by kernel_rfl)) (fun _ _ _ h => h) (Or.inl ⟨by rfl, ?_⟩) hHeld ?_ ?_
     rotate_left
     ·rintro w' ⟨s0, s1, s2⟩
      go_simp
      with_reducible rfl
     rotate_left
     ·simp only [Act.put, List.setIfInBounds_toArray, List.set_cons_zero, List.set_cons_succ, i64_w, i32_w]
      rfl
     refine pure_ (i := 6) (N := some 49) (v := ?_) (a' := ?_) #[true, true, true, false, true, true, true, false, false, true, false, false, false, false, false, false, false, false] rfl rfl (any_of HT_.out (by kernel_rfl)) (fun _ _ _ h => h) (Or.inl ⟨by rfl, ?_⟩) ?_ ?_
     rotate_left
     ·intro w'
      go_simp
      with_reducible rfl
     rotate_left
     ·simp only [Act.put, List.setIfInBounds_toArray, List.set_cons_zero, List.set_cons_succ, i64_w, i32_w]
      rfl
     refine take_ (i := 10) (N := some 53) (v := ?_) (a' := ?_) #[true, true, true, false, true, true, true, false, false, true, true, false, false, false, false, false, false, false] rfl rfl (take_ofW HT_.out HW_.out (by kernel_rfl)) (fun _ _ _ h => h) (Or.inl ⟨by rfl, ?_⟩) hHeld ?_ ?_
     rotate_left
     ·rintro w' ⟨s0, s1, s2⟩
      go_simp
      with_reducible rfl
     rotate_left
     ·simp only [Act.put, List.setIfInBounds_toArray, List.set_cons_zero, List.set_cons_succ, i64_w, i32_w]
      rfl
     refine join_ (σ := Value × Value × Value × Nat) 2 #[true, true, true, true, true, true, true, true, true, true, true, true, true, true, true, true, false, false] (fun s_ => [(46, .agg #[.bool t510, s_.1]), (50, .agg #[.bool t514, s_.2.1]), (51, .agg #[.bool t518, s_.2.2.1]), (54, .tuple #[.agg #[.int .u64 t522, .int .u32 t523, .int .u32 t524], .bool t525]), (17, .pointer (some ⟨s_.2.2.2, 0, none⟩)), (42, .tuple #[.agg #[.int .u64 t522, .int .u32 t523, .int .u32 t524], .bool t525]), (55, .agg #[.int .u64 t522, .int .u32 t523, .int .u32 t524]), (56, .bool t525)]) (fun s_ w' => (w'.cell? ⟨gb489, 0, none⟩ = some (.int .u64 a3_0) ∧ w'.cell? ⟨gb489, 1, none⟩ = some (.int .u32 a3_1) ∧ w'.cell? ⟨gb489, 2, none⟩ = some (.int .u32 a3_2)) ∧ (Kd.V (Kd.int .i64) 3 w' w.heap.size (fun k_ => some k_ ≠ (s_.1 : Value).ownBlock ∧ some k_ ≠ (s_.2.1 : Value).ownBlock ∧ k_ ≠ gb488 ∧ k_ ≠ gb489 ∧ k_ ≠ gb495 ∧ k_ ≠ gb504 ∧ k_ ≠ gb509 ∧ k_ ≠ s_.2.2.2) (.slice Ao33 t497.length co33) t497) ∧ (Kd.R (Kd.int .i64) 3 w' w.heap.size (fun k_ => some k_ ≠ (s_.2.1 : Value).ownBlock) s_.1 t511) ∧ (Kd.R (Kd.int .i64) 3 w' w.heap.size (fun k_ => some k_ ≠ (s_.1 : Value).ownBlock) s_.2.1 t515) ∧ (Kd.V (Kd.int .i64) 3 w' w.heap.size (fun k_ => some k_ ≠ (s_.1 : Value).ownBlock ∧ some k_ ≠ (s_.2.1 : Value).ownBlock ∧ k_ ≠ gb488 ∧ k_ ≠ gb489 ∧ k_ ≠ gb495 ∧ k_ ≠ gb504 ∧ k_ ≠ gb509 ∧ k_ ≠ s_.2.2.2) s_.2.2.1 t519) ∧ (w'.heap[gb488]? = some (.cells #[.int .i64 a1_0, .int .u64 a1_1] 59 (0, 0))) ∧ (w'.heap[gb489]? = some (.cells #[.int .u64 a3_0, .int .u32 a3_1, .int .u32 a3_2] 67 (0, 0))) ∧ (w'.heap[gb495]? = some (.cells #[.int .u64 t491, .int .u32 t492, .int .u32 t493] 67 (0, 0))) ∧ (w'.heap[gb504]? = some (.cells #[.int .u64 t500, .int .u32 t501, .int .u32 t502] 71 (0, 0))) ∧ (w'.heap[gb509]? = some (.cells #[.int .u64 t505, .int .u32 t506, .int .u32 t507] 67 (0, 0))) ∧ (w'.heap[s_.2.2.2]? = some (.cells #[.int .u64 0, .int .u32 0, .int .u32 0] 71 (0, 0))) ∧ (w.heap.size ≤ s_.2.2.2) ∧ (w.heap.size ≤ s_.2.2.2) ∧ (gb488 ≠ s_.2.2.2) ∧ (s_.2.2.2 ≠ gb488) ∧ (gb489 ≠ s_.2.2.2) ∧ (s_.2.2.2 ≠ gb489) ∧ (gb495 ≠ s_.2.2.2) ∧ (s_.2.2.2 ≠ gb495) ∧ (gb504 ≠ s_.2.2.2) ∧ (s_.2.2.2 ≠ gb504) ∧ (gb509 ≠ s_.2.2.2) ∧ (s_.2.2.2 ≠ gb509) ∧ (Below w.heap.size w w')) ?_ ?_
     rotate_left
     ·intro hJ3_7_8_11_15
      refine join_ (σ := Value × Value × Value) 3 #[true, true, true, true, true, true, true, true, true, true, true, true, true, true, true, false, false, false] (fun s_ => [(46, .agg #[.bool t510, s_.1]), (50, .agg #[.bool t514, s_.2.1]), (51, .agg #[.bool t518, s_.2.2]), (54, .tuple #[.agg #[.int .u64 t522, .int .u32 t523, .int .u32 t524], .bool t525]), (42, .tuple #[.agg #[.int .u64 t522, .int .u32 t523, .int .u32 t524], .bool t525]), (55, .agg #[.int .u64 t522, .int .u32 t523, .int .u32 t524]), (56, .bool t525)]) (fun s_ w' => (w'.cell? ⟨gb489, 0, none⟩ = some (.int .u64 a3_0) ∧ w'.cell? ⟨gb489, 1, none⟩ = some (.int .u32 a3_1) ∧ w'.cell? ⟨gb489, 2, none⟩ = some (.int .u32 a3_2)) ∧ (Kd.V (Kd.int .i64) 3 w' w.heap.size (fun k_ => some k_ ≠ (s_.1 : Value).ownBlock ∧ some k_ ≠ (s_.2.1 : Value).ownBlock ∧ k_ ≠ gb488 ∧ k_ ≠ gb489 ∧ k_ ≠ gb495 ∧ k_ ≠ gb504 ∧ k_ ≠ gb509) (.slice Ao33 t497.length co33) t497) ∧ (Kd.R (Kd.int .i64) 3 w' w.heap.size (fun k_ => some k_ ≠ (s_.2.1 : Value).ownBlock) s_.1 t511) ∧ (Kd.R (Kd.int .i64) 3 w' w.heap.size (fun k_ => some k_ ≠ (s_.1 : Value).ownBlock) s_.2.1 t515) ∧ (Kd.V (Kd.int .i64) 3 w' w.heap.size (fun k_ => some k_ ≠ (s_.1 : Value).ownBlock ∧ some k_ ≠ (s_.2.1 : Value).ownBlock ∧ k_ ≠ gb488 ∧ k_ ≠ gb489 ∧ k_ ≠ gb495 ∧ k_ ≠ gb504 ∧ k_ ≠ gb509) s_.2.2 t519) ∧ (w'.heap[gb488]? = some (.cells #[.int .i64 a1_0, .int .u64 a1_1] 59 (0, 0))) ∧ (w'.heap[gb489]? = some (.cells #[.int .u64 a3_0, .int .u32 a3_1, .int .u32 a3_2] 67 (0, 0))) ∧ (w'.heap[gb495]? = some (.cells #[.int .u64 t491, .int .u32 t492, .int .u32 t493] 67 (0, 0))) ∧ (w'.heap[gb504]? = some (.cells #[.int .u64 t500, .int .u32 t501, .int .u32 t502] 71 (0, 0))) ∧ (w'.heap[gb509]? = some (.cells #[.int .u64 t505, .int .u32 t506, .int .u32 t507] 67 (0, 0))) ∧ (Below w.heap.size w w')) ?_ ?_
      rotate_left
      ·intro hJ3_7_8_11
       refine join_ (σ := Value × Value × Value × Nat) 6 #[true, true, true, true, true, true, true, true, true, true, true, false, false, false, false, true, false, false] (fun s_ => [(46, .agg #[.bool t510, s_.1]), (50, .agg #[.bool t514, s_.2.1]), (51, .agg #[.bool t518, s_.2.2.1]), (17, .pointer (some ⟨s_.2.2.2, 0, none⟩))]) (fun s_ w' => (w'.cell? ⟨gb489, 0, none⟩ = some (.int .u64 a3_0) ∧ w'.cell? ⟨gb489, 1, none⟩ = some (.int .u32 a3_1) ∧ w'.cell? ⟨gb489, 2, none⟩ = some (.int .u32 a3_2)) ∧ (Kd.V (Kd.int .i64) 3 w' w.heap.size (fun k_ => some k_ ≠ (s_.1 : Value).ownBlock ∧ some k_ ≠ (s_.2.1 : Value).ownBlock ∧ k_ ≠ gb488 ∧ k_ ≠ gb489 ∧ k_ ≠ gb495 ∧ k_ ≠ gb504 ∧ k_ ≠ gb509 ∧ k_ ≠ s_.2.2.2) (.slice Ao33 t497.length co33) t497) ∧ (Kd.R (Kd.int .i64) 3 w' w.heap.size (fun k_ => some k_ ≠ (s_.2.1 : Value).ownBlock) s_.1 t511) ∧ (Kd.R (Kd.int .i64) 3 w' w.heap.size (fun k_ => some k_ ≠ (s_.1 : Value).ownBlock) s_.2.1 t515) ∧ (Kd.V (Kd.int .i64) 3 w' w.heap.size (fun k_ => some k_ ≠ (s_.1 : Value).ownBlock ∧ some k_ ≠ (s_.2.1 : Value).ownBlock ∧ k_ ≠ gb488 ∧ k_ ≠ gb489 ∧ k_ ≠ gb495 ∧ k_ ≠ gb504 ∧ k_ ≠ gb509 ∧ k_ ≠ s_.2.2.2) s_.2.2.1 t519) ∧ (w'.heap[gb488]? = some (.cells #[.int .i64 a1_0, .int .u64 a1_1] 59 (0, 0))) ∧ (w'.heap[gb489]? = some (.cells #[.int .u64 a3_0, .int .u32 a3_1, .int .u32 a3_2] 67 (0, 0))) ∧ (w'.heap[gb495]? = some (.cells #[.int .u64 t491, .int .u32 t492, .int .u32 t493] 67 (0, 0))) ∧ (w'.heap[gb504]? = some (.cells #[.int .u64 t500, .int .u32 t501, .int .u32 t502] 71 (0, 0))) ∧ (w'.heap[gb509]? = some (.cells #[.int .u64 t505, .int .u32 t506, .int .u32 t507] 67 (0, 0))) ∧ (w'.heap[s_.2.2.2]? = some (.cells #[.int .u64 0, .int .u32 0, .int .u32 0] 71 (0, 0))) ∧ (w.heap.size ≤ s_.2.2.2) ∧ (w.heap.size ≤ s_.2.2.2) ∧ (gb488 ≠ s_.2.2.2) ∧ (s_.2.2.2 ≠ gb488) ∧ (gb489 ≠ s_.2.2.2) ∧ (s_.2.2.2 ≠ gb489) ∧ (gb495 ≠ s_.2.2.2) ∧ (s_.2.2.2 ≠ gb495) ∧ (gb504 ≠ s_.2.2.2) ∧ (s_.2.2.2 ≠ gb504) ∧ (gb509 ≠ s_.2.2.2) ∧ (s_.2.2.2 ≠ gb509) ∧ (Below w.heap.size w w')) ?_ ?_
       rotate_left
       ·intro hJ3_7_8_15
        refine join_ (σ := Value × Value × Value) 7 #[true, true, true, true, true, true, true, true, true, true, true, false, false, false, false, false, false, false] (fun s_ => [(46, .agg #[.bool t510, s_.1]), (50, .agg #[.bool t514, s_.2.1]), (51, .agg #[.bool t518, s_.2.2])]) (fun s_ w' => (w'.cell? ⟨gb489, 0, none⟩ = some (.int .u64 a3_0) ∧ w'.cell? ⟨gb489, 1, none⟩ = some (.int .u32 a3_1) ∧ w'.cell? ⟨gb489, 2, none⟩ = some (.int .u32 a3_2)) ∧ (Kd.V (Kd.int .i64) 3 w' w.heap.size (fun k_ => some k_ ≠ (s_.1 : Value).ownBlock ∧ some k_ ≠ (s_.2.1 : Value).ownBlock ∧ k_ ≠ gb488 ∧ k_ ≠ gb489 ∧ k_ ≠ gb495 ∧ k_ ≠ gb504 ∧ k_ ≠ gb509) (.slice Ao33 t497.length co33) t497) ∧ (Kd.R (Kd.int .i64) 3 w' w.heap.size (fun k_ => some k_ ≠ (s_.2.1 : Value).ownBlock) s_.1 t511) ∧ (Kd.R (Kd.int .i64) 3 w' w.heap.size (fun k_ => some k_ ≠ (s_.1 : Value).ownBlock) s_.2.1 t515) ∧ (Kd.V (Kd.int .i64) 3 w' w.heap.size (fun k_ => some k_ ≠ (s_.1 : Value).ownBlock ∧ some k_ ≠ (s_.2.1 : Value).ownBlock ∧ k_ ≠ gb488 ∧ k_ ≠ gb489 ∧ k_ ≠ gb495 ∧ k_ ≠ gb504 ∧ k_ ≠ gb509) s_.2.2 t519) ∧ (w'.heap[gb488]? = some (.cells #[.int .i64 a1_0, .int .u64 a1_1] 59 (0, 0))) ∧ (w'.heap[gb489]? = some (.cells #[.int .u64 a3_0, .int .u32 a3_1, .int .u32 a3_2] 67 (0, 0))) ∧ (w'.heap[gb495]? = some (.cells #[.int .u64 t491, .int .u32 t492, .int .u32 t493] 67 (0, 0))) ∧ (w'.heap[gb504]? = some (.cells #[.int .u64 t500, .int .u32 t501, .int .u32 t502] 71 (0, 0))) ∧ (w'.heap[gb509]? = some (.cells #[.int .u64 t505, .int .u32 t506, .int .u32 t507] 67 (0, 0))) ∧ (Below w.heap.size w w')) ?_ ?_
        rotate_left
        ·intro hJ3_7_8
         refine join_ (σ := Value × Value × Nat) 7 #[true, true, true, true, true, true, true, true, false, true, true, false, false, false, false, true, false, false] (fun s_ => [(46, .agg #[.bool t510, s_.1]), (50, .agg #[.bool t514, s_.2.1]), (17, .pointer (some ⟨s_.2.2, 0, none⟩))]) (fun s_ w' => (w'.cell? ⟨gb489, 0, none⟩ = some (.int .u64 a3_0) ∧ w'.cell? ⟨gb489, 1, none⟩ = some (.int .u32 a3_1) ∧ w'.cell? ⟨gb489, 2, none⟩ = some (.int .u32 a3_2)) ∧ (Kd.V (Kd.int .i64) 3 w' w.heap.size (fun k_ => some k_ ≠ (s_.1 : Value).ownBlock ∧ some k_ ≠ (s_.2.1 : Value).ownBlock ∧ k_ ≠ gb488 ∧ k_ ≠ gb489 ∧ k_ ≠ gb495 ∧ k_ ≠ gb504 ∧ k_ ≠ gb509 ∧ k_ ≠ s_.2.2) (.slice Ao33 t497.length co33) t497) ∧ (Kd.R (Kd.int .i64) 3 w' w.heap.size (fun k_ => some k_ ≠ (s_.2.1 : Value).ownBlock) s_.1 t511) ∧ (Kd.R (Kd.int .i64) 3 w' w.heap.size (fun k_ => some k_ ≠ (s_.1 : Value).ownBlock) s_.2.1 t515) ∧ (w'.heap[gb488]? = some (.cells #[.int .i64 a1_0, .int .u64 a1_1] 59 (0, 0))) ∧ (w'.heap[gb489]? = some (.cells #[.int .u64 a3_0, .int .u32 a3_1, .int .u32 a3_2] 67 (0, 0))) ∧ (w'.heap[gb495]? = some (.cells #[.int .u64 t491, .int .u32 t492, .int .u32 t493] 67 (0, 0))) ∧ (w'.heap[gb504]? = some (.cells #[.int .u64 t500, .int .u32 t501, .int .u32 t502] 71 (0, 0))) ∧ (w'.heap[gb509]? = some (.cells #[.int .u64 t505, .int .u32 t506, .int .u32 t507] 67 (0, 0))) ∧ (w'.heap[s_.2.2]? = some (.cells #[.int .u64 0, .int .u32 0, .int .u32 0] 71 (0, 0))) ∧ (w.heap.size ≤ s_.2.2) ∧ (w.heap.size ≤ s_.2.2) ∧ (gb488 ≠ s_.2.2) ∧ (s_.2.2 ≠ gb488) ∧ (gb489 ≠ s_.2.2) ∧ (s_.2.2 ≠ gb489) ∧ (gb495 ≠ s_.2.2) ∧ (s_.2.2 ≠ gb495) ∧ (gb504 ≠ s_.2.2) ∧ (s_.2.2 ≠ gb504) ∧ (gb509 ≠ s_.2.2) ∧ (s_.2.2 ≠ gb509) ∧ (Below w.heap.size w w')) ?_ ?_
         rotate_left
         ·intro hJ3_7_15
          refine join_ (σ := Value × Value) 8 #[true, true, true, true, true, true, true, true, false, true, true, false, false, false, false, false, false, false] (fun s_ => [(46, .agg #[.bool t510, s_.1]), (50, .agg #[.bool t514, s_.2])]) (fun s_ w' => (w'.cell? ⟨gb489, 0, none⟩ = some (.int .u64 a3_0) ∧ w'.cell? ⟨gb489, 1, none⟩ = some (.int .u32 a3_1) ∧ w'.cell? ⟨gb489, 2, none⟩ = some (.int .u32 a3_2)) ∧ (Kd.V (Kd.int .i64) 3 w' w.heap.size (fun k_ => some k_ ≠ (s_.1 : Value).ownBlock ∧ some k_ ≠ (s_.2 : Value).ownBlock ∧ k_ ≠ gb488 ∧ k_ ≠ gb489 ∧ k_ ≠ gb495 ∧ k_ ≠ gb504 ∧ k_ ≠ gb509) (.slice Ao33 t497.length co33) t497) ∧ (Kd.R (Kd.int .i64) 3 w' w.heap.size (fun k_ => some k_ ≠ (s_.2 : Value).ownBlock) s_.1 t511) ∧ (Kd.R (Kd.int .i64) 3 w' w.heap.size (fun k_ => some k_ ≠ (s_.1 : Value).ownBlock) s_.2 t515) ∧ (w'.heap[gb488]? = some (.cells #[.int .i64 a1_0, .int .u64 a1_1] 59 (0, 0))) ∧ (w'.heap[gb489]? = some (.cells #[.int .u64 a3_0, .int .u32 a3_1, .int .u32 a3_2] 67 (0, 0))) ∧ (w'.heap[gb495]? = some (.cells #[.int .u64 t491, .int .u32 t492, .int .u32 t493] 67 (0, 0))) ∧ (w'.heap[gb504]? = some (.cells #[.int .u64 t500, .int .u32 t501, .int .u32 t502] 71 (0, 0))) ∧ (w'.heap[gb509]? = some (.cells #[.int .u64 t505, .int .u32 t506, .int .u32 t507] 67 (0, 0))) ∧ (Below w.heap.size w w')) ?_ ?_
          rotate_left
          ·intro hJ3_7
           refine join_ (σ := Value × Nat) 8 #[true, true, true, true, true, true, true, false, false, true, true, false, false, false, false, true, false, false] (fun s_ => [(46, .agg #[.bool t510, s_.1]), (17, .pointer (some ⟨s_.2, 0, none⟩))]) (fun s_ w' => (w'.cell? ⟨gb489, 0, none⟩ = some (.int .u64 a3_0) ∧ w'.cell? ⟨gb489, 1, none⟩ = some (.int .u32 a3_1) ∧ w'.cell? ⟨gb489, 2, none⟩ = some (.int .u32 a3_2)) ∧ (Kd.V (Kd.int .i64) 3 w' w.heap.size (fun k_ => some k_ ≠ (s_.1 : Value).ownBlock ∧ k_ ≠ gb488 ∧ k_ ≠ gb489 ∧ k_ ≠ gb495 ∧ k_ ≠ gb504 ∧ k_ ≠ gb509 ∧ k_ ≠ s_.2) (.slice Ao33 t497.length co33) t497) ∧ (Kd.R (Kd.int .i64) 3 w' w.heap.size (fun _ => True) s_.1 t511) ∧ (w'.heap[gb488]? = some (.cells #[.int .i64 a1_0, .int .u64 a1_1] 59 (0, 0))) ∧ (w'.heap[gb489]? = some (.cells #[.int .u64 a3_0, .int .u32 a3_1, .int .u32 a3_2] 67 (0, 0))) ∧ (w'.heap[gb495]? = some (.cells #[.int .u64 t491, .int .u32 t492, .int .u32 t493] 67 (0, 0))) ∧ (w'.heap[gb504]? = some (.cells #[.int .u64 t500, .int .u32 t501, .int .u32 t502] 71 (0, 0))) ∧ (w'.heap[gb509]? = some (.cells #[.int .u64 t505, .int .u32 t506, .int .u32 t507] 67 (0, 0))) ∧ (w'.heap[s_.2]? = some (.cells #[.int .u64 0, .int .u32 0, .int .u32 0] 71 (0, 0))) ∧ (w.heap.size ≤ s_.2) ∧ (w.heap.size ≤ s_.2) ∧ (gb488 ≠ s_.2) ∧ (s_.2 ≠ gb488) ∧ (gb489 ≠ s_.2) ∧ (s_.2 ≠ gb489) ∧ (gb495 ≠ s_.2) ∧ (s_.2 ≠ gb495) ∧ (gb504 ≠ s_.2) ∧ (s_.2 ≠ gb504) ∧ (gb509 ≠ s_.2) ∧ (s_.2 ≠ gb509) ∧ (Below w.heap.size w w')) ?_ ?_
           rotate_left
           ·intro hJ3_15
            refine join_ (σ := Value) 9 #[true, true, true, true, true, true, true, false, false, true, true, false, false, false, false, false, false, false] (fun s_ => [(46, .agg #[.bool t510, s_])]) (fun s_ w' => (w'.cell? ⟨gb489, 0, none⟩ = some (.int .u64 a3_0) ∧ w'.cell? ⟨gb489, 1, none⟩ = some (.int .u32 a3_1) ∧ w'.cell? ⟨gb489, 2, none⟩ = some (.int .u32 a3_2)) ∧ (Kd.V (Kd.int .i64) 3 w' w.heap.size (fun k_ => some k_ ≠ (s_ : Value).ownBlock ∧ k_ ≠ gb488 ∧ k_ ≠ gb489 ∧ k_ ≠ gb495 ∧ k_ ≠ gb504 ∧ k_ ≠ gb509) (.slice Ao33 t497.length co33) t497) ∧ (Kd.R (Kd.int .i64) 3 w' w.heap.size (fun _ => True) s_ t511) ∧ (w'.heap[gb488]? = some (.cells #[.int .i64 a1_0, .int .u64 a1_1] 59 (0, 0))) ∧ (w'.heap[gb489]? = some (.cells #[.int .u64 a3_0, .int .u32 a3_1, .int .u32 a3_2] 67 (0, 0))) ∧ (w'.heap[gb495]? = some (.cells #[.int .u64 t491, .int .u32 t492, .int .u32 t493] 67 (0, 0))) ∧ (w'.heap[gb504]? = some (.cells #[.int .u64 t500, .int .u32 t501, .int .u32 t502] 71 (0, 0))) ∧ (w'.heap[gb509]? = some (.cells #[.int .u64 t505, .int .u32 t506, .int .u32 t507] 67 (0, 0))) ∧ (Below w.heap.size w w')) ?_ ?_
            rotate_left
            ·intro hJ3
             refine join_ (σ := Nat) 9 #[true, true, true, false, true, true, true, false, false, true, true, false, false, false, false, true, false, false] (fun s_ => [(17, .pointer (some ⟨s_, 0, none⟩))]) (fun s_ w' => (w'.cell? ⟨gb489, 0, none⟩ = some (.int .u64 a3_0) ∧ w'.cell? ⟨gb489, 1, none⟩ = some (.int .u32 a3_1) ∧ w'.cell? ⟨gb489, 2, none⟩ = some (.int .u32 a3_2)) ∧ (Kd.V (Kd.int .i64) 3 w' w.heap.size (fun k_ => k_ ≠ gb488 ∧ k_ ≠ gb489 ∧ k_ ≠ gb495 ∧ k_ ≠ gb504 ∧ k_ ≠ gb509 ∧ k_ ≠ s_) (.slice Ao33 t497.length co33) t497) ∧ (w'.heap[gb488]? = some (.cells #[.int .i64 a1_0, .int .u64 a1_1] 59 (0, 0))) ∧ (w'.heap[gb489]? = some (.cells #[.int .u64 a3_0, .int .u32 a3_1, .int .u32 a3_2] 67 (0, 0))) ∧ (w'.heap[gb495]? = some (.cells #[.int .u64 t491, .int .u32 t492, .int .u32 t493] 67 (0, 0))) ∧ (w'.heap[gb504]? = some (.cells #[.int .u64 t500, .int .u32 t501, .int .u32 t502] 71 (0, 0))) ∧ (w'.heap[gb509]? = some (.cells #[.int .u64 t505, .int .u32 t506, .int .u32 t507] 67 (0, 0))) ∧ (w'.heap[s_]? = some (.cells #[.int .u64 0, .int .u32 0, .int .u32 0] 71 (0, 0))) ∧ (w.heap.size ≤ s_) ∧ (w.heap.size ≤ s_) ∧ (gb488 ≠ s_) ∧ (s_ ≠ gb488) ∧ (gb489 ≠ s_) ∧ (s_ ≠ gb489) ∧ (gb495 ≠ s_) ∧ (s_ ≠ gb495) ∧ (gb504 ≠ s_) ∧ (s_ ≠ gb504) ∧ (gb509 ≠ s_) ∧ (s_ ≠ gb509) ∧ (Below w.heap.size w w')) ?_ ?_
             rotate_left
             ·intro hJ15
              refine two_ (i := 3) (j := 15) (Ni := some 46) (Nj := some 17) #[true, true, true, true, true, true, true, false, false, true, true, false, false, false, false, false, false, false] #[true, true, true, false, true, true, true, false, false, true, true, false, false, false, false, true, false, false] rfl rfl rfl rfl (two_of HT_.out (by kernel_rfl)) (by decide) (by decide) (fun K hK => ?_) (fun K hK => ?_)
              ·skip
               refine goes_ Try.func24 (by kernel_rfl) rfl #[.int .u64 a4] (by rfl) rfl rfl argt ?_
               with_reducible refine (turnstoneref01_U.calls k a4 t510 t511 _ A12.out).mono ?_
               rintro e w50 ⟨v512, rfl, ho0, hb⟩
               refine ⟨_, rfl, ?_⟩
               replace HO499 := Aside0.mk (Kd.V_elder' (vt HO499) (Kd.R_base ho0) hb)
               have HO513 := Aside0.mk (Kd.R_lower ho0 (below_size (belt HB)))
               replace BK488 := blkb BK488 hb
               replace BK489 := blkb BK489 hb
               replace BK495 := blkb BK495 hb
               replace BK504 := blkb BK504 hb
               replace BK509 := blkb BK509 hb
               replace HB := belb HB hb
               (try clear hb)
               (try clear hb2)
               (try clear hk)
               (try clear hi)
               (try clear ho0)
               refine hK.out _ _ ⟨bc BK489 0, bc BK489 1, bc BK489 2⟩ (fun hHeld => ?_)
               clear hK K
               refine norm_ (a' := ?_) ?_ ?_
               rotate_left
               ·show Act.put _ (some 46) _ = _
                simp only [Act.put, List.setIfInBounds_toArray, List.set_cons_zero, List.set_cons_succ, i64_w, i32_w]
                rfl
               exact norm_ (by first | (simp only [putAll, Act.put, List.setIfInBounds_toArray, List.set_cons_zero, List.set_cons_succ]; done) | (simp only [putAll, Act.put, List.setIfInBounds_toArray, List.set_cons_zero, List.set_cons_succ]; rfl)) (hJ3 (v512) _ ⟨hHeld, (by (with_reducible repeat (first | apply Kd.V_alloc | apply Kd.V_drewN | apply Kd.V_drew)); exact Kd.V_mono HO499.out (fun _ hk => ⟨hk.2, ⟨hk.1.1, ⟨hk.1.2.1, ⟨hk.1.2.2.1, ⟨hk.1.2.2.2.1, hk.1.2.2.2.2⟩⟩⟩⟩⟩)), (rt HO513), (blkt BK488), (blkt BK489), (blkt BK495), (blkt BK504), (blkt BK509), (belt HB)⟩)
              skip
              refine box_step ?hg (N := 17) ?hd (cs := #[.int .u64 0, .int .u32 0, .int .u32 0]) (t := 71) ?hr ?_; (case hd => rfl); (case hg => rfl); (case hr => first | (go_simp; done) | (go_simp; rfl))
              intro gb526 hg w50 hbox hb
              replace HO499 := Aside0.mk (Kd.V_below (Kd.V_elderB (vt HO499) gb526 (Nat.le_of_eq hg.symm)) hb)
              have BK526 := Aside0.mk (hbox)
              have GW526 := bels HB hg
              have GE526 := bels HB hg
              have NB488_526 := blkl BK488 hg
              have NB526_488 := blkg BK488 hg
              have NB489_526 := blkl BK489 hg
              have NB526_489 := blkg BK489 hg
              have NB495_526 := blkl BK495 hg
              have NB526_495 := blkg BK495 hg
              have NB504_526 := blkl BK504 hg
              have NB526_504 := blkg BK504 hg
              have NB509_526 := blkl BK509 hg
              have NB526_509 := blkg BK509 hg
              replace BK488 := blkb BK488 hb
              replace BK489 := blkb BK489 hb
              replace BK495 := blkb BK495 hb
              replace BK504 := blkb BK504 hb
              replace BK509 := blkb BK509 hb
              replace HB := belb HB hb
              clear hb hbox hg
              refine hK.out _ _ ⟨bc BK489 0, bc BK489 1, bc BK489 2⟩ (fun hHeld => ?_)
              clear hK K
              refine norm_ (a' := ?_) ?_ ?_
              rotate_left
              ·show Act.put _ (some 17) _ = _
               simp only [Act.put, List.setIfInBounds_toArray, List.set_cons_zero, List.set_cons_succ, i64_w, i32_w]
               rfl
              exact norm_ (by first | (simp only [putAll, Act.put, List.setIfInBounds_toArray, List.set_cons_zero, List.set_cons_succ]; done) | (simp only [putAll, Act.put, List.setIfInBounds_toArray, List.set_cons_zero, List.set_cons_succ]; rfl)) (hJ15 (gb526) _ ⟨hHeld, (by (with_reducible repeat (first | apply Kd.V_alloc | apply Kd.V_drewN | apply Kd.V_drew)); exact Kd.V_mono HO499.out (fun _ hk => ⟨hk.1.1, ⟨hk.1.2.1, ⟨hk.1.2.2.1, ⟨hk.1.2.2.2.1, ⟨hk.1.2.2.2.2, hk.2⟩⟩⟩⟩⟩)), (blkt BK488), (blkt BK489), (blkt BK495), (blkt BK504), (blkt BK509), (blkt BK526), GW526.out, GE526.out, NB488_526.out, NB526_488.out, NB489_526.out, NB526_489.out, NB495_526.out, NB526_495.out, NB504_526.out, NB526_504.out, NB509_526.out, NB526_509.out, (belt HB)⟩)
             skip
             rintro gb526 w51 ⟨hS_, h0_, h1_, h2_, h3_, h4_, h5_, h6_, h7_, h8_, h9_, h10_, h11_, h12_, h13_, h14_, h15_, h16_, h17_, h18_, h19_⟩
             replace HO499 : Aside0 (Kd.V (Kd.int .i64) 3 w51 w.heap.size (fun k_ => k_ ≠ gb488 ∧ k_ ≠ gb489 ∧ k_ ≠ gb495 ∧ k_ ≠ gb504 ∧ k_ ≠ gb509 ∧ k_ ≠ gb526) (.slice Ao33 t497.length co33) t497) := ⟨h0_⟩
             replace BK488 : Aside0 (w51.heap[gb488]? = some (.cells #[.int .i64 a1_0, .int .u64 a1_1] 59 (0, 0))) := ⟨h1_⟩
             replace BK489 : Aside0 (w51.heap[gb489]? = some (.cells #[.int .u64 a3_0, .int .u32 a3_1, .int .u32 a3_2] 67 (0, 0))) := ⟨h2_⟩
             replace BK495 : Aside0 (w51.heap[gb495]? = some (.cells #[.int .u64 t491, .int .u32 t492, .int .u32 t493] 67 (0, 0))) := ⟨h3_⟩
             replace BK504 : Aside0 (w51.heap[gb504]? = some (.cells #[.int .u64 t500, .int .u32 t501, .int .u32 t502] 71 (0, 0))) := ⟨h4_⟩
             replace BK509 : Aside0 (w51.heap[gb509]? = some (.cells #[.int .u64 t505, .int .u32 t506, .int .u32 t507] 67 (0, 0))) := ⟨h5_⟩
             have BK526 : Aside0 (w51.heap[gb526]? = some (.cells #[.int .u64 0, .int .u32 0, .int .u32 0] 71 (0, 0))) := ⟨h6_⟩
             have GW526 : Aside0 (w.heap.size ≤ gb526) := ⟨h7_⟩
             have GE526 : Aside0 (w.heap.size ≤ gb526) := ⟨h8_⟩
             have NB488_526 : Aside0 (gb488 ≠ gb526) := ⟨h9_⟩
             have NB526_488 : Aside0 (gb526 ≠ gb488) := ⟨h10_⟩
             have NB489_526 : Aside0 (gb489 ≠ gb526) := ⟨h11_⟩
             have NB526_489 : Aside0 (gb526 ≠ gb489) := ⟨h12_⟩
             have NB495_526 : Aside0 (gb495 ≠ gb526) := ⟨h13_⟩
             have NB526_495 : Aside0 (gb526 ≠ gb495) := ⟨h14_⟩
             have NB504_526 : Aside0 (gb504 ≠ gb526) := ⟨h15_⟩
             have NB526_504 : Aside0 (gb526 ≠ gb504) := ⟨h16_⟩
             have NB509_526 : Aside0 (gb509 ≠ gb526) := ⟨h17_⟩
             have NB526_509 : Aside0 (gb526 ≠ gb509) := ⟨h18_⟩
             replace HB : Aside0 (Below w.heap.size w w51) := ⟨h19_⟩
             clear h0_ h1_ h2_ h3_ h4_ h5_ h6_ h7_ h8_ h9_ h10_ h11_ h12_ h13_ h14_ h15_ h16_ h17_ h18_ h19_
             have hHeld : w51.cell? ⟨gb489, 0, none⟩ = some (.int .u64 a3_0) ∧ w51.cell? ⟨gb489, 1, none⟩ = some (.int .u32 a3_1) ∧ w51.cell? ⟨gb489, 2, none⟩ = some (.int .u32 a3_2) := hS_
             refine norm_ (a' := ?_) ?_ ?_
             rotate_left
             ·simp only [putAll, Act.put, List.setIfInBounds_toArray, List.set_cons_zero, List.set_cons_succ]
              rfl
             refine one_ (i := 3) (N := some 46) #[true, true, true, true, true, true, true, false, false, true, true, false, false, false, false, true, false, false] rfl rfl (one_of HT_.out (by kernel_rfl)) (by decide) (fun K hK => ?_)
             refine goes_ Try.func24 (by kernel_rfl) rfl #[.int .u64 a4] (by rfl) rfl rfl argt ?_
             with_reducible refine (turnstoneref01_U.calls k a4 t510 t511 _ A12.out).mono ?_
             rintro e w52 ⟨v512, rfl, ho0, hb⟩
             refine ⟨_, rfl, ?_⟩
             replace HO499 := Aside0.mk (Kd.V_elder' (vt HO499) (Kd.R_base ho0) hb)
             have HO513 := Aside0.mk (Kd.R_lower ho0 (below_size (belt HB)))
             replace BK488 := blkb BK488 hb
             replace BK489 := blkb BK489 hb
             replace BK495 := blkb BK495 hb
             replace BK504 := blkb BK504 hb
             replace BK509 := blkb BK509 hb
             replace BK526 := blkb BK526 hb
             replace HB := belb HB hb
             (try clear hb)
             (try clear hb2)
             (try clear hk)
             (try clear hi)
             (try clear ho0)
             refine hK.out _ _ ⟨bc BK489 0, bc BK489 1, bc BK489 2⟩ (fun hHeld => ?_)
             clear hK K
             refine norm_ (a' := ?_) ?_ ?_
             rotate_left
             ·show Act.put _ (some 46) _ = _
              simp only [Act.put, List.setIfInBounds_toArray, List.set_cons_zero, List.set_cons_succ, i64_w, i32_w]
              rfl
             exact norm_ (by first | (simp only [putAll, Act.put, List.setIfInBounds_toArray, List.set_cons_zero, List.set_cons_succ]; done) | (simp only [putAll, Act.put, List.setIfInBounds_toArray, List.set_cons_zero, List.set_cons_succ]; rfl)) (hJ3_15 (v512, gb526) _ ⟨hHeld, (by (with_reducible repeat (first | apply Kd.V_alloc | apply Kd.V_drewN | apply Kd.V_drew)); exact Kd.V_mono HO499.out (fun _ hk => ⟨hk.2, ⟨hk.1.1, ⟨hk.1.2.1, ⟨hk.1.2.2.1, ⟨hk.1.2.2.2.1, ⟨hk.1.2.2.2.2.1, hk.1.2.2.2.2.2⟩⟩⟩⟩⟩⟩)), (rt HO513), (blkt BK488), (blkt BK489), (blkt BK495), (blkt BK504), (blkt BK509), (blkt BK526), GW526.out, GE526.out, NB488_526.out, NB526_488.out, NB489_526.out, NB526_489.out, NB495_526.out, NB526_495.out, NB504_526.out, NB526_504.out, NB509_526.out, NB526_509.out, (belt HB)⟩)
            skip
            rintro v512 w51 ⟨hS_, h0_, h1_, h2_, h3_, h4_, h5_, h6_, h7_⟩
            replace HO499 : Aside0 (Kd.V (Kd.int .i64) 3 w51 w.heap.size (fun k_ => some k_ ≠ (v512 : Value).ownBlock ∧ k_ ≠ gb488 ∧ k_ ≠ gb489 ∧ k_ ≠ gb495 ∧ k_ ≠ gb504 ∧ k_ ≠ gb509) (.slice Ao33 t497.length co33) t497) := ⟨h0_⟩
            have HO513 : Aside0 (Kd.R (Kd.int .i64) 3 w51 w.heap.size (fun _ => True) v512 t511) := ⟨h1_⟩
            replace BK488 : Aside0 (w51.heap[gb488]? = some (.cells #[.int .i64 a1_0, .int .u64 a1_1] 59 (0, 0))) := ⟨h2_⟩
            replace BK489 : Aside0 (w51.heap[gb489]? = some (.cells #[.int .u64 a3_0, .int .u32 a3_1, .int .u32 a3_2] 67 (0, 0))) := ⟨h3_⟩
            replace BK495 : Aside0 (w51.heap[gb495]? = some (.cells #[.int .u64 t491, .int .u32 t492, .int .u32 t493] 67 (0, 0))) := ⟨h4_⟩
            replace BK504 : Aside0 (w51.heap[gb504]? = some (.cells #[.int .u64 t500, .int .u32 t501, .int .u32 t502] 71 (0, 0))) := ⟨h5_⟩
            replace BK509 : Aside0 (w51.heap[gb509]? = some (.cells #[.int .u64 t505, .int .u32 t506, .int .u32 t507] 67 (0, 0))) := ⟨h6_⟩
            replace HB : Aside0 (Below w.heap.size w w51) := ⟨h7_⟩
            clear h0_ h1_ h2_ h3_ h4_ h5_ h6_ h7_
            have hHeld : w51.cell? ⟨gb489, 0, none⟩ = some (.int .u64 a3_0) ∧ w51.cell? ⟨gb489, 1, none⟩ = some (.int .u32 a3_1) ∧ w51.cell? ⟨gb489, 2, none⟩ = some (.int .u32 a3_2) := hS_
            refine norm_ (a' := ?_) ?_ ?_
            rotate_left
            ·simp only [putAll, Act.put, List.setIfInBounds_toArray, List.set_cons_zero, List.set_cons_succ]
             rfl
            refine two_ (i := 7) (j := 15) (Ni := some 50) (Nj := some 17) #[true, true, true, true, true, true, true, true, false, true, true, false, false, false, false, false, false, false] #[true, true, true, true, true, true, true, false, false, true, true, false, false, false, false, true, false, false] rfl rfl rfl rfl (two_of HT_.out (by kernel_rfl)) (by decide) (by decide) (fun K hK => ?_) (fun K hK => ?_)
            ·skip
             refine goes_ Try.func24 (by kernel_rfl) rfl #[.int .u64 (IntKind.u64.wrap (a3_1))] (by rfl) rfl rfl argt ?_
             with_reducible refine (turnstoneref01_U.calls k (IntKind.u64.wrap (a3_1)) t514 t515 _ A13.out).mono ?_
             rintro e w52 ⟨v516, rfl, ho0, hb⟩
             refine ⟨_, rfl, ?_⟩
             replace HO499 := Aside0.mk (Kd.V_elder' (vt HO499) (Kd.R_base ho0) hb)
             have HO517 := Aside0.mk (Kd.R_lower (Kd.R_new' ho0 (Kd.R_lt (rt HO513))) (below_size (belt HB)))
             replace BK488 := blkb BK488 hb
             replace BK489 := blkb BK489 hb
             replace BK495 := blkb BK495 hb
             replace BK504 := blkb BK504 hb
             replace BK509 := blkb BK509 hb
             replace HO513 := Aside0.mk (Kd.R_elder' (rt HO513) (Kd.R_base ho0) hb)
             replace HB := belb HB hb
             (try clear hb)
             (try clear hb2)
             (try clear hk)
             (try clear hi)
             (try clear ho0)
             refine hK.out _ _ ⟨bc BK489 0, bc BK489 1, bc BK489 2⟩ (fun hHeld => ?_)
             clear hK K
             refine norm_ (a' := ?_) ?_ ?_
             rotate_left
             ·show Act.put _ (some 50) _ = _
              simp only [Act.put, List.setIfInBounds_toArray, List.set_cons_zero, List.set_cons_succ, i64_w, i32_w]
              rfl
             exact norm_ (by first | (simp only [putAll, Act.put, List.setIfInBounds_toArray, List.set_cons_zero, List.set_cons_succ]; done) | (simp only [putAll, Act.put, List.setIfInBounds_toArray, List.set_cons_zero, List.set_cons_succ]; rfl)) (hJ3_7 (v512, v516) _ ⟨hHeld, (by (with_reducible repeat (first | apply Kd.V_alloc | apply Kd.V_drewN | apply Kd.V_drew)); exact Kd.V_mono HO499.out (fun _ hk => ⟨hk.1.1, ⟨hk.2, ⟨hk.1.2.1, ⟨hk.1.2.2.1, ⟨hk.1.2.2.2.1, ⟨hk.1.2.2.2.2.1, hk.1.2.2.2.2.2⟩⟩⟩⟩⟩⟩)), (by (with_reducible repeat (first | apply Kd.R_alloc | apply Kd.R_drewN | apply Kd.R_drew)); exact Kd.R_mono HO513.out (fun _ hk => hk.2)), (by (with_reducible repeat (first | apply Kd.R_alloc | apply Kd.R_drewN | apply Kd.R_drew)); exact Kd.R_mono HO517.out (fun _ hk => hk.2)), (blkt BK488), (blkt BK489), (blkt BK495), (blkt BK504), (blkt BK509), (belt HB)⟩)
            skip
            refine box_step ?hg (N := 17) ?hd (cs := #[.int .u64 0, .int .u32 0, .int .u32 0]) (t := 71) ?hr ?_; (case hd => rfl); (case hg => rfl); (case hr => first | (go_simp; done) | (go_simp; rfl))
            intro gb526 hg w52 hbox hb
            replace HO499 := Aside0.mk (Kd.V_below (Kd.V_elderB (vt HO499) gb526 (Nat.le_of_eq hg.symm)) hb)
            replace HO513 := rb HO513 hb
            have BK526 := Aside0.mk (hbox)
            have GW526 := bels HB hg
            have GE526 := bels HB hg
            have NB488_526 := blkl BK488 hg
            have NB526_488 := blkg BK488 hg
            have NB489_526 := blkl BK489 hg
            have NB526_489 := blkg BK489 hg
            have NB495_526 := blkl BK495 hg
            have NB526_495 := blkg BK495 hg
            have NB504_526 := blkl BK504 hg
            have NB526_504 := blkg BK504 hg
            have NB509_526 := blkl BK509 hg
            have NB526_509 := blkg BK509 hg
            replace BK488 := blkb BK488 hb
            replace BK489 := blkb BK489 hb
            replace BK495 := blkb BK495 hb
            replace BK504 := blkb BK504 hb
            replace BK509 := blkb BK509 hb
            replace HB := belb HB hb
            clear hb hbox hg
            refine hK.out _ _ ⟨bc BK489 0, bc BK489 1, bc BK489 2⟩ (fun hHeld => ?_)
            clear hK K
            refine norm_ (a' := ?_) ?_ ?_
            rotate_left
            ·show Act.put _ (some 17) _ = _
             simp only [Act.put, List.setIfInBounds_toArray, List.set_cons_zero, List.set_cons_succ, i64_w, i32_w]
             rfl
            exact norm_ (by first | (simp only [putAll, Act.put, List.setIfInBounds_toArray, List.set_cons_zero, List.set_cons_succ]; done) | (simp only [putAll, Act.put, List.setIfInBounds_toArray, List.set_cons_zero, List.set_cons_succ]; rfl)) (hJ3_15 (v512, gb526) _ ⟨hHeld, (by (with_reducible repeat (first | apply Kd.V_alloc | apply Kd.V_drewN | apply Kd.V_drew)); exact Kd.V_mono HO499.out (fun _ hk => ⟨hk.1.1, ⟨hk.1.2.1, ⟨hk.1.2.2.1, ⟨hk.1.2.2.2.1, ⟨hk.1.2.2.2.2.1, ⟨hk.1.2.2.2.2.2, hk.2⟩⟩⟩⟩⟩⟩)), (rt HO513), (blkt BK488), (blkt BK489), (blkt BK495), (blkt BK504), (blkt BK509), (blkt BK526), GW526.out, GE526.out, NB488_526.out, NB526_488.out, NB489_526.out, NB526_489.out, NB495_526.out, NB526_495.out, NB504_526.out, NB526_504.out, NB509_526.out, NB526_509.out, (belt HB)⟩)
           skip
           rintro ⟨v512, gb526⟩ w52 ⟨hS_, h0_, h1_, h2_, h3_, h4_, h5_, h6_, h7_, h8_, h9_, h10_, h11_, h12_, h13_, h14_, h15_, h16_, h17_, h18_, h19_, h20_⟩
           replace HO499 : Aside0 (Kd.V (Kd.int .i64) 3 w52 w.heap.size (fun k_ => some k_ ≠ (v512 : Value).ownBlock ∧ k_ ≠ gb488 ∧ k_ ≠ gb489 ∧ k_ ≠ gb495 ∧ k_ ≠ gb504 ∧ k_ ≠ gb509 ∧ k_ ≠ gb526) (.slice Ao33 t497.length co33) t497) := ⟨h0_⟩
           have HO513 : Aside0 (Kd.R (Kd.int .i64) 3 w52 w.heap.size (fun _ => True) v512 t511) := ⟨h1_⟩
           replace BK488 : Aside0 (w52.heap[gb488]? = some (.cells #[.int .i64 a1_0, .int .u64 a1_1] 59 (0, 0))) := ⟨h2_⟩
           replace BK489 : Aside0 (w52.heap[gb489]? = some (.cells #[.int .u64 a3_0, .int .u32 a3_1, .int .u32 a3_2] 67 (0, 0))) := ⟨h3_⟩
           replace BK495 : Aside0 (w52.heap[gb495]? = some (.cells #[.int .u64 t491, .int .u32 t492, .int .u32 t493] 67 (0, 0))) := ⟨h4_⟩
           replace BK504 : Aside0 (w52.heap[gb504]? = some (.cells #[.int .u64 t500, .int .u32 t501, .int .u32 t502] 71 (0, 0))) := ⟨h5_⟩
           replace BK509 : Aside0 (w52.heap[gb509]? = some (.cells #[.int .u64 t505, .int .u32 t506, .int .u32 t507] 67 (0, 0))) := ⟨h6_⟩
           have BK526 : Aside0 (w52.heap[gb526]? = some (.cells #[.int .u64 0, .int .u32 0, .int .u32 0] 71 (0, 0))) := ⟨h7_⟩
           have GW526 : Aside0 (w.heap.size ≤ gb526) := ⟨h8_⟩
           have GE526 : Aside0 (w.heap.size ≤ gb526) := ⟨h9_⟩
           have NB488_526 : Aside0 (gb488 ≠ gb526) := ⟨h10_⟩
           have NB526_488 : Aside0 (gb526 ≠ gb488) := ⟨h11_⟩
           have NB489_526 : Aside0 (gb489 ≠ gb526) := ⟨h12_⟩
           have NB526_489 : Aside0 (gb526 ≠ gb489) := ⟨h13_⟩
           have NB495_526 : Aside0 (gb495 ≠ gb526) := ⟨h14_⟩
           have NB526_495 : Aside0 (gb526 ≠ gb495) := ⟨h15_⟩
           have NB504_526 : Aside0 (gb504 ≠ gb526) := ⟨h16_⟩
           have NB526_504 : Aside0 (gb526 ≠ gb504) := ⟨h17_⟩
           have NB509_526 : Aside0 (gb509 ≠ gb526) := ⟨h18_⟩
           have NB526_509 : Aside0 (gb526 ≠ gb509) := ⟨h19_⟩
           replace HB : Aside0 (Below w.heap.size w w52) := ⟨h20_⟩
           clear h0_ h1_ h2_ h3_ h4_ h5_ h6_ h7_ h8_ h9_ h10_ h11_ h12_ h13_ h14_ h15_ h16_ h17_ h18_ h19_ h20_
           have hHeld : w52.cell? ⟨gb489, 0, none⟩ = some (.int .u64 a3_0) ∧ w52.cell? ⟨gb489, 1, none⟩ = some (.int .u32 a3_1) ∧ w52.cell? ⟨gb489, 2, none⟩ = some (.int .u32 a3_2) := hS_
           refine norm_ (a' := ?_) ?_ ?_
           rotate_left
           ·simp only [putAll, Act.put, List.setIfInBounds_toArray, List.set_cons_zero, List.set_cons_succ]
            rfl
           refine one_ (i := 7) (N := some 50) #[true, true, true, true, true, true, true, true, false, true, true, false, false, false, false, true, false, false] rfl rfl (one_of HT_.out (by kernel_rfl)) (by decide) (fun K hK => ?_)
           refine goes_ Try.func24 (by kernel_rfl) rfl #[.int .u64 (IntKind.u64.wrap (a3_1))] (by rfl) rfl rfl argt ?_
           with_reducible refine (turnstoneref01_U.calls k (IntKind.u64.wrap (a3_1)) t514 t515 _ A13.out).mono ?_
           rintro e w53 ⟨v516, rfl, ho0, hb⟩
           refine ⟨_, rfl, ?_⟩
           replace HO499 := Aside0.mk (Kd.V_elder' (vt HO499) (Kd.R_base ho0) hb)
           have HO517 := Aside0.mk (Kd.R_lower (Kd.R_new' ho0 (Kd.R_lt (rt HO513))) (below_size (belt HB)))
           replace BK488 := blkb BK488 hb
           replace BK489 := blkb BK489 hb
           replace BK495 := blkb BK495 hb
           replace BK504 := blkb BK504 hb
           replace BK509 := blkb BK509 hb
           replace BK526 := blkb BK526 hb
           replace HO513 := Aside0.mk (Kd.R_elder' (rt HO513) (Kd.R_base ho0) hb)
           replace HB := belb HB hb
           (try clear hb)
           (try clear hb2)
           (try clear hk)
           (try clear hi)
           (try clear ho0)
           refine hK.out _ _ ⟨bc BK489 0, bc BK489 1, bc BK489 2⟩ (fun hHeld => ?_)
           clear hK K
           refine norm_ (a' := ?_) ?_ ?_
           rotate_left
           ·show Act.put _ (some 50) _ = _
            simp only [Act.put, List.setIfInBounds_toArray, List.set_cons_zero, List.set_cons_succ, i64_w, i32_w]
            rfl
           exact norm_ (by first | (simp only [putAll, Act.put, List.setIfInBounds_toArray, List.set_cons_zero, List.set_cons_succ]; done) | (simp only [putAll, Act.put, List.setIfInBounds_toArray, List.set_cons_zero, List.set_cons_succ]; rfl)) (hJ3_7_15 (v512, v516, gb526) _ ⟨hHeld, (by (with_reducible repeat (first | apply Kd.V_alloc | apply Kd.V_drewN | apply Kd.V_drew)); exact Kd.V_mono HO499.out (fun _ hk => ⟨hk.1.1, ⟨hk.2, ⟨hk.1.2.1, ⟨hk.1.2.2.1, ⟨hk.1.2.2.2.1, ⟨hk.1.2.2.2.2.1, ⟨hk.1.2.2.2.2.2.1, hk.1.2.2.2.2.2.2⟩⟩⟩⟩⟩⟩⟩)), (by (with_reducible repeat (first | apply Kd.R_alloc | apply Kd.R_drewN | apply Kd.R_drew)); exact Kd.R_mono HO513.out (fun _ hk => hk.2)), (by (with_reducible repeat (first | apply Kd.R_alloc | apply Kd.R_drewN | apply Kd.R_drew)); exact Kd.R_mono HO517.out (fun _ hk => hk.2)), (blkt BK488), (blkt BK489), (blkt BK495), (blkt BK504), (blkt BK509), (blkt BK526), GW526.out, GE526.out, NB488_526.out, NB526_488.out, NB489_526.out, NB526_489.out, NB495_526.out, NB526_495.out, NB504_526.out, NB526_504.out, NB509_526.out, NB526_509.out, (belt HB)⟩)
          skip
          rintro ⟨v512, v516⟩ w52 ⟨hS_, h0_, h1_, h2_, h3_, h4_, h5_, h6_, h7_, h8_⟩
          replace HO499 : Aside0 (Kd.V (Kd.int .i64) 3 w52 w.heap.size (fun k_ => some k_ ≠ (v512 : Value).ownBlock ∧ some k_ ≠ (v516 : Value).ownBlock ∧ k_ ≠ gb488 ∧ k_ ≠ gb489 ∧ k_ ≠ gb495 ∧ k_ ≠ gb504 ∧ k_ ≠ gb509) (.slice Ao33 t497.length co33) t497) := ⟨h0_⟩
          have HO513 : Aside0 (Kd.R (Kd.int .i64) 3 w52 w.heap.size (fun k_ => some k_ ≠ (v516 : Value).ownBlock) v512 t511) := ⟨h1_⟩
          have HO517 : Aside0 (Kd.R (Kd.int .i64) 3 w52 w.heap.size (fun k_ => some k_ ≠ (v512 : Value).ownBlock) v516 t515) := ⟨h2_⟩
          replace BK488 : Aside0 (w52.heap[gb488]? = some (.cells #[.int .i64 a1_0, .int .u64 a1_1] 59 (0, 0))) := ⟨h3_⟩
          replace BK489 : Aside0 (w52.heap[gb489]? = some (.cells #[.int .u64 a3_0, .int .u32 a3_1, .int .u32 a3_2] 67 (0, 0))) := ⟨h4_⟩
          replace BK495 : Aside0 (w52.heap[gb495]? = some (.cells #[.int .u64 t491, .int .u32 t492, .int .u32 t493] 67 (0, 0))) := ⟨h5_⟩
          replace BK504 : Aside0 (w52.heap[gb504]? = some (.cells #[.int .u64 t500, .int .u32 t501, .int .u32 t502] 71 (0, 0))) := ⟨h6_⟩
          replace BK509 : Aside0 (w52.heap[gb509]? = some (.cells #[.int .u64 t505, .int .u32 t506, .int .u32 t507] 67 (0, 0))) := ⟨h7_⟩
          replace HB : Aside0 (Below w.heap.size w w52) := ⟨h8_⟩
          clear h0_ h1_ h2_ h3_ h4_ h5_ h6_ h7_ h8_
          have hHeld : w52.cell? ⟨gb489, 0, none⟩ = some (.int .u64 a3_0) ∧ w52.cell? ⟨gb489, 1, none⟩ = some (.int .u32 a3_1) ∧ w52.cell? ⟨gb489, 2, none⟩ = some (.int .u32 a3_2) := hS_
          obtain ⟨Ao53, co53, eo53⟩ := Kd.R_slice HO513.out
          (first | subst eo53 | (injection eo53 with f1_ f2_ f3_; have f4_ := f1_.symm; have f5_ := f3_.symm; clear f1_ f2_ f3_; subst f4_; subst f5_))
          obtain ⟨Ao54, co54, eo54⟩ := Kd.R_slice HO517.out
          (first | subst eo54 | (injection eo54 with f1_ f2_ f3_; have f4_ := f1_.symm; have f5_ := f3_.symm; clear f1_ f2_ f3_; subst f4_; subst f5_))
          refine norm_ (a' := ?_) ?_ ?_
          rotate_left
          ·simp only [putAll, Act.put, List.setIfInBounds_toArray, List.set_cons_zero, List.set_cons_succ]
           rfl
          refine two_ (i := 8) (j := 15) (Ni := some 51) (Nj := some 17) #[true, true, true, true, true, true, true, true, true, true, true, false, false, false, false, false, false, false] #[true, true, true, true, true, true, true, true, false, true, true, false, false, false, false, true, false, false] rfl rfl rfl rfl (two_of HT_.out (by kernel_rfl)) (by decide) (by decide) (fun K hK => ?_) (fun K hK => ?_)
          ·skip
           refine goes_ Try.func27 (by kernel_rfl) rfl #[.agg #[.bool t510, .slice Ao53 t511.length co53], .agg #[.bool t514, .slice Ao54 t515.length co54]] (by rfl) rfl rfl argt ?_
           with_reducible refine (turnstoneref01_Add.calls k t510 _ _ t511 t514 _ _ t515 t518 t519 _ ?side1 ?side2 ?side3 ?side4 A14.out).mono ?_
           (case side1 => repeat (first | exact (Kd.R_reads' HO513.out).2.2 | (with_reducible refine Kd.C_alloc ?_ _) | (with_reducible refine Kd.C_drewN ?_ _) | (with_reducible refine Kd.C_drew ?_)))
           (case side2 => exact (Kd.R_reads' HO513.out).2.1)
           (case side3 => repeat (first | exact (Kd.R_reads' HO517.out).2.2 | (with_reducible refine Kd.C_alloc ?_ _) | (with_reducible refine Kd.C_drewN ?_ _) | (with_reducible refine Kd.C_drew ?_)))
           (case side4 => exact (Kd.R_reads' HO517.out).2.1)
           rintro e w55 ⟨v520, rfl, ho0, hb⟩
           refine ⟨_, rfl, ?_⟩
           replace HO499 := vb HO499 hb
           have HO521 := Aside0.mk (Kd.V_lower (Kd.V_mono (ok' := fun k_ => some k_ ≠ (.slice Ao53 t511.length co53 : Value).ownBlock ∧ some k_ ≠ (.slice Ao54 t515.length co54 : Value).ownBlock ∧ k_ ≠ gb488 ∧ k_ ≠ gb489 ∧ k_ ≠ gb495 ∧ k_ ≠ gb504 ∧ k_ ≠ gb509) ho0 (fun k_ hk_ => ⟨(Kd.fresh' (Kd.R_lt (rt HO513)) k_ hk_), (Kd.fresh' (Kd.R_lt (rt HO517)) k_ hk_), (Kd.freshB (blkt BK488) k_ hk_), (Kd.freshB (blkt BK489) k_ hk_), (Kd.freshB (blkt BK495) k_ hk_), (Kd.freshB (blkt BK504) k_ hk_), (Kd.freshB (blkt BK509) k_ hk_)⟩)) (below_size (belt HB)))
           replace HO513 := rb HO513 hb
           replace HO517 := rb HO517 hb
           replace BK488 := blkb BK488 hb
           replace BK489 := blkb BK489 hb
           replace BK495 := blkb BK495 hb
           replace BK504 := blkb BK504 hb
           replace BK509 := blkb BK509 hb
           replace HB := belb HB hb
           (try clear hb)
           (try clear hb2)
           (try clear hk)
           (try clear hi)
           (try clear ho0)
           refine hK.out _ _ ⟨bc BK489 0, bc BK489 1, bc BK489 2⟩ (fun hHeld => ?_)
           clear hK K
           refine norm_ (a' := ?_) ?_ ?_
           rotate_left
           ·show Act.put _ (some 51) _ = _
            simp only [Act.put, List.setIfInBounds_toArray, List.set_cons_zero, List.set_cons_succ, i64_w, i32_w]
            rfl
           exact norm_ (by first | (simp only [putAll, Act.put, List.setIfInBounds_toArray, List.set_cons_zero, List.set_cons_succ]; done) | (simp only [putAll, Act.put, List.setIfInBounds_toArray, List.set_cons_zero, List.set_cons_succ]; rfl)) (hJ3_7_8 (.slice Ao53 t511.length co53, .slice Ao54 t515.length co54, v520) _ ⟨hHeld, (vt HO499), (rt HO513), (rt HO517), (vt HO521), (blkt BK488), (blkt BK489), (blkt BK495), (blkt BK504), (blkt BK509), (belt HB)⟩)
          skip
          refine box_step ?hg (N := 17) ?hd (cs := #[.int .u64 0, .int .u32 0, .int .u32 0]) (t := 71) ?hr ?_; (case hd => rfl); (case hg => rfl); (case hr => first | (go_simp; done) | (go_simp; rfl))
          intro gb526 hg w53 hbox hb
          replace HO499 := Aside0.mk (Kd.V_below (Kd.V_elderB (vt HO499) gb526 (Nat.le_of_eq hg.symm)) hb)
          replace HO513 := rb HO513 hb
          replace HO517 := rb HO517 hb
          have BK526 := Aside0.mk (hbox)
          have GW526 := bels HB hg
          have GE526 := bels HB hg
          have NB488_526 := blkl BK488 hg
          have NB526_488 := blkg BK488 hg
          have NB489_526 := blkl BK489 hg
          have NB526_489 := blkg BK489 hg
          have NB495_526 := blkl BK495 hg
          have NB526_495 := blkg BK495 hg
          have NB504_526 := blkl BK504 hg
          have NB526_504 := blkg BK504 hg
          have NB509_526 := blkl BK509 hg
          have NB526_509 := blkg BK509 hg
          replace BK488 := blkb BK488 hb
          replace BK489 := blkb BK489 hb
          replace BK495 := blkb BK495 hb
          replace BK504 := blkb BK504 hb
          replace BK509 := blkb BK509 hb
          replace HB := belb HB hb
          clear hb hbox hg
          refine hK.out _ _ ⟨bc BK489 0, bc BK489 1, bc BK489 2⟩ (fun hHeld => ?_)
          clear hK K
          refine norm_ (a' := ?_) ?_ ?_
          rotate_left
          ·show Act.put _ (some 17) _ = _
           simp only [Act.put, List.setIfInBounds_toArray, List.set_cons_zero, List.set_cons_succ, i64_w, i32_w]
           rfl
          exact norm_ (by first | (simp only [putAll, Act.put, List.setIfInBounds_toArray, List.set_cons_zero, List.set_cons_succ]; done) | (simp only [putAll, Act.put, List.setIfInBounds_toArray, List.set_cons_zero, List.set_cons_succ]; rfl)) (hJ3_7_15 ((.slice Ao53 t511.length co53), (.slice Ao54 t515.length co54), gb526) _ ⟨hHeld, (by (with_reducible repeat (first | apply Kd.V_alloc | apply Kd.V_drewN | apply Kd.V_drew)); exact Kd.V_mono HO499.out (fun _ hk => ⟨hk.1.1, ⟨hk.1.2.1, ⟨hk.1.2.2.1, ⟨hk.1.2.2.2.1, ⟨hk.1.2.2.2.2.1, ⟨hk.1.2.2.2.2.2.1, ⟨hk.1.2.2.2.2.2.2, hk.2⟩⟩⟩⟩⟩⟩⟩)), (rt HO513), (rt HO517), (blkt BK488), (blkt BK489), (blkt BK495), (blkt BK504), (blkt BK509), (blkt BK526), GW526.out, GE526.out, NB488_526.out, NB526_488.out, NB489_526.out, NB526_489.out, NB495_526.out, NB526_495.out, NB504_526.out, NB526_504.out, NB509_526.out, NB526_509.out, (belt HB)⟩)
         skip
         rintro ⟨v512, v516, gb526⟩ w53 ⟨hS_, h0_, h1_, h2_, h3_, h4_, h5_, h6_, h7_, h8_, h9_, h10_, h11_, h12_, h13_, h14_, h15_, h16_, h17_, h18_, h19_, h20_, h21_⟩
         replace HO499 : Aside0 (Kd.V (Kd.int .i64) 3 w53 w.heap.size (fun k_ => some k_ ≠ (v512 : Value).ownBlock ∧ some k_ ≠ (v516 : Value).ownBlock ∧ k_ ≠ gb488 ∧ k_ ≠ gb489 ∧ k_ ≠ gb495 ∧ k_ ≠ gb504 ∧ k_ ≠ gb509 ∧ k_ ≠ gb526) (.slice Ao33 t497.length co33) t497) := ⟨h0_⟩
         have HO513 : Aside0 (Kd.R (Kd.int .i64) 3 w53 w.heap.size (fun k_ => some k_ ≠ (v516 : Value).ownBlock) v512 t511) := ⟨h1_⟩
         have HO517 : Aside0 (Kd.R (Kd.int .i64) 3 w53 w.heap.size (fun k_ => some k_ ≠ (v512 : Value).ownBlock) v516 t515) := ⟨h2_⟩
         replace BK488 : Aside0 (w53.heap[gb488]? = some (.cells #[.int .i64 a1_0, .int .u64 a1_1] 59 (0, 0))) := ⟨h3_⟩
         replace BK489 : Aside0 (w53.heap[gb489]? = some (.cells #[.int .u64 a3_0, .int .u32 a3_1, .int .u32 a3_2] 67 (0, 0))) := ⟨h4_⟩
         replace BK495 : Aside0 (w53.heap[gb495]? = some (.cells #[.int .u64 t491, .int .u32 t492, .int .u32 t493] 67 (0, 0))) := ⟨h5_⟩
         replace BK504 : Aside0 (w53.heap[gb504]? = some (.cells #[.int .u64 t500, .int .u32 t501, .int .u32 t502] 71 (0, 0))) := ⟨h6_⟩
         replace BK509 : Aside0 (w53.heap[gb509]? = some (.cells #[.int .u64 t505, .int .u32 t506, .int .u32 t507] 67 (0, 0))) := ⟨h7_⟩
         have BK526 : Aside0 (w53.heap[gb526]? = some (.cells #[.int .u64 0, .int .u32 0, .int .u32 0] 71 (0, 0))) := ⟨h8_⟩
         have GW526 : Aside0 (w.heap.size ≤ gb526) := ⟨h9_⟩
         have GE526 : Aside0 (w.heap.size ≤ gb526) := ⟨h10_⟩
         have NB488_526 : Aside0 (gb488 ≠ gb526) := ⟨h11_⟩
         have NB526_488 : Aside0 (gb526 ≠ gb488) := ⟨h12_⟩
         have NB489_526 : Aside0 (gb489 ≠ gb526) := ⟨h13_⟩
         have NB526_489 : Aside0 (gb526 ≠ gb489) := ⟨h14_⟩
         have NB495_526 : Aside0 (gb495 ≠ gb526) := ⟨h15_⟩
         have NB526_495 : Aside0 (gb526 ≠ gb495) := ⟨h16_⟩
         have NB504_526 : Aside0 (gb504 ≠ gb526) := ⟨h17_⟩
         have NB526_504 : Aside0 (gb526 ≠ gb504) := ⟨h18_⟩
         have NB509_526 : Aside0 (gb509 ≠ gb526) := ⟨h19_⟩
         have NB526_509 : Aside0 (gb526 ≠ gb509) := ⟨h20_⟩
         replace HB : Aside0 (Below w.heap.size w w53) := ⟨h21_⟩
         clear h0_ h1_ h2_ h3_ h4_ h5_ h6_ h7_ h8_ h9_ h10_ h11_ h12_ h13_ h14_ h15_ h16_ h17_ h18_ h19_ h20_ h21_
         have hHeld : w53.cell? ⟨gb489, 0, none⟩ = some (.int .u64 a3_0) ∧ w53.cell? ⟨gb489, 1, none⟩ = some (.int .u32 a3_1) ∧ w53.cell? ⟨gb489, 2, none⟩ = some (.int .u32 a3_2) := hS_
         obtain ⟨Ao54, co54, eo54⟩ := Kd.R_slice HO513.out
         (first | subst eo54 | (injection eo54 with f1_ f2_ f3_; have f4_ := f1_.symm; have f5_ := f3_.symm; clear f1_ f2_ f3_; subst f4_; subst f5_))
         obtain ⟨Ao55, co55, eo55⟩ := Kd.R_slice HO517.out
         (first | subst eo55 | (injection eo55 with f1_ f2_ f3_; have f4_ := f1_.symm; have f5_ := f3_.symm; clear f1_ f2_ f3_; subst f4_; subst f5_))
         refine norm_ (a' := ?_) ?_ ?_
         rotate_left
         ·simp only [putAll, Act.put, List.setIfInBounds_toArray, List.set_cons_zero, List.set_cons_succ]
          rfl
         refine one_ (i := 8) (N := some 51) #[true, true, true, true, true, true, true, true, true, true, true, false, false, false, false, true, false, false] rfl rfl (one_of HT_.out (by kernel_rfl)) (by decide) (fun K hK => ?_)
         refine goes_ Try.func27 (by kernel_rfl) rfl #[.agg #[.bool t510, .slice Ao54 t511.length co54], .agg #[.bool t514, .slice Ao55 t515.length co55]] (by rfl) rfl rfl argt ?_
         with_reducible refine (turnstoneref01_Add.calls k t510 _ _ t511 t514 _ _ t515 t518 t519 _ ?side1 ?side2 ?side3 ?side4 A14.out).mono ?_
         (case side1 => repeat (first | exact (Kd.R_reads' HO513.out).2.2 | (with_reducible refine Kd.C_alloc ?_ _) | (with_reducible refine Kd.C_drewN ?_ _) | (with_reducible refine Kd.C_drew ?_)))
         (case side2 => exact (Kd.R_reads' HO513.out).2.1)
         (case side3 => repeat (first | exact (Kd.R_reads' HO517.out).2.2 | (with_reducible refine Kd.C_alloc ?_ _) | (with_reducible refine Kd.C_drewN ?_ _) | (with_reducible refine Kd.C_drew ?_)))
         (case side4 => exact (Kd.R_reads' HO517.out).2.1)
         rintro e w56 ⟨v520, rfl, ho0, hb⟩
         refine ⟨_, rfl, ?_⟩
         replace HO499 := vb HO499 hb
         have HO521 := Aside0.mk (Kd.V_lower (Kd.V_mono (ok' := fun k_ => some k_ ≠ (.slice Ao54 t511.length co54 : Value).ownBlock ∧ some k_ ≠ (.slice Ao55 t515.length co55 : Value).ownBlock ∧ k_ ≠ gb488 ∧ k_ ≠ gb489 ∧ k_ ≠ gb495 ∧ k_ ≠ gb504 ∧ k_ ≠ gb509 ∧ k_ ≠ gb526) ho0 (fun k_ hk_ => ⟨(Kd.fresh' (Kd.R_lt (rt HO513)) k_ hk_), (Kd.fresh' (Kd.R_lt (rt HO517)) k_ hk_), (Kd.freshB (blkt BK488) k_ hk_), (Kd.freshB (blkt BK489) k_ hk_), (Kd.freshB (blkt BK495) k_ hk_), (Kd.freshB (blkt BK504) k_ hk_), (Kd.freshB (blkt BK509) k_ hk_), (Kd.freshB (blkt BK526) k_ hk_)⟩)) (below_size (belt HB)))
         replace HO513 := rb HO513 hb
         replace HO517 := rb HO517 hb
         replace BK488 := blkb BK488 hb
         replace BK489 := blkb BK489 hb
         replace BK495 := blkb BK495 hb
         replace BK504 := blkb BK504 hb
         replace BK509 := blkb BK509 hb
         replace BK526 := blkb BK526 hb
         replace HB := belb HB hb
         (try clear hb)
         (try clear hb2)
         (try clear hk)
         (try clear hi)
         (try clear ho0)
         refine hK.out _ _ ⟨bc BK489 0, bc BK489 1, bc BK489 2⟩ (fun hHeld => ?_)
         clear hK K
         refine norm_ (a' := ?_) ?_ ?_
         rotate_left
         ·show Act.put _ (some 51) _ = _
          simp only [Act.put, List.setIfInBounds_toArray, List.set_cons_zero, List.set_cons_succ, i64_w, i32_w]
          rfl
         exact norm_ (by first | (simp only [putAll, Act.put, List.setIfInBounds_toArray, List.set_cons_zero, List.set_cons_succ]; done) | (simp only [putAll, Act.put, List.setIfInBounds_toArray, List.set_cons_zero, List.set_cons_succ]; rfl)) (hJ3_7_8_15 (.slice Ao54 t511.length co54, .slice Ao55 t515.length co55, v520, gb526) _ ⟨hHeld, (vt HO499), (rt HO513), (rt HO517), (vt HO521), (blkt BK488), (blkt BK489), (blkt BK495), (blkt BK504), (blkt BK509), (blkt BK526), GW526.out, GE526.out, NB488_526.out, NB526_488.out, NB489_526.out, NB526_489.out, NB495_526.out, NB526_495.out, NB504_526.out, NB526_504.out, NB509_526.out, NB526_509.out, (belt HB)⟩)
        skip
        rintro ⟨v512, v516, v520⟩ w55 ⟨hS_, h0_, h1_, h2_, h3_, h4_, h5_, h6_, h7_, h8_, h9_⟩
        replace HO499 : Aside0 (Kd.V (Kd.int .i64) 3 w55 w.heap.size (fun k_ => some k_ ≠ (v512 : Value).ownBlock ∧ some k_ ≠ (v516 : Value).ownBlock ∧ k_ ≠ gb488 ∧ k_ ≠ gb489 ∧ k_ ≠ gb495 ∧ k_ ≠ gb504 ∧ k_ ≠ gb509) (.slice Ao33 t497.length co33) t497) := ⟨h0_⟩
        have HO513 : Aside0 (Kd.R (Kd.int .i64) 3 w55 w.heap.size (fun k_ => some k_ ≠ (v516 : Value).ownBlock) v512 t511) := ⟨h1_⟩
        have HO517 : Aside0 (Kd.R (Kd.int .i64) 3 w55 w.heap.size (fun k_ => some k_ ≠ (v512 : Value).ownBlock) v516 t515) := ⟨h2_⟩
        have HO521 : Aside0 (Kd.V (Kd.int .i64) 3 w55 w.heap.size (fun k_ => some k_ ≠ (v512 : Value).ownBlock ∧ some k_ ≠ (v516 : Value).ownBlock ∧ k_ ≠ gb488 ∧ k_ ≠ gb489 ∧ k_ ≠ gb495 ∧ k_ ≠ gb504 ∧ k_ ≠ gb509) v520 t519) := ⟨h3_⟩
        replace BK488 : Aside0 (w55.heap[gb488]? = some (.cells #[.int .i64 a1_0, .int .u64 a1_1] 59 (0, 0))) := ⟨h4_⟩
        replace BK489 : Aside0 (w55.heap[gb489]? = some (.cells #[.int .u64 a3_0, .int .u32 a3_1, .int .u32 a3_2] 67 (0, 0))) := ⟨h5_⟩
        replace BK495 : Aside0 (w55.heap[gb495]? = some (.cells #[.int .u64 t491, .int .u32 t492, .int .u32 t493] 67 (0, 0))) := ⟨h6_⟩
        replace BK504 : Aside0 (w55.heap[gb504]? = some (.cells #[.int .u64 t500, .int .u32 t501, .int .u32 t502] 71 (0, 0))) := ⟨h7_⟩
        replace BK509 : Aside0 (w55.heap[gb509]? = some (.cells #[.int .u64 t505, .int .u32 t506, .int .u32 t507] 67 (0, 0))) := ⟨h8_⟩
        replace HB : Aside0 (Below w.heap.size w w55) := ⟨h9_⟩
        clear h0_ h1_ h2_ h3_ h4_ h5_ h6_ h7_ h8_ h9_
        have hHeld : w55.cell? ⟨gb489, 0, none⟩ = some (.int .u64 a3_0) ∧ w55.cell? ⟨gb489, 1, none⟩ = some (.int .u32 a3_1) ∧ w55.cell? ⟨gb489, 2, none⟩ = some (.int .u32 a3_2) := hS_
        obtain ⟨Ao56, co56, eo56⟩ := Kd.V_slice HO521.out
        (first | subst eo56 | (injection eo56 with f1_ f2_ f3_; have f4_ := f1_.symm; have f5_ := f3_.symm; clear f1_ f2_ f3_; subst f4_; subst f5_))
        refine norm_ (a' := ?_) ?_ ?_
        rotate_left
        ·simp only [putAll, Act.put, List.setIfInBounds_toArray, List.set_cons_zero, List.set_cons_succ]
         rfl
        refine two_ (i := 11) (j := 15) (Ni := some 54) (Nj := some 17) #[true, true, true, true, true, true, true, true, true, true, true, true, false, false, false, false, false, false] #[true, true, true, true, true, true, true, true, true, true, true, false, false, false, false, true, false, false] rfl rfl rfl rfl (two_of HT_.out (by kernel_rfl)) (by decide) (by decide) (fun K hK => ?_) (fun K hK => ?_)
        ·skip
         refine goes_ Try.func46 (by kernel_rfl) rfl #[.int .u64 a3_0, .agg #[.bool t518, .slice Ao56 t519.length co56], .int .u32 a3_2] (by rfl) rfl rfl argt ?_
         with_reducible refine (turnstoneref04_At.calls k a3_0 t518 _ _ t519 a3_2 t522 t523 t524 t525 _ ?side1 ?side2 A15.out).mono ?_
         (case side1 => repeat (first | exact (Kd.V_reads' HO521.out).2.2 | (with_reducible refine Kd.C_alloc ?_ _) | (with_reducible refine Kd.C_drewN ?_ _) | (with_reducible refine Kd.C_drew ?_)))
         (case side2 => exact (Kd.V_reads' HO521.out).2.1)
         rintro e w57 ⟨rfl, hb⟩
         refine ⟨_, rfl, ?_⟩
         replace HO499 := vb HO499 hb
         replace HO513 := rb HO513 hb
         replace HO517 := rb HO517 hb
         replace HO521 := vb HO521 hb
         replace BK488 := blkb BK488 hb
         replace BK489 := blkb BK489 hb
         replace BK495 := blkb BK495 hb
         replace BK504 := blkb BK504 hb
         replace BK509 := blkb BK509 hb
         replace HB := belb HB hb
         (try clear hb)
         (try clear hb2)
         (try clear hk)
         (try clear hi)
         refine hK.out _ _ ⟨bc BK489 0, bc BK489 1, bc BK489 2⟩ (fun hHeld => ?_)
         clear hK K
         refine norm_ (a' := ?_) ?_ ?_
         rotate_left
         ·show Act.put _ (some 54) _ = _
          simp only [Act.put, List.setIfInBounds_toArray, List.set_cons_zero, List.set_cons_succ, i64_w, i32_w]
          rfl
         refine pure_ (i := 12) (N := some 42) (v := ?_) (a' := ?_) #[true, true, true, true, true, true, true, true, true, true, true, true, true, false, false, false, false, false] rfl rfl (any_of HT_.out (by kernel_rfl)) (fun _ _ _ h => h) (Or.inl ⟨by rfl, ?_⟩) ?_ ?_
         rotate_left
         ·intro w'
          go_simp
          with_reducible rfl
         rotate_left
         ·simp only [Act.put, List.setIfInBounds_toArray, List.set_cons_zero, List.set_cons_succ, i64_w, i32_w]
          rfl
         refine pure_ (i := 13) (N := some 55) (v := ?_) (a' := ?_) #[true, true, true, true, true, true, true, true, true, true, true, true, true, true, false, false, false, false] rfl rfl (any_of HT_.out (by kernel_rfl)) (fun _ _ _ h => h) (Or.inl ⟨by rfl, ?_⟩) ?_ ?_
         rotate_left
         ·intro w'
          go_simp
          with_reducible rfl
         rotate_left
         ·simp only [Act.put, List.setIfInBounds_toArray, List.set_cons_zero, List.set_cons_succ, i64_w, i32_w]
          rfl
         refine pure_ (i := 14) (N := some 56) (v := ?_) (a' := ?_) #[true, true, true, true, true, true, true, true, true, true, true, true, true, true, true, false, false, false] rfl rfl (any_of HT_.out (by kernel_rfl)) (fun _ _ _ h => h) (Or.inl ⟨by rfl, ?_⟩) ?_ ?_
         rotate_left
         ·intro w'
          go_simp
          with_reducible rfl
         rotate_left
         ·simp only [Act.put, List.setIfInBounds_toArray, List.set_cons_zero, List.set_cons_succ, i64_w, i32_w]
          rfl
         exact norm_ (by first | (simp only [putAll, Act.put, List.setIfInBounds_toArray, List.set_cons_zero, List.set_cons_succ]; done) | (simp only [putAll, Act.put, List.setIfInBounds_toArray, List.set_cons_zero, List.set_cons_succ]; rfl)) (hJ3_7_8_11 (v512, v516, .slice Ao56 t519.length co56) _ ⟨hHeld, (vt HO499), (rt HO513), (rt HO517), (vt HO521), (blkt BK488), (blkt BK489), (blkt BK495), (blkt BK504), (blkt BK509), (belt HB)⟩)
        skip
        refine box_step ?hg (N := 17) ?hd (cs := #[.int .u64 0, .int .u32 0, .int .u32 0]) (t := 71) ?hr ?_; (case hd => rfl); (case hg => rfl); (case hr => first | (go_simp; done) | (go_simp; rfl))
        intro gb526 hg w56 hbox hb
        replace HO499 := Aside0.mk (Kd.V_below (Kd.V_elderB (vt HO499) gb526 (Nat.le_of_eq hg.symm)) hb)
        replace HO513 := rb HO513 hb
        replace HO517 := rb HO517 hb
        replace HO521 := Aside0.mk (Kd.V_below (Kd.V_elderB (vt HO521) gb526 (Nat.le_of_eq hg.symm)) hb)
        have BK526 := Aside0.mk (hbox)
        have GW526 := bels HB hg
        have GE526 := bels HB hg
        have NB488_526 := blkl BK488 hg
        have NB526_488 := blkg BK488 hg
        have NB489_526 := blkl BK489 hg
        have NB526_489 := blkg BK489 hg
        have NB495_526 := blkl BK495 hg
        have NB526_495 := blkg BK495 hg
        have NB504_526 := blkl BK504 hg
        have NB526_504 := blkg BK504 hg
        have NB509_526 := blkl BK509 hg
        have NB526_509 := blkg BK509 hg
        replace BK488 := blkb BK488 hb
        replace BK489 := blkb BK489 hb
        replace BK495 := blkb BK495 hb
        replace BK504 := blkb BK504 hb
        replace BK509 := blkb BK509 hb
        replace HB := belb HB hb
        clear hb hbox hg
        refine hK.out _ _ ⟨bc BK489 0, bc BK489 1, bc BK489 2⟩ (fun hHeld => ?_)
        clear hK K
        refine norm_ (a' := ?_) ?_ ?_
        rotate_left
        ·show Act.put _ (some 17) _ = _
         simp only [Act.put, List.setIfInBounds_toArray, List.set_cons_zero, List.set_cons_succ, i64_w, i32_w]
         rfl
        exact norm_ (by first | (simp only [putAll, Act.put, List.setIfInBounds_toArray, List.set_cons_zero, List.set_cons_succ]; done) | (simp only [putAll, Act.put, List.setIfInBounds_toArray, List.set_cons_zero, List.set_cons_succ]; rfl)) (hJ3_7_8_15 (v512, v516, (.slice Ao56 t519.length co56), gb526) _ ⟨hHeld, (by (with_reducible repeat (first | apply Kd.V_alloc | apply Kd.V_drewN | apply Kd.V_drew)); exact Kd.V_mono HO499.out (fun _ hk => ⟨hk.1.1, ⟨hk.1.2.1, ⟨hk.1.2.2.1, ⟨hk.1.2.2.2.1, ⟨hk.1.2.2.2.2.1, ⟨hk.1.2.2.2.2.2.1, ⟨hk.1.2.2.2.2.2.2, hk.2⟩⟩⟩⟩⟩⟩⟩)), (rt HO513), (rt HO517), (by (with_reducible repeat (first | apply Kd.V_alloc | apply Kd.V_drewN | apply Kd.V_drew)); exact Kd.V_mono HO521.out (fun _ hk => ⟨hk.1.1, ⟨hk.1.2.1, ⟨hk.1.2.2.1, ⟨hk.1.2.2.2.1, ⟨hk.1.2.2.2.2.1, ⟨hk.1.2.2.2.2.2.1, ⟨hk.1.2.2.2.2.2.2, hk.2⟩⟩⟩⟩⟩⟩⟩)), (blkt BK488), (blkt BK489), (blkt BK495), (blkt BK504), (blkt BK509), (blkt BK526), GW526.out, GE526.out, NB488_526.out, NB526_488.out, NB489_526.out, NB526_489.out, NB495_526.out, NB526_495.out, NB504_526.out, NB526_504.out, NB509_526.out, NB526_509.out, (belt HB)⟩)
       skip
       rintro ⟨v512, v516, v520, gb526⟩ w56 ⟨hS_, h0_, h1_, h2_, h3_, h4_, h5_, h6_, h7_, h8_, h9_, h10_, h11_, h12_, h13_, h14_, h15_, h16_, h17_, h18_, h19_, h20_, h21_, h22_⟩
       replace HO499 : Aside0 (Kd.V (Kd.int .i64) 3 w56 w.heap.size (fun k_ => some k_ ≠ (v512 : Value).ownBlock ∧ some k_ ≠ (v516 : Value).ownBlock ∧ k_ ≠ gb488 ∧ k_ ≠ gb489 ∧ k_ ≠ gb495 ∧ k_ ≠ gb504 ∧ k_ ≠ gb509 ∧ k_ ≠ gb526) (.slice Ao33 t497.length co33) t497) := ⟨h0_⟩
       have HO513 : Aside0 (Kd.R (Kd.int .i64) 3 w56 w.heap.size (fun k_ => some k_ ≠ (v516 : Value).ownBlock) v512 t511) := ⟨h1_⟩
       have HO517 : Aside0 (Kd.R (Kd.int .i64) 3 w56 w.heap.size (fun k_ => some k_ ≠ (v512 : Value).ownBlock) v516 t515) := ⟨h2_⟩
       have HO521 : Aside0 (Kd.V (Kd.int .i64) 3 w56 w.heap.size (fun k_ => some k_ ≠ (v512 : Value).ownBlock ∧ some k_ ≠ (v516 : Value).ownBlock ∧ k_ ≠ gb488 ∧ k_ ≠ gb489 ∧ k_ ≠ gb495 ∧ k_ ≠ gb504 ∧ k_ ≠ gb509 ∧ k_ ≠ gb526) v520 t519) := ⟨h3_⟩
       replace BK488 : Aside0 (w56.heap[gb488]? = some (.cells #[.int .i64 a1_0, .int .u64 a1_1] 59 (0, 0))) := ⟨h4_⟩
       replace BK489 : Aside0 (w56.heap[gb489]? = some (.cells #[.int .u64 a3_0, .int .u32 a3_1, .int .u32 a3_2] 67 (0, 0))) := ⟨h5_⟩
       replace BK495 : Aside0 (w56.heap[gb495]? = some (.cells #[.int .u64 t491, .int .u32 t492, .int .u32 t493] 67 (0, 0))) := ⟨h6_⟩
       replace BK504 : Aside0 (w56.heap[gb504]? = some (.cells #[.int .u64 t500, .int .u32 t501, .int .u32 t502] 71 (0, 0))) := ⟨h7_⟩
       replace BK509 : Aside0 (w56.heap[gb509]? = some (.cells #[.int .u64 t505, .int .u32 t506, .int .u32 t507] 67 (0, 0))) := ⟨h8_⟩
       have BK526 : Aside0 (w56.heap[gb526]? = some (.cells #[.int .u64 0, .int .u32 0, .int .u32 0] 71 (0, 0))) := ⟨h9_⟩
       have GW526 : Aside0 (w.heap.size ≤ gb526) := ⟨h10_⟩
       have GE526 : Aside0 (w.heap.size ≤ gb526) := ⟨h11_⟩
       have NB488_526 : Aside0 (gb488 ≠ gb526) := ⟨h12_⟩
       have NB526_488 : Aside0 (gb526 ≠ gb488) := ⟨h13_⟩
       have NB489_526 : Aside0 (gb489 ≠ gb526) := ⟨h14_⟩
       have NB526_489 : Aside0 (gb526 ≠ gb489) := ⟨h15_⟩
       have NB495_526 : Aside0 (gb495 ≠ gb526) := ⟨h16_⟩
       have NB526_495 : Aside0 (gb526 ≠ gb495) := ⟨h17_⟩
       have NB504_526 : Aside0 (gb504 ≠ gb526) := ⟨h18_⟩
       have NB526_504 : Aside0 (gb526 ≠ gb504) := ⟨h19_⟩
       have NB509_526 : Aside0 (gb509 ≠ gb526) := ⟨h20_⟩
       have NB526_509 : Aside0 (gb526 ≠ gb509) := ⟨h21_⟩
       replace HB : Aside0 (Below w.heap.size w w56) := ⟨h22_⟩
       clear h0_ h1_ h2_ h3_ h4_ h5_ h6_ h7_ h8_ h9_ h10_ h11_ h12_ h13_ h14_ h15_ h16_ h17_ h18_ h19_ h20_ h21_ h22_
       have hHeld : w56.cell? ⟨gb489, 0, none⟩ = some (.int .u64 a3_0) ∧ w56.cell? ⟨gb489, 1, none⟩ = some (.int .u32 a3_1) ∧ w56.cell? ⟨gb489, 2, none⟩ = some (.int .u32 a3_2) := hS_
       obtain ⟨Ao57, co57, eo57⟩ := Kd.V_slice HO521.out
       (first | subst eo57 | (injection eo57 with f1_ f2_ f3_; have f4_ := f1_.symm; have f5_ := f3_.symm; clear f1_ f2_ f3_; subst f4_; subst f5_))
       refine norm_ (a' := ?_) ?_ ?_
       rotate_left
       ·simp only [putAll, Act.put, List.setIfInBounds_toArray, List.set_cons_zero, List.set_cons_succ]
        rfl
       refine one_ (i := 11) (N := some 54) #[true, true, true, true, true, true, true, true, true, true, true, true, false, false, false, true, false, false] rfl rfl (one_of HT_.out (by kernel_rfl)) (by decide) (fun K hK => ?_)
       refine goes_ Try.func46 (by kernel_rfl) rfl #[.int .u64 a3_0, .agg #[.bool t518, .slice Ao57 t519.length co57], .int .u32 a3_2] (by rfl) rfl rfl argt ?_
       with_reducible refine (turnstoneref04_At.calls k a3_0 t518 _ _ t519 a3_2 t522 t523 t524 t525 _ ?side1 ?side2 A15.out).mono ?_
       (case side1 => repeat (first | exact (Kd.V_reads' HO521.out).2.2 | (with_reducible refine Kd.C_alloc ?_ _) | (with_reducible refine Kd.C_drewN ?_ _) | (with_reducible refine Kd.C_drew ?_)))
       (case side2 => exact (Kd.V_reads' HO521.out).2.1)
       rintro e w58 ⟨rfl, hb⟩
       refine ⟨_, rfl, ?_⟩
       replace HO499 := vb HO499 hb
       replace HO513 := rb HO513 hb
       replace HO517 := rb HO517 hb
       replace HO521 := vb HO521 hb
       replace BK488 := blkb BK488 hb
       replace BK489 := blkb BK489 hb
       replace BK495 := blkb BK495 hb
       replace BK504 := blkb BK504 hb
       replace BK509 := blkb BK509 hb
       replace BK526 := blkb BK526 hb
       replace HB := belb HB hb
       (try clear hb)
       (try clear hb2)
       (try clear hk)
       (try clear hi)
       refine hK.out _ _ ⟨bc BK489 0, bc BK489 1, bc BK489 2⟩ (fun hHeld => ?_)
       clear hK K
       refine norm_ (a' := ?_) ?_ ?_
       rotate_left
       ·show Act.put _ (some 54) _ = _
        simp only [Act.put, List.setIfInBounds_toArray, List.set_cons_zero, List.set_cons_succ, i64_w, i32_w]
        rfl
       refine pure_ (i := 12) (N := some 42) (v := ?_) (a' := ?_) #[true, true, true, true, true, true, true, true, true, true, true, true, true, false, false, true, false, false] rfl rfl (any_of HT_.out (by kernel_rfl)) (fun _ _ _ h => h) (Or.inl ⟨by rfl, ?_⟩) ?_ ?_
       rotate_left
       ·intro w'
        go_simp
        with_reducible rfl
       rotate_left
       ·simp only [Act.put, List.setIfInBounds_toArray, List.set_cons_zero, List.set_cons_succ, i64_w, i32_w]
        rfl
       refine pure_ (i := 13) (N := some 55) (v := ?_) (a' := ?_) #[true, true, true, true, true, true, true, true, true, true, true, true, true, true, false, true, false, false] rfl rfl (any_of HT_.out (by kernel_rfl)) (fun _ _ _ h => h) (Or.inl ⟨by rfl, ?_⟩) ?_ ?_
       rotate_left
       ·intro w'
        go_simp
        with_reducible rfl
       rotate_left
       ·simp only [Act.put, List.setIfInBounds_toArray, List.set_cons_zero, List.set_cons_succ, i64_w, i32_w]
        rfl
       refine pure_ (i := 14) (N := some 56) (v := ?_) (a' := ?_) #[true, true, true, true, true, true, true, true, true, true, true, true, true, true, true, true, false, false] rfl rfl (any_of HT_.out (by kernel_rfl)) (fun _ _ _ h => h) (Or.inl ⟨by rfl, ?_⟩) ?_ ?_
       rotate_left
       ·intro w'
        go_simp
        with_reducible rfl
       rotate_left
       ·simp only [Act.put, List.setIfInBounds_toArray, List.set_cons_zero, List.set_cons_succ, i64_w, i32_w]
        rfl
       exact norm_ (by first | (simp only [putAll, Act.put, List.setIfInBounds_toArray, List.set_cons_zero, List.set_cons_succ]; done) | (simp only [putAll, Act.put, List.setIfInBounds_toArray, List.set_cons_zero, List.set_cons_succ]; rfl)) (hJ3_7_8_11_15 (v512, v516, .slice Ao57 t519.length co57, gb526) _ ⟨hHeld, (vt HO499), (rt HO513), (rt HO517), (vt HO521), (blkt BK488), (blkt BK489), (blkt BK495), (blkt BK504), (blkt BK509), (blkt BK526), GW526.out, GE526.out, NB488_526.out, NB526_488.out, NB489_526.out, NB526_489.out, NB495_526.out, NB526_495.out, NB504_526.out, NB526_504.out, NB509_526.out, NB526_509.out, (belt HB)⟩)
      skip
      rintro ⟨v512, v516, v520⟩ w57 ⟨hS_, h0_, h1_, h2_, h3_, h4_, h5_, h6_, h7_, h8_, h9_⟩
      replace HO499 : Aside0 (Kd.V (Kd.int .i64) 3 w57 w.heap.size (fun k_ => some k_ ≠ (v512 : Value).ownBlock ∧ some k_ ≠ (v516 : Value).ownBlock ∧ k_ ≠ gb488 ∧ k_ ≠ gb489 ∧ k_ ≠ gb495 ∧ k_ ≠ gb504 ∧ k_ ≠ gb509) (.slice Ao33 t497.length co33) t497) := ⟨h0_⟩
      have HO513 : Aside0 (Kd.R (Kd.int .i64) 3 w57 w.heap.size (fun k_ => some k_ ≠ (v516 : Value).ownBlock) v512 t511) := ⟨h1_⟩
      have HO517 : Aside0 (Kd.R (Kd.int .i64) 3 w57 w.heap.size (fun k_ => some k_ ≠ (v512 : Value).ownBlock) v516 t515) := ⟨h2_⟩
      have HO521 : Aside0 (Kd.V (Kd.int .i64) 3 w57 w.heap.size (fun k_ => some k_ ≠ (v512 : Value).ownBlock ∧ some k_ ≠ (v516 : Value).ownBlock ∧ k_ ≠ gb488 ∧ k_ ≠ gb489 ∧ k_ ≠ gb495 ∧ k_ ≠ gb504 ∧ k_ ≠ gb509) v520 t519) := ⟨h3_⟩
      replace BK488 : Aside0 (w57.heap[gb488]? = some (.cells #[.int .i64 a1_0, .int .u64 a1_1] 59 (0, 0))) := ⟨h4_⟩
      replace BK489 : Aside0 (w57.heap[gb489]? = some (.cells #[.int .u64 a3_0, .int .u32 a3_1, .int .u32 a3_2] 67 (0, 0))) := ⟨h5_⟩
      replace BK495 : Aside0 (w57.heap[gb495]? = some (.cells #[.int .u64 t491, .int .u32 t492, .int .u32 t493] 67 (0, 0))) := ⟨h6_⟩
      replace BK504 : Aside0 (w57.heap[gb504]? = some (.cells #[.int .u64 t500, .int .u32 t501, .int .u32 t502] 71 (0, 0))) := ⟨h7_⟩
      replace BK509 : Aside0 (w57.heap[gb509]? = some (.cells #[.int .u64 t505, .int .u32 t506, .int .u32 t507] 67 (0, 0))) := ⟨h8_⟩
      replace HB : Aside0 (Below w.heap.size w w57) := ⟨h9_⟩
      clear h0_ h1_ h2_ h3_ h4_ h5_ h6_ h7_ h8_ h9_
      have hHeld : w57.cell? ⟨gb489, 0, none⟩ = some (.int .u64 a3_0) ∧ w57.cell? ⟨gb489, 1, none⟩ = some (.int .u32 a3_1) ∧ w57.cell? ⟨gb489, 2, none⟩ = some (.int .u32 a3_2) := hS_
      refine norm_ (a' := ?_) ?_ ?_
      rotate_left
      ·simp only [putAll, Act.put, List.setIfInBounds_toArray, List.set_cons_zero, List.set_cons_succ]
       rfl
      refine one_ (i := 15) (N := some 17) #[true, true, true, true, true, true, true, true, true, true, true, true, true, true, true, true, false, false] rfl rfl (one_of HT_.out (by kernel_rfl)) (by decide) (fun K hK => ?_)
      refine box_step ?hg (N := 17) ?hd (cs := #[.int .u64 0, .int .u32 0, .int .u32 0]) (t := 71) ?hr ?_; (case hd => rfl); (case hg => rfl); (case hr => first | (go_simp; done) | (go_simp; rfl))
      intro gb526 hg w58 hbox hb
      replace HO499 := Aside0.mk (Kd.V_below (Kd.V_elderB (vt HO499) gb526 (Nat.le_of_eq hg.symm)) hb)
      replace HO513 := rb HO513 hb
      replace HO517 := rb HO517 hb
      replace HO521 := Aside0.mk (Kd.V_below (Kd.V_elderB (vt HO521) gb526 (Nat.le_of_eq hg.symm)) hb)
      have BK526 := Aside0.mk (hbox)
      have GW526 := bels HB hg
      have GE526 := bels HB hg
      have NB488_526 := blkl BK488 hg
      have NB526_488 := blkg BK488 hg
      have NB489_526 := blkl BK489 hg
      have NB526_489 := blkg BK489 hg
      have NB495_526 := blkl BK495 hg
      have NB526_495 := blkg BK495 hg
      have NB504_526 := blkl BK504 hg
      have NB526_504 := blkg BK504 hg
      have NB509_526 := blkl BK509 hg
      have NB526_509 := blkg BK509 hg
      replace BK488 := blkb BK488 hb
      replace BK489 := blkb BK489 hb
      replace BK495 := blkb BK495 hb
      replace BK504 := blkb BK504 hb
      replace BK509 := blkb BK509 hb
      replace HB := belb HB hb
      clear hb hbox hg
      refine hK.out _ _ ⟨bc BK489 0, bc BK489 1, bc BK489 2⟩ (fun hHeld => ?_)
      clear hK K
      refine norm_ (a' := ?_) ?_ ?_
      rotate_left
      ·show Act.put _ (some 17) _ = _
       simp only [Act.put, List.setIfInBounds_toArray, List.set_cons_zero, List.set_cons_succ, i64_w, i32_w]
       rfl
      exact norm_ (by first | (simp only [putAll, Act.put, List.setIfInBounds_toArray, List.set_cons_zero, List.set_cons_succ]; done) | (simp only [putAll, Act.put, List.setIfInBounds_toArray, List.set_cons_zero, List.set_cons_succ]; rfl)) (hJ3_7_8_11_15 (v512, v516, v520, gb526) _ ⟨hHeld, (by (with_reducible repeat (first | apply Kd.V_alloc | apply Kd.V_drewN | apply Kd.V_drew)); exact Kd.V_mono HO499.out (fun _ hk => ⟨hk.1.1, ⟨hk.1.2.1, ⟨hk.1.2.2.1, ⟨hk.1.2.2.2.1, ⟨hk.1.2.2.2.2.1, ⟨hk.1.2.2.2.2.2.1, ⟨hk.1.2.2.2.2.2.2, hk.2⟩⟩⟩⟩⟩⟩⟩)), (rt HO513), (rt HO517), (by (with_reducible repeat (first | apply Kd.V_alloc | apply Kd.V_drewN | apply Kd.V_drew)); exact Kd.V_mono HO521.out (fun _ hk => ⟨hk.1.1, ⟨hk.1.2.1, ⟨hk.1.2.2.1, ⟨hk.1.2.2.2.1, ⟨hk.1.2.2.2.2.1, ⟨hk.1.2.2.2.2.2.1, ⟨hk.1.2.2.2.2.2.2, hk.2⟩⟩⟩⟩⟩⟩⟩)), (blkt BK488), (blkt BK489), (blkt BK495), (blkt BK504), (blkt BK509), (blkt BK526), GW526.out, GE526.out, NB488_526.out, NB526_488.out, NB489_526.out, NB526_489.out, NB495_526.out, NB526_495.out, NB504_526.out, NB526_504.out, NB509_526.out, NB526_509.out, (belt HB)⟩)
     rintro ⟨v512, v516, v520, gb526⟩ w58 ⟨hS_, h0_, h1_, h2_, h3_, h4_, h5_, h6_, h7_, h8_, h9_, h10_, h11_, h12_, h13_, h14_, h15_, h16_, h17_, h18_, h19_, h20_, h21_, h22_⟩
     replace HO499 : Aside0 (Kd.V (Kd.int .i64) 3 w58 w.heap.size (fun k_ => some k_ ≠ (v512 : Value).ownBlock ∧ some k_ ≠ (v516 : Value).ownBlock ∧ k_ ≠ gb488 ∧ k_ ≠ gb489 ∧ k_ ≠ gb495 ∧ k_ ≠ gb504 ∧ k_ ≠ gb509 ∧ k_ ≠ gb526) (.slice Ao33 t497.length co33) t497) := ⟨h0_⟩
     have HO513 : Aside0 (Kd.R (Kd.int .i64) 3 w58 w.heap.size (fun k_ => some k_ ≠ (v516 : Value).ownBlock) v512 t511) := ⟨h1_⟩
     have HO517 : Aside0 (Kd.R (Kd.int .i64) 3 w58 w.heap.size (fun k_ => some k_ ≠ (v512 : Value).ownBlock) v516 t515) := ⟨h2_⟩
     have HO521 : Aside0 (Kd.V (Kd.int .i64) 3 w58 w.heap.size (fun k_ => some k_ ≠ (v512 : Value).ownBlock ∧ some k_ ≠ (v516 : Value).ownBlock ∧ k_ ≠ gb488 ∧ k_ ≠ gb489 ∧ k_ ≠ gb495 ∧ k_ ≠ gb504 ∧ k_ ≠ gb509 ∧ k_ ≠ gb526) v520 t519) := ⟨h3_⟩
     replace BK488 : Aside0 (w58.heap[gb488]? = some (.cells #[.int .i64 a1_0, .int .u64 a1_1] 59 (0, 0))) := ⟨h4_⟩
     replace BK489 : Aside0 (w58.heap[gb489]? = some (.cells #[.int .u64 a3_0, .int .u32 a3_1, .int .u32 a3_2] 67 (0, 0))) := ⟨h5_⟩
     replace BK495 : Aside0 (w58.heap[gb495]? = some (.cells #[.int .u64 t491, .int .u32 t492, .int .u32 t493] 67 (0, 0))) := ⟨h6_⟩
     replace BK504 : Aside0 (w58.heap[gb504]? = some (.cells #[.int .u64 t500, .int .u32 t501, .int .u32 t502] 71 (0, 0))) := ⟨h7_⟩
     replace BK509 : Aside0 (w58.heap[gb509]? = some (.cells #[.int .u64 t505, .int .u32 t506, .int .u32 t507] 67 (0, 0))) := ⟨h8_⟩
     have BK526 : Aside0 (w58.heap[gb526]? = some (.cells #[.int .u64 0, .int .u32 0, .int .u32 0] 71 (0, 0))) := ⟨h9_⟩
     have GW526 : Aside0 (w.heap.size ≤ gb526) := ⟨h10_⟩
     have GE526 : Aside0 (w.heap.size ≤ gb526) := ⟨h11_⟩
     have NB488_526 : Aside0 (gb488 ≠ gb526) := ⟨h12_⟩
     have NB526_488 : Aside0 (gb526 ≠ gb488) := ⟨h13_⟩
     have NB489_526 : Aside0 (gb489 ≠ gb526) := ⟨h14_⟩
     have NB526_489 : Aside0 (gb526 ≠ gb489) := ⟨h15_⟩
     have NB495_526 : Aside0 (gb495 ≠ gb526) := ⟨h16_⟩
     have NB526_495 : Aside0 (gb526 ≠ gb495) := ⟨h17_⟩
     have NB504_526 : Aside0 (gb504 ≠ gb526) := ⟨h18_⟩
     have NB526_504 : Aside0 (gb526 ≠ gb504) := ⟨h19_⟩
     have NB509_526 : Aside0 (gb509 ≠ gb526) := ⟨h20_⟩
     have NB526_509 : Aside0 (gb526 ≠ gb509) := ⟨h21_⟩
     replace HB : Aside0 (Below w.heap.size w w58) := ⟨h22_⟩
     clear h0_ h1_ h2_ h3_ h4_ h5_ h6_ h7_ h8_ h9_ h10_ h11_ h12_ h13_ h14_ h15_ h16_ h17_ h18_ h19_ h20_ h21_ h22_
     have hHeld : w58.cell? ⟨gb489, 0, none⟩ = some (.int .u64 a3_0) ∧ w58.cell? ⟨gb489, 1, none⟩ = some (.int .u32 a3_1) ∧ w58.cell? ⟨gb489, 2, none⟩ = some (.int .u32 a3_2) := hS_
     refine norm_ (a' := ?_) ?_ ?_
     rotate_left
     ·simp only [putAll, Act.put, List.setIfInBounds_toArray, List.set_cons_zero, List.set_cons_succ]
      rfl
     refine one_ (i := 16) (N := none) #[true, true, true, true, true, true, true, true, true, true, true, true, true, true, true, true, true, false] rfl rfl (one_of HT_.out (by kernel_rfl)) (by decide) (fun K hK => ?_)
     have hs59 : w58.cell? ⟨gb526, 0, none⟩ = some (.int .u64 0) := bc BK526 0
     have hfs59 := blk_frozen BK526.out 0
     have hns59_0 := NB488_526.out
     have hns59_1 := NB489_526.out
     have hns59_2 := NB495_526.out
     have hns59_3 := NB504_526.out
     have hns59_4 := NB509_526.out
     have hms59_0 := NB526_488.out
     have hms59_1 := NB526_489.out
     have hms59_2 := NB526_495.out
     have hms59_3 := NB526_504.out
     have hms59_4 := NB526_509.out
     have hs60 : w58.cell? ⟨gb526, 1, none⟩ = some (.int .u32 0) := bc BK526 1
     have hfs60 := blk_frozen BK526.out 1
     have hns60_0 := NB488_526.out
     have hns60_1 := NB489_526.out
     have hns60_2 := NB495_526.out
     have hns60_3 := NB504_526.out
     have hns60_4 := NB509_526.out
     have hms60_0 := NB526_488.out
     have hms60_1 := NB526_489.out
     have hms60_2 := NB526_495.out
     have hms60_3 := NB526_504.out
     have hms60_4 := NB526_509.out
     have hs61 : w58.cell? ⟨gb526, 2, none⟩ = some (.int .u32 0) := bc BK526 2
     have hfs61 := blk_frozen BK526.out 2
     have hns61_0 := NB488_526.out
     have hns61_1 := NB489_526.out
     have hns61_2 := NB495_526.out
     have hns61_3 := NB504_526.out
     have hns61_4 := NB509_526.out
     have hms61_0 := NB526_488.out
     have hms61_1 := NB526_489.out
     have hms61_2 := NB526_495.out
     have hms61_3 := NB526_504.out
     have hms61_4 := NB526_509.out
     refine skip_ (w1 := ?_) (by rfl) rfl ?_ ?_
     rotate_left
     ·go_simp
      rfl
     refine hK.out _ _ ⟨((cell_far (p := ⟨gb526, _, none⟩) NB489_526.out _).trans (((cell_far (p := ⟨gb526, _, none⟩) NB489_526.out _).trans (((cell_far (p := ⟨gb526, _, none⟩) NB489_526.out _).trans (hHeld.1)))))), ((cell_far (p := ⟨gb526, _, none⟩) NB489_526.out _).trans (((cell_far (p := ⟨gb526, _, none⟩) NB489_526.out _).trans (((cell_far (p := ⟨gb526, _, none⟩) NB489_526.out _).trans (hHeld.2.1)))))), ((cell_far (p := ⟨gb526, _, none⟩) NB489_526.out _).trans (((cell_far (p := ⟨gb526, _, none⟩) NB489_526.out _).trans (((cell_far (p := ⟨gb526, _, none⟩) NB489_526.out _).trans (hHeld.2.2))))))⟩ (fun hHeld => ?_)
     clear hK K
     refine pure_ (i := 17) (N := some 18) (v := ?_) (a' := ?_) #[true, true, true, true, true, true, true, true, true, true, true, true, true, true, true, true, true, true] rfl rfl (any_of HT_.out (by kernel_rfl)) (fun _ _ _ h => h) (Or.inl ⟨by rfl, ?_⟩) ?_ ?_
     rotate_left
     ·intro w'
      go_simp
      with_reducible rfl
     rotate_left
     ·simp only [Act.put, List.setIfInBounds_toArray, List.set_cons_zero, List.set_cons_succ, i64_w, i32_w]
      rfl
     refine done_ (done_of HT_.out (by kernel_rfl)) ?_
     try go_wp2
     have n0_ : Aside0 (Kd.V (Kd.int .i64) 3 (((w58.setCell ⟨gb526, 0, none⟩ (.int .u64 t522)).setCell ⟨gb526, 1, none⟩ (.int .u32 t523)).setCell ⟨gb526, 2, none⟩ (.int .u32 t524)) w.heap.size (fun k_ => some k_ ≠ (v512 : Value).ownBlock ∧ some k_ ≠ (v516 : Value).ownBlock ∧ k_ ≠ gb488 ∧ k_ ≠ gb489 ∧ k_ ≠ gb495 ∧ k_ ≠ gb504 ∧ k_ ≠ gb509 ∧ k_ ≠ gb526) (.slice Ao33 t497.length co33) t497) := ⟨by (with_reducible repeat (first | apply Kd.V_alloc | apply Kd.V_drewN | apply Kd.V_drew)); exact Kd.V_mono (Kd.V_far (p := ⟨gb526, 2, none⟩) (Kd.V_far (p := ⟨gb526, 1, none⟩) (Kd.V_far (p := ⟨gb526, 0, none⟩) (Kd.V_mono HO499.out (fun k_ hk => (⟨hk, hk.2.2.2.2.2.2.2⟩ : _ ∧ k_ ≠ gb526))) (fun _ hk => hk.2) (.int .u64 t522)) (fun _ hk => hk.2) (.int .u32 t523)) (fun _ hk => hk.2) (.int .u32 t524)) (fun _ hk => ⟨hk.1.1, ⟨hk.1.2.1, ⟨hk.1.2.2.1, ⟨hk.1.2.2.2.1, ⟨hk.1.2.2.2.2.1, ⟨hk.1.2.2.2.2.2.1, ⟨hk.1.2.2.2.2.2.2.1, hk.1.2.2.2.2.2.2.2⟩⟩⟩⟩⟩⟩⟩)⟩
     have n1_ : Aside0 (Kd.R (Kd.int .i64) 3 (((w58.setCell ⟨gb526, 0, none⟩ (.int .u64 t522)).setCell ⟨gb526, 1, none⟩ (.int .u32 t523)).setCell ⟨gb526, 2, none⟩ (.int .u32 t524)) w.heap.size (fun k_ => some k_ ≠ (v516 : Value).ownBlock) v512 t511) := ⟨by (with_reducible repeat (first | apply Kd.R_alloc | apply Kd.R_drewN | apply Kd.R_drew)); exact Kd.R_mono (Kd.R_far (p := ⟨gb526, 2, none⟩) (Kd.R_far (p := ⟨gb526, 1, none⟩) (Kd.R_far (p := ⟨gb526, 0, none⟩) (Kd.R_types HO513.out BK526.out (by decide)) (fun _ hk => hk.2) (.int .u64 t522)) (fun _ hk => hk.2) (.int .u32 t523)) (fun _ hk => hk.2) (.int .u32 t524)) (fun _ hk => hk.1)⟩
     have n2_ : Aside0 (Kd.R (Kd.int .i64) 3 (((w58.setCell ⟨gb526, 0, none⟩ (.int .u64 t522)).setCell ⟨gb526, 1, none⟩ (.int .u32 t523)).setCell ⟨gb526, 2, none⟩ (.int .u32 t524)) w.heap.size (fun k_ => some k_ ≠ (v512 : Value).ownBlock) v516 t515) := ⟨by (with_reducible repeat (first | apply Kd.R_alloc | apply Kd.R_drewN | apply Kd.R_drew)); exact Kd.R_mono (Kd.R_far (p := ⟨gb526, 2, none⟩) (Kd.R_far (p := ⟨gb526, 1, none⟩) (Kd.R_far (p := ⟨gb526, 0, none⟩) (Kd.R_types HO517.out BK526.out (by decide)) (fun _ hk => hk.2) (.int .u64 t522)) (fun _ hk => hk.2) (.int .u32 t523)) (fun _ hk => hk.2) (.int .u32 t524)) (fun _ hk => hk.1)⟩
     have n3_ : Aside0 (Kd.V (Kd.int .i64) 3 (((w58.setCell ⟨gb526, 0, none⟩ (.int .u64 t522)).setCell ⟨gb526, 1, none⟩ (.int .u32 t523)).setCell ⟨gb526, 2, none⟩ (.int .u32 t524)) w.heap.size (fun k_ => some k_ ≠ (v512 : Value).ownBlock ∧ some k_ ≠ (v516 : Value).ownBlock ∧ k_ ≠ gb488 ∧ k_ ≠ gb489 ∧ k_ ≠ gb495 ∧ k_ ≠ gb504 ∧ k_ ≠ gb509 ∧ k_ ≠ gb526) v520 t519) := ⟨by (with_reducible repeat (first | apply Kd.V_alloc | apply Kd.V_drewN | apply Kd.V_drew)); exact Kd.V_mono (Kd.V_far (p := ⟨gb526, 2, none⟩) (Kd.V_far (p := ⟨gb526, 1, none⟩) (Kd.V_far (p := ⟨gb526, 0, none⟩) (Kd.V_mono HO521.out (fun k_ hk => (⟨hk, hk.2.2.2.2.2.2.2⟩ : _ ∧ k_ ≠ gb526))) (fun _ hk => hk.2) (.int .u64 t522)) (fun _ hk => hk.2) (.int .u32 t523)) (fun _ hk => hk.2) (.int .u32 t524)) (fun _ hk => ⟨hk.1.1, ⟨hk.1.2.1, ⟨hk.1.2.2.1, ⟨hk.1.2.2.2.1, ⟨hk.1.2.2.2.2.1, ⟨hk.1.2.2.2.2.2.1, ⟨hk.1.2.2.2.2.2.2.1, hk.1.2.2.2.2.2.2.2⟩⟩⟩⟩⟩⟩⟩)⟩
     have n4_ : Aside0 ((((w58.setCell ⟨gb526, 0, none⟩ (.int .u64 t522)).setCell ⟨gb526, 1, none⟩ (.int .u32 t523)).setCell ⟨gb526, 2, none⟩ (.int .u32 t524)).heap[gb488]? = some (.cells #[.int .i64 a1_0, .int .u64 a1_1] 59 (0, 0))) := ⟨by (with_reducible repeat (first | refine blk_drewN ?_ _ | refine blk_drew ?_ | refine blk_alloc ?_ _)); refine blk_far ?_ NB488_526.out _; (with_reducible repeat (first | refine blk_drewN ?_ _ | refine blk_drew ?_ | refine blk_alloc ?_ _)); refine blk_far ?_ NB488_526.out _; (with_reducible repeat (first | refine blk_drewN ?_ _ | refine blk_drew ?_ | refine blk_alloc ?_ _)); refine blk_far ?_ NB488_526.out _; exact blkt BK488⟩
     have n5_ : Aside0 ((((w58.setCell ⟨gb526, 0, none⟩ (.int .u64 t522)).setCell ⟨gb526, 1, none⟩ (.int .u32 t523)).setCell ⟨gb526, 2, none⟩ (.int .u32 t524)).heap[gb489]? = some (.cells #[.int .u64 a3_0, .int .u32 a3_1, .int .u32 a3_2] 67 (0, 0))) := ⟨by (with_reducible repeat (first | refine blk_drewN ?_ _ | refine blk_drew ?_ | refine blk_alloc ?_ _)); refine blk_far ?_ NB489_526.out _; (with_reducible repeat (first | refine blk_drewN ?_ _ | refine blk_drew ?_ | refine blk_alloc ?_ _)); refine blk_far ?_ NB489_526.out _; (with_reducible repeat (first | refine blk_drewN ?_ _ | refine blk_drew ?_ | refine blk_alloc ?_ _)); refine blk_far ?_ NB489_526.out _; exact blkt BK489⟩
     have n6_ : Aside0 ((((w58.setCell ⟨gb526, 0, none⟩ (.int .u64 t522)).setCell ⟨gb526, 1, none⟩ (.int .u32 t523)).setCell ⟨gb526, 2, none⟩ (.int .u32 t524)).heap[gb495]? = some (.cells #[.int .u64 t491, .int .u32 t492, .int .u32 t493] 67 (0, 0))) := ⟨by (with_reducible repeat (first | refine blk_drewN ?_ _ | refine blk_drew ?_ | refine blk_alloc ?_ _)); refine blk_far ?_ NB495_526.out _; (with_reducible repeat (first | refine blk_drewN ?_ _ | refine blk_drew ?_ | refine blk_alloc ?_ _)); refine blk_far ?_ NB495_526.out _; (with_reducible repeat (first | refine blk_drewN ?_ _ | refine blk_drew ?_ | refine blk_alloc ?_ _)); refine blk_far ?_ NB495_526.out _; exact blkt BK495⟩
     have n7_ : Aside0 ((((w58.setCell ⟨gb526, 0, none⟩ (.int .u64 t522)).setCell ⟨gb526, 1, none⟩ (.int .u32 t523)).setCell ⟨gb526, 2, none⟩ (.int .u32 t524)).heap[gb504]? = some (.cells #[.int .u64 t500, .int .u32 t501, .int .u32 t502] 71 (0, 0))) := ⟨by (with_reducible repeat (first | refine blk_drewN ?_ _ | refine blk_drew ?_ | refine blk_alloc ?_ _)); refine blk_far ?_ NB504_526.out _; (with_reducible repeat (first | refine blk_drewN ?_ _ | refine blk_drew ?_ | refine blk_alloc ?_ _)); refine blk_far ?_ NB504_526.out _; (with_reducible repeat (first | refine blk_drewN ?_ _ | refine blk_drew ?_ | refine blk_alloc ?_ _)); refine blk_far ?_ NB504_526.out _; exact blkt BK504⟩
     have n8_ : Aside0 ((((w58.setCell ⟨gb526, 0, none⟩ (.int .u64 t522)).setCell ⟨gb526, 1, none⟩ (.int .u32 t523)).setCell ⟨gb526, 2, none⟩ (.int .u32 t524)).heap[gb509]? = some (.cells #[.int .u64 t505, .int .u32 t506, .int .u32 t507] 67 (0, 0))) := ⟨by (with_reducible repeat (first | refine blk_drewN ?_ _ | refine blk_drew ?_ | refine blk_alloc ?_ _)); refine blk_far ?_ NB509_526.out _; (with_reducible repeat (first | refine blk_drewN ?_ _ | refine blk_drew ?_ | refine blk_alloc ?_ _)); refine blk_far ?_ NB509_526.out _; (with_reducible repeat (first | refine blk_drewN ?_ _ | refine blk_drew ?_ | refine blk_alloc ?_ _)); refine blk_far ?_ NB509_526.out _; exact blkt BK509⟩
     have n9_ : Aside0 ((((w58.setCell ⟨gb526, 0, none⟩ (.int .u64 t522)).setCell ⟨gb526, 1, none⟩ (.int .u32 t523)).setCell ⟨gb526, 2, none⟩ (.int .u32 t524)).heap[gb526]? = some (.cells #[.int .u64 t522, .int .u32 t523, .int .u32 t524] 71 (0, 0))) := ⟨by (with_reducible repeat (first | refine blk_drewN ?_ _ | refine blk_drew ?_ | refine blk_alloc ?_ _)); refine blk_put (cs := #[.int .u64 t522, .int .u32 t523, .int .u32 0]) ?_ 2 _ rfl; (with_reducible repeat (first | refine blk_drewN ?_ _ | refine blk_drew ?_ | refine blk_alloc ?_ _)); refine blk_put (cs := #[.int .u64 t522, .int .u32 0, .int .u32 0]) ?_ 1 _ rfl; (with_reducible repeat (first | refine blk_drewN ?_ _ | refine blk_drew ?_ | refine blk_alloc ?_ _)); refine blk_put (cs := #[.int .u64 0, .int .u32 0, .int .u32 0]) ?_ 0 _ rfl; exact blkt BK526⟩
     have n10_ : Aside0 (Below w.heap.size w (((w58.setCell ⟨gb526, 0, none⟩ (.int .u64 t522)).setCell ⟨gb526, 1, none⟩ (.int .u32 t523)).setCell ⟨gb526, 2, none⟩ (.int .u32 t524))) := ⟨belt HB⟩
     (try clear HO499)
     (try clear HO513)
     (try clear HO517)
     (try clear HO521)
     (try clear BK488)
     (try clear BK489)
     (try clear BK495)
     (try clear BK504)
     (try clear BK509)
     (try clear BK526)
     (try clear HB)
     generalize (((w58.setCell ⟨gb526, 0, none⟩ (.int .u64 t522)).setCell ⟨gb526, 1, none⟩ (.int .u32 t523)).setCell ⟨gb526, 2, none⟩ (.int .u32 t524)) = w62 at n0_ n1_ n2_ n3_ n4_ n5_ n6_ n7_ n8_ n9_ n10_ ⊢
     have HO499 := n0_
     have HO513 := n1_
     have HO517 := n2_
     have HO521 := n3_
     have BK488 := n4_
     have BK489 := n5_
     have BK495 := n6_
     have BK504 := n7_
     have BK509 := n8_
     have BK526 := n9_
     have HB := n10_
     clear n0_ n1_ n2_ n3_ n4_ n5_ n6_ n7_ n8_ n9_ n10_
     replace HO499 := Aside0.mk (Kd.V_drew HO499.out)
     replace HO513 := Aside0.mk (Kd.R_drew HO513.out)
     replace HO517 := Aside0.mk (Kd.R_drew HO517.out)
     replace HO521 := Aside0.mk (Kd.V_drew HO521.out)
     replace BK488 := Aside0.mk (blk_drew BK488.out)
     replace BK489 := Aside0.mk (blk_drew BK489.out)
     replace BK495 := Aside0.mk (blk_drew BK495.out)
     replace BK504 := Aside0.mk (blk_drew BK504.out)
     replace BK509 := Aside0.mk (blk_drew BK509.out)
     replace BK526 := Aside0.mk (blk_drew BK526.out)
     replace HB := Aside0.mk (below_drew1 HB.out)
     refine start_ (n := 21) (S := fun w' => w'.cell? ⟨gb495, 0, none⟩ = some (.int .u64 t491) ∧ w'.cell? ⟨gb495, 1, none⟩ = some (.int .u32 t492) ∧ w'.cell? ⟨gb495, 2, none⟩ = some (.int .u32 t493) ∧ w'.cell? ⟨gb504, 0, none⟩ = some (.int .u64 t500) ∧ w'.cell? ⟨gb504, 1, none⟩ = some (.int .u32 t501) ∧ w'.cell? ⟨gb504, 2, none⟩ = some (.int .u32 t502) ∧ w'.cell? ⟨gb509, 0, none⟩ = some (.int .u64 t505) ∧ w'.cell? ⟨gb509, 1, none⟩ = some (.int .u32 t506) ∧ w'.cell? ⟨gb509, 2, none⟩ = some (.int .u32 t507) ∧ w'.cell? ⟨gb526, 0, none⟩ = some (.int .u64 t522) ∧ w'.cell? ⟨gb526, 1, none⟩ = some (.int .u32 t523) ∧ w'.cell? ⟨gb526, 2, none⟩ = some (.int .u32 t524)) (ds := []) #[false, false, false, false, false, false, false, false, false, false, false, false, false, false, false, false, false, false, false, false, false] (by kernel_rfl) rfl rfl ⟨bc BK495 0, bc BK495 1, bc BK495 2, bc BK504 0, bc BK504 1, bc BK504 2, bc BK509 0, bc BK509 1, bc BK509 2, bc BK526 0, bc BK526 1, bc BK526 2⟩ (fun hHeld => ?_); refine with_tabW turnstonelaw04_PosAt.tab7 turnstonelaw04_PosAt.bits7 (fun HT_ HW_ => ?_)
     generalize w62.drew = w63 at HO499 HO513 HO517 HO521 BK488 BK489 BK495 BK504 BK509 BK526 HB hHeld ⊢
     refine take_ (i := 0) (N := some 57) (v := ?_) (a' := ?_) #[true, false, false, false, false, false, false, false, false, false, false, false, false, false, false, false, false, false, false, false, false] rfl rfl (take_ofW HT_.out HW_.out (by kernel_rfl)) (fun _ _ _ h => h) (Or.inl ⟨by rfl, ?_⟩) hHeld ?_ ?_
     rotate_left
     ·rintro w' ⟨s0, s1, s2, s3, s4, s5, s6, s7, s8, s9, s10, s11⟩
      go_simp
      with_reducible rfl
     rotate_left
     ·simp only [Act.put, List.setIfInBounds_toArray, List.set_cons_zero, List.set_cons_succ, i64_w, i32_w]
      rfl
     refine take_ (i := 2) (N := some 59) (v := ?_) (a' := ?_) #[true, false, true, false, false, false, false, false, false, false, false, false, false, false, false, false, false, false, false, false, false] rfl rfl (take_ofW HT_.out HW_.out (by kernel_rfl)) (fun _ _ _ h => h) (Or.inl ⟨by rfl, ?_⟩) hHeld ?_ ?_
     rotate_left
     ·rintro w' ⟨s0, s1, s2, s3, s4, s5, s6, s7, s8, s9, s10, s11⟩
      go_simp
      with_reducible rfl
     rotate_left
     ·simp only [Act.put, List.setIfInBounds_toArray, List.set_cons_zero, List.set_cons_succ, i64_w, i32_w]
      rfl
     refine one_ (i := 1) (N := some 58) #[true, true, true, false, false, false, false, false, false, false, false, false, false, false, false, false, false, false, false, false, false] rfl rfl (one_of HT_.out (by kernel_rfl)) (by decide) (fun K hK => ?_)
     refine goes_ Try.func48 (by kernel_rfl) rfl #[.agg #[.int .u64 t491, .int .u32 t492, .int .u32 t493]] (by rfl) rfl rfl argt ?_
     with_reducible refine (turnstonelaw04_Of.calls t491 t492 t493 t527 t528 t529 _ A16.out).mono ?_
     rintro e w64 ⟨rfl, hb⟩
     refine ⟨_, rfl, ?_⟩
     replace HO499 := vb HO499 hb
     replace HO513 := rb HO513 hb
     replace HO517 := rb HO517 hb
     replace HO521 := vb HO521 hb
     replace BK488 := blkb BK488 hb
     replace BK489 := blkb BK489 hb
     replace BK495 := blkb BK495 hb
     replace BK504 := blkb BK504 hb
     replace BK509 := blkb BK509 hb
     replace BK526 := blkb BK526 hb
     replace HB := belb HB hb
     (try clear hb)
     (try clear hb2)
     (try clear hk)
     (try clear hi)
     refine hK.out _ _ ⟨bc BK495 0, bc BK495 1, bc BK495 2, bc BK504 0, bc BK504 1, bc BK504 2, bc BK509 0, bc BK509 1, bc BK509 2, bc BK526 0, bc BK526 1, bc BK526 2⟩ (fun hHeld => ?_)
     clear hK K
     refine norm_ (a' := ?_) ?_ ?_
     rotate_left
     ·show Act.put _ (some 58) _ = _
      simp only [Act.put, List.setIfInBounds_toArray, List.set_cons_zero, List.set_cons_succ, i64_w, i32_w]
      rfl
     refine pure_ (i := 3) (N := some 60) (v := ?_) (a' := ?_) #[true, true, true, true, false, false, false, false, false, false, false, false, false, false, false, false, false, false, false, false, false] rfl rfl (any_of HT_.out (by kernel_rfl)) (fun _ _ _ h => h) (Or.inl ⟨by rfl, ?_⟩) ?_ ?_
     rotate_left
     ·intro w'
      go_simp
      with_reducible rfl
     rotate_left
     ·simp only [Act.put, List.setIfInBounds_toArray, List.set_cons_zero, List.set_cons_succ, i64_w, i32_w]
      rfl
     refine pure_ (i := 4) (N := some 61) (v := ?_) (a' := ?_) #[true, true, true, true, true, false, false, false, false, false, false, false, false, false, false, false, false, false, false, false, false] rfl rfl (any_of HT_.out (by kernel_rfl)) (fun _ _ _ h => h) (Or.inl ⟨by rfl, ?_⟩) ?_ ?_
     rotate_left
     ·intro w'
      go_simp
      with_reducible rfl
     rotate_left
     ·simp only [Act.put, List.setIfInBounds_toArray, List.set_cons_zero, List.set_cons_succ, i64_w, i32_w]
      rfl
     refine pure_ (i := 5) (N := some 62) (v := ?_) (a' := ?_) #[true, true, true, true, true, true, false, false, false, false, false, false, false, false, false, false, false, false, false, false, false] rfl rfl (any_of HT_.out (by kernel_rfl)) (fun _ _ _ h => h) (Or.inl ⟨by rfl, ?_⟩) ?_ ?_
     rotate_left
     ·intro w'
      go_simp
      with_reducible rfl
     rotate_left
     ·simp only [Act.put, List.setIfInBounds_toArray, List.set_cons_zero, List.set_cons_succ, i64_w, i32_w]
      rfl
     refine pure_ (i := 6) (N := some 63) (v := ?_) (a' := ?_) #[true, true, true, true, true, true, true, false, false, false, false, false, false, false, false, false, false, false, false, false, false] rfl rfl (any_of HT_.out (by kernel_rfl)) (fun _ _ _ h => h) (Or.inl ⟨by rfl, ?_⟩) ?_ ?_
     rotate_left
     ·intro w'
      go_simp
      with_reducible rfl
     rotate_left
     ·simp only [Act.put, List.setIfInBounds_toArray, List.set_cons_zero, List.set_cons_succ, i64_w, i32_w]
      rfl
     refine pure_ (i := 7) (N := some 64) (v := ?_) (a' := ?_) #[true, true, true, true, true, true, true, true, false, false, false, false, false, false, false, false, false, false, false, false, false] rfl rfl (any_of HT_.out (by kernel_rfl)) (fun _ _ _ h => h) (Or.inl ⟨by rfl, ?_⟩) ?_ ?_
     rotate_left
     ·intro w'
      go_simp
      with_reducible rfl
     rotate_left
     ·simp only [Act.put, List.setIfInBounds_toArray, List.set_cons_zero, List.set_cons_succ, i64_w, i32_w]
      rfl
     refine pure_ (i := 8) (N := some 65) (v := ?_) (a' := ?_) #[true, true, true, true, true, true, true, true, true, false, false, false, false, false, false, false, false, false, false, false, false] rfl rfl (any_of HT_.out (by kernel_rfl)) (fun _ _ _ h => h) (Or.inl ⟨by rfl, ?_⟩) ?_ ?_
     rotate_left
     ·intro w'
      go_simp
      with_reducible rfl
     rotate_left
     ·simp only [Act.put, List.setIfInBounds_toArray, List.set_cons_zero, List.set_cons_succ, i64_w, i32_w]
      rfl
     refine pure_ (i := 9) (N := some 66) (v := ?_) (a' := ?_) #[true, true, true, true, true, true, true, true, true, true, false, false, false, false, false, false, false, false, false, false, false] rfl rfl (any_of HT_.out (by kernel_rfl)) (fun _ _ _ h => h) (Or.inl ⟨by rfl, ?_⟩) ?_ ?_
     rotate_left
     ·intro w'
      go_simp
      with_reducible rfl
     rotate_left
     ·simp only [Act.put, List.setIfInBounds_toArray, List.set_cons_zero, List.set_cons_succ, i64_w, i32_w]
      rfl
     refine take_ (i := 10) (N := some 67) (v := ?_) (a' := ?_) #[true, true, true, true, true, true, true, true, true, true, true, false, false, false, false, false, false, false, false, false, false] rfl rfl (take_ofW HT_.out HW_.out (by kernel_rfl)) (fun _ _ _ h => h) (Or.inl ⟨by rfl, ?_⟩) hHeld ?_ ?_
     rotate_left
     ·rintro w' ⟨s0, s1, s2, s3, s4, s5, s6, s7, s8, s9, s10, s11⟩
      go_simp
      with_reducible rfl
     rotate_left
     ·simp only [Act.put, List.setIfInBounds_toArray, List.set_cons_zero, List.set_cons_succ, i64_w, i32_w]
      rfl
     refine take_ (i := 12) (N := some 69) (v := ?_) (a' := ?_) #[true, true, true, true, true, true, true, true, true, true, true, false, true, false, false, false, false, false, false, false, false] rfl rfl (take_ofW HT_.out HW_.out (by kernel_rfl)) (fun _ _ _ h => h) (Or.inl ⟨by rfl, ?_⟩) hHeld ?_ ?_
     rotate_left
     ·rintro w' ⟨s0, s1, s2, s3, s4, s5, s6, s7, s8, s9, s10, s11⟩
      go_simp
      with_reducible rfl
     rotate_left
     ·simp only [Act.put, List.setIfInBounds_toArray, List.set_cons_zero, List.set_cons_succ, i64_w, i32_w]
      rfl
     refine one_ (i := 11) (N := some 68) #[true, true, true, true, true, true, true, true, true, true, true, true, true, false, false, false, false, false, false, false, false] rfl rfl (one_of HT_.out (by kernel_rfl)) (by decide) (fun K hK => ?_)
     refine goes_ Try.func48 (by kernel_rfl) rfl #[.agg #[.int .u64 t505, .int .u32 t506, .int .u32 t507]] (by rfl) rfl rfl argt ?_
     with_reducible refine (turnstonelaw04_Of.calls t505 t506 t507 t530 t531 t532 _ A19.out).mono ?_
     rintro e w65 ⟨rfl, hb⟩
     refine ⟨_, rfl, ?_⟩
     replace HO499 := vb HO499 hb
     replace HO513 := rb HO513 hb
     replace HO517 := rb HO517 hb
     replace HO521 := vb HO521 hb
     replace BK488 := blkb BK488 hb
     replace BK489 := blkb BK489 hb
     replace BK495 := blkb BK495 hb
     replace BK504 := blkb BK504 hb
     replace BK509 := blkb BK509 hb
     replace BK526 := blkb BK526 hb
     replace HB := belb HB hb
     (try clear hb)
     (try clear hb2)
     (try clear hk)
     (try clear hi)
     refine hK.out _ _ ⟨bc BK495 0, bc BK495 1, bc BK495 2, bc BK504 0, bc BK504 1, bc BK504 2, bc BK509 0, bc BK509 1, bc BK509 2, bc BK526 0, bc BK526 1, bc BK526 2⟩ (fun hHeld => ?_)
     clear hK K
     refine norm_ (a' := ?_) ?_ ?_
     rotate_left
     ·show Act.put _ (some 68) _ = _
      simp only [Act.put, List.setIfInBounds_toArray, List.set_cons_zero, List.set_cons_succ, i64_w, i32_w]
      rfl
     refine pure_ (i := 13) (N := some 70) (v := ?_) (a' := ?_) #[true, true, true, true, true, true, true, true, true, true, true, true, true, true, false, false, false, false, false, false, false] rfl rfl (any_of HT_.out (by kernel_rfl)) (fun _ _ _ h => h) (Or.inl ⟨by rfl, ?_⟩) ?_ ?_
     rotate_left
     ·intro w'
      go_simp
      with_reducible rfl
     rotate_left
     ·simp only [Act.put, List.setIfInBounds_toArray, List.set_cons_zero, List.set_cons_succ, i64_w, i32_w]
      rfl
     refine pure_ (i := 14) (N := some 71) (v := ?_) (a' := ?_) #[true, true, true, true, true, true, true, true, true, true, true, true, true, true, true, false, false, false, false, false, false] rfl rfl (any_of HT_.out (by kernel_rfl)) (fun _ _ _ h => h) (Or.inl ⟨by rfl, ?_⟩) ?_ ?_
     rotate_left
     ·intro w'
      go_simp
      with_reducible rfl
     rotate_left
     ·simp only [Act.put, List.setIfInBounds_toArray, List.set_cons_zero, List.set_cons_succ, i64_w, i32_w]
      rfl
     refine pure_ (i := 15) (N := some 72) (v := ?_) (a' := ?_) #[true, true, true, true, true, true, true, true, true, true, true, true, true, true, true, true, false, false, false, false, false] rfl rfl (any_of HT_.out (by kernel_rfl)) (fun _ _ _ h => h) (Or.inl ⟨by rfl, ?_⟩) ?_ ?_
     rotate_left
     ·intro w'
      go_simp
      with_reducible rfl
     rotate_left
     ·simp only [Act.put, List.setIfInBounds_toArray, List.set_cons_zero, List.set_cons_succ, i64_w, i32_w]
      rfl
     refine pure_ (i := 16) (N := some 73) (v := ?_) (a' := ?_) #[true, true, true, true, true, true, true, true, true, true, true, true, true, true, true, true, true, false, false, false, false] rfl rfl (any_of HT_.out (by kernel_rfl)) (fun _ _ _ h => h) (Or.inl ⟨by rfl, ?_⟩) ?_ ?_
     rotate_left
     ·intro w'
      go_simp
      with_reducible rfl
     rotate_left
     ·simp only [Act.put, List.setIfInBounds_toArray, List.set_cons_zero, List.set_cons_succ, i64_w, i32_w]
      rfl
     refine pure_ (i := 17) (N := some 74) (v := ?_) (a' := ?_) #[true, true, true, true, true, true, true, true, true, true, true, true, true, true, true, true, true, true, false, false, false] rfl rfl (any_of HT_.out (by kernel_rfl)) (fun _ _ _ h => h) (Or.inl ⟨by rfl, ?_⟩) ?_ ?_
     rotate_left
     ·intro w'
      go_simp
      with_reducible rfl
     rotate_left
     ·simp only [Act.put, List.setIfInBounds_toArray, List.set_cons_zero, List.set_cons_succ, i64_w, i32_w]
      rfl
     refine pure_ (i := 18) (N := some 75) (v := ?_) (a' := ?_) #[true, true, true, true, true, true, true, true, true, true, true, true, true, true, true, true, true, true, true, false, false] rfl rfl (any_of HT_.out (by kernel_rfl)) (fun _ _ _ h => h) (Or.inl ⟨by rfl, ?_⟩) ?_ ?_
     rotate_left
     ·intro w'
      go_simp
      with_reducible rfl
     rotate_left
     ·simp only [Act.put, List.setIfInBounds_toArray, List.set_cons_zero, List.set_cons_succ, i64_w, i32_w]
      rfl
     refine pure_ (i := 19) (N := some 76) (v := ?_) (a' := ?_) #[true, true, true, true, true, true, true, true, true, true, true, true, true, true, true, true, true, true, true, true, false] rfl rfl (any_of HT_.out (by kernel_rfl)) (fun _ _ _ h => h) (Or.inl ⟨by rfl, ?_⟩) ?_ ?_
     rotate_left
     ·intro w'
      go_simp
      with_reducible rfl
     rotate_left
     ·simp only [Act.put, List.setIfInBounds_toArray, List.set_cons_zero, List.set_cons_succ, i64_w, i32_w]
      rfl
     refine pure_ (i := 20) (N := some 10) (v := ?_) (a' := ?_) #[true, true, true, true, true, true, true, true, true, true, true, true, true, true, true, true, true, true, true, true, true] rfl rfl (any_of HT_.out (by kernel_rfl)) (fun _ _ _ h => h) (Or.inl ⟨by rfl, ?_⟩) ?_ ?_
     rotate_left
     ·intro w'
      go_simp
      with_reducible rfl
     rotate_left
     ·simp only [Act.put, List.setIfInBounds_toArray, List.set_cons_zero, List.set_cons_succ, i64_w, i32_w]
      rfl
     refine done_ (done_of HT_.out (by kernel_rfl)) ?_
     try go_wp2
     go_ret
     exact ⟨by first | rfl | (simp [errW_none, errW_some] <;> rfl) | (simp [*, errW_none, errW_some] <;> rfl), belt HB⟩
    rw [if_neg c20] at H
    have c20b0 : (t530 == t522 && (t531 == t523 && (t532 == t524))) = false := by simpa using c20
    (try (have c20b1 : decide (t530 = t522 && (t531 == t523 && (t532 == t524))) = false := by simpa using c20))
    (try (have c20b2 : (t530 == t522 && (t531 == t523 && (t532 == t524))) = false := by simpa using c20))
    (try (have c20b3 : ¬ (t530 = t522 && (t531 == t523 && (t532 == t524))) := by simpa using c20))
    clear c20
    exact absurd H (by simp)
   rw [if_neg c18] at H
   have c18b0 : (t494 == t503) = false := by simpa using c18
   (try (have c18b1 : decide (t494 = t503) = false := by simpa using c18))
   (try (have c18b2 : (t494 == t503) = false := by simpa using c18))
   (try (have c18b3 : ¬ (t494 = t503) := by simpa using c18))
   clear c18
   exact absurd H (by simp)
  rw [if_neg c17] at H
  have c17b0 : (t527 == t500 && (t528 == t501 && (t529 == t502))) = false := by simpa using c17
  (try (have c17b1 : decide (t527 = t500 && (t528 == t501 && (t529 == t502))) = false := by simpa using c17))
  (try (have c17b2 : (t527 == t500 && (t528 == t501 && (t529 == t502))) = false := by simpa using c17))
  (try (have c17b3 : ¬ (t527 = t500 && (t528 == t501 && (t529 == t502))) := by simpa using c17))
  clear c17
  exact absurd H (by simp)
 replace c7 := Bool.eq_false_iff.mpr c7
 subst c7
 have H1 : (none) = some r := by rw [if_neg (show ¬ (false = true) by decide)] at H; exact H
 clear H
 have H := H1
 clear H1
 exact absurd H (by simp)

/-- THE ONE PURE STATEMENT of turnstonelaw04_PosAt. -/
def turnstonelaw04_PosAt.Pure : Prop := ∀ (a0 : Int) (a1_0 : Int) (a1_1 : Int) (a2 : Int) (a3_0 : Int) (a3_1 : Int) (a3_2 : Int) (a4 : Int), (Lit.int .u64 a0).wf = true → (Lit.int .i64 a1_0).wf = true → (Lit.int .u64 a1_1).wf = true → (Lit.int .u32 a2).wf = true → (Lit.int .u64 a3_0).wf = true → (Lit.int .u32 a3_1).wf = true → (Lit.int .u32 a3_2).wf = true → (Lit.int .u64 a4).wf = true → ∃ k, turnstonelaw04_PosAt.f k a0 a1_0 a1_1 a2 a3_0 a3_1 a3_2 a4 = some true
theorem turnstonelaw04_PosAt.walk (P : turnstonelaw04_PosAt.Pure) (a0 : Int) (a1_0 : Int) (a1_1 : Int) (a2 : Int) (a3_0 : Int) (a3_1 : Int) (a3_2 : Int) (a4 : Int) (w : World) (w0 : (Lit.int .u64 a0).wf = true) (w1_0 : (Lit.int .i64 a1_0).wf = true) (w1_1 : (Lit.int .u64 a1_1).wf = true) (w2 : (Lit.int .u32 a2).wf = true) (w3_0 : (Lit.int .u64 a3_0).wf = true) (w3_1 : (Lit.int .u32 a3_1).wf = true) (w3_2 : (Lit.int .u32 a3_2).wf = true) (w4 : (Lit.int .u64 a4).wf = true) :
  Calls Try.prog 13 #[.int .u64 a0, .agg #[.int .i64 a1_0, .int .u64 a1_1], .int .u32 a2, .agg #[.int .u64 a3_0, .int .u32 a3_1, .int .u32 a3_2], .int .u64 a4] w fun e w' => e = .returned (.bool true) ∧ Below w.heap.size w w' := by
 obtain ⟨k, h⟩ := P a0 a1_0 a1_1 a2 a3_0 a3_1 a3_2 a4 w0 w1_0 w1_1 w2 w3_0 w3_1 w3_2 w4
 refine (turnstonelaw04_PosAt.calls k a0 a1_0 a1_1 a2 a3_0 a3_1 a3_2 a4 true w h).mono ?_
 rintro e w' ⟨rfl, hd⟩
 exact ⟨rfl, hd⟩

end Go.Proofs.Ytimgiiceipjpaaa.Print
