/- What each Go function that is named below answers, as a Lean function, and that its walk comes to just that: for whatever arguments that function gives an answer for. Written by a program of this session (wip/mkpr.py, pr.sh). -/
import Derived.Test.YtccokfebebmaeaaGreatDoorPrint1000
import Derived.Test.YtccokfebebmaeaaGreatDoorPrint1001
namespace Go.Proofs.YtccokfebebmaeaaGreatDoor.Print
open Go.RowKit Go.Proofs.YtccokfebebmaeaaGreatDoorW.PrintWords Go.Proofs.YtccokfebebmaeaaGreatDoorW.PrintLast Go.Proofs.YtccokfebebmaeaaGreatDoorW.PrintMore
attribute [local go_sem] max2_int min2_int max_two min_two max_three min_three max_four min_four   -- for this text's walks alone
open Go.Proofs.YtccokfebebmaeaaGreatDoor.Bits Go.Proofs.YtccokfebebmaeaaGreatDoor.Short
attribute [local go_sem] add64_run0 sub64_run0 add64_run sub64_run
set_option linter.unusedVariables false
set_option linter.unusedSimpArgs false

/-! ### cmp_isNaN_int64: function 80 -/
def cmp_isNaN_int64.f (a0 : Int) : Option (Bool) := some (a0 != a0)
set_option maxHeartbeats 8000000 in
set_option maxRecDepth 100000 in
theorem cmp_isNaN_int64.calls (a0 : Int) (r : Bool) (w : World) (h : cmp_isNaN_int64.f a0 = some r) :
  Calls Tryz.prog 80 #[.int .i64 a0] w fun e w' => e = .returned (.bool r) ∧ Drawn0 w w' := by
 have H : (some (a0 != a0)) = some r := h
 clear h
 obtain rfl := Option.some.inj H
 go_enter Tryz.func80, Tryz.ntmps80
 go_wp2
 go_ret
 exact ⟨by first | rfl | (simp; done) | (simp [*]; done), by repeat (first | exact Drawn0.refl _ | apply Drawn0.step)⟩


/-! ### cmp_Compare_int64: function 48 -/
def cmp_Compare_int64.f (a0 : Int) (a1 : Int) : Option (Int) := (cmp_isNaN_int64.f a0).bind fun t176 => ((cmp_isNaN_int64.f a1).bind fun t177 => (if t176 = true then (if t177 = true then (some 0) else (some (-1))) else (if t177 = true then (some 1) else (if a0 < a1 then (some (-1)) else (if a0 > a1 then (some 1) else (some 0))))))
set_option maxHeartbeats 8000000 in
set_option maxRecDepth 100000 in
theorem cmp_Compare_int64.calls (a0 : Int) (a1 : Int) (r : Int) (w : World) (h : cmp_Compare_int64.f a0 a1 = some r) :
  Calls Tryz.prog 48 #[.int .i64 a0, .int .i64 a1] w fun e w' => e = .returned (.int .i64 r) ∧ Drawn0 w w' := by
 have H : ((cmp_isNaN_int64.f a0).bind fun t176 => ((cmp_isNaN_int64.f a1).bind fun t177 => (if t176 = true then (if t177 = true then (some 0) else (some (-1))) else (if t177 = true then (some 1) else (if a0 < a1 then (some (-1)) else (if a0 > a1 then (some 1) else (some 0))))))) = some r := h
 clear h
 replace H := Option.bind_eq_some_iff.mp H
 obtain ⟨t176, A30, H⟩ := H
 replace H : ((cmp_isNaN_int64.f a1).bind fun t177 => (if t176 = true then (if t177 = true then (some 0) else (some (-1))) else (if t177 = true then (some 1) else (if a0 < a1 then (some (-1)) else (if a0 > a1 then (some 1) else (some 0)))))) = some r := H
 have A3 := Aside0.mk A30
 clear A30
 replace H := Option.bind_eq_some_iff.mp H
 obtain ⟨t177, A40, H⟩ := H
 replace H : (if t176 = true then (if t177 = true then (some 0) else (some (-1))) else (if t177 = true then (some 1) else (if a0 < a1 then (some (-1)) else (if a0 > a1 then (some 1) else (some 0))))) = some r := H
 have A4 := Aside0.mk A40
 clear A40
 by_cases c5 : t176 = true
 ·subst c5
  have H1 : (if t177 = true then (some 0) else (some (-1))) = some r := by rw [if_pos rfl] at H; exact H
  clear H
  have H := H1
  clear H1
  by_cases c6 : t177 = true
  ·subst c6
   have H1 : (some 0) = some r := by rw [if_pos rfl] at H; exact H
   clear H
   have H := H1
   clear H1
   obtain rfl := Option.some.inj H
   go_enter Tryz.func48, Tryz.ntmps48
   go_wp2_with (first | ((with_reducible refine gate_callee (f := 80) rfl ?_); refine goesL_ (some 8) rfl rfl Tryz.func80 (by kernel_rfl) rfl #[.int .i64 a0] rfl argt ?_; (with_reducible refine (cmp_isNaN_int64.calls a0 true _ A3.out).mono ?_); rintro e w' ⟨rfl, ⟨nd, rfl⟩⟩; refine ⟨_, rfl, ?_⟩) | ((with_reducible refine gate_callee (f := 80) rfl ?_); refine goesL_ (some 10) rfl rfl Tryz.func80 (by kernel_rfl) rfl #[.int .i64 a1] rfl argt ?_; (with_reducible refine (cmp_isNaN_int64.calls a1 true _ A4.out).mono ?_); rintro e w' ⟨rfl, ⟨nd, rfl⟩⟩; refine ⟨_, rfl, ?_⟩))
   go_ret
   exact ⟨by first | rfl | (simp; done) | (simp [*]; done), by repeat (first | exact Drawn0.refl _ | apply Drawn0.step)⟩
  replace c6 := Bool.eq_false_iff.mpr c6
  subst c6
  have H1 : (some (-1)) = some r := by rw [if_neg (show ¬ (false = true) by decide)] at H; exact H
  clear H
  have H := H1
  clear H1
  obtain rfl := Option.some.inj H
  go_enter Tryz.func48, Tryz.ntmps48
  go_wp2_with (first | ((with_reducible refine gate_callee (f := 80) rfl ?_); refine goesL_ (some 8) rfl rfl Tryz.func80 (by kernel_rfl) rfl #[.int .i64 a0] rfl argt ?_; (with_reducible refine (cmp_isNaN_int64.calls a0 true _ A3.out).mono ?_); rintro e w' ⟨rfl, ⟨nd, rfl⟩⟩; refine ⟨_, rfl, ?_⟩) | ((with_reducible refine gate_callee (f := 80) rfl ?_); refine goesL_ (some 10) rfl rfl Tryz.func80 (by kernel_rfl) rfl #[.int .i64 a1] rfl argt ?_; (with_reducible refine (cmp_isNaN_int64.calls a1 false _ A4.out).mono ?_); rintro e w' ⟨rfl, ⟨nd, rfl⟩⟩; refine ⟨_, rfl, ?_⟩))
  go_ret
  exact ⟨by first | rfl | (simp; done) | (simp [*]; done), by repeat (first | exact Drawn0.refl _ | apply Drawn0.step)⟩
 replace c5 := Bool.eq_false_iff.mpr c5
 subst c5
 have H1 : (if t177 = true then (some 1) else (if a0 < a1 then (some (-1)) else (if a0 > a1 then (some 1) else (some 0)))) = some r := by rw [if_neg (show ¬ (false = true) by decide)] at H; exact H
 clear H
 have H := H1
 clear H1
 by_cases c7 : t177 = true
 ·subst c7
  have H1 : (some 1) = some r := by rw [if_pos rfl] at H; exact H
  clear H
  have H := H1
  clear H1
  obtain rfl := Option.some.inj H
  go_enter Tryz.func48, Tryz.ntmps48
  go_wp2_with (first | ((with_reducible refine gate_callee (f := 80) rfl ?_); refine goesL_ (some 8) rfl rfl Tryz.func80 (by kernel_rfl) rfl #[.int .i64 a0] rfl argt ?_; (with_reducible refine (cmp_isNaN_int64.calls a0 false _ A3.out).mono ?_); rintro e w' ⟨rfl, ⟨nd, rfl⟩⟩; refine ⟨_, rfl, ?_⟩) | ((with_reducible refine gate_callee (f := 80) rfl ?_); refine goesL_ (some 10) rfl rfl Tryz.func80 (by kernel_rfl) rfl #[.int .i64 a1] rfl argt ?_; (with_reducible refine (cmp_isNaN_int64.calls a1 true _ A4.out).mono ?_); rintro e w' ⟨rfl, ⟨nd, rfl⟩⟩; refine ⟨_, rfl, ?_⟩))
  go_ret
  exact ⟨by first | rfl | (simp; done) | (simp [*]; done), by repeat (first | exact Drawn0.refl _ | apply Drawn0.step)⟩
 replace c7 := Bool.eq_false_iff.mpr c7
 subst c7
 have H1 : (if a0 < a1 then (some (-1)) else (if a0 > a1 then (some 1) else (some 0))) = some r := by rw [if_neg (show ¬ (false = true) by decide)] at H; exact H
 clear H
 have H := H1
 clear H1
 by_cases c8 : a0 < a1
 ·rw [if_pos c8] at H
  have c8b0 : decide (a0 < a1) = true := decide_eq_true c8
  clear c8
  obtain rfl := Option.some.inj H
  go_enter Tryz.func48, Tryz.ntmps48
  go_wp2_with (first | ((with_reducible refine gate_callee (f := 80) rfl ?_); refine goesL_ (some 8) rfl rfl Tryz.func80 (by kernel_rfl) rfl #[.int .i64 a0] rfl argt ?_; (with_reducible refine (cmp_isNaN_int64.calls a0 false _ A3.out).mono ?_); rintro e w' ⟨rfl, ⟨nd, rfl⟩⟩; refine ⟨_, rfl, ?_⟩) | ((with_reducible refine gate_callee (f := 80) rfl ?_); refine goesL_ (some 10) rfl rfl Tryz.func80 (by kernel_rfl) rfl #[.int .i64 a1] rfl argt ?_; (with_reducible refine (cmp_isNaN_int64.calls a1 false _ A4.out).mono ?_); rintro e w' ⟨rfl, ⟨nd, rfl⟩⟩; refine ⟨_, rfl, ?_⟩))
  go_ret
  exact ⟨by first | rfl | (simp; done) | (simp [*]; done), by repeat (first | exact Drawn0.refl _ | apply Drawn0.step)⟩
 rw [if_neg c8] at H
 have c8b0 : decide (a0 < a1) = false := decide_eq_false c8
 clear c8
 by_cases c9 : a0 > a1
 ·rw [if_pos c9] at H
  have c9b0 : decide (a1 < a0) = true := decide_eq_true c9
  clear c9
  obtain rfl := Option.some.inj H
  go_enter Tryz.func48, Tryz.ntmps48
  go_wp2_with (first | ((with_reducible refine gate_callee (f := 80) rfl ?_); refine goesL_ (some 8) rfl rfl Tryz.func80 (by kernel_rfl) rfl #[.int .i64 a0] rfl argt ?_; (with_reducible refine (cmp_isNaN_int64.calls a0 false _ A3.out).mono ?_); rintro e w' ⟨rfl, ⟨nd, rfl⟩⟩; refine ⟨_, rfl, ?_⟩) | ((with_reducible refine gate_callee (f := 80) rfl ?_); refine goesL_ (some 10) rfl rfl Tryz.func80 (by kernel_rfl) rfl #[.int .i64 a1] rfl argt ?_; (with_reducible refine (cmp_isNaN_int64.calls a1 false _ A4.out).mono ?_); rintro e w' ⟨rfl, ⟨nd, rfl⟩⟩; refine ⟨_, rfl, ?_⟩))
  go_ret
  exact ⟨by first | rfl | (simp; done) | (simp [*]; done), by repeat (first | exact Drawn0.refl _ | apply Drawn0.step)⟩
 rw [if_neg c9] at H
 have c9b0 : decide (a1 < a0) = false := decide_eq_false c9
 clear c9
 obtain rfl := Option.some.inj H
 go_enter Tryz.func48, Tryz.ntmps48
 go_wp2_with (first | ((with_reducible refine gate_callee (f := 80) rfl ?_); refine goesL_ (some 8) rfl rfl Tryz.func80 (by kernel_rfl) rfl #[.int .i64 a0] rfl argt ?_; (with_reducible refine (cmp_isNaN_int64.calls a0 false _ A3.out).mono ?_); rintro e w' ⟨rfl, ⟨nd, rfl⟩⟩; refine ⟨_, rfl, ?_⟩) | ((with_reducible refine gate_callee (f := 80) rfl ?_); refine goesL_ (some 10) rfl rfl Tryz.func80 (by kernel_rfl) rfl #[.int .i64 a1] rfl argt ?_; (with_reducible refine (cmp_isNaN_int64.calls a1 false _ A4.out).mono ?_); rintro e w' ⟨rfl, ⟨nd, rfl⟩⟩; refine ⟨_, rfl, ?_⟩))
 go_ret
 exact ⟨by first | rfl | (simp; done) | (simp [*]; done), by repeat (first | exact Drawn0.refl _ | apply Drawn0.step)⟩


/-! ### cmp_isNaN_uint64: function 81 -/
def cmp_isNaN_uint64.f (a0 : Int) : Option (Bool) := some (a0 != a0)
set_option maxHeartbeats 8000000 in
set_option maxRecDepth 100000 in
theorem cmp_isNaN_uint64.calls (a0 : Int) (r : Bool) (w : World) (h : cmp_isNaN_uint64.f a0 = some r) :
  Calls Tryz.prog 81 #[.int .u64 a0] w fun e w' => e = .returned (.bool r) ∧ Drawn0 w w' := by
 have H : (some (a0 != a0)) = some r := h
 clear h
 obtain rfl := Option.some.inj H
 go_enter Tryz.func81, Tryz.ntmps81
 go_wp2
 go_ret
 exact ⟨by first | rfl | (simp; done) | (simp [*]; done), by repeat (first | exact Drawn0.refl _ | apply Drawn0.step)⟩


/-! ### cmp_Compare_uint64: function 49 -/
def cmp_Compare_uint64.f (a0 : Int) (a1 : Int) : Option (Int) := (cmp_isNaN_uint64.f a0).bind fun t178 => ((cmp_isNaN_uint64.f a1).bind fun t179 => (if t178 = true then (if t179 = true then (some 0) else (some (-1))) else (if t179 = true then (some 1) else (if a0 < a1 then (some (-1)) else (if a0 > a1 then (some 1) else (some 0))))))
set_option maxHeartbeats 8000000 in
set_option maxRecDepth 100000 in
theorem cmp_Compare_uint64.calls (a0 : Int) (a1 : Int) (r : Int) (w : World) (h : cmp_Compare_uint64.f a0 a1 = some r) :
  Calls Tryz.prog 49 #[.int .u64 a0, .int .u64 a1] w fun e w' => e = .returned (.int .i64 r) ∧ Drawn0 w w' := by
 have H : ((cmp_isNaN_uint64.f a0).bind fun t178 => ((cmp_isNaN_uint64.f a1).bind fun t179 => (if t178 = true then (if t179 = true then (some 0) else (some (-1))) else (if t179 = true then (some 1) else (if a0 < a1 then (some (-1)) else (if a0 > a1 then (some 1) else (some 0))))))) = some r := h
 clear h
 replace H := Option.bind_eq_some_iff.mp H
 obtain ⟨t178, A30, H⟩ := H
 replace H : ((cmp_isNaN_uint64.f a1).bind fun t179 => (if t178 = true then (if t179 = true then (some 0) else (some (-1))) else (if t179 = true then (some 1) else (if a0 < a1 then (some (-1)) else (if a0 > a1 then (some 1) else (some 0)))))) = some r := H
 have A3 := Aside0.mk A30
 clear A30
 replace H := Option.bind_eq_some_iff.mp H
 obtain ⟨t179, A40, H⟩ := H
 replace H : (if t178 = true then (if t179 = true then (some 0) else (some (-1))) else (if t179 = true then (some 1) else (if a0 < a1 then (some (-1)) else (if a0 > a1 then (some 1) else (some 0))))) = some r := H
 have A4 := Aside0.mk A40
 clear A40
 by_cases c5 : t178 = true
 ·subst c5
  have H1 : (if t179 = true then (some 0) else (some (-1))) = some r := by rw [if_pos rfl] at H; exact H
  clear H
  have H := H1
  clear H1
  by_cases c6 : t179 = true
  ·subst c6
   have H1 : (some 0) = some r := by rw [if_pos rfl] at H; exact H
   clear H
   have H := H1
   clear H1
   obtain rfl := Option.some.inj H
   go_enter Tryz.func49, Tryz.ntmps49
   go_wp2_with (first | ((with_reducible refine gate_callee (f := 81) rfl ?_); refine goesL_ (some 8) rfl rfl Tryz.func81 (by kernel_rfl) rfl #[.int .u64 a0] rfl argt ?_; (with_reducible refine (cmp_isNaN_uint64.calls a0 true _ A3.out).mono ?_); rintro e w' ⟨rfl, ⟨nd, rfl⟩⟩; refine ⟨_, rfl, ?_⟩) | ((with_reducible refine gate_callee (f := 81) rfl ?_); refine goesL_ (some 10) rfl rfl Tryz.func81 (by kernel_rfl) rfl #[.int .u64 a1] rfl argt ?_; (with_reducible refine (cmp_isNaN_uint64.calls a1 true _ A4.out).mono ?_); rintro e w' ⟨rfl, ⟨nd, rfl⟩⟩; refine ⟨_, rfl, ?_⟩))
   go_ret
   exact ⟨by first | rfl | (simp; done) | (simp [*]; done), by repeat (first | exact Drawn0.refl _ | apply Drawn0.step)⟩
  replace c6 := Bool.eq_false_iff.mpr c6
  subst c6
  have H1 : (some (-1)) = some r := by rw [if_neg (show ¬ (false = true) by decide)] at H; exact H
  clear H
  have H := H1
  clear H1
  obtain rfl := Option.some.inj H
  go_enter Tryz.func49, Tryz.ntmps49
  go_wp2_with (first | ((with_reducible refine gate_callee (f := 81) rfl ?_); refine goesL_ (some 8) rfl rfl Tryz.func81 (by kernel_rfl) rfl #[.int .u64 a0] rfl argt ?_; (with_reducible refine (cmp_isNaN_uint64.calls a0 true _ A3.out).mono ?_); rintro e w' ⟨rfl, ⟨nd, rfl⟩⟩; refine ⟨_, rfl, ?_⟩) | ((with_reducible refine gate_callee (f := 81) rfl ?_); refine goesL_ (some 10) rfl rfl Tryz.func81 (by kernel_rfl) rfl #[.int .u64 a1] rfl argt ?_; (with_reducible refine (cmp_isNaN_uint64.calls a1 false _ A4.out).mono ?_); rintro e w' ⟨rfl, ⟨nd, rfl⟩⟩; refine ⟨_, rfl, ?_⟩))
  go_ret
  exact ⟨by first | rfl | (simp; done) | (simp [*]; done), by repeat (first | exact Drawn0.refl _ | apply Drawn0.step)⟩
 replace c5 := Bool.eq_false_iff.mpr c5
 subst c5
 have H1 : (if t179 = true then (some 1) else (if a0 < a1 then (some (-1)) else (if a0 > a1 then (some 1) else (some 0)))) = some r := by rw [if_neg (show ¬ (false = true) by decide)] at H; exact H
 clear H
 have H := H1
 clear H1
 by_cases c7 : t179 = true
 ·subst c7
  have H1 : (some 1) = some r := by rw [if_pos rfl] at H; exact H
  clear H
  have H := H1
  clear H1
  obtain rfl := Option.some.inj H
  go_enter Tryz.func49, Tryz.ntmps49
  go_wp2_with (first | ((with_reducible refine gate_callee (f := 81) rfl ?_); refine goesL_ (some 8) rfl rfl Tryz.func81 (by kernel_rfl) rfl #[.int .u64 a0] rfl argt ?_; (with_reducible refine (cmp_isNaN_uint64.calls a0 false _ A3.out).mono ?_); rintro e w' ⟨rfl, ⟨nd, rfl⟩⟩; refine ⟨_, rfl, ?_⟩) | ((with_reducible refine gate_callee (f := 81) rfl ?_); refine goesL_ (some 10) rfl rfl Tryz.func81 (by kernel_rfl) rfl #[.int .u64 a1] rfl argt ?_; (with_reducible refine (cmp_isNaN_uint64.calls a1 true _ A4.out).mono ?_); rintro e w' ⟨rfl, ⟨nd, rfl⟩⟩; refine ⟨_, rfl, ?_⟩))
  go_ret
  exact ⟨by first | rfl | (simp; done) | (simp [*]; done), by repeat (first | exact Drawn0.refl _ | apply Drawn0.step)⟩
 replace c7 := Bool.eq_false_iff.mpr c7
 subst c7
 have H1 : (if a0 < a1 then (some (-1)) else (if a0 > a1 then (some 1) else (some 0))) = some r := by rw [if_neg (show ¬ (false = true) by decide)] at H; exact H
 clear H
 have H := H1
 clear H1
 by_cases c8 : a0 < a1
 ·rw [if_pos c8] at H
  have c8b0 : decide (a0 < a1) = true := decide_eq_true c8
  clear c8
  obtain rfl := Option.some.inj H
  go_enter Tryz.func49, Tryz.ntmps49
  go_wp2_with (first | ((with_reducible refine gate_callee (f := 81) rfl ?_); refine goesL_ (some 8) rfl rfl Tryz.func81 (by kernel_rfl) rfl #[.int .u64 a0] rfl argt ?_; (with_reducible refine (cmp_isNaN_uint64.calls a0 false _ A3.out).mono ?_); rintro e w' ⟨rfl, ⟨nd, rfl⟩⟩; refine ⟨_, rfl, ?_⟩) | ((with_reducible refine gate_callee (f := 81) rfl ?_); refine goesL_ (some 10) rfl rfl Tryz.func81 (by kernel_rfl) rfl #[.int .u64 a1] rfl argt ?_; (with_reducible refine (cmp_isNaN_uint64.calls a1 false _ A4.out).mono ?_); rintro e w' ⟨rfl, ⟨nd, rfl⟩⟩; refine ⟨_, rfl, ?_⟩))
  go_ret
  exact ⟨by first | rfl | (simp; done) | (simp [*]; done), by repeat (first | exact Drawn0.refl _ | apply Drawn0.step)⟩
 rw [if_neg c8] at H
 have c8b0 : decide (a0 < a1) = false := decide_eq_false c8
 clear c8
 by_cases c9 : a0 > a1
 ·rw [if_pos c9] at H
  have c9b0 : decide (a1 < a0) = true := decide_eq_true c9
  clear c9
  obtain rfl := Option.some.inj H
  go_enter Tryz.func49, Tryz.ntmps49
  go_wp2_with (first | ((with_reducible refine gate_callee (f := 81) rfl ?_); refine goesL_ (some 8) rfl rfl Tryz.func81 (by kernel_rfl) rfl #[.int .u64 a0] rfl argt ?_; (with_reducible refine (cmp_isNaN_uint64.calls a0 false _ A3.out).mono ?_); rintro e w' ⟨rfl, ⟨nd, rfl⟩⟩; refine ⟨_, rfl, ?_⟩) | ((with_reducible refine gate_callee (f := 81) rfl ?_); refine goesL_ (some 10) rfl rfl Tryz.func81 (by kernel_rfl) rfl #[.int .u64 a1] rfl argt ?_; (with_reducible refine (cmp_isNaN_uint64.calls a1 false _ A4.out).mono ?_); rintro e w' ⟨rfl, ⟨nd, rfl⟩⟩; refine ⟨_, rfl, ?_⟩))
  go_ret
  exact ⟨by first | rfl | (simp; done) | (simp [*]; done), by repeat (first | exact Drawn0.refl _ | apply Drawn0.step)⟩
 rw [if_neg c9] at H
 have c9b0 : decide (a1 < a0) = false := decide_eq_false c9
 clear c9
 obtain rfl := Option.some.inj H
 go_enter Tryz.func49, Tryz.ntmps49
 go_wp2_with (first | ((with_reducible refine gate_callee (f := 81) rfl ?_); refine goesL_ (some 8) rfl rfl Tryz.func81 (by kernel_rfl) rfl #[.int .u64 a0] rfl argt ?_; (with_reducible refine (cmp_isNaN_uint64.calls a0 false _ A3.out).mono ?_); rintro e w' ⟨rfl, ⟨nd, rfl⟩⟩; refine ⟨_, rfl, ?_⟩) | ((with_reducible refine gate_callee (f := 81) rfl ?_); refine goesL_ (some 10) rfl rfl Tryz.func81 (by kernel_rfl) rfl #[.int .u64 a1] rfl argt ?_; (with_reducible refine (cmp_isNaN_uint64.calls a1 false _ A4.out).mono ?_); rintro e w' ⟨rfl, ⟨nd, rfl⟩⟩; refine ⟨_, rfl, ?_⟩))
 go_ret
 exact ⟨by first | rfl | (simp; done) | (simp [*]; done), by repeat (first | exact Drawn0.refl _ | apply Drawn0.step)⟩


/-! ### vtime_Time_Add: function 16 -/
def vtime_Time_Add.f (a0 : Int) (a1 : Int) : Option (Int) := some (IntKind.u64.wrap (a0 + (IntKind.u64.wrap (a1))))
set_option maxHeartbeats 8000000 in
set_option maxRecDepth 100000 in
theorem vtime_Time_Add.calls (a0 : Int) (a1 : Int) (r : Int) (w : World) (h : vtime_Time_Add.f a0 a1 = some r) :
  Calls Tryz.prog 16 #[.int .u64 a0, .int .i64 a1] w fun e w' => e = .returned (.int .u64 r) ∧ Drawn0 w w' := by
 have H : (some (IntKind.u64.wrap (a0 + (IntKind.u64.wrap (a1))))) = some r := h
 clear h
 obtain rfl := Option.some.inj H
 go_enter Tryz.func16, Tryz.ntmps16
 go_wp2
 go_ret
 exact ⟨by first | rfl | (simp; done) | (simp [*]; done), by repeat (first | exact Drawn0.refl _ | apply Drawn0.step)⟩


attribute [local go_sem high] eqA31
/-! ### wide_Int_Small: function 45 -/
def wide_Int_Small.f (a0_0 : Int) (a0_1 : Int) : Option (Int × Bool) := (wide_Of.f (wrap64 (a0_1))).bind fun bt193 => (if (!(bt193.1 == a0_0) || (!(bt193.2 == a0_1))) = true then (some (0, false)) else (some (wrap64 (a0_1), true)))
set_option maxHeartbeats 8000000 in
set_option maxRecDepth 100000 in
theorem wide_Int_Small.calls (a0_0 : Int) (a0_1 : Int) (r1 : Int) (r2 : Bool) (w : World) (h : wide_Int_Small.f a0_0 a0_1 = some (r1, r2)) :
  Calls Tryz.prog 45 #[.agg #[.int .i64 a0_0, .int .u64 a0_1]] w fun e w' => e = .returned (.tuple #[.int .i64 r1, .bool r2]) ∧ Below w.heap.size w w' := by
 have hu31 := Tryz.underlying31
 have HB := Aside0.mk (Below.refl w.heap.size w)
 have H : ((wide_Of.f (wrap64 (a0_1))).bind fun bt193 => (if (!(bt193.1 == a0_0) || (!(bt193.2 == a0_1))) = true then (some (0, false)) else (some (wrap64 (a0_1), true)))) = some (r1, r2) := h
 clear h
 replace H := Option.bind_eq_some_iff.mp H
 obtain ⟨⟨t193, t194⟩, A20, H⟩ := H
 replace H : (if (!(t193 == a0_0) || (!(t194 == a0_1))) = true then (some (0, false)) else (some (wrap64 (a0_1), true))) = some (r1, r2) := H
 have A2 := Aside0.mk A20
 clear A20
 by_cases c3 : (!(t193 == a0_0) || (!(t194 == a0_1))) = true
 ·rw [if_pos c3] at H
  have c3b0 : (!(t193 == a0_0) || (!(t194 == a0_1))) = true := c3
  clear c3
  simp only [Option.some.injEq, Prod.mk.injEq] at H
  obtain ⟨rfl, rfl⟩ := H
  go_enter Tryz.func45, Tryz.ntmps45
  try go_wp2_with (first | ((with_reducible refine gate_dst (N := 1) rfl ?_); refine box_event ?hg (N := 1) ?hd (cs := #[.int .i64 a0_0, .int .u64 a0_1]) (t := 31) ?hr ?_; (case hd => rfl); (case hg => rfl); (case hr => first | (go_simp; done) | (go_simp; rfl)); intro gb192 hg w4 hbox hb; have BK192 := Aside0.mk (hbox); have GW192 := bels HB hg; have GE192 := bels HB hg; replace HB := belb HB hb; clear hb hbox hg; have hcz5_0 : w4.cell? ⟨gb192, 0, none⟩ = some (.int .i64 a0_0) := bc BK192 0; have hcz5_1 : w4.cell? ⟨gb192, 1, none⟩ = some (.int .u64 a0_1) := bc BK192 1; have hfz5_0 := blk_frozen BK192.out 0; have hfz5_1 := blk_frozen BK192.out 1))
  replace BK192 := Aside0.mk (blk_drew BK192.out)
  replace HB := Aside0.mk (below_drew1 HB.out)
  refine start_ (n := 4) (S := fun w' => w'.cell? ⟨gb192, 0, none⟩ = some (.int .i64 a0_0) ∧ w'.cell? ⟨gb192, 1, none⟩ = some (.int .u64 a0_1)) (ds := []) #[false, false, false, false] (by kernel_rfl) rfl rfl ⟨bc BK192 0, bc BK192 1⟩ (fun hHeld => ?_)
  generalize w4.drew = w6 at BK192 HB hHeld ⊢
  refine pure_ (i := 0) (N := some 8) (v := ?_) (a' := ?_) #[true, false, false, false] rfl rfl (by kernel_rfl) (fun _ _ _ h => h) (Or.inl ⟨by rfl, ?_⟩) ?_ ?_
  rotate_left
  ·intro w'
   go_simp
   with_reducible rfl
  rotate_left
  ·simp only [Act.put, List.setIfInBounds_toArray, List.set_cons_zero, List.set_cons_succ, i64_w, i32_w]
   rfl
  refine take_ (i := 2) (N := some 10) (v := ?_) (a' := ?_) #[true, false, true, false] rfl rfl (by kernel_rfl) (fun _ _ _ h => h) (Or.inl ⟨by rfl, ?_⟩) hHeld ?_ ?_
  rotate_left
  ·rintro w' ⟨s0, s1⟩
   go_simp
   with_reducible rfl
  rotate_left
  ·simp only [Act.put, List.setIfInBounds_toArray, List.set_cons_zero, List.set_cons_succ, i64_w, i32_w]
   rfl
  refine one_ (i := 1) (N := some 9) #[true, true, true, false] rfl rfl (by kernel_rfl) (by decide) (fun K hK => ?_)
  refine goes_ Tryz.func56 (by kernel_rfl) rfl #[.int .i64 (wrap64 (a0_1))] (by rfl) rfl rfl argt ?_
  with_reducible refine (wide_Of.calls (wrap64 (a0_1)) t193 t194 _ A2.out).mono ?_
  rintro e w7 ⟨rfl, hb⟩
  refine ⟨_, rfl, ?_⟩
  replace BK192 := blkb BK192 hb
  replace HB := belb HB hb
  (try clear hb)
  (try clear hb2)
  (try clear hk)
  (try clear hi)
  refine hK.out _ _ ⟨bc BK192 0, bc BK192 1⟩ (fun hHeld => ?_)
  clear hK K
  refine norm_ (a' := ?_) ?_ ?_
  rotate_left
  ·show Act.put _ (some 9) _ = _
   simp only [Act.put, List.setIfInBounds_toArray, List.set_cons_zero, List.set_cons_succ, i64_w, i32_w]
   rfl
  refine pure_ (i := 3) (N := some 11) (v := ?_) (a' := ?_) #[true, true, true, true] rfl rfl (by kernel_rfl) (fun _ _ _ h => h) (Or.inl ⟨by rfl, ?_⟩) ?_ ?_
  rotate_left
  ·intro w'
   go_simp
   with_reducible rfl
  rotate_left
  ·simp only [Act.put, List.setIfInBounds_toArray, List.set_cons_zero, List.set_cons_succ, i64_w, i32_w]
   rfl
  refine done_ (by kernel_rfl) ?_
  try go_wp2
  go_ret2
  exact ⟨by first | rfl | (simp [errW_none, errW_some] <;> rfl) | (simp [*, errW_none, errW_some] <;> rfl), belt HB⟩
 rw [if_neg c3] at H
 have c3b0 : (!(t193 == a0_0) || (!(t194 == a0_1))) = false := by simpa using c3
 clear c3
 simp only [Option.some.injEq, Prod.mk.injEq] at H
 obtain ⟨rfl, rfl⟩ := H
 go_enter Tryz.func45, Tryz.ntmps45
 try go_wp2_with (first | ((with_reducible refine gate_dst (N := 1) rfl ?_); refine box_event ?hg (N := 1) ?hd (cs := #[.int .i64 a0_0, .int .u64 a0_1]) (t := 31) ?hr ?_; (case hd => rfl); (case hg => rfl); (case hr => first | (go_simp; done) | (go_simp; rfl)); intro gb192 hg w8 hbox hb; have BK192 := Aside0.mk (hbox); have GW192 := bels HB hg; have GE192 := bels HB hg; replace HB := belb HB hb; clear hb hbox hg; have hcz9_0 : w8.cell? ⟨gb192, 0, none⟩ = some (.int .i64 a0_0) := bc BK192 0; have hcz9_1 : w8.cell? ⟨gb192, 1, none⟩ = some (.int .u64 a0_1) := bc BK192 1; have hfz9_0 := blk_frozen BK192.out 0; have hfz9_1 := blk_frozen BK192.out 1))
 replace BK192 := Aside0.mk (blk_drew BK192.out)
 replace HB := Aside0.mk (below_drew1 HB.out)
 refine start_ (n := 4) (S := fun w' => w'.cell? ⟨gb192, 0, none⟩ = some (.int .i64 a0_0) ∧ w'.cell? ⟨gb192, 1, none⟩ = some (.int .u64 a0_1)) (ds := []) #[false, false, false, false] (by kernel_rfl) rfl rfl ⟨bc BK192 0, bc BK192 1⟩ (fun hHeld => ?_)
 generalize w8.drew = w10 at BK192 HB hHeld ⊢
 refine pure_ (i := 0) (N := some 8) (v := ?_) (a' := ?_) #[true, false, false, false] rfl rfl (by kernel_rfl) (fun _ _ _ h => h) (Or.inl ⟨by rfl, ?_⟩) ?_ ?_
 rotate_left
 ·intro w'
  go_simp
  with_reducible rfl
 rotate_left
 ·simp only [Act.put, List.setIfInBounds_toArray, List.set_cons_zero, List.set_cons_succ, i64_w, i32_w]
  rfl
 refine take_ (i := 2) (N := some 10) (v := ?_) (a' := ?_) #[true, false, true, false] rfl rfl (by kernel_rfl) (fun _ _ _ h => h) (Or.inl ⟨by rfl, ?_⟩) hHeld ?_ ?_
 rotate_left
 ·rintro w' ⟨s0, s1⟩
  go_simp
  with_reducible rfl
 rotate_left
 ·simp only [Act.put, List.setIfInBounds_toArray, List.set_cons_zero, List.set_cons_succ, i64_w, i32_w]
  rfl
 refine one_ (i := 1) (N := some 9) #[true, true, true, false] rfl rfl (by kernel_rfl) (by decide) (fun K hK => ?_)
 refine goes_ Tryz.func56 (by kernel_rfl) rfl #[.int .i64 (wrap64 (a0_1))] (by rfl) rfl rfl argt ?_
 with_reducible refine (wide_Of.calls (wrap64 (a0_1)) t193 t194 _ A2.out).mono ?_
 rintro e w11 ⟨rfl, hb⟩
 refine ⟨_, rfl, ?_⟩
 replace BK192 := blkb BK192 hb
 replace HB := belb HB hb
 (try clear hb)
 (try clear hb2)
 (try clear hk)
 (try clear hi)
 refine hK.out _ _ ⟨bc BK192 0, bc BK192 1⟩ (fun hHeld => ?_)
 clear hK K
 refine norm_ (a' := ?_) ?_ ?_
 rotate_left
 ·show Act.put _ (some 9) _ = _
  simp only [Act.put, List.setIfInBounds_toArray, List.set_cons_zero, List.set_cons_succ, i64_w, i32_w]
  rfl
 refine pure_ (i := 3) (N := some 11) (v := ?_) (a' := ?_) #[true, true, true, true] rfl rfl (by kernel_rfl) (fun _ _ _ h => h) (Or.inl ⟨by rfl, ?_⟩) ?_ ?_
 rotate_left
 ·intro w'
  go_simp
  with_reducible rfl
 rotate_left
 ·simp only [Act.put, List.setIfInBounds_toArray, List.set_cons_zero, List.set_cons_succ, i64_w, i32_w]
  rfl
 refine done_ (by kernel_rfl) ?_
 try go_wp2
 go_ret2
 exact ⟨by first | rfl | (simp [errW_none, errW_some] <;> rfl) | (simp [*, errW_none, errW_some] <;> rfl), belt HB⟩


/-! ### mean_Mean_Floor: function 12 -/
def mean_Mean_Floor.j0 : Nat → Bool → Int → Int → Int → Int → Int → Option (Int × Bool)
 | 0, _, _, _, _, _, _ => none
 | k + 1, x16, x196000, x196001, x196002, x196003, x196004 => if x16 = true then (some (0, false)) else ((wide_Int_Div.f k x196001 x196002 x196003).bind fun bt197 => ((wide_Int_Small.f bt197.1 bt197.2.1).bind fun bt202 => (if bt202.2 = true then ((vtime_Time_Add.f x196000 bt202.1).bind fun t204 => (some (t204, true))) else (some (0, false)))))
def mean_Mean_Floor.f (k : Nat) (a0_0 : Int) (a0_1 : Int) (a0_2 : Int) (a0_3 : Int) (a0_4 : Int) : Option (Int × Bool) := (mean_Mean_Right.f a0_0 a0_1 a0_2 a0_3 a0_4).bind fun t196 => (if t196 = true then (mean_Mean_Floor.j0 k (a0_4 == 0) a0_0 a0_1 a0_2 a0_3 a0_4) else (mean_Mean_Floor.j0 k true a0_0 a0_1 a0_2 a0_3 a0_4))
theorem mean_Mean_Floor.mono_l : ∀ k, (∀ y0 y1 y2 y3 y4 y5, LeO (mean_Mean_Floor.j0 k y0 y1 y2 y3 y4 y5) (mean_Mean_Floor.j0 (k + 1) y0 y1 y2 y3 y4 y5))
 | 0 => fun _ _ _ _ _ _ r h => by simp [mean_Mean_Floor.j0] at h
 | k + 1 => by
  have ih0 := mean_Mean_Floor.mono_l k
  ·intro y0 y1 y2 y3 y4 y5
   unfold mean_Mean_Floor.j0
   repeat' first
   | (with_reducible exact ih0 _ _ _ _ _ _)
   | (with_reducible exact wide_Int_Div.mono _ _ _ _)
   | (with_reducible exact LeO.refl _)
   | (with_reducible exact LeO.none _)
   | (with_reducible refine LeO.ite ?_ ?_)
   | (with_reducible refine LeO.bind ?_ (fun _ => ?_))
   | exact ih0 _ _ _ _ _ _
   | exact wide_Int_Div.mono _ _ _ _
   | exact LeO.none _
   | refine LeO.ite ?_ ?_
   | refine LeO.bind ?_ (fun _ => ?_)
theorem mean_Mean_Floor.mono : ∀ a0 a1 a2 a3 a4 k, LeO (mean_Mean_Floor.f k a0 a1 a2 a3 a4) (mean_Mean_Floor.f (k + 1) a0 a1 a2 a3 a4) := by
 intro a0 a1 a2 a3 a4 k
 have ih0 := mean_Mean_Floor.mono_l k
 unfold mean_Mean_Floor.f
 repeat' first
   | (with_reducible exact ih0 _ _ _ _ _ _)
   | (with_reducible exact wide_Int_Div.mono _ _ _ _)
   | (with_reducible exact LeO.refl _)
   | (with_reducible exact LeO.none _)
   | (with_reducible refine LeO.ite ?_ ?_)
   | (with_reducible refine LeO.bind ?_ (fun _ => ?_))
   | exact ih0 _ _ _ _ _ _
   | exact wide_Int_Div.mono _ _ _ _
   | exact LeO.none _
   | refine LeO.ite ?_ ?_
   | refine LeO.bind ?_ (fun _ => ?_)
set_option maxHeartbeats 8000000 in
set_option maxRecDepth 100000 in
theorem mean_Mean_Floor.calls (k : Nat) (a0_0 : Int) (a0_1 : Int) (a0_2 : Int) (a0_3 : Int) (a0_4 : Int) (r1 : Int) (r2 : Bool) (w : World) (h : mean_Mean_Floor.f k a0_0 a0_1 a0_2 a0_3 a0_4 = some (r1, r2)) :
  Calls Tryz.prog 12 #[.agg #[.int .u64 a0_0, .int .i64 a0_1, .int .u64 a0_2, .int .u64 a0_3, .int .i64 a0_4]] w fun e w' => e = .returned (.tuple #[.int .u64 r1, .bool r2]) ∧ Below w.heap.size w w' := by
 have hu33 := Tryz.underlying33
 have hu31 := Tryz.underlying31
 have HB := Aside0.mk (Below.refl w.heap.size w)
 have H : ((mean_Mean_Right.f a0_0 a0_1 a0_2 a0_3 a0_4).bind fun t196 => (if t196 = true then (mean_Mean_Floor.j0 k (a0_4 == 0) a0_0 a0_1 a0_2 a0_3 a0_4) else (mean_Mean_Floor.j0 k true a0_0 a0_1 a0_2 a0_3 a0_4))) = some (r1, r2) := h
 clear h
 have HC2 := Aside0.mk H
 clear H
 go_enter Tryz.func12, Tryz.ntmps12
 go_upto_region 1 with (first | ((with_reducible refine gate_dst (N := 1) rfl ?_); refine box_event ?hg (N := 1) ?hd (cs := #[.int .u64 a0_0, .int .i64 a0_1, .int .u64 a0_2, .int .u64 a0_3, .int .i64 a0_4]) (t := 33) ?hr ?_; (case hd => rfl); (case hg => rfl); (case hr => first | (go_simp; done) | (go_simp; rfl)); intro gb195 hg w3 hbox hb; have BK195 := Aside0.mk (hbox); have GW195 := bels HB hg; have GE195 := bels HB hg; replace HB := belb HB hb; clear hb hbox hg))
 (try simp only [Act.put, List.setIfInBounds_toArray, List.set_cons_zero, List.set_cons_succ])
 go_cut [16] (fun v16 wc => ∃ (kq : Nat) (x16_1 : Bool), v16 = .bool x16_1 ∧ Aside0 (mean_Mean_Floor.j0 kq x16_1 a0_0 a0_1 a0_2 a0_3 a0_4 = some (r1, r2)) ∧ Aside0 (kq ≤ k) ∧ Aside0 (wc.heap[gb195]? = some (.cells #[.int .u64 a0_0, .int .i64 a0_1, .int .u64 a0_2, .int .u64 a0_3, .int .i64 a0_4] 33 (0, 0))) ∧ Aside0 (Below w.heap.size w wc))
 case first =>
  have H := HC2.out
  clear HC2
  replace H := Option.bind_eq_some_iff.mp H
  obtain ⟨t196, A40, H⟩ := H
  replace H : (if t196 = true then (mean_Mean_Floor.j0 k (a0_4 == 0) a0_0 a0_1 a0_2 a0_3 a0_4) else (mean_Mean_Floor.j0 k true a0_0 a0_1 a0_2 a0_3 a0_4)) = some (r1, r2) := H
  have A4 := Aside0.mk A40
  clear A40
  by_cases c5 : t196 = true
  ·subst c5
   have H1 : (mean_Mean_Floor.j0 k (a0_4 == 0) a0_0 a0_1 a0_2 a0_3 a0_4) = some (r1, r2) := by rw [if_pos rfl] at H; exact H
   clear H
   have H := H1
   clear H1
   have H' := Aside0.mk H
   clear H
   have hcz6_0 : w3.cell? ⟨gb195, 0, none⟩ = some (.int .u64 a0_0) := bc BK195 0
   have hcz6_1 : w3.cell? ⟨gb195, 1, none⟩ = some (.int .i64 a0_1) := bc BK195 1
   have hcz6_2 : w3.cell? ⟨gb195, 2, none⟩ = some (.int .u64 a0_2) := bc BK195 2
   have hcz6_3 : w3.cell? ⟨gb195, 3, none⟩ = some (.int .u64 a0_3) := bc BK195 3
   have hcz6_4 : w3.cell? ⟨gb195, 4, none⟩ = some (.int .i64 a0_4) := bc BK195 4
   have hfz6_0 := blk_frozen BK195.out 0
   have hfz6_1 := blk_frozen BK195.out 1
   have hfz6_2 := blk_frozen BK195.out 2
   have hfz6_3 := blk_frozen BK195.out 3
   have hfz6_4 := blk_frozen BK195.out 4
   go_wp2_with (first | ((with_reducible refine gate_callee (f := 43) rfl ?_); refine goesL_ (some 10) rfl rfl Tryz.func43 (by kernel_rfl) rfl #[.agg #[.int .u64 a0_0, .int .i64 a0_1, .int .u64 a0_2, .int .u64 a0_3, .int .i64 a0_4]] rfl argt ?_; (with_reducible refine (mean_Mean_Right.calls a0_0 a0_1 a0_2 a0_3 a0_4 true _ A4.out).mono ?_); rintro e w7 ⟨rfl, hb⟩; refine ⟨_, rfl, ?_⟩; replace BK195 := blkb BK195 hb; replace HB := belb HB hb; (try clear hb); (try clear hb2); (try clear hk); (try clear hi); have hcz8_0 : w7.cell? ⟨gb195, 0, none⟩ = some (.int .u64 a0_0) := bc BK195 0; have hcz8_1 : w7.cell? ⟨gb195, 1, none⟩ = some (.int .i64 a0_1) := bc BK195 1; have hcz8_2 : w7.cell? ⟨gb195, 2, none⟩ = some (.int .u64 a0_2) := bc BK195 2; have hcz8_3 : w7.cell? ⟨gb195, 3, none⟩ = some (.int .u64 a0_3) := bc BK195 3; have hcz8_4 : w7.cell? ⟨gb195, 4, none⟩ = some (.int .i64 a0_4) := bc BK195 4; have hfz8_0 := blk_frozen BK195.out 0; have hfz8_1 := blk_frozen BK195.out 1; have hfz8_2 := blk_frozen BK195.out 2; have hfz8_3 := blk_frozen BK195.out 3; have hfz8_4 := blk_frozen BK195.out 4))
   go_meet
   case rel => exact ⟨_, ((a0_4 == 0)), (by first | rfl | (simp; done) | (simp [*]; done)), H', ⟨by first | omega | exact Nat.le_refl _⟩, ⟨blkt BK195⟩, ⟨belt HB⟩⟩
  replace c5 := Bool.eq_false_iff.mpr c5
  subst c5
  have H1 : (mean_Mean_Floor.j0 k true a0_0 a0_1 a0_2 a0_3 a0_4) = some (r1, r2) := by rw [if_neg (show ¬ (false = true) by decide)] at H; exact H
  clear H
  have H := H1
  clear H1
  have H' := Aside0.mk H
  clear H
  have hcz9_0 : w3.cell? ⟨gb195, 0, none⟩ = some (.int .u64 a0_0) := bc BK195 0
  have hcz9_1 : w3.cell? ⟨gb195, 1, none⟩ = some (.int .i64 a0_1) := bc BK195 1
  have hcz9_2 : w3.cell? ⟨gb195, 2, none⟩ = some (.int .u64 a0_2) := bc BK195 2
  have hcz9_3 : w3.cell? ⟨gb195, 3, none⟩ = some (.int .u64 a0_3) := bc BK195 3
  have hcz9_4 : w3.cell? ⟨gb195, 4, none⟩ = some (.int .i64 a0_4) := bc BK195 4
  have hfz9_0 := blk_frozen BK195.out 0
  have hfz9_1 := blk_frozen BK195.out 1
  have hfz9_2 := blk_frozen BK195.out 2
  have hfz9_3 := blk_frozen BK195.out 3
  have hfz9_4 := blk_frozen BK195.out 4
  go_wp2_with (first | ((with_reducible refine gate_callee (f := 43) rfl ?_); refine goesL_ (some 10) rfl rfl Tryz.func43 (by kernel_rfl) rfl #[.agg #[.int .u64 a0_0, .int .i64 a0_1, .int .u64 a0_2, .int .u64 a0_3, .int .i64 a0_4]] rfl argt ?_; (with_reducible refine (mean_Mean_Right.calls a0_0 a0_1 a0_2 a0_3 a0_4 false _ A4.out).mono ?_); rintro e w10 ⟨rfl, hb⟩; refine ⟨_, rfl, ?_⟩; replace BK195 := blkb BK195 hb; replace HB := belb HB hb; (try clear hb); (try clear hb2); (try clear hk); (try clear hi)))
  go_meet
  case rel => exact ⟨_, (true), (by first | rfl | (simp; done) | (simp [*]; done)), H', ⟨by first | omega | exact Nat.le_refl _⟩, ⟨blkt BK195⟩, ⟨belt HB⟩⟩
 case rest =>
  clear HC2
  try clear c1
  try clear p2
  try clear c4
  try clear c5
  try clear hcz6_0
  try clear hcz6_1
  try clear hcz6_2
  try clear hcz6_3
  try clear hcz6_4
  try clear hcz8_0
  try clear hcz8_1
  try clear hcz8_2
  try clear hcz8_3
  try clear hcz8_4
  try clear hcz9_0
  try clear hcz9_1
  try clear hcz9_2
  try clear hcz9_3
  try clear hcz9_4
  try clear hfz6_0
  try clear hfz6_1
  try clear hfz6_2
  try clear hfz6_3
  try clear hfz6_4
  try clear hfz8_0
  try clear hfz8_1
  try clear hfz8_2
  try clear hfz8_3
  try clear hfz8_4
  try clear hfz9_0
  try clear hfz9_1
  try clear hfz9_2
  try clear hfz9_3
  try clear hfz9_4
  obtain ⟨kq, x16_1, rfl, HA, HJ1, BK195, HB⟩ := hcut
  cases kq with
  | zero => exact absurd HA.out (by simp [mean_Mean_Floor.j0])
  | succ kj1 =>
   have H := HA.out
   clear HA
   simp only [mean_Mean_Floor.j0] at H
   by_cases c11 : x16_1 = true
   ·subst c11
    have H1 : (some (0, false)) = some (r1, r2) := by rw [if_pos rfl] at H; exact H
    clear H
    have H := H1
    clear H1
    simp only [Option.some.injEq, Prod.mk.injEq] at H
    obtain ⟨rfl, rfl⟩ := H
    go_wp2
    go_ret2
    exact ⟨by first | rfl | (simp [errW_none, errW_some] <;> rfl) | (simp [*, errW_none, errW_some] <;> rfl), belt HB⟩
   replace c11 := Bool.eq_false_iff.mpr c11
   subst c11
   have H1 : ((wide_Int_Div.f kj1 a0_1 a0_2 a0_3).bind fun bt197 => ((wide_Int_Small.f bt197.1 bt197.2.1).bind fun bt202 => (if bt202.2 = true then ((vtime_Time_Add.f a0_0 bt202.1).bind fun t204 => (some (t204, true))) else (some (0, false))))) = some (r1, r2) := by rw [if_neg (show ¬ (false = true) by decide)] at H; exact H
   clear H
   have H := H1
   clear H1
   replace H := Option.bind_eq_some_iff.mp H
   obtain ⟨⟨t197, t198, t199, t200⟩, A120, H⟩ := H
   replace H : ((wide_Int_Small.f t197 t198).bind fun bt202 => (if bt202.2 = true then ((vtime_Time_Add.f a0_0 bt202.1).bind fun t204 => (some (t204, true))) else (some (0, false)))) = some (r1, r2) := H
   have A12 := Aside0.mk A120
   clear A120
   replace H := Option.bind_eq_some_iff.mp H
   obtain ⟨⟨t202, t203⟩, A130, H⟩ := H
   replace H : (if t203 = true then ((vtime_Time_Add.f a0_0 t202).bind fun t204 => (some (t204, true))) else (some (0, false))) = some (r1, r2) := H
   have A13 := Aside0.mk A130
   clear A130
   by_cases c14 : t203 = true
   ·subst c14
    have H1 : ((vtime_Time_Add.f a0_0 t202).bind fun t204 => (some (t204, true))) = some (r1, r2) := by rw [if_pos rfl] at H; exact H
    clear H
    have H := H1
    clear H1
    replace H := Option.bind_eq_some_iff.mp H
    obtain ⟨t204, A150, H⟩ := H
    replace H : (some (t204, true)) = some (r1, r2) := H
    have A15 := Aside0.mk A150
    clear A150
    simp only [Option.some.injEq, Prod.mk.injEq] at H
    obtain ⟨rfl, rfl⟩ := H
    have hcz16_0 : wc.cell? ⟨gb195, 0, none⟩ = some (.int .u64 a0_0) := bc BK195 0
    have hcz16_1 : wc.cell? ⟨gb195, 1, none⟩ = some (.int .i64 a0_1) := bc BK195 1
    have hcz16_2 : wc.cell? ⟨gb195, 2, none⟩ = some (.int .u64 a0_2) := bc BK195 2
    have hcz16_3 : wc.cell? ⟨gb195, 3, none⟩ = some (.int .u64 a0_3) := bc BK195 3
    have hcz16_4 : wc.cell? ⟨gb195, 4, none⟩ = some (.int .i64 a0_4) := bc BK195 4
    have hfz16_0 := blk_frozen BK195.out 0
    have hfz16_1 := blk_frozen BK195.out 1
    have hfz16_2 := blk_frozen BK195.out 2
    have hfz16_3 := blk_frozen BK195.out 3
    have hfz16_4 := blk_frozen BK195.out 4
    go_wp2_with (first | ((with_reducible refine gate_callee (f := 44) rfl ?_); refine goesL_ (some 22) rfl rfl Tryz.func44 (by kernel_rfl) rfl #[.agg #[.int .i64 a0_1, .int .u64 a0_2], .int .u64 a0_3] rfl argt ?_; (with_reducible refine (wide_Int_Div.calls kj1 a0_1 a0_2 a0_3 t197 t198 t199 t200 _ A12.out).mono ?_); rintro e w17 ⟨rfl, hb⟩; refine ⟨_, rfl, ?_⟩; replace BK195 := blkb BK195 hb; replace HB := belb HB hb; (try clear hb); (try clear hb2); (try clear hk); (try clear hi)) | ((with_reducible refine gate_dst (N := 4) rfl ?_); refine box_event ?hg (N := 4) ?hd (cs := #[.int .i64 0, .int .u64 0]) (t := 31) ?hr ?_; (case hd => rfl); (case hg => rfl); (case hr => first | (go_simp; done) | (go_simp; rfl)); intro gb201 hg w18 hbox hb; have BK201 := Aside0.mk (hbox); have GW201 := bels HB hg; have GE201 := bels HB hg; have NB195_201 := blkl BK195 hg; have NB201_195 := blkg BK195 hg; replace BK195 := blkb BK195 hb; replace HB := belb HB hb; clear hb hbox hg; have hnb19 := NB201_195.out; have hnc19 := NB195_201.out; have hcz20_0 : w18.cell? ⟨gb201, 0, none⟩ = some (.int .i64 0) := bc BK201 0; have hcz20_1 : w18.cell? ⟨gb201, 1, none⟩ = some (.int .u64 0) := bc BK201 1; have hfz20_0 := blk_frozen BK201.out 0; have hfz20_1 := blk_frozen BK201.out 1) | ((with_reducible refine gate_callee (f := 45) rfl ?_); refine goesL_ (some 28) rfl rfl Tryz.func45 (by kernel_rfl) rfl #[.agg #[.int .i64 t197, .int .u64 t198]] rfl argt ?_; (with_reducible refine (wide_Int_Small.calls t197 t198 t202 true _ A13.out).mono ?_); rintro e w21 ⟨rfl, hb⟩; refine ⟨_, rfl, ?_⟩; replace BK195 := Aside0.mk (blk_below (g := gb195) (o := .cells #[.int .u64 a0_0, .int .i64 a0_1, .int .u64 a0_2, .int .u64 a0_3, .int .i64 a0_4] 33 (0, 0)) (by (with_reducible repeat (first | refine blk_drewN ?_ _ | refine blk_drew ?_ | refine blk_alloc ?_ _)); refine blk_far ?_ NB195_201.out _; (with_reducible repeat (first | refine blk_drewN ?_ _ | refine blk_drew ?_ | refine blk_alloc ?_ _)); refine blk_far ?_ NB195_201.out _; exact blkt BK195) hb); replace BK201 := Aside0.mk (blk_below (g := gb201) (o := .cells #[.int .i64 t197, .int .u64 t198] 31 (0, 0)) (by (with_reducible repeat (first | refine blk_drewN ?_ _ | refine blk_drew ?_ | refine blk_alloc ?_ _)); refine blk_put (cs := #[.int .i64 t197, .int .u64 0]) ?_ 1 _ rfl; (with_reducible repeat (first | refine blk_drewN ?_ _ | refine blk_drew ?_ | refine blk_alloc ?_ _)); refine blk_put (cs := #[.int .i64 0, .int .u64 0]) ?_ 0 _ rfl; exact blkt BK201) hb); replace HB := belb HB hb; (try clear hb); (try clear hb2); (try clear hk); (try clear hi); have hcz22_0 : w21.cell? ⟨gb195, 0, none⟩ = some (.int .u64 a0_0) := bc BK195 0; have hcz22_1 : w21.cell? ⟨gb195, 1, none⟩ = some (.int .i64 a0_1) := bc BK195 1; have hcz22_2 : w21.cell? ⟨gb195, 2, none⟩ = some (.int .u64 a0_2) := bc BK195 2; have hcz22_3 : w21.cell? ⟨gb195, 3, none⟩ = some (.int .u64 a0_3) := bc BK195 3; have hcz22_4 : w21.cell? ⟨gb195, 4, none⟩ = some (.int .i64 a0_4) := bc BK195 4; have hfz22_0 := blk_frozen BK195.out 0; have hfz22_1 := blk_frozen BK195.out 1; have hfz22_2 := blk_frozen BK195.out 2; have hfz22_3 := blk_frozen BK195.out 3; have hfz22_4 := blk_frozen BK195.out 4) | ((with_reducible refine gate_callee (f := 16) rfl ?_); refine goesL_ (some 36) rfl rfl Tryz.func16 (by kernel_rfl) rfl #[.int .u64 a0_0, .int .i64 t202] rfl argt ?_; (with_reducible refine (vtime_Time_Add.calls a0_0 t202 t204 _ A15.out).mono ?_); rintro e w' ⟨rfl, ⟨nd, rfl⟩⟩; refine ⟨_, rfl, ?_⟩))
    go_ret2
    exact ⟨by first | rfl | (simp [errW_none, errW_some] <;> rfl) | (simp [*, errW_none, errW_some] <;> rfl), belt HB⟩
   replace c14 := Bool.eq_false_iff.mpr c14
   subst c14
   have H1 : (some (0, false)) = some (r1, r2) := by rw [if_neg (show ¬ (false = true) by decide)] at H; exact H
   clear H
   have H := H1
   clear H1
   simp only [Option.some.injEq, Prod.mk.injEq] at H
   obtain ⟨rfl, rfl⟩ := H
   have hcz23_0 : wc.cell? ⟨gb195, 0, none⟩ = some (.int .u64 a0_0) := bc BK195 0
   have hcz23_1 : wc.cell? ⟨gb195, 1, none⟩ = some (.int .i64 a0_1) := bc BK195 1
   have hcz23_2 : wc.cell? ⟨gb195, 2, none⟩ = some (.int .u64 a0_2) := bc BK195 2
   have hcz23_3 : wc.cell? ⟨gb195, 3, none⟩ = some (.int .u64 a0_3) := bc BK195 3
   have hcz23_4 : wc.cell? ⟨gb195, 4, none⟩ = some (.int .i64 a0_4) := bc BK195 4
   have hfz23_0 := blk_frozen BK195.out 0
   have hfz23_1 := blk_frozen BK195.out 1
   have hfz23_2 := blk_frozen BK195.out 2
   have hfz23_3 := blk_frozen BK195.out 3
   have hfz23_4 := blk_frozen BK195.out 4
   go_wp2_with (first | ((with_reducible refine gate_callee (f := 44) rfl ?_); refine goesL_ (some 22) rfl rfl Tryz.func44 (by kernel_rfl) rfl #[.agg #[.int .i64 a0_1, .int .u64 a0_2], .int .u64 a0_3] rfl argt ?_; (with_reducible refine (wide_Int_Div.calls kj1 a0_1 a0_2 a0_3 t197 t198 t199 t200 _ A12.out).mono ?_); rintro e w24 ⟨rfl, hb⟩; refine ⟨_, rfl, ?_⟩; replace BK195 := blkb BK195 hb; replace HB := belb HB hb; (try clear hb); (try clear hb2); (try clear hk); (try clear hi)) | ((with_reducible refine gate_dst (N := 4) rfl ?_); refine box_event ?hg (N := 4) ?hd (cs := #[.int .i64 0, .int .u64 0]) (t := 31) ?hr ?_; (case hd => rfl); (case hg => rfl); (case hr => first | (go_simp; done) | (go_simp; rfl)); intro gb201 hg w25 hbox hb; have BK201 := Aside0.mk (hbox); have GW201 := bels HB hg; have GE201 := bels HB hg; have NB195_201 := blkl BK195 hg; have NB201_195 := blkg BK195 hg; replace BK195 := blkb BK195 hb; replace HB := belb HB hb; clear hb hbox hg; have hnb26 := NB201_195.out; have hnc26 := NB195_201.out; have hcz27_0 : w25.cell? ⟨gb201, 0, none⟩ = some (.int .i64 0) := bc BK201 0; have hcz27_1 : w25.cell? ⟨gb201, 1, none⟩ = some (.int .u64 0) := bc BK201 1; have hfz27_0 := blk_frozen BK201.out 0; have hfz27_1 := blk_frozen BK201.out 1) | ((with_reducible refine gate_callee (f := 45) rfl ?_); refine goesL_ (some 28) rfl rfl Tryz.func45 (by kernel_rfl) rfl #[.agg #[.int .i64 t197, .int .u64 t198]] rfl argt ?_; (with_reducible refine (wide_Int_Small.calls t197 t198 t202 false _ A13.out).mono ?_); rintro e w28 ⟨rfl, hb⟩; refine ⟨_, rfl, ?_⟩; replace BK195 := Aside0.mk (blk_below (g := gb195) (o := .cells #[.int .u64 a0_0, .int .i64 a0_1, .int .u64 a0_2, .int .u64 a0_3, .int .i64 a0_4] 33 (0, 0)) (by (with_reducible repeat (first | refine blk_drewN ?_ _ | refine blk_drew ?_ | refine blk_alloc ?_ _)); refine blk_far ?_ NB195_201.out _; (with_reducible repeat (first | refine blk_drewN ?_ _ | refine blk_drew ?_ | refine blk_alloc ?_ _)); refine blk_far ?_ NB195_201.out _; exact blkt BK195) hb); replace BK201 := Aside0.mk (blk_below (g := gb201) (o := .cells #[.int .i64 t197, .int .u64 t198] 31 (0, 0)) (by (with_reducible repeat (first | refine blk_drewN ?_ _ | refine blk_drew ?_ | refine blk_alloc ?_ _)); refine blk_put (cs := #[.int .i64 t197, .int .u64 0]) ?_ 1 _ rfl; (with_reducible repeat (first | refine blk_drewN ?_ _ | refine blk_drew ?_ | refine blk_alloc ?_ _)); refine blk_put (cs := #[.int .i64 0, .int .u64 0]) ?_ 0 _ rfl; exact blkt BK201) hb); replace HB := belb HB hb; (try clear hb); (try clear hb2); (try clear hk); (try clear hi)))
   go_ret2
   exact ⟨by first | rfl | (simp [errW_none, errW_some] <;> rfl) | (simp [*, errW_none, errW_some] <;> rfl), belt HB⟩


/-! ### pos_Pos_Cmp: function 15 -/
def pos_Pos_Cmp.f (k : Nat) (a0_0 : Int) (a0_1 : Int) (a0_2 : Int) (a1_0 : Int) (a1_1 : Int) (a1_2 : Int) : Option (Int) := (vtime_Time_Since.f a1_0 a0_0).bind fun t207 => ((cmp_Compare_int64.f 0 t207).bind fun t208 => ((cmp_Compare_uint64.f (IntKind.u64.wrap ((IntKind.u64.wrap (a0_1)) * (IntKind.u64.wrap (a1_2)))) (IntKind.u64.wrap ((IntKind.u64.wrap (a1_1)) * (IntKind.u64.wrap (a0_2))))).bind fun t209 => ((cmp_Or_int.f k (([t208, t209] : List Int))).bind fun t213 => (some t213))))
theorem pos_Pos_Cmp.mono : ∀ a0 a1 a2 a3 a4 a5 k, LeO (pos_Pos_Cmp.f k a0 a1 a2 a3 a4 a5) (pos_Pos_Cmp.f (k + 1) a0 a1 a2 a3 a4 a5) := by
 intro a0 a1 a2 a3 a4 a5 k
 unfold pos_Pos_Cmp.f
 repeat' first
   | (with_reducible exact cmp_Or_int.mono _ _)
   | (with_reducible exact LeO.refl _)
   | (with_reducible exact LeO.none _)
   | (with_reducible refine LeO.ite ?_ ?_)
   | (with_reducible refine LeO.bind ?_ (fun _ => ?_))
   | exact cmp_Or_int.mono _ _
   | exact LeO.none _
   | refine LeO.ite ?_ ?_
   | refine LeO.bind ?_ (fun _ => ?_)
def pos_Pos_Cmp.T1 : Bool × List (List Nat × List Nat) := (true, [([], []), ([0], [0]), ([], []), ([2], [2]), ([1, 3], [1, 3]), ([4, 4], [4]), ([], []), ([6], [6]), ([7], [7]), ([], []), ([9], [9]), ([10], [10]), ([8, 11], [8, 11]), ([], []), ([13], [13]), ([14], [14]), ([], []), ([16], [16]), ([17], [17]), ([15, 18], [15, 18]), ([12, 19, 5], [12, 19]), ([5, 20], [5, 20]), ([21, 20], [21]), ([22, 22, 0, 1, 2, 3, 4, 5, 6, 7, 8, 9, 10, 11, 12, 13, 14, 15, 16, 17, 18, 19, 20, 21, 22], [22])])
def pos_Pos_Cmp.B1 : List Nat := [0, 1, 0, 4, 15, 31, 0, 64, 192, 0, 512, 1536, 4032, 0, 8192, 24576, 0, 65536, 196608, 516096, 1048575, 2097151, 4194303, 8388607]
theorem pos_Pos_Cmp.tab1 : rtab .any (opsOf Tryz.f15 1) = pos_Pos_Cmp.T1 := by kernel_rfl
theorem pos_Pos_Cmp.bits1 : waitsOk pos_Pos_Cmp.T1.2 pos_Pos_Cmp.B1 = true := by kernel_rfl
set_option maxHeartbeats 8000000 in
set_option maxRecDepth 100000 in
theorem pos_Pos_Cmp.calls (k : Nat) (a0_0 : Int) (a0_1 : Int) (a0_2 : Int) (a1_0 : Int) (a1_1 : Int) (a1_2 : Int) (r : Int) (w : World) (h : pos_Pos_Cmp.f k a0_0 a0_1 a0_2 a1_0 a1_1 a1_2 = some r) :
  Calls Tryz.prog 15 #[.agg #[.int .u64 a0_0, .int .u32 a0_1, .int .u32 a0_2], .agg #[.int .u64 a1_0, .int .u32 a1_1, .int .u32 a1_2]] w fun e w' => e = .returned (.int .i64 r) ∧ Below w.heap.size w w' := by
 have hu28 := Tryz.underlying28
 have HB := Aside0.mk (Below.refl w.heap.size w)
 have H : ((vtime_Time_Since.f a1_0 a0_0).bind fun t207 => ((cmp_Compare_int64.f 0 t207).bind fun t208 => ((cmp_Compare_uint64.f (IntKind.u64.wrap ((IntKind.u64.wrap (a0_1)) * (IntKind.u64.wrap (a1_2)))) (IntKind.u64.wrap ((IntKind.u64.wrap (a1_1)) * (IntKind.u64.wrap (a0_2))))).bind fun t209 => ((cmp_Or_int.f k (([t208, t209] : List Int))).bind fun t213 => (some t213))))) = some r := h
 clear h
 replace H := Option.bind_eq_some_iff.mp H
 obtain ⟨t207, A30, H⟩ := H
 replace H : ((cmp_Compare_int64.f 0 t207).bind fun t208 => ((cmp_Compare_uint64.f (IntKind.u64.wrap ((IntKind.u64.wrap (a0_1)) * (IntKind.u64.wrap (a1_2)))) (IntKind.u64.wrap ((IntKind.u64.wrap (a1_1)) * (IntKind.u64.wrap (a0_2))))).bind fun t209 => ((cmp_Or_int.f k (([t208, t209] : List Int))).bind fun t213 => (some t213)))) = some r := H
 have A3 := Aside0.mk A30
 clear A30
 replace H := Option.bind_eq_some_iff.mp H
 obtain ⟨t208, A40, H⟩ := H
 replace H : ((cmp_Compare_uint64.f (IntKind.u64.wrap ((IntKind.u64.wrap (a0_1)) * (IntKind.u64.wrap (a1_2)))) (IntKind.u64.wrap ((IntKind.u64.wrap (a1_1)) * (IntKind.u64.wrap (a0_2))))).bind fun t209 => ((cmp_Or_int.f k (([t208, t209] : List Int))).bind fun t213 => (some t213))) = some r := H
 have A4 := Aside0.mk A40
 clear A40
 replace H := Option.bind_eq_some_iff.mp H
 obtain ⟨t209, A50, H⟩ := H
 replace H : ((cmp_Or_int.f k (([t208, t209] : List Int))).bind fun t213 => (some t213)) = some r := H
 have A5 := Aside0.mk A50
 clear A50
 obtain ⟨y210, hy210⟩ : ∃ y_ : List Int, y_ = (([t208, t209] : List Int)) := ⟨_, rfl⟩
 replace H : ((cmp_Or_int.f k y210).bind fun t213 => (some t213)) = some r := by first | (rw [hy210]; with_reducible exact H) | (have H2_ := (Option.bind_some _ _).symm.trans H; rw [hy210]; with_reducible exact H2_) | (have H2_ := (Option.bind_some _ _).symm.trans H; with_reducible exact H2_) | with_reducible exact H | (rw [hy210]; exact H) | exact H
 have Ny210 := Aside0.mk hy210
 clear hy210
 replace H := Option.bind_eq_some_iff.mp H
 obtain ⟨t213, A60, H⟩ := H
 replace H : (some t213) = some r := H
 have A6 := Aside0.mk A60
 clear A60
 obtain rfl := Option.some.inj H
 go_enter Tryz.func15, Tryz.ntmps15
 try go_wp2_with (first | ((with_reducible refine gate_dst (N := 2) rfl ?_); refine box_event ?hg (N := 2) ?hd (cs := #[.int .u64 a0_0, .int .u32 a0_1, .int .u32 a0_2]) (t := 28) ?hr ?_; (case hd => rfl); (case hg => rfl); (case hr => first | (go_simp; done) | (go_simp; rfl)); intro gb205 hg w7 hbox hb; have BK205 := Aside0.mk (hbox); have GW205 := bels HB hg; have GE205 := bels HB hg; replace HB := belb HB hb; clear hb hbox hg) | ((with_reducible refine gate_dst (N := 3) rfl ?_); refine box_event ?hg (N := 3) ?hd (cs := #[.int .u64 a1_0, .int .u32 a1_1, .int .u32 a1_2]) (t := 28) ?hr ?_; (case hd => rfl); (case hg => rfl); (case hr => first | (go_simp; done) | (go_simp; rfl)); intro gb206 hg w8 hbox hb; have BK206 := Aside0.mk (hbox); have GW206 := bels HB hg; have GE206 := bels HB hg; have NB205_206 := blkl BK205 hg; have NB206_205 := blkg BK205 hg; replace BK205 := blkb BK205 hb; replace HB := belb HB hb; clear hb hbox hg))
 replace BK205 := Aside0.mk (blk_drew BK205.out)
 replace BK206 := Aside0.mk (blk_drew BK206.out)
 replace HB := Aside0.mk (below_drew1 HB.out)
 refine start_ (n := 24) (S := fun w' => w'.cell? ⟨gb206, 0, none⟩ = some (.int .u64 a1_0) ∧ w'.cell? ⟨gb206, 1, none⟩ = some (.int .u32 a1_1) ∧ w'.cell? ⟨gb206, 2, none⟩ = some (.int .u32 a1_2) ∧ w'.cell? ⟨gb205, 0, none⟩ = some (.int .u64 a0_0) ∧ w'.cell? ⟨gb205, 1, none⟩ = some (.int .u32 a0_1) ∧ w'.cell? ⟨gb205, 2, none⟩ = some (.int .u32 a0_2)) (ds := []) #[false, false, false, false, false, false, false, false, false, false, false, false, false, false, false, false, false, false, false, false, false, false, false, false] (by kernel_rfl) rfl rfl ⟨bc BK206 0, bc BK206 1, bc BK206 2, bc BK205 0, bc BK205 1, bc BK205 2⟩ (fun hHeld => ?_); refine with_tabW pos_Pos_Cmp.tab1 pos_Pos_Cmp.bits1 (fun HT_ HW_ => ?_)
 generalize w8.drew = w9 at BK205 BK206 HB hHeld ⊢
 refine pure_ (i := 0) (N := some 5) (v := ?_) (a' := ?_) #[true, false, false, false, false, false, false, false, false, false, false, false, false, false, false, false, false, false, false, false, false, false, false, false] rfl rfl (any_of HT_.out (by kernel_rfl)) (fun _ _ _ h => h) (Or.inl ⟨by rfl, ?_⟩) ?_ ?_
 rotate_left
 ·intro w'
  go_simp
  with_reducible rfl
 rotate_left
 ·simp only [Act.put, List.setIfInBounds_toArray, List.set_cons_zero, List.set_cons_succ, i64_w, i32_w]
  rfl
 refine pure_ (i := 2) (N := some 7) (v := ?_) (a' := ?_) #[true, false, true, false, false, false, false, false, false, false, false, false, false, false, false, false, false, false, false, false, false, false, false, false] rfl rfl (any_of HT_.out (by kernel_rfl)) (fun _ _ _ h => h) (Or.inl ⟨by rfl, ?_⟩) ?_ ?_
 rotate_left
 ·intro w'
  go_simp
  with_reducible rfl
 rotate_left
 ·simp only [Act.put, List.setIfInBounds_toArray, List.set_cons_zero, List.set_cons_succ, i64_w, i32_w]
  rfl
 refine pure_ (i := 6) (N := some 11) (v := ?_) (a' := ?_) #[true, false, true, false, false, false, true, false, false, false, false, false, false, false, false, false, false, false, false, false, false, false, false, false] rfl rfl (any_of HT_.out (by kernel_rfl)) (fun _ _ _ h => h) (Or.inl ⟨by rfl, ?_⟩) ?_ ?_
 rotate_left
 ·intro w'
  go_simp
  with_reducible rfl
 rotate_left
 ·simp only [Act.put, List.setIfInBounds_toArray, List.set_cons_zero, List.set_cons_succ, i64_w, i32_w]
  rfl
 refine pure_ (i := 9) (N := some 14) (v := ?_) (a' := ?_) #[true, false, true, false, false, false, true, false, false, true, false, false, false, false, false, false, false, false, false, false, false, false, false, false] rfl rfl (any_of HT_.out (by kernel_rfl)) (fun _ _ _ h => h) (Or.inl ⟨by rfl, ?_⟩) ?_ ?_
 rotate_left
 ·intro w'
  go_simp
  with_reducible rfl
 rotate_left
 ·simp only [Act.put, List.setIfInBounds_toArray, List.set_cons_zero, List.set_cons_succ, i64_w, i32_w]
  rfl
 refine pure_ (i := 13) (N := some 18) (v := ?_) (a' := ?_) #[true, false, true, false, false, false, true, false, false, true, false, false, false, true, false, false, false, false, false, false, false, false, false, false] rfl rfl (any_of HT_.out (by kernel_rfl)) (fun _ _ _ h => h) (Or.inl ⟨by rfl, ?_⟩) ?_ ?_
 rotate_left
 ·intro w'
  go_simp
  with_reducible rfl
 rotate_left
 ·simp only [Act.put, List.setIfInBounds_toArray, List.set_cons_zero, List.set_cons_succ, i64_w, i32_w]
  rfl
 refine pure_ (i := 16) (N := some 21) (v := ?_) (a' := ?_) #[true, false, true, false, false, false, true, false, false, true, false, false, false, true, false, false, true, false, false, false, false, false, false, false] rfl rfl (any_of HT_.out (by kernel_rfl)) (fun _ _ _ h => h) (Or.inl ⟨by rfl, ?_⟩) ?_ ?_
 rotate_left
 ·intro w'
  go_simp
  with_reducible rfl
 rotate_left
 ·simp only [Act.put, List.setIfInBounds_toArray, List.set_cons_zero, List.set_cons_succ, i64_w, i32_w]
  rfl
 refine take_ (i := 1) (N := some 6) (v := ?_) (a' := ?_) #[true, true, true, false, false, false, true, false, false, true, false, false, false, true, false, false, true, false, false, false, false, false, false, false] rfl rfl (take_ofW HT_.out HW_.out (by kernel_rfl)) (fun _ _ _ h => h) (Or.inl ⟨by rfl, ?_⟩) hHeld ?_ ?_
 rotate_left
 ·rintro w' ⟨s0, s1, s2, s3, s4, s5⟩
  go_simp
  with_reducible rfl
 rotate_left
 ·simp only [Act.put, List.setIfInBounds_toArray, List.set_cons_zero, List.set_cons_succ, i64_w, i32_w]
  rfl
 refine take_ (i := 3) (N := some 8) (v := ?_) (a' := ?_) #[true, true, true, true, false, false, true, false, false, true, false, false, false, true, false, false, true, false, false, false, false, false, false, false] rfl rfl (take_ofW HT_.out HW_.out (by kernel_rfl)) (fun _ _ _ h => h) (Or.inl ⟨by rfl, ?_⟩) hHeld ?_ ?_
 rotate_left
 ·rintro w' ⟨s0, s1, s2, s3, s4, s5⟩
  go_simp
  with_reducible rfl
 rotate_left
 ·simp only [Act.put, List.setIfInBounds_toArray, List.set_cons_zero, List.set_cons_succ, i64_w, i32_w]
  rfl
 refine take_ (i := 7) (N := some 12) (v := ?_) (a' := ?_) #[true, true, true, true, false, false, true, true, false, true, false, false, false, true, false, false, true, false, false, false, false, false, false, false] rfl rfl (take_ofW HT_.out HW_.out (by kernel_rfl)) (fun _ _ _ h => h) (Or.inl ⟨by rfl, ?_⟩) hHeld ?_ ?_
 rotate_left
 ·rintro w' ⟨s0, s1, s2, s3, s4, s5⟩
  go_simp
  with_reducible rfl
 rotate_left
 ·simp only [Act.put, List.setIfInBounds_toArray, List.set_cons_zero, List.set_cons_succ, i64_w, i32_w]
  rfl
 refine pure_ (i := 8) (N := some 13) (v := ?_) (a' := ?_) #[true, true, true, true, false, false, true, true, true, true, false, false, false, true, false, false, true, false, false, false, false, false, false, false] rfl rfl (any_of HT_.out (by kernel_rfl)) (fun _ _ _ h => h) (Or.inl ⟨by rfl, ?_⟩) ?_ ?_
 rotate_left
 ·intro w'
  go_simp
  with_reducible rfl
 rotate_left
 ·simp only [Act.put, List.setIfInBounds_toArray, List.set_cons_zero, List.set_cons_succ, i64_w, i32_w]
  rfl
 refine take_ (i := 10) (N := some 15) (v := ?_) (a' := ?_) #[true, true, true, true, false, false, true, true, true, true, true, false, false, true, false, false, true, false, false, false, false, false, false, false] rfl rfl (take_ofW HT_.out HW_.out (by kernel_rfl)) (fun _ _ _ h => h) (Or.inl ⟨by rfl, ?_⟩) hHeld ?_ ?_
 rotate_left
 ·rintro w' ⟨s0, s1, s2, s3, s4, s5⟩
  go_simp
  with_reducible rfl
 rotate_left
 ·simp only [Act.put, List.setIfInBounds_toArray, List.set_cons_zero, List.set_cons_succ, i64_w, i32_w]
  rfl
 refine pure_ (i := 11) (N := some 16) (v := ?_) (a' := ?_) #[true, true, true, true, false, false, true, true, true, true, true, true, false, true, false, false, true, false, false, false, false, false, false, false] rfl rfl (any_of HT_.out (by kernel_rfl)) (fun _ _ _ h => h) (Or.inl ⟨by rfl, ?_⟩) ?_ ?_
 rotate_left
 ·intro w'
  go_simp
  with_reducible rfl
 rotate_left
 ·simp only [Act.put, List.setIfInBounds_toArray, List.set_cons_zero, List.set_cons_succ, i64_w, i32_w]
  rfl
 refine pure_ (i := 12) (N := some 17) (v := ?_) (a' := ?_) #[true, true, true, true, false, false, true, true, true, true, true, true, true, true, false, false, true, false, false, false, false, false, false, false] rfl rfl (any_of HT_.out (by kernel_rfl)) (fun _ _ _ h => h) (Or.inl ⟨by rfl, ?_⟩) ?_ ?_
 rotate_left
 ·intro w'
  go_simp
  with_reducible rfl
 rotate_left
 ·simp only [Act.put, List.setIfInBounds_toArray, List.set_cons_zero, List.set_cons_succ, i64_w, i32_w]
  rfl
 refine take_ (i := 14) (N := some 19) (v := ?_) (a' := ?_) #[true, true, true, true, false, false, true, true, true, true, true, true, true, true, true, false, true, false, false, false, false, false, false, false] rfl rfl (take_ofW HT_.out HW_.out (by kernel_rfl)) (fun _ _ _ h => h) (Or.inl ⟨by rfl, ?_⟩) hHeld ?_ ?_
 rotate_left
 ·rintro w' ⟨s0, s1, s2, s3, s4, s5⟩
  go_simp
  with_reducible rfl
 rotate_left
 ·simp only [Act.put, List.setIfInBounds_toArray, List.set_cons_zero, List.set_cons_succ, i64_w, i32_w]
  rfl
 refine pure_ (i := 15) (N := some 20) (v := ?_) (a' := ?_) #[true, true, true, true, false, false, true, true, true, true, true, true, true, true, true, true, true, false, false, false, false, false, false, false] rfl rfl (any_of HT_.out (by kernel_rfl)) (fun _ _ _ h => h) (Or.inl ⟨by rfl, ?_⟩) ?_ ?_
 rotate_left
 ·intro w'
  go_simp
  with_reducible rfl
 rotate_left
 ·simp only [Act.put, List.setIfInBounds_toArray, List.set_cons_zero, List.set_cons_succ, i64_w, i32_w]
  rfl
 refine take_ (i := 17) (N := some 22) (v := ?_) (a' := ?_) #[true, true, true, true, false, false, true, true, true, true, true, true, true, true, true, true, true, true, false, false, false, false, false, false] rfl rfl (take_ofW HT_.out HW_.out (by kernel_rfl)) (fun _ _ _ h => h) (Or.inl ⟨by rfl, ?_⟩) hHeld ?_ ?_
 rotate_left
 ·rintro w' ⟨s0, s1, s2, s3, s4, s5⟩
  go_simp
  with_reducible rfl
 rotate_left
 ·simp only [Act.put, List.setIfInBounds_toArray, List.set_cons_zero, List.set_cons_succ, i64_w, i32_w]
  rfl
 refine pure_ (i := 18) (N := some 23) (v := ?_) (a' := ?_) #[true, true, true, true, false, false, true, true, true, true, true, true, true, true, true, true, true, true, true, false, false, false, false, false] rfl rfl (any_of HT_.out (by kernel_rfl)) (fun _ _ _ h => h) (Or.inl ⟨by rfl, ?_⟩) ?_ ?_
 rotate_left
 ·intro w'
  go_simp
  with_reducible rfl
 rotate_left
 ·simp only [Act.put, List.setIfInBounds_toArray, List.set_cons_zero, List.set_cons_succ, i64_w, i32_w]
  rfl
 refine pure_ (i := 19) (N := some 24) (v := ?_) (a' := ?_) #[true, true, true, true, false, false, true, true, true, true, true, true, true, true, true, true, true, true, true, true, false, false, false, false] rfl rfl (any_of HT_.out (by kernel_rfl)) (fun _ _ _ h => h) (Or.inl ⟨by rfl, ?_⟩) ?_ ?_
 rotate_left
 ·intro w'
  go_simp
  with_reducible rfl
 rotate_left
 ·simp only [Act.put, List.setIfInBounds_toArray, List.set_cons_zero, List.set_cons_succ, i64_w, i32_w]
  rfl
 refine one_ (i := 4) (N := some 9) #[true, true, true, true, true, false, true, true, true, true, true, true, true, true, true, true, true, true, true, true, false, false, false, false] rfl rfl (one_of HT_.out (by kernel_rfl)) (by decide) (fun K hK => ?_)
 refine goes_ Tryz.func13 (by kernel_rfl) rfl #[.int .u64 a1_0, .int .u64 a0_0] (by rfl) rfl rfl argt ?_
 with_reducible refine (vtime_Time_Since.calls a1_0 a0_0 t207 _ A3.out).mono ?_
 rintro e w' ⟨rfl, ⟨nd, rfl⟩⟩
 refine ⟨_, rfl, ?_⟩
 refine hK.out _ _ ⟨bc BK206 0, bc BK206 1, bc BK206 2, bc BK205 0, bc BK205 1, bc BK205 2⟩ (fun hHeld => ?_)
 clear hK K
 refine norm_ (a' := ?_) ?_ ?_
 rotate_left
 ·show Act.put _ (some 9) _ = _
  simp only [Act.put, List.setIfInBounds_toArray, List.set_cons_zero, List.set_cons_succ, i64_w, i32_w]
  rfl
 refine one_ (i := 5) (N := some 10) #[true, true, true, true, true, true, true, true, true, true, true, true, true, true, true, true, true, true, true, true, false, false, false, false] rfl rfl (one_of HT_.out (by kernel_rfl)) (by decide) (fun K hK => ?_)
 refine goes_ Tryz.func48 (by kernel_rfl) rfl #[.int .i64 0, .int .i64 t207] (by rfl) rfl rfl argt ?_
 with_reducible refine (cmp_Compare_int64.calls 0 t207 t208 _ A4.out).mono ?_
 rintro e w' ⟨rfl, ⟨nd, rfl⟩⟩
 refine ⟨_, rfl, ?_⟩
 refine hK.out _ _ ⟨bc BK206 0, bc BK206 1, bc BK206 2, bc BK205 0, bc BK205 1, bc BK205 2⟩ (fun hHeld => ?_)
 clear hK K
 refine norm_ (a' := ?_) ?_ ?_
 rotate_left
 ·show Act.put _ (some 10) _ = _
  simp only [Act.put, List.setIfInBounds_toArray, List.set_cons_zero, List.set_cons_succ, i64_w, i32_w]
  rfl
 refine one_ (i := 20) (N := some 25) #[true, true, true, true, true, true, true, true, true, true, true, true, true, true, true, true, true, true, true, true, true, false, false, false] rfl rfl (one_of HT_.out (by kernel_rfl)) (by decide) (fun K hK => ?_)
 refine goes_ Tryz.func49 (by kernel_rfl) rfl #[.int .u64 (IntKind.u64.wrap ((IntKind.u64.wrap (a0_1)) * (IntKind.u64.wrap (a1_2)))), .int .u64 (IntKind.u64.wrap ((IntKind.u64.wrap (a1_1)) * (IntKind.u64.wrap (a0_2))))] (by rfl) rfl rfl argt ?_
 with_reducible refine (cmp_Compare_uint64.calls (IntKind.u64.wrap ((IntKind.u64.wrap (a0_1)) * (IntKind.u64.wrap (a1_2)))) (IntKind.u64.wrap ((IntKind.u64.wrap (a1_1)) * (IntKind.u64.wrap (a0_2)))) t209 _ A5.out).mono ?_
 rintro e w' ⟨rfl, ⟨nd, rfl⟩⟩
 refine ⟨_, rfl, ?_⟩
 refine hK.out _ _ ⟨bc BK206 0, bc BK206 1, bc BK206 2, bc BK205 0, bc BK205 1, bc BK205 2⟩ (fun hHeld => ?_)
 clear hK K
 refine norm_ (a' := ?_) ?_ ?_
 rotate_left
 ·show Act.put _ (some 25) _ = _
  simp only [Act.put, List.setIfInBounds_toArray, List.set_cons_zero, List.set_cons_succ, i64_w, i32_w]
  rfl
 refine one_ (i := 21) (N := some 26) #[true, true, true, true, true, true, true, true, true, true, true, true, true, true, true, true, true, true, true, true, true, true, false, false] rfl rfl (one_of HT_.out (by kernel_rfl)) (by decide) (fun K hK => ?_)
 refine Kd.R_lit_step (Kd.int .i64) _ 3 ?hg (N := 26) ?hd (xs := ([t208, t209] : List Int)) (inner := [.int .i64 t208, .int .i64 t209]) (ok := fun _ => True) (okp := fun _ => True) ?hr ?hp (fun _ hk => hk) trivial (Below.refl _ _) (Nat.le_refl _) (by simp) ?_; (case hd => rfl); (case hg => rfl); (case hr => first | (go_simp; done) | (go_simp; rfl)); (case hp => exact (Reps.one (show Kd.M (Kd.int .i64) _ _ _ t208 [.int .i64 t208] from rfl) (Reps.one (show Kd.M (Kd.int .i64) _ _ _ t209 [.int .i64 t209] from rfl) (Reps.none _ _))))
 intro v211 w10 ho11 hb hg_ hnew_
 clear hg_ hnew_
 (first | rw [← Ny210.out] at ho11 | (simp only [Int.reduceToNat] at ho11; rw [← Ny210.out] at ho11))
 have HO212 := Aside0.mk (Kd.R_lower ho11 (below_size (belt HB)))
 replace BK205 := blkb BK205 hb
 replace BK206 := blkb BK206 hb
 replace HB := belb HB hb
 clear hb ho11
 obtain ⟨Ao12, co12, eo12⟩ := Kd.R_slice HO212.out
 (first | subst eo12 | (injection eo12 with f1_ f2_ f3_; have f4_ := f1_.symm; have f5_ := f3_.symm; clear f1_ f2_ f3_; subst f4_; subst f5_))
 refine hK.out _ _ ⟨bc BK206 0, bc BK206 1, bc BK206 2, bc BK205 0, bc BK205 1, bc BK205 2⟩ (fun hHeld => ?_)
 clear hK K
 refine norm_ (a' := ?_) ?_ ?_
 rotate_left
 ·show Act.put _ (some 26) _ = _
  simp only [Act.put, List.setIfInBounds_toArray, List.set_cons_zero, List.set_cons_succ, i64_w, i32_w]
  rfl
 refine one_ (i := 22) (N := some 27) #[true, true, true, true, true, true, true, true, true, true, true, true, true, true, true, true, true, true, true, true, true, true, true, false] rfl rfl (one_of HT_.out (by kernel_rfl)) (by decide) (fun K hK => ?_)
 refine goes_ Tryz.func47 (by kernel_rfl) rfl #[.slice Ao12 y210.length co12] (by rfl) rfl rfl argt ?_
 with_reducible refine (cmp_Or_int.calls k _ _ y210 t213 _ ?side1 ?side2 A6.out).mono ?_
 (case side1 => repeat (first | exact (Kd.R_reads' HO212.out).2.2 | (with_reducible refine Kd.C_alloc ?_ _) | (with_reducible refine Kd.C_drewN ?_ _) | (with_reducible refine Kd.C_drew ?_)))
 (case side2 => exact (Kd.R_reads' HO212.out).2.1)
 rintro e w' ⟨rfl, ⟨nd, rfl⟩⟩
 refine ⟨_, rfl, ?_⟩
 refine hK.out _ _ ⟨bc BK206 0, bc BK206 1, bc BK206 2, bc BK205 0, bc BK205 1, bc BK205 2⟩ (fun hHeld => ?_)
 clear hK K
 refine norm_ (a' := ?_) ?_ ?_
 rotate_left
 ·show Act.put _ (some 27) _ = _
  simp only [Act.put, List.setIfInBounds_toArray, List.set_cons_zero, List.set_cons_succ, i64_w, i32_w]
  rfl
 refine pure_ (i := 23) (N := some 4) (v := ?_) (a' := ?_) #[true, true, true, true, true, true, true, true, true, true, true, true, true, true, true, true, true, true, true, true, true, true, true, true] rfl rfl (any_of HT_.out (by kernel_rfl)) (fun _ _ _ h => h) (Or.inl ⟨by rfl, ?_⟩) ?_ ?_
 rotate_left
 ·intro w'
  go_simp
  with_reducible rfl
 rotate_left
 ·simp only [Act.put, List.setIfInBounds_toArray, List.set_cons_zero, List.set_cons_succ, i64_w, i32_w]
  rfl
 refine done_ (done_of HT_.out (by kernel_rfl)) ?_
 try go_wp2
 go_ret
 exact ⟨by first | rfl | (simp [errW_none, errW_some] <;> rfl) | (simp [*, errW_none, errW_some] <;> rfl), belt HB⟩


/-! ### turnstonelaw08_awake: function 9 -/
def turnstonelaw08_awake.f : Option Bool := some true
theorem turnstonelaw08_awake.calls (r : Bool) (w : World) (h : turnstonelaw08_awake.f = some r) : Calls Tryz.prog 9 #[] w fun e w' => e = .returned (.bool r) ∧ Below w.heap.size w w' := by
 obtain rfl := Option.some.inj h
 exact Go.Proofs.YtccokfebebmaeaaGreatDoor.Awake.at9 w


/-! ### mean_Mean_Rebase: function 17 -/
def mean_Mean_Rebase.f (k : Nat) (a0_0 : Int) (a0_1 : Int) (a0_2 : Int) (a0_3 : Int) (a0_4 : Int) (a1 : Int) : Option (Int × Int × Int × Int × Int × Bool) := (mean_Mean_Right.f a0_0 a0_1 a0_2 a0_3 a0_4).bind fun t430 => (if t430 = true then ((wide_OfU.f a0_3).bind fun bt431 => ((vtime_Time_Since.f a1 a0_0).bind fun t433 => ((wide_Int_Mul.f k bt431.1 bt431.2 t433).bind fun bt434 => ((wide_Int_Sub.f a0_1 a0_2 bt434.1 bt434.2.1).bind fun bt438 => (if bt438.2.2 = true then (some (a1, bt438.1, bt438.2.1, a0_3, a0_4, true)) else (some (0, 0, 0, 0, 0, false))))))) else (some (0, 0, 0, 0, 0, false)))
theorem mean_Mean_Rebase.mono : ∀ a0 a1 a2 a3 a4 a5 k, LeO (mean_Mean_Rebase.f k a0 a1 a2 a3 a4 a5) (mean_Mean_Rebase.f (k + 1) a0 a1 a2 a3 a4 a5) := by
 intro a0 a1 a2 a3 a4 a5 k
 unfold mean_Mean_Rebase.f
 repeat' first
   | (with_reducible exact wide_Int_Mul.mono _ _ _ _)
   | (with_reducible exact LeO.refl _)
   | (with_reducible exact LeO.none _)
   | (with_reducible refine LeO.ite ?_ ?_)
   | (with_reducible refine LeO.bind ?_ (fun _ => ?_))
   | exact wide_Int_Mul.mono _ _ _ _
   | exact LeO.none _
   | refine LeO.ite ?_ ?_
   | refine LeO.bind ?_ (fun _ => ?_)
def mean_Mean_Rebase.T3 : Bool × List (List Nat × List Nat) := (true, [([], []), ([0], [0]), ([1], [1]), ([], []), ([], []), ([4], [4]), ([3, 5, 2], [3, 5]), ([2, 6, 6], [2, 6]), ([7], [7]), ([8], [8]), ([8], [8]), ([], []), ([11, 9, 7, 0, 1, 2, 3, 4, 5, 6, 7, 8, 9, 11], [9, 11]), ([10, 12, 0, 1, 2, 3, 4, 5, 6, 7, 8, 9, 10, 11, 12], [10])])
def mean_Mean_Rebase.B3 : List Nat := [0, 1, 3, 0, 0, 16, 63, 127, 255, 511, 511, 0, 3071, 8191]
theorem mean_Mean_Rebase.tab3 : rtab .any (opsOf Tryz.f17 3) = mean_Mean_Rebase.T3 := by kernel_rfl
theorem mean_Mean_Rebase.bits3 : waitsOk mean_Mean_Rebase.T3.2 mean_Mean_Rebase.B3 = true := by kernel_rfl
set_option maxHeartbeats 8000000 in
set_option maxRecDepth 100000 in
theorem mean_Mean_Rebase.calls (k : Nat) (a0_0 : Int) (a0_1 : Int) (a0_2 : Int) (a0_3 : Int) (a0_4 : Int) (a1 : Int) (r1 : Int) (r2 : Int) (r3 : Int) (r4 : Int) (r5 : Int) (r6 : Bool) (w : World) (h : mean_Mean_Rebase.f k a0_0 a0_1 a0_2 a0_3 a0_4 a1 = some (r1, r2, r3, r4, r5, r6)) :
  Calls Tryz.prog 17 #[.agg #[.int .u64 a0_0, .int .i64 a0_1, .int .u64 a0_2, .int .u64 a0_3, .int .i64 a0_4], .int .u64 a1] w fun e w' => e = .returned (.tuple #[.agg #[.int .u64 r1, .int .i64 r2, .int .u64 r3, .int .u64 r4, .int .i64 r5], .bool r6]) ∧ Below w.heap.size w w' := by
 have hu33 := Tryz.underlying33
 have hu31 := Tryz.underlying31
 have HB := Aside0.mk (Below.refl w.heap.size w)
 have H : ((mean_Mean_Right.f a0_0 a0_1 a0_2 a0_3 a0_4).bind fun t430 => (if t430 = true then ((wide_OfU.f a0_3).bind fun bt431 => ((vtime_Time_Since.f a1 a0_0).bind fun t433 => ((wide_Int_Mul.f k bt431.1 bt431.2 t433).bind fun bt434 => ((wide_Int_Sub.f a0_1 a0_2 bt434.1 bt434.2.1).bind fun bt438 => (if bt438.2.2 = true then (some (a1, bt438.1, bt438.2.1, a0_3, a0_4, true)) else (some (0, 0, 0, 0, 0, false))))))) else (some (0, 0, 0, 0, 0, false)))) = some (r1, r2, r3, r4, r5, r6) := h
 clear h
 replace H := Option.bind_eq_some_iff.mp H
 obtain ⟨t430, A30, H⟩ := H
 replace H : (if t430 = true then ((wide_OfU.f a0_3).bind fun bt431 => ((vtime_Time_Since.f a1 a0_0).bind fun t433 => ((wide_Int_Mul.f k bt431.1 bt431.2 t433).bind fun bt434 => ((wide_Int_Sub.f a0_1 a0_2 bt434.1 bt434.2.1).bind fun bt438 => (if bt438.2.2 = true then (some (a1, bt438.1, bt438.2.1, a0_3, a0_4, true)) else (some (0, 0, 0, 0, 0, false))))))) else (some (0, 0, 0, 0, 0, false))) = some (r1, r2, r3, r4, r5, r6) := H
 have A3 := Aside0.mk A30
 clear A30
 by_cases c4 : t430 = true
 ·subst c4
  have H1 : ((wide_OfU.f a0_3).bind fun bt431 => ((vtime_Time_Since.f a1 a0_0).bind fun t433 => ((wide_Int_Mul.f k bt431.1 bt431.2 t433).bind fun bt434 => ((wide_Int_Sub.f a0_1 a0_2 bt434.1 bt434.2.1).bind fun bt438 => (if bt438.2.2 = true then (some (a1, bt438.1, bt438.2.1, a0_3, a0_4, true)) else (some (0, 0, 0, 0, 0, false))))))) = some (r1, r2, r3, r4, r5, r6) := by rw [if_pos rfl] at H; exact H
  clear H
  have H := H1
  clear H1
  replace H := Option.bind_eq_some_iff.mp H
  obtain ⟨⟨t431, t432⟩, A50, H⟩ := H
  replace H : ((vtime_Time_Since.f a1 a0_0).bind fun t433 => ((wide_Int_Mul.f k t431 t432 t433).bind fun bt434 => ((wide_Int_Sub.f a0_1 a0_2 bt434.1 bt434.2.1).bind fun bt438 => (if bt438.2.2 = true then (some (a1, bt438.1, bt438.2.1, a0_3, a0_4, true)) else (some (0, 0, 0, 0, 0, false)))))) = some (r1, r2, r3, r4, r5, r6) := H
  have A5 := Aside0.mk A50
  clear A50
  replace H := Option.bind_eq_some_iff.mp H
  obtain ⟨t433, A60, H⟩ := H
  replace H : ((wide_Int_Mul.f k t431 t432 t433).bind fun bt434 => ((wide_Int_Sub.f a0_1 a0_2 bt434.1 bt434.2.1).bind fun bt438 => (if bt438.2.2 = true then (some (a1, bt438.1, bt438.2.1, a0_3, a0_4, true)) else (some (0, 0, 0, 0, 0, false))))) = some (r1, r2, r3, r4, r5, r6) := H
  have A6 := Aside0.mk A60
  clear A60
  replace H := Option.bind_eq_some_iff.mp H
  obtain ⟨⟨t434, t435, t436⟩, A70, H⟩ := H
  replace H : ((wide_Int_Sub.f a0_1 a0_2 t434 t435).bind fun bt438 => (if bt438.2.2 = true then (some (a1, bt438.1, bt438.2.1, a0_3, a0_4, true)) else (some (0, 0, 0, 0, 0, false)))) = some (r1, r2, r3, r4, r5, r6) := H
  have A7 := Aside0.mk A70
  clear A70
  replace H := Option.bind_eq_some_iff.mp H
  obtain ⟨⟨t438, t439, t440⟩, A80, H⟩ := H
  replace H : (if t440 = true then (some (a1, t438, t439, a0_3, a0_4, true)) else (some (0, 0, 0, 0, 0, false))) = some (r1, r2, r3, r4, r5, r6) := H
  have A8 := Aside0.mk A80
  clear A80
  by_cases c9 : t440 = true
  ·subst c9
   have H1 : (some (a1, t438, t439, a0_3, a0_4, true)) = some (r1, r2, r3, r4, r5, r6) := by rw [if_pos rfl] at H; exact H
   clear H
   have H := H1
   clear H1
   simp only [Option.some.injEq, Prod.mk.injEq] at H
   obtain ⟨rfl, rfl, rfl, rfl, rfl, rfl⟩ := H
   go_enter Tryz.func17, Tryz.ntmps17
   try go_wp2_with (first | ((with_reducible refine gate_dst (N := 2) rfl ?_); refine box_event ?hg (N := 2) ?hd (cs := #[.int .u64 a0_0, .int .i64 a0_1, .int .u64 a0_2, .int .u64 a0_3, .int .i64 a0_4]) (t := 33) ?hr ?_; (case hd => rfl); (case hg => rfl); (case hr => first | (go_simp; done) | (go_simp; rfl)); intro gb428 hg w10 hbox hb; have BK428 := Aside0.mk (hbox); have GW428 := bels HB hg; have GE428 := bels HB hg; replace HB := belb HB hb; clear hb hbox hg) | ((with_reducible refine gate_dst (N := 4) rfl ?_); refine box_event ?hg (N := 4) ?hd (cs := #[.int .u64 0, .int .i64 0, .int .u64 0, .int .u64 0, .int .i64 0]) (t := 33) ?hr ?_; (case hd => rfl); (case hg => rfl); (case hr => first | (go_simp; done) | (go_simp; rfl)); intro gb429 hg w11 hbox hb; have BK429 := Aside0.mk (hbox); have GW429 := bels HB hg; have GE429 := bels HB hg; have NB428_429 := blkl BK428 hg; have NB429_428 := blkg BK428 hg; replace BK428 := blkb BK428 hb; replace HB := belb HB hb; clear hb hbox hg; have hnb12 := NB428_429.out; have hnc12 := NB429_428.out; have hcz13_0 : w11.cell? ⟨gb428, 0, none⟩ = some (.int .u64 a0_0) := bc BK428 0; have hcz13_1 : w11.cell? ⟨gb428, 1, none⟩ = some (.int .i64 a0_1) := bc BK428 1; have hcz13_2 : w11.cell? ⟨gb428, 2, none⟩ = some (.int .u64 a0_2) := bc BK428 2; have hcz13_3 : w11.cell? ⟨gb428, 3, none⟩ = some (.int .u64 a0_3) := bc BK428 3; have hcz13_4 : w11.cell? ⟨gb428, 4, none⟩ = some (.int .i64 a0_4) := bc BK428 4; have hfz13_0 := blk_frozen BK428.out 0; have hfz13_1 := blk_frozen BK428.out 1; have hfz13_2 := blk_frozen BK428.out 2; have hfz13_3 := blk_frozen BK428.out 3; have hfz13_4 := blk_frozen BK428.out 4) | ((with_reducible refine gate_callee (f := 43) rfl ?_); refine goesL_ (some 11) rfl rfl Tryz.func43 (by kernel_rfl) rfl #[.agg #[.int .u64 a0_0, .int .i64 a0_1, .int .u64 a0_2, .int .u64 a0_3, .int .i64 a0_4]] rfl argt ?_; (with_reducible refine (mean_Mean_Right.calls a0_0 a0_1 a0_2 a0_3 a0_4 true _ A3.out).mono ?_); rintro e w14 ⟨rfl, hb⟩; refine ⟨_, rfl, ?_⟩; replace BK428 := blkb BK428 hb; replace BK429 := blkb BK429 hb; replace HB := belb HB hb; (try clear hb); (try clear hb2); (try clear hk); (try clear hi)))
   replace BK428 := Aside0.mk (blk_drew BK428.out)
   replace BK429 := Aside0.mk (blk_drew BK429.out)
   replace HB := Aside0.mk (below_drew1 HB.out)
   refine start_ (n := 14) (S := fun w' => w'.cell? ⟨gb428, 0, none⟩ = some (.int .u64 a0_0) ∧ w'.cell? ⟨gb428, 1, none⟩ = some (.int .i64 a0_1) ∧ w'.cell? ⟨gb428, 2, none⟩ = some (.int .u64 a0_2) ∧ w'.cell? ⟨gb428, 3, none⟩ = some (.int .u64 a0_3) ∧ w'.cell? ⟨gb428, 4, none⟩ = some (.int .i64 a0_4)) (ds := []) #[false, false, false, false, false, false, false, false, false, false, false, false, false, false] (by kernel_rfl) rfl rfl ⟨bc BK428 0, bc BK428 1, bc BK428 2, bc BK428 3, bc BK428 4⟩ (fun hHeld => ?_); refine with_tabW mean_Mean_Rebase.tab3 mean_Mean_Rebase.bits3 (fun HT_ HW_ => ?_)
   generalize w14.drew = w15 at BK428 BK429 HB hHeld ⊢
   refine pure_ (i := 0) (N := some 15) (v := ?_) (a' := ?_) #[true, false, false, false, false, false, false, false, false, false, false, false, false, false] rfl rfl (any_of HT_.out (by kernel_rfl)) (fun _ _ _ h => h) (Or.inl ⟨by rfl, ?_⟩) ?_ ?_
   rotate_left
   ·intro w'
    go_simp
    with_reducible rfl
   rotate_left
   ·simp only [Act.put, List.setIfInBounds_toArray, List.set_cons_zero, List.set_cons_succ, i64_w, i32_w]
    rfl
   refine pure_ (i := 3) (N := some 18) (v := ?_) (a' := ?_) #[true, false, false, true, false, false, false, false, false, false, false, false, false, false] rfl rfl (any_of HT_.out (by kernel_rfl)) (fun _ _ _ h => h) (Or.inl ⟨by rfl, ?_⟩) ?_ ?_
   rotate_left
   ·intro w'
    go_simp
    with_reducible rfl
   rotate_left
   ·simp only [Act.put, List.setIfInBounds_toArray, List.set_cons_zero, List.set_cons_succ, i64_w, i32_w]
    rfl
   refine pure_ (i := 4) (N := some 19) (v := ?_) (a' := ?_) #[true, false, false, true, true, false, false, false, false, false, false, false, false, false] rfl rfl (any_of HT_.out (by kernel_rfl)) (fun _ _ _ h => h) (Or.inl ⟨by rfl, ?_⟩) ?_ ?_
   rotate_left
   ·intro w'
    go_simp
    with_reducible rfl
   rotate_left
   ·simp only [Act.put, List.setIfInBounds_toArray, List.set_cons_zero, List.set_cons_succ, i64_w, i32_w]
    rfl
   refine take_ (i := 1) (N := some 16) (v := ?_) (a' := ?_) #[true, true, false, true, true, false, false, false, false, false, false, false, false, false] rfl rfl (take_ofW HT_.out HW_.out (by kernel_rfl)) (fun _ _ _ h => h) (Or.inl ⟨by rfl, ?_⟩) hHeld ?_ ?_
   rotate_left
   ·rintro w' ⟨s0, s1, s2, s3, s4⟩
    go_simp
    with_reducible rfl
   rotate_left
   ·simp only [Act.put, List.setIfInBounds_toArray, List.set_cons_zero, List.set_cons_succ, i64_w, i32_w]
    rfl
   refine take_ (i := 5) (N := some 20) (v := ?_) (a' := ?_) #[true, true, false, true, true, true, false, false, false, false, false, false, false, false] rfl rfl (take_ofW HT_.out HW_.out (by kernel_rfl)) (fun _ _ _ h => h) (Or.inl ⟨by rfl, ?_⟩) hHeld ?_ ?_
   rotate_left
   ·rintro w' ⟨s0, s1, s2, s3, s4⟩
    go_simp
    with_reducible rfl
   rotate_left
   ·simp only [Act.put, List.setIfInBounds_toArray, List.set_cons_zero, List.set_cons_succ, i64_w, i32_w]
    rfl
   refine join_ (σ := Nat) 2 #[true, true, true, true, true, true, true, true, true, true, true, true, false, false] (fun s_ => [(17, .agg #[.int .i64 t431, .int .u64 t432]), (21, .int .i64 t433), (22, .tuple #[.agg #[.int .i64 t434, .int .u64 t435], .bool t436]), (6, .pointer (some ⟨s_, 0, none⟩)), (14, .tuple #[.agg #[.int .i64 t434, .int .u64 t435], .bool t436]), (23, .agg #[.int .i64 t434, .int .u64 t435]), (24, .bool t436)]) (fun s_ w' => (w'.cell? ⟨gb428, 0, none⟩ = some (.int .u64 a0_0) ∧ w'.cell? ⟨gb428, 1, none⟩ = some (.int .i64 a0_1) ∧ w'.cell? ⟨gb428, 2, none⟩ = some (.int .u64 a0_2) ∧ w'.cell? ⟨gb428, 3, none⟩ = some (.int .u64 a0_3) ∧ w'.cell? ⟨gb428, 4, none⟩ = some (.int .i64 a0_4)) ∧ (w'.heap[gb428]? = some (.cells #[.int .u64 a0_0, .int .i64 a0_1, .int .u64 a0_2, .int .u64 a0_3, .int .i64 a0_4] 33 (0, 0))) ∧ (w'.heap[gb429]? = some (.cells #[.int .u64 0, .int .i64 0, .int .u64 0, .int .u64 0, .int .i64 0] 33 (0, 0))) ∧ (w'.heap[s_]? = some (.cells #[.int .i64 0, .int .u64 0] 31 (0, 0))) ∧ (w.heap.size ≤ s_) ∧ (w.heap.size ≤ s_) ∧ (gb428 ≠ s_) ∧ (s_ ≠ gb428) ∧ (gb429 ≠ s_) ∧ (s_ ≠ gb429) ∧ (Below w.heap.size w w')) ?_ ?_
   rotate_left
   ·intro hCont
    refine two_ (i := 2) (j := 11) (Ni := some 17) (Nj := some 6) #[true, true, true, true, true, true, false, false, false, false, false, false, false, false] #[true, true, false, true, true, true, false, false, false, false, false, true, false, false] rfl rfl rfl rfl (two_of HT_.out (by kernel_rfl)) (by decide) (by decide) (fun K hK => ?_) (fun K hK => ?_)
    ·skip
     refine goes_ Tryz.func50 (by kernel_rfl) rfl #[.int .u64 a0_3] (by rfl) rfl rfl argt ?_
     with_reducible refine (wide_OfU.calls a0_3 t431 t432 _ A5.out).mono ?_
     rintro e w16 ⟨rfl, hb⟩
     refine ⟨_, rfl, ?_⟩
     replace BK428 := blkb BK428 hb
     replace BK429 := blkb BK429 hb
     replace HB := belb HB hb
     (try clear hb)
     (try clear hb2)
     (try clear hk)
     (try clear hi)
     refine hK.out _ _ ⟨bc BK428 0, bc BK428 1, bc BK428 2, bc BK428 3, bc BK428 4⟩ (fun hHeld => ?_)
     clear hK K
     refine norm_ (a' := ?_) ?_ ?_
     rotate_left
     ·show Act.put _ (some 17) _ = _
      simp only [Act.put, List.setIfInBounds_toArray, List.set_cons_zero, List.set_cons_succ, i64_w, i32_w]
      rfl
     refine two_ (i := 6) (j := 11) (Ni := some 21) (Nj := some 6) #[true, true, true, true, true, true, true, false, false, false, false, false, false, false] #[true, true, true, true, true, true, false, false, false, false, false, true, false, false] rfl rfl rfl rfl (two_of HT_.out (by kernel_rfl)) (by decide) (by decide) (fun K hK => ?_) (fun K hK => ?_)
     ·skip
      refine goes_ Tryz.func13 (by kernel_rfl) rfl #[.int .u64 a1, .int .u64 a0_0] (by rfl) rfl rfl argt ?_
      with_reducible refine (vtime_Time_Since.calls a1 a0_0 t433 _ A6.out).mono ?_
      rintro e w' ⟨rfl, ⟨nd, rfl⟩⟩
      refine ⟨_, rfl, ?_⟩
      refine hK.out _ _ ⟨bc BK428 0, bc BK428 1, bc BK428 2, bc BK428 3, bc BK428 4⟩ (fun hHeld => ?_)
      clear hK K
      refine norm_ (a' := ?_) ?_ ?_
      rotate_left
      ·show Act.put _ (some 21) _ = _
       simp only [Act.put, List.setIfInBounds_toArray, List.set_cons_zero, List.set_cons_succ, i64_w, i32_w]
       rfl
      refine two_ (i := 7) (j := 11) (Ni := some 22) (Nj := some 6) #[true, true, true, true, true, true, true, true, false, false, false, false, false, false] #[true, true, true, true, true, true, true, false, false, false, false, true, false, false] rfl rfl rfl rfl (two_of HT_.out (by kernel_rfl)) (by decide) (by decide) (fun K hK => ?_) (fun K hK => ?_)
      ·skip
       refine goes_ Tryz.func51 (by kernel_rfl) rfl #[.agg #[.int .i64 t431, .int .u64 t432], .int .i64 t433] (by rfl) rfl rfl argt ?_
       with_reducible refine (wide_Int_Mul.calls k t431 t432 t433 t434 t435 t436 _ A7.out).mono ?_
       rintro e w17 ⟨rfl, hb⟩
       refine ⟨_, rfl, ?_⟩
       replace BK428 := blkb BK428 hb
       replace BK429 := blkb BK429 hb
       replace HB := belb HB hb
       (try clear hb)
       (try clear hb2)
       (try clear hk)
       (try clear hi)
       refine hK.out _ _ ⟨bc BK428 0, bc BK428 1, bc BK428 2, bc BK428 3, bc BK428 4⟩ (fun hHeld => ?_)
       clear hK K
       refine norm_ (a' := ?_) ?_ ?_
       rotate_left
       ·show Act.put _ (some 22) _ = _
        simp only [Act.put, List.setIfInBounds_toArray, List.set_cons_zero, List.set_cons_succ, i64_w, i32_w]
        rfl
       refine pure_ (i := 8) (N := some 14) (v := ?_) (a' := ?_) #[true, true, true, true, true, true, true, true, true, false, false, false, false, false] rfl rfl (any_of HT_.out (by kernel_rfl)) (fun _ _ _ h => h) (Or.inl ⟨by rfl, ?_⟩) ?_ ?_
       rotate_left
       ·intro w'
        go_simp
        with_reducible rfl
       rotate_left
       ·simp only [Act.put, List.setIfInBounds_toArray, List.set_cons_zero, List.set_cons_succ, i64_w, i32_w]
        rfl
       refine pure_ (i := 9) (N := some 23) (v := ?_) (a' := ?_) #[true, true, true, true, true, true, true, true, true, true, false, false, false, false] rfl rfl (any_of HT_.out (by kernel_rfl)) (fun _ _ _ h => h) (Or.inl ⟨by rfl, ?_⟩) ?_ ?_
       rotate_left
       ·intro w'
        go_simp
        with_reducible rfl
       rotate_left
       ·simp only [Act.put, List.setIfInBounds_toArray, List.set_cons_zero, List.set_cons_succ, i64_w, i32_w]
        rfl
       refine pure_ (i := 10) (N := some 24) (v := ?_) (a' := ?_) #[true, true, true, true, true, true, true, true, true, true, true, false, false, false] rfl rfl (any_of HT_.out (by kernel_rfl)) (fun _ _ _ h => h) (Or.inl ⟨by rfl, ?_⟩) ?_ ?_
       rotate_left
       ·intro w'
        go_simp
        with_reducible rfl
       rotate_left
       ·simp only [Act.put, List.setIfInBounds_toArray, List.set_cons_zero, List.set_cons_succ, i64_w, i32_w]
        rfl
       refine one_ (i := 11) (N := some 6) #[true, true, true, true, true, true, true, true, true, true, true, true, false, false] rfl rfl (one_of HT_.out (by kernel_rfl)) (by decide) (fun K hK => ?_)
       refine box_step ?hg (N := 6) ?hd (cs := #[.int .i64 0, .int .u64 0]) (t := 31) ?hr ?_; (case hd => rfl); (case hg => rfl); (case hr => first | (go_simp; done) | (go_simp; rfl))
       intro gb437 hg w18 hbox hb
       have BK437 := Aside0.mk (hbox)
       have GW437 := bels HB hg
       have GE437 := bels HB hg
       have NB428_437 := blkl BK428 hg
       have NB437_428 := blkg BK428 hg
       have NB429_437 := blkl BK429 hg
       have NB437_429 := blkg BK429 hg
       replace BK428 := blkb BK428 hb
       replace BK429 := blkb BK429 hb
       replace HB := belb HB hb
       clear hb hbox hg
       refine hK.out _ _ ⟨bc BK428 0, bc BK428 1, bc BK428 2, bc BK428 3, bc BK428 4⟩ (fun hHeld => ?_)
       clear hK K
       refine norm_ (a' := ?_) ?_ ?_
       rotate_left
       ·show Act.put _ (some 6) _ = _
        simp only [Act.put, List.setIfInBounds_toArray, List.set_cons_zero, List.set_cons_succ, i64_w, i32_w]
        rfl
       exact norm_ (by simp only [putAll, Act.put, List.setIfInBounds_toArray, List.set_cons_zero, List.set_cons_succ]) (hCont (gb437) _ ⟨hHeld, (blkt BK428), (blkt BK429), (blkt BK437), GW437.out, GE437.out, NB428_437.out, NB437_428.out, NB429_437.out, NB437_429.out, (belt HB)⟩)
      skip
      refine box_step ?hg (N := 6) ?hd (cs := #[.int .i64 0, .int .u64 0]) (t := 31) ?hr ?_; (case hd => rfl); (case hg => rfl); (case hr => first | (go_simp; done) | (go_simp; rfl))
      intro gb437 hg w17 hbox hb
      have BK437 := Aside0.mk (hbox)
      have GW437 := bels HB hg
      have GE437 := bels HB hg
      have NB428_437 := blkl BK428 hg
      have NB437_428 := blkg BK428 hg
      have NB429_437 := blkl BK429 hg
      have NB437_429 := blkg BK429 hg
      replace BK428 := blkb BK428 hb
      replace BK429 := blkb BK429 hb
      replace HB := belb HB hb
      clear hb hbox hg
      refine hK.out _ _ ⟨bc BK428 0, bc BK428 1, bc BK428 2, bc BK428 3, bc BK428 4⟩ (fun hHeld => ?_)
      clear hK K
      refine norm_ (a' := ?_) ?_ ?_
      rotate_left
      ·show Act.put _ (some 6) _ = _
       simp only [Act.put, List.setIfInBounds_toArray, List.set_cons_zero, List.set_cons_succ, i64_w, i32_w]
       rfl
      refine one_ (i := 7) (N := some 22) #[true, true, true, true, true, true, true, true, false, false, false, true, false, false] rfl rfl (one_of HT_.out (by kernel_rfl)) (by decide) (fun K hK => ?_)
      refine goes_ Tryz.func51 (by kernel_rfl) rfl #[.agg #[.int .i64 t431, .int .u64 t432], .int .i64 t433] (by rfl) rfl rfl argt ?_
      with_reducible refine (wide_Int_Mul.calls k t431 t432 t433 t434 t435 t436 _ A7.out).mono ?_
      rintro e w18 ⟨rfl, hb⟩
      refine ⟨_, rfl, ?_⟩
      replace BK428 := blkb BK428 hb
      replace BK429 := blkb BK429 hb
      replace BK437 := blkb BK437 hb
      replace HB := belb HB hb
      (try clear hb)
      (try clear hb2)
      (try clear hk)
      (try clear hi)
      refine hK.out _ _ ⟨bc BK428 0, bc BK428 1, bc BK428 2, bc BK428 3, bc BK428 4⟩ (fun hHeld => ?_)
      clear hK K
      refine norm_ (a' := ?_) ?_ ?_
      rotate_left
      ·show Act.put _ (some 22) _ = _
       simp only [Act.put, List.setIfInBounds_toArray, List.set_cons_zero, List.set_cons_succ, i64_w, i32_w]
       rfl
      refine pure_ (i := 8) (N := some 14) (v := ?_) (a' := ?_) #[true, true, true, true, true, true, true, true, true, false, false, true, false, false] rfl rfl (any_of HT_.out (by kernel_rfl)) (fun _ _ _ h => h) (Or.inl ⟨by rfl, ?_⟩) ?_ ?_
      rotate_left
      ·intro w'
       go_simp
       with_reducible rfl
      rotate_left
      ·simp only [Act.put, List.setIfInBounds_toArray, List.set_cons_zero, List.set_cons_succ, i64_w, i32_w]
       rfl
      refine pure_ (i := 9) (N := some 23) (v := ?_) (a' := ?_) #[true, true, true, true, true, true, true, true, true, true, false, true, false, false] rfl rfl (any_of HT_.out (by kernel_rfl)) (fun _ _ _ h => h) (Or.inl ⟨by rfl, ?_⟩) ?_ ?_
      rotate_left
      ·intro w'
       go_simp
       with_reducible rfl
      rotate_left
      ·simp only [Act.put, List.setIfInBounds_toArray, List.set_cons_zero, List.set_cons_succ, i64_w, i32_w]
       rfl
      refine pure_ (i := 10) (N := some 24) (v := ?_) (a' := ?_) #[true, true, true, true, true, true, true, true, true, true, true, true, false, false] rfl rfl (any_of HT_.out (by kernel_rfl)) (fun _ _ _ h => h) (Or.inl ⟨by rfl, ?_⟩) ?_ ?_
      rotate_left
      ·intro w'
       go_simp
       with_reducible rfl
      rotate_left
      ·simp only [Act.put, List.setIfInBounds_toArray, List.set_cons_zero, List.set_cons_succ, i64_w, i32_w]
       rfl
      exact norm_ (by simp only [putAll, Act.put, List.setIfInBounds_toArray, List.set_cons_zero, List.set_cons_succ]) (hCont (gb437) _ ⟨hHeld, (blkt BK428), (blkt BK429), (blkt BK437), GW437.out, GE437.out, NB428_437.out, NB437_428.out, NB429_437.out, NB437_429.out, (belt HB)⟩)
     skip
     refine box_step ?hg (N := 6) ?hd (cs := #[.int .i64 0, .int .u64 0]) (t := 31) ?hr ?_; (case hd => rfl); (case hg => rfl); (case hr => first | (go_simp; done) | (go_simp; rfl))
     intro gb437 hg w17 hbox hb
     have BK437 := Aside0.mk (hbox)
     have GW437 := bels HB hg
     have GE437 := bels HB hg
     have NB428_437 := blkl BK428 hg
     have NB437_428 := blkg BK428 hg
     have NB429_437 := blkl BK429 hg
     have NB437_429 := blkg BK429 hg
     replace BK428 := blkb BK428 hb
     replace BK429 := blkb BK429 hb
     replace HB := belb HB hb
     clear hb hbox hg
     refine hK.out _ _ ⟨bc BK428 0, bc BK428 1, bc BK428 2, bc BK428 3, bc BK428 4⟩ (fun hHeld => ?_)
     clear hK K
     refine norm_ (a' := ?_) ?_ ?_
     rotate_left
     ·show Act.put _ (some 6) _ = _
      simp only [Act.put, List.setIfInBounds_toArray, List.set_cons_zero, List.set_cons_succ, i64_w, i32_w]
      rfl
     refine one_ (i := 6) (N := some 21) #[true, true, true, true, true, true, true, false, false, false, false, true, false, false] rfl rfl (one_of HT_.out (by kernel_rfl)) (by decide) (fun K hK => ?_)
     refine goes_ Tryz.func13 (by kernel_rfl) rfl #[.int .u64 a1, .int .u64 a0_0] (by rfl) rfl rfl argt ?_
     with_reducible refine (vtime_Time_Since.calls a1 a0_0 t433 _ A6.out).mono ?_
     rintro e w' ⟨rfl, ⟨nd, rfl⟩⟩
     refine ⟨_, rfl, ?_⟩
     refine hK.out _ _ ⟨bc BK428 0, bc BK428 1, bc BK428 2, bc BK428 3, bc BK428 4⟩ (fun hHeld => ?_)
     clear hK K
     refine norm_ (a' := ?_) ?_ ?_
     rotate_left
     ·show Act.put _ (some 21) _ = _
      simp only [Act.put, List.setIfInBounds_toArray, List.set_cons_zero, List.set_cons_succ, i64_w, i32_w]
      rfl
     refine one_ (i := 7) (N := some 22) #[true, true, true, true, true, true, true, true, false, false, false, true, false, false] rfl rfl (one_of HT_.out (by kernel_rfl)) (by decide) (fun K hK => ?_)
     refine goes_ Tryz.func51 (by kernel_rfl) rfl #[.agg #[.int .i64 t431, .int .u64 t432], .int .i64 t433] (by rfl) rfl rfl argt ?_
     with_reducible refine (wide_Int_Mul.calls k t431 t432 t433 t434 t435 t436 _ A7.out).mono ?_
     rintro e w18 ⟨rfl, hb⟩
     refine ⟨_, rfl, ?_⟩
     replace BK428 := blkb BK428 hb
     replace BK429 := blkb BK429 hb
     replace BK437 := blkb BK437 hb
     replace HB := belb HB hb
     (try clear hb)
     (try clear hb2)
     (try clear hk)
     (try clear hi)
     refine hK.out _ _ ⟨bc BK428 0, bc BK428 1, bc BK428 2, bc BK428 3, bc BK428 4⟩ (fun hHeld => ?_)
     clear hK K
     refine norm_ (a' := ?_) ?_ ?_
     rotate_left
     ·show Act.put _ (some 22) _ = _
      simp only [Act.put, List.setIfInBounds_toArray, List.set_cons_zero, List.set_cons_succ, i64_w, i32_w]
      rfl
     refine pure_ (i := 8) (N := some 14) (v := ?_) (a' := ?_) #[true, true, true, true, true, true, true, true, true, false, false, true, false, false] rfl rfl (any_of HT_.out (by kernel_rfl)) (fun _ _ _ h => h) (Or.inl ⟨by rfl, ?_⟩) ?_ ?_
     rotate_left
     ·intro w'
      go_simp
      with_reducible rfl
     rotate_left
     ·simp only [Act.put, List.setIfInBounds_toArray, List.set_cons_zero, List.set_cons_succ, i64_w, i32_w]
      rfl
     refine pure_ (i := 9) (N := some 23) (v := ?_) (a' := ?_) #[true, true, true, true, true, true, true, true, true, true, false, true, false, false] rfl rfl (any_of HT_.out (by kernel_rfl)) (fun _ _ _ h => h) (Or.inl ⟨by rfl, ?_⟩) ?_ ?_
     rotate_left
     ·intro w'
      go_simp
      with_reducible rfl
     rotate_left
     ·simp only [Act.put, List.setIfInBounds_toArray, List.set_cons_zero, List.set_cons_succ, i64_w, i32_w]
      rfl
     refine pure_ (i := 10) (N := some 24) (v := ?_) (a' := ?_) #[true, true, true, true, true, true, true, true, true, true, true, true, false, false] rfl rfl (any_of HT_.out (by kernel_rfl)) (fun _ _ _ h => h) (Or.inl ⟨by rfl, ?_⟩) ?_ ?_
     rotate_left
     ·intro w'
      go_simp
      with_reducible rfl
     rotate_left
     ·simp only [Act.put, List.setIfInBounds_toArray, List.set_cons_zero, List.set_cons_succ, i64_w, i32_w]
      rfl
     exact norm_ (by simp only [putAll, Act.put, List.setIfInBounds_toArray, List.set_cons_zero, List.set_cons_succ]) (hCont (gb437) _ ⟨hHeld, (blkt BK428), (blkt BK429), (blkt BK437), GW437.out, GE437.out, NB428_437.out, NB437_428.out, NB429_437.out, NB437_429.out, (belt HB)⟩)
    skip
    refine box_step ?hg (N := 6) ?hd (cs := #[.int .i64 0, .int .u64 0]) (t := 31) ?hr ?_; (case hd => rfl); (case hg => rfl); (case hr => first | (go_simp; done) | (go_simp; rfl))
    intro gb437 hg w16 hbox hb
    have BK437 := Aside0.mk (hbox)
    have GW437 := bels HB hg
    have GE437 := bels HB hg
    have NB428_437 := blkl BK428 hg
    have NB437_428 := blkg BK428 hg
    have NB429_437 := blkl BK429 hg
    have NB437_429 := blkg BK429 hg
    replace BK428 := blkb BK428 hb
    replace BK429 := blkb BK429 hb
    replace HB := belb HB hb
    clear hb hbox hg
    refine hK.out _ _ ⟨bc BK428 0, bc BK428 1, bc BK428 2, bc BK428 3, bc BK428 4⟩ (fun hHeld => ?_)
    clear hK K
    refine norm_ (a' := ?_) ?_ ?_
    rotate_left
    ·show Act.put _ (some 6) _ = _
     simp only [Act.put, List.setIfInBounds_toArray, List.set_cons_zero, List.set_cons_succ, i64_w, i32_w]
     rfl
    refine one_ (i := 2) (N := some 17) #[true, true, true, true, true, true, false, false, false, false, false, true, false, false] rfl rfl (one_of HT_.out (by kernel_rfl)) (by decide) (fun K hK => ?_)
    refine goes_ Tryz.func50 (by kernel_rfl) rfl #[.int .u64 a0_3] (by rfl) rfl rfl argt ?_
    with_reducible refine (wide_OfU.calls a0_3 t431 t432 _ A5.out).mono ?_
    rintro e w17 ⟨rfl, hb⟩
    refine ⟨_, rfl, ?_⟩
    replace BK428 := blkb BK428 hb
    replace BK429 := blkb BK429 hb
    replace BK437 := blkb BK437 hb
    replace HB := belb HB hb
    (try clear hb)
    (try clear hb2)
    (try clear hk)
    (try clear hi)
    refine hK.out _ _ ⟨bc BK428 0, bc BK428 1, bc BK428 2, bc BK428 3, bc BK428 4⟩ (fun hHeld => ?_)
    clear hK K
    refine norm_ (a' := ?_) ?_ ?_
    rotate_left
    ·show Act.put _ (some 17) _ = _
     simp only [Act.put, List.setIfInBounds_toArray, List.set_cons_zero, List.set_cons_succ, i64_w, i32_w]
     rfl
    refine one_ (i := 6) (N := some 21) #[true, true, true, true, true, true, true, false, false, false, false, true, false, false] rfl rfl (one_of HT_.out (by kernel_rfl)) (by decide) (fun K hK => ?_)
    refine goes_ Tryz.func13 (by kernel_rfl) rfl #[.int .u64 a1, .int .u64 a0_0] (by rfl) rfl rfl argt ?_
    with_reducible refine (vtime_Time_Since.calls a1 a0_0 t433 _ A6.out).mono ?_
    rintro e w' ⟨rfl, ⟨nd, rfl⟩⟩
    refine ⟨_, rfl, ?_⟩
    refine hK.out _ _ ⟨bc BK428 0, bc BK428 1, bc BK428 2, bc BK428 3, bc BK428 4⟩ (fun hHeld => ?_)
    clear hK K
    refine norm_ (a' := ?_) ?_ ?_
    rotate_left
    ·show Act.put _ (some 21) _ = _
     simp only [Act.put, List.setIfInBounds_toArray, List.set_cons_zero, List.set_cons_succ, i64_w, i32_w]
     rfl
    refine one_ (i := 7) (N := some 22) #[true, true, true, true, true, true, true, true, false, false, false, true, false, false] rfl rfl (one_of HT_.out (by kernel_rfl)) (by decide) (fun K hK => ?_)
    refine goes_ Tryz.func51 (by kernel_rfl) rfl #[.agg #[.int .i64 t431, .int .u64 t432], .int .i64 t433] (by rfl) rfl rfl argt ?_
    with_reducible refine (wide_Int_Mul.calls k t431 t432 t433 t434 t435 t436 _ A7.out).mono ?_
    rintro e w18 ⟨rfl, hb⟩
    refine ⟨_, rfl, ?_⟩
    replace BK428 := blkb BK428 hb
    replace BK429 := blkb BK429 hb
    replace BK437 := blkb BK437 hb
    replace HB := belb HB hb
    (try clear hb)
    (try clear hb2)
    (try clear hk)
    (try clear hi)
    refine hK.out _ _ ⟨bc BK428 0, bc BK428 1, bc BK428 2, bc BK428 3, bc BK428 4⟩ (fun hHeld => ?_)
    clear hK K
    refine norm_ (a' := ?_) ?_ ?_
    rotate_left
    ·show Act.put _ (some 22) _ = _
     simp only [Act.put, List.setIfInBounds_toArray, List.set_cons_zero, List.set_cons_succ, i64_w, i32_w]
     rfl
    refine pure_ (i := 8) (N := some 14) (v := ?_) (a' := ?_) #[true, true, true, true, true, true, true, true, true, false, false, true, false, false] rfl rfl (any_of HT_.out (by kernel_rfl)) (fun _ _ _ h => h) (Or.inl ⟨by rfl, ?_⟩) ?_ ?_
    rotate_left
    ·intro w'
     go_simp
     with_reducible rfl
    rotate_left
    ·simp only [Act.put, List.setIfInBounds_toArray, List.set_cons_zero, List.set_cons_succ, i64_w, i32_w]
     rfl
    refine pure_ (i := 9) (N := some 23) (v := ?_) (a' := ?_) #[true, true, true, true, true, true, true, true, true, true, false, true, false, false] rfl rfl (any_of HT_.out (by kernel_rfl)) (fun _ _ _ h => h) (Or.inl ⟨by rfl, ?_⟩) ?_ ?_
    rotate_left
    ·intro w'
     go_simp
     with_reducible rfl
    rotate_left
    ·simp only [Act.put, List.setIfInBounds_toArray, List.set_cons_zero, List.set_cons_succ, i64_w, i32_w]
     rfl
    refine pure_ (i := 10) (N := some 24) (v := ?_) (a' := ?_) #[true, true, true, true, true, true, true, true, true, true, true, true, false, false] rfl rfl (any_of HT_.out (by kernel_rfl)) (fun _ _ _ h => h) (Or.inl ⟨by rfl, ?_⟩) ?_ ?_
    rotate_left
    ·intro w'
     go_simp
     with_reducible rfl
    rotate_left
    ·simp only [Act.put, List.setIfInBounds_toArray, List.set_cons_zero, List.set_cons_succ, i64_w, i32_w]
     rfl
    exact norm_ (by simp only [putAll, Act.put, List.setIfInBounds_toArray, List.set_cons_zero, List.set_cons_succ]) (hCont (gb437) _ ⟨hHeld, (blkt BK428), (blkt BK429), (blkt BK437), GW437.out, GE437.out, NB428_437.out, NB437_428.out, NB429_437.out, NB437_429.out, (belt HB)⟩)
   rintro gb437 w19 ⟨hS_, h0_, h1_, h2_, h3_, h4_, h5_, h6_, h7_, h8_, h9_⟩
   replace BK428 : Aside0 (w19.heap[gb428]? = some (.cells #[.int .u64 a0_0, .int .i64 a0_1, .int .u64 a0_2, .int .u64 a0_3, .int .i64 a0_4] 33 (0, 0))) := ⟨h0_⟩
   replace BK429 : Aside0 (w19.heap[gb429]? = some (.cells #[.int .u64 0, .int .i64 0, .int .u64 0, .int .u64 0, .int .i64 0] 33 (0, 0))) := ⟨h1_⟩
   have BK437 : Aside0 (w19.heap[gb437]? = some (.cells #[.int .i64 0, .int .u64 0] 31 (0, 0))) := ⟨h2_⟩
   have GW437 : Aside0 (w.heap.size ≤ gb437) := ⟨h3_⟩
   have GE437 : Aside0 (w.heap.size ≤ gb437) := ⟨h4_⟩
   have NB428_437 : Aside0 (gb428 ≠ gb437) := ⟨h5_⟩
   have NB437_428 : Aside0 (gb437 ≠ gb428) := ⟨h6_⟩
   have NB429_437 : Aside0 (gb429 ≠ gb437) := ⟨h7_⟩
   have NB437_429 : Aside0 (gb437 ≠ gb429) := ⟨h8_⟩
   replace HB : Aside0 (Below w.heap.size w w19) := ⟨h9_⟩
   clear h0_ h1_ h2_ h3_ h4_ h5_ h6_ h7_ h8_ h9_
   have hHeld : w19.cell? ⟨gb428, 0, none⟩ = some (.int .u64 a0_0) ∧ w19.cell? ⟨gb428, 1, none⟩ = some (.int .i64 a0_1) ∧ w19.cell? ⟨gb428, 2, none⟩ = some (.int .u64 a0_2) ∧ w19.cell? ⟨gb428, 3, none⟩ = some (.int .u64 a0_3) ∧ w19.cell? ⟨gb428, 4, none⟩ = some (.int .i64 a0_4) := hS_
   refine norm_ (a' := ?_) ?_ ?_
   rotate_left
   ·simp only [putAll, Act.put, List.setIfInBounds_toArray, List.set_cons_zero, List.set_cons_succ]
    rfl
   refine one_ (i := 12) (N := none) #[true, true, true, true, true, true, true, true, true, true, true, true, true, false] rfl rfl (one_of HT_.out (by kernel_rfl)) (by decide) (fun K hK => ?_)
   have hs20 : w19.cell? ⟨gb437, 0, none⟩ = some (.int .i64 0) := bc BK437 0
   have hfs20 := blk_frozen BK437.out 0
   have hns20_0 := NB428_437.out
   have hns20_1 := NB429_437.out
   have hms20_0 := NB437_428.out
   have hms20_1 := NB437_429.out
   have hs21 : w19.cell? ⟨gb437, 1, none⟩ = some (.int .u64 0) := bc BK437 1
   have hfs21 := blk_frozen BK437.out 1
   have hns21_0 := NB428_437.out
   have hns21_1 := NB429_437.out
   have hms21_0 := NB437_428.out
   have hms21_1 := NB437_429.out
   refine skip_ (w1 := ?_) (by rfl) rfl ?_ ?_
   rotate_left
   ·go_simp
    rfl
   refine hK.out _ _ ⟨((cell_far (p := ⟨gb437, _, none⟩) NB428_437.out _).trans (((cell_far (p := ⟨gb437, _, none⟩) NB428_437.out _).trans (hHeld.1)))), ((cell_far (p := ⟨gb437, _, none⟩) NB428_437.out _).trans (((cell_far (p := ⟨gb437, _, none⟩) NB428_437.out _).trans (hHeld.2.1)))), ((cell_far (p := ⟨gb437, _, none⟩) NB428_437.out _).trans (((cell_far (p := ⟨gb437, _, none⟩) NB428_437.out _).trans (hHeld.2.2.1)))), ((cell_far (p := ⟨gb437, _, none⟩) NB428_437.out _).trans (((cell_far (p := ⟨gb437, _, none⟩) NB428_437.out _).trans (hHeld.2.2.2.1)))), ((cell_far (p := ⟨gb437, _, none⟩) NB428_437.out _).trans (((cell_far (p := ⟨gb437, _, none⟩) NB428_437.out _).trans (hHeld.2.2.2.2))))⟩ (fun hHeld => ?_)
   clear hK K
   refine pure_ (i := 13) (N := some 7) (v := ?_) (a' := ?_) #[true, true, true, true, true, true, true, true, true, true, true, true, true, true] rfl rfl (any_of HT_.out (by kernel_rfl)) (fun _ _ _ h => h) (Or.inl ⟨by rfl, ?_⟩) ?_ ?_
   rotate_left
   ·intro w'
    go_simp
    with_reducible rfl
   rotate_left
   ·simp only [Act.put, List.setIfInBounds_toArray, List.set_cons_zero, List.set_cons_succ, i64_w, i32_w]
    rfl
   refine done_ (done_of HT_.out (by kernel_rfl)) ?_
   have hnb22 := NB428_437.out
   have hnc22 := NB437_428.out
   have hcz23_0 : w19.cell? ⟨gb428, 0, none⟩ = some (.int .u64 a0_0) := bc BK428 0
   have hcz23_1 : w19.cell? ⟨gb428, 1, none⟩ = some (.int .i64 a0_1) := bc BK428 1
   have hcz23_2 : w19.cell? ⟨gb428, 2, none⟩ = some (.int .u64 a0_2) := bc BK428 2
   have hcz23_3 : w19.cell? ⟨gb428, 3, none⟩ = some (.int .u64 a0_3) := bc BK428 3
   have hcz23_4 : w19.cell? ⟨gb428, 4, none⟩ = some (.int .i64 a0_4) := bc BK428 4
   have hfz23_0 := blk_frozen BK428.out 0
   have hfz23_1 := blk_frozen BK428.out 1
   have hfz23_2 := blk_frozen BK428.out 2
   have hfz23_3 := blk_frozen BK428.out 3
   have hfz23_4 := blk_frozen BK428.out 4
   have hnb24 := NB437_429.out
   have hnc24 := NB429_437.out
   have hcz25_0 : w19.cell? ⟨gb437, 0, none⟩ = some (.int .i64 0) := bc BK437 0
   have hcz25_1 : w19.cell? ⟨gb437, 1, none⟩ = some (.int .u64 0) := bc BK437 1
   have hfz25_0 := blk_frozen BK437.out 0
   have hfz25_1 := blk_frozen BK437.out 1
   try go_wp2_with (first | ((with_reducible refine gate_callee (f := 52) rfl ?_); refine goesL_ (some 29) rfl rfl Tryz.func52 (by kernel_rfl) rfl #[.agg #[.int .i64 a0_1, .int .u64 a0_2], .agg #[.int .i64 t434, .int .u64 t435]] rfl argt ?_; (with_reducible refine (wide_Int_Sub.calls a0_1 a0_2 t434 t435 t438 t439 true _ A8.out).mono ?_); rintro e w26 ⟨rfl, hb⟩; refine ⟨_, rfl, ?_⟩; replace BK428 := Aside0.mk (blk_below (g := gb428) (o := .cells #[.int .u64 a0_0, .int .i64 a0_1, .int .u64 a0_2, .int .u64 a0_3, .int .i64 a0_4] 33 (0, 0)) (by (with_reducible repeat (first | refine blk_drewN ?_ _ | refine blk_drew ?_ | refine blk_alloc ?_ _)); refine blk_far ?_ NB428_437.out _; (with_reducible repeat (first | refine blk_drewN ?_ _ | refine blk_drew ?_ | refine blk_alloc ?_ _)); refine blk_far ?_ NB428_437.out _; exact blkt BK428) hb); replace BK429 := Aside0.mk (blk_below (g := gb429) (o := .cells #[.int .u64 0, .int .i64 0, .int .u64 0, .int .u64 0, .int .i64 0] 33 (0, 0)) (by (with_reducible repeat (first | refine blk_drewN ?_ _ | refine blk_drew ?_ | refine blk_alloc ?_ _)); refine blk_far ?_ NB429_437.out _; (with_reducible repeat (first | refine blk_drewN ?_ _ | refine blk_drew ?_ | refine blk_alloc ?_ _)); refine blk_far ?_ NB429_437.out _; exact blkt BK429) hb); replace BK437 := Aside0.mk (blk_below (g := gb437) (o := .cells #[.int .i64 t434, .int .u64 t435] 31 (0, 0)) (by (with_reducible repeat (first | refine blk_drewN ?_ _ | refine blk_drew ?_ | refine blk_alloc ?_ _)); refine blk_put (cs := #[.int .i64 t434, .int .u64 0]) ?_ 1 _ rfl; (with_reducible repeat (first | refine blk_drewN ?_ _ | refine blk_drew ?_ | refine blk_alloc ?_ _)); refine blk_put (cs := #[.int .i64 0, .int .u64 0]) ?_ 0 _ rfl; exact blkt BK437) hb); replace HB := belb HB hb; (try clear hb); (try clear hb2); (try clear hk); (try clear hi)) | ((with_reducible refine gate_dst (N := 8) rfl ?_); refine box_event ?hg (N := 8) ?hd (cs := #[.int .i64 0, .int .u64 0]) (t := 31) ?hr ?_; (case hd => rfl); (case hg => rfl); (case hr => first | (go_simp; done) | (go_simp; rfl)); intro gb441 hg w27 hbox hb; have BK441 := Aside0.mk (hbox); have GW441 := bels HB hg; have GE441 := bels HB hg; have NB428_441 := blkl BK428 hg; have NB441_428 := blkg BK428 hg; have NB429_441 := blkl BK429 hg; have NB441_429 := blkg BK429 hg; have NB437_441 := blkl BK437 hg; have NB441_437 := blkg BK437 hg; replace BK428 := blkb BK428 hb; replace BK429 := blkb BK429 hb; replace BK437 := blkb BK437 hb; replace HB := belb HB hb; clear hb hbox hg; have hnb28 := NB441_428.out; have hnc28 := NB428_441.out; have hnb29 := NB441_429.out; have hnc29 := NB429_441.out; have hnb30 := NB441_437.out; have hnc30 := NB437_441.out; have hcz31_0 : w27.cell? ⟨gb441, 0, none⟩ = some (.int .i64 0) := bc BK441 0; have hcz31_1 : w27.cell? ⟨gb441, 1, none⟩ = some (.int .u64 0) := bc BK441 1; have hfz31_0 := blk_frozen BK441.out 0; have hfz31_1 := blk_frozen BK441.out 1; have hcz32_0 : w27.cell? ⟨gb428, 0, none⟩ = some (.int .u64 a0_0) := bc BK428 0; have hcz32_1 : w27.cell? ⟨gb428, 1, none⟩ = some (.int .i64 a0_1) := bc BK428 1; have hcz32_2 : w27.cell? ⟨gb428, 2, none⟩ = some (.int .u64 a0_2) := bc BK428 2; have hcz32_3 : w27.cell? ⟨gb428, 3, none⟩ = some (.int .u64 a0_3) := bc BK428 3; have hcz32_4 : w27.cell? ⟨gb428, 4, none⟩ = some (.int .i64 a0_4) := bc BK428 4; have hfz32_0 := blk_frozen BK428.out 0; have hfz32_1 := blk_frozen BK428.out 1; have hfz32_2 := blk_frozen BK428.out 2; have hfz32_3 := blk_frozen BK428.out 3; have hfz32_4 := blk_frozen BK428.out 4; have hcz33_0 : w27.cell? ⟨gb429, 0, none⟩ = some (.int .u64 0) := bc BK429 0; have hcz33_1 : w27.cell? ⟨gb429, 1, none⟩ = some (.int .i64 0) := bc BK429 1; have hcz33_2 : w27.cell? ⟨gb429, 2, none⟩ = some (.int .u64 0) := bc BK429 2; have hcz33_3 : w27.cell? ⟨gb429, 3, none⟩ = some (.int .u64 0) := bc BK429 3; have hcz33_4 : w27.cell? ⟨gb429, 4, none⟩ = some (.int .i64 0) := bc BK429 4; have hfz33_0 := blk_frozen BK429.out 0; have hfz33_1 := blk_frozen BK429.out 1; have hfz33_2 := blk_frozen BK429.out 2; have hfz33_3 := blk_frozen BK429.out 3; have hfz33_4 := blk_frozen BK429.out 4))
   refine bodyPost_ret (results_ct rfl _ _ gb429 33 #[.int .u64 a1, .int .i64 t438, .int .u64 t439, .int .u64 a0_3, .int .i64 a0_4] (0, 0) _ rfl (by (with_reducible repeat (first | refine blk_drewN ?_ _ | refine blk_drew ?_ | refine blk_alloc ?_ _)); refine blk_put (cs := #[.int .u64 a1, .int .i64 t438, .int .u64 t439, .int .u64 a0_3, .int .i64 0]) ?_ 4 _ rfl; (with_reducible repeat (first | refine blk_drewN ?_ _ | refine blk_drew ?_ | refine blk_alloc ?_ _)); refine blk_put (cs := #[.int .u64 a1, .int .i64 t438, .int .u64 t439, .int .u64 0, .int .i64 0]) ?_ 3 _ rfl; (with_reducible repeat (first | refine blk_drewN ?_ _ | refine blk_drew ?_ | refine blk_alloc ?_ _)); refine blk_put (cs := #[.int .u64 a1, .int .i64 t438, .int .u64 0, .int .u64 0, .int .i64 0]) ?_ 2 _ rfl; (with_reducible repeat (first | refine blk_drewN ?_ _ | refine blk_drew ?_ | refine blk_alloc ?_ _)); refine blk_put (cs := #[.int .u64 a1, .int .i64 0, .int .u64 0, .int .u64 0, .int .i64 0]) ?_ 1 _ rfl; (with_reducible repeat (first | refine blk_drewN ?_ _ | refine blk_drew ?_ | refine blk_alloc ?_ _)); refine blk_put (cs := #[.int .u64 0, .int .i64 0, .int .u64 0, .int .u64 0, .int .i64 0]) ?_ 0 _ rfl; (with_reducible repeat (first | refine blk_drewN ?_ _ | refine blk_drew ?_ | refine blk_alloc ?_ _)); refine blk_far ?_ NB429_441.out _; (with_reducible repeat (first | refine blk_drewN ?_ _ | refine blk_drew ?_ | refine blk_alloc ?_ _)); refine blk_far ?_ NB429_441.out _; exact blkt BK429) Tryz.underlying33 rfl (by kernel_rfl)) rfl ?_
   exact ⟨by first | rfl | (simp [errW_none, errW_some] <;> rfl) | (simp [*, errW_none, errW_some] <;> rfl), belt HB⟩
  replace c9 := Bool.eq_false_iff.mpr c9
  subst c9
  have H1 : (some (0, 0, 0, 0, 0, false)) = some (r1, r2, r3, r4, r5, r6) := by rw [if_neg (show ¬ (false = true) by decide)] at H; exact H
  clear H
  have H := H1
  clear H1
  simp only [Option.some.injEq, Prod.mk.injEq] at H
  obtain ⟨rfl, rfl, rfl, rfl, rfl, rfl⟩ := H
  go_enter Tryz.func17, Tryz.ntmps17
  try go_wp2_with (first | ((with_reducible refine gate_dst (N := 2) rfl ?_); refine box_event ?hg (N := 2) ?hd (cs := #[.int .u64 a0_0, .int .i64 a0_1, .int .u64 a0_2, .int .u64 a0_3, .int .i64 a0_4]) (t := 33) ?hr ?_; (case hd => rfl); (case hg => rfl); (case hr => first | (go_simp; done) | (go_simp; rfl)); intro gb428 hg w34 hbox hb; have BK428 := Aside0.mk (hbox); have GW428 := bels HB hg; have GE428 := bels HB hg; replace HB := belb HB hb; clear hb hbox hg) | ((with_reducible refine gate_dst (N := 4) rfl ?_); refine box_event ?hg (N := 4) ?hd (cs := #[.int .u64 0, .int .i64 0, .int .u64 0, .int .u64 0, .int .i64 0]) (t := 33) ?hr ?_; (case hd => rfl); (case hg => rfl); (case hr => first | (go_simp; done) | (go_simp; rfl)); intro gb429 hg w35 hbox hb; have BK429 := Aside0.mk (hbox); have GW429 := bels HB hg; have GE429 := bels HB hg; have NB428_429 := blkl BK428 hg; have NB429_428 := blkg BK428 hg; replace BK428 := blkb BK428 hb; replace HB := belb HB hb; clear hb hbox hg; have hnb36 := NB428_429.out; have hnc36 := NB429_428.out; have hcz37_0 : w35.cell? ⟨gb428, 0, none⟩ = some (.int .u64 a0_0) := bc BK428 0; have hcz37_1 : w35.cell? ⟨gb428, 1, none⟩ = some (.int .i64 a0_1) := bc BK428 1; have hcz37_2 : w35.cell? ⟨gb428, 2, none⟩ = some (.int .u64 a0_2) := bc BK428 2; have hcz37_3 : w35.cell? ⟨gb428, 3, none⟩ = some (.int .u64 a0_3) := bc BK428 3; have hcz37_4 : w35.cell? ⟨gb428, 4, none⟩ = some (.int .i64 a0_4) := bc BK428 4; have hfz37_0 := blk_frozen BK428.out 0; have hfz37_1 := blk_frozen BK428.out 1; have hfz37_2 := blk_frozen BK428.out 2; have hfz37_3 := blk_frozen BK428.out 3; have hfz37_4 := blk_frozen BK428.out 4) | ((with_reducible refine gate_callee (f := 43) rfl ?_); refine goesL_ (some 11) rfl rfl Tryz.func43 (by kernel_rfl) rfl #[.agg #[.int .u64 a0_0, .int .i64 a0_1, .int .u64 a0_2, .int .u64 a0_3, .int .i64 a0_4]] rfl argt ?_; (with_reducible refine (mean_Mean_Right.calls a0_0 a0_1 a0_2 a0_3 a0_4 true _ A3.out).mono ?_); rintro e w38 ⟨rfl, hb⟩; refine ⟨_, rfl, ?_⟩; replace BK428 := blkb BK428 hb; replace BK429 := blkb BK429 hb; replace HB := belb HB hb; (try clear hb); (try clear hb2); (try clear hk); (try clear hi)))
  replace BK428 := Aside0.mk (blk_drew BK428.out)
  replace BK429 := Aside0.mk (blk_drew BK429.out)
  replace HB := Aside0.mk (below_drew1 HB.out)
  refine start_ (n := 14) (S := fun w' => w'.cell? ⟨gb428, 0, none⟩ = some (.int .u64 a0_0) ∧ w'.cell? ⟨gb428, 1, none⟩ = some (.int .i64 a0_1) ∧ w'.cell? ⟨gb428, 2, none⟩ = some (.int .u64 a0_2) ∧ w'.cell? ⟨gb428, 3, none⟩ = some (.int .u64 a0_3) ∧ w'.cell? ⟨gb428, 4, none⟩ = some (.int .i64 a0_4)) (ds := []) #[false, false, false, false, false, false, false, false, false, false, false, false, false, false] (by kernel_rfl) rfl rfl ⟨bc BK428 0, bc BK428 1, bc BK428 2, bc BK428 3, bc BK428 4⟩ (fun hHeld => ?_); refine with_tabW mean_Mean_Rebase.tab3 mean_Mean_Rebase.bits3 (fun HT_ HW_ => ?_)
  generalize w38.drew = w39 at BK428 BK429 HB hHeld ⊢
  refine pure_ (i := 0) (N := some 15) (v := ?_) (a' := ?_) #[true, false, false, false, false, false, false, false, false, false, false, false, false, false] rfl rfl (any_of HT_.out (by kernel_rfl)) (fun _ _ _ h => h) (Or.inl ⟨by rfl, ?_⟩) ?_ ?_
  rotate_left
  ·intro w'
   go_simp
   with_reducible rfl
  rotate_left
  ·simp only [Act.put, List.setIfInBounds_toArray, List.set_cons_zero, List.set_cons_succ, i64_w, i32_w]
   rfl
  refine pure_ (i := 3) (N := some 18) (v := ?_) (a' := ?_) #[true, false, false, true, false, false, false, false, false, false, false, false, false, false] rfl rfl (any_of HT_.out (by kernel_rfl)) (fun _ _ _ h => h) (Or.inl ⟨by rfl, ?_⟩) ?_ ?_
  rotate_left
  ·intro w'
   go_simp
   with_reducible rfl
  rotate_left
  ·simp only [Act.put, List.setIfInBounds_toArray, List.set_cons_zero, List.set_cons_succ, i64_w, i32_w]
   rfl
  refine pure_ (i := 4) (N := some 19) (v := ?_) (a' := ?_) #[true, false, false, true, true, false, false, false, false, false, false, false, false, false] rfl rfl (any_of HT_.out (by kernel_rfl)) (fun _ _ _ h => h) (Or.inl ⟨by rfl, ?_⟩) ?_ ?_
  rotate_left
  ·intro w'
   go_simp
   with_reducible rfl
  rotate_left
  ·simp only [Act.put, List.setIfInBounds_toArray, List.set_cons_zero, List.set_cons_succ, i64_w, i32_w]
   rfl
  refine take_ (i := 1) (N := some 16) (v := ?_) (a' := ?_) #[true, true, false, true, true, false, false, false, false, false, false, false, false, false] rfl rfl (take_ofW HT_.out HW_.out (by kernel_rfl)) (fun _ _ _ h => h) (Or.inl ⟨by rfl, ?_⟩) hHeld ?_ ?_
  rotate_left
  ·rintro w' ⟨s0, s1, s2, s3, s4⟩
   go_simp
   with_reducible rfl
  rotate_left
  ·simp only [Act.put, List.setIfInBounds_toArray, List.set_cons_zero, List.set_cons_succ, i64_w, i32_w]
   rfl
  refine take_ (i := 5) (N := some 20) (v := ?_) (a' := ?_) #[true, true, false, true, true, true, false, false, false, false, false, false, false, false] rfl rfl (take_ofW HT_.out HW_.out (by kernel_rfl)) (fun _ _ _ h => h) (Or.inl ⟨by rfl, ?_⟩) hHeld ?_ ?_
  rotate_left
  ·rintro w' ⟨s0, s1, s2, s3, s4⟩
   go_simp
   with_reducible rfl
  rotate_left
  ·simp only [Act.put, List.setIfInBounds_toArray, List.set_cons_zero, List.set_cons_succ, i64_w, i32_w]
   rfl
  refine join_ (σ := Nat) 2 #[true, true, true, true, true, true, true, true, true, true, true, true, false, false] (fun s_ => [(17, .agg #[.int .i64 t431, .int .u64 t432]), (21, .int .i64 t433), (22, .tuple #[.agg #[.int .i64 t434, .int .u64 t435], .bool t436]), (6, .pointer (some ⟨s_, 0, none⟩)), (14, .tuple #[.agg #[.int .i64 t434, .int .u64 t435], .bool t436]), (23, .agg #[.int .i64 t434, .int .u64 t435]), (24, .bool t436)]) (fun s_ w' => (w'.cell? ⟨gb428, 0, none⟩ = some (.int .u64 a0_0) ∧ w'.cell? ⟨gb428, 1, none⟩ = some (.int .i64 a0_1) ∧ w'.cell? ⟨gb428, 2, none⟩ = some (.int .u64 a0_2) ∧ w'.cell? ⟨gb428, 3, none⟩ = some (.int .u64 a0_3) ∧ w'.cell? ⟨gb428, 4, none⟩ = some (.int .i64 a0_4)) ∧ (w'.heap[gb428]? = some (.cells #[.int .u64 a0_0, .int .i64 a0_1, .int .u64 a0_2, .int .u64 a0_3, .int .i64 a0_4] 33 (0, 0))) ∧ (w'.heap[gb429]? = some (.cells #[.int .u64 0, .int .i64 0, .int .u64 0, .int .u64 0, .int .i64 0] 33 (0, 0))) ∧ (w'.heap[s_]? = some (.cells #[.int .i64 0, .int .u64 0] 31 (0, 0))) ∧ (w.heap.size ≤ s_) ∧ (w.heap.size ≤ s_) ∧ (gb428 ≠ s_) ∧ (s_ ≠ gb428) ∧ (gb429 ≠ s_) ∧ (s_ ≠ gb429) ∧ (Below w.heap.size w w')) ?_ ?_
  rotate_left
  ·intro hCont
   refine two_ (i := 2) (j := 11) (Ni := some 17) (Nj := some 6) #[true, true, true, true, true, true, false, false, false, false, false, false, false, false] #[true, true, false, true, true, true, false, false, false, false, false, true, false, false] rfl rfl rfl rfl (two_of HT_.out (by kernel_rfl)) (by decide) (by decide) (fun K hK => ?_) (fun K hK => ?_)
   ·skip
    refine goes_ Tryz.func50 (by kernel_rfl) rfl #[.int .u64 a0_3] (by rfl) rfl rfl argt ?_
    with_reducible refine (wide_OfU.calls a0_3 t431 t432 _ A5.out).mono ?_
    rintro e w40 ⟨rfl, hb⟩
    refine ⟨_, rfl, ?_⟩
    replace BK428 := blkb BK428 hb
    replace BK429 := blkb BK429 hb
    replace HB := belb HB hb
    (try clear hb)
    (try clear hb2)
    (try clear hk)
    (try clear hi)
    refine hK.out _ _ ⟨bc BK428 0, bc BK428 1, bc BK428 2, bc BK428 3, bc BK428 4⟩ (fun hHeld => ?_)
    clear hK K
    refine norm_ (a' := ?_) ?_ ?_
    rotate_left
    ·show Act.put _ (some 17) _ = _
     simp only [Act.put, List.setIfInBounds_toArray, List.set_cons_zero, List.set_cons_succ, i64_w, i32_w]
     rfl
    refine two_ (i := 6) (j := 11) (Ni := some 21) (Nj := some 6) #[true, true, true, true, true, true, true, false, false, false, false, false, false, false] #[true, true, true, true, true, true, false, false, false, false, false, true, false, false] rfl rfl rfl rfl (two_of HT_.out (by kernel_rfl)) (by decide) (by decide) (fun K hK => ?_) (fun K hK => ?_)
    ·skip
     refine goes_ Tryz.func13 (by kernel_rfl) rfl #[.int .u64 a1, .int .u64 a0_0] (by rfl) rfl rfl argt ?_
     with_reducible refine (vtime_Time_Since.calls a1 a0_0 t433 _ A6.out).mono ?_
     rintro e w' ⟨rfl, ⟨nd, rfl⟩⟩
     refine ⟨_, rfl, ?_⟩
     refine hK.out _ _ ⟨bc BK428 0, bc BK428 1, bc BK428 2, bc BK428 3, bc BK428 4⟩ (fun hHeld => ?_)
     clear hK K
     refine norm_ (a' := ?_) ?_ ?_
     rotate_left
     ·show Act.put _ (some 21) _ = _
      simp only [Act.put, List.setIfInBounds_toArray, List.set_cons_zero, List.set_cons_succ, i64_w, i32_w]
      rfl
     refine two_ (i := 7) (j := 11) (Ni := some 22) (Nj := some 6) #[true, true, true, true, true, true, true, true, false, false, false, false, false, false] #[true, true, true, true, true, true, true, false, false, false, false, true, false, false] rfl rfl rfl rfl (two_of HT_.out (by kernel_rfl)) (by decide) (by decide) (fun K hK => ?_) (fun K hK => ?_)
     ·skip
      refine goes_ Tryz.func51 (by kernel_rfl) rfl #[.agg #[.int .i64 t431, .int .u64 t432], .int .i64 t433] (by rfl) rfl rfl argt ?_
      with_reducible refine (wide_Int_Mul.calls k t431 t432 t433 t434 t435 t436 _ A7.out).mono ?_
      rintro e w41 ⟨rfl, hb⟩
      refine ⟨_, rfl, ?_⟩
      replace BK428 := blkb BK428 hb
      replace BK429 := blkb BK429 hb
      replace HB := belb HB hb
      (try clear hb)
      (try clear hb2)
      (try clear hk)
      (try clear hi)
      refine hK.out _ _ ⟨bc BK428 0, bc BK428 1, bc BK428 2, bc BK428 3, bc BK428 4⟩ (fun hHeld => ?_)
      clear hK K
      refine norm_ (a' := ?_) ?_ ?_
      rotate_left
      ·show Act.put _ (some 22) _ = _
       simp only [Act.put, List.setIfInBounds_toArray, List.set_cons_zero, List.set_cons_succ, i64_w, i32_w]
       rfl
      refine pure_ (i := 8) (N := some 14) (v := ?_) (a' := ?_) #[true, true, true, true, true, true, true, true, true, false, false, false, false, false] rfl rfl (any_of HT_.out (by kernel_rfl)) (fun _ _ _ h => h) (Or.inl ⟨by rfl, ?_⟩) ?_ ?_
      rotate_left
      ·intro w'
       go_simp
       with_reducible rfl
      rotate_left
      ·simp only [Act.put, List.setIfInBounds_toArray, List.set_cons_zero, List.set_cons_succ, i64_w, i32_w]
       rfl
      refine pure_ (i := 9) (N := some 23) (v := ?_) (a' := ?_) #[true, true, true, true, true, true, true, true, true, true, false, false, false, false] rfl rfl (any_of HT_.out (by kernel_rfl)) (fun _ _ _ h => h) (Or.inl ⟨by rfl, ?_⟩) ?_ ?_
      rotate_left
      ·intro w'
       go_simp
       with_reducible rfl
      rotate_left
      ·simp only [Act.put, List.setIfInBounds_toArray, List.set_cons_zero, List.set_cons_succ, i64_w, i32_w]
       rfl
      refine pure_ (i := 10) (N := some 24) (v := ?_) (a' := ?_) #[true, true, true, true, true, true, true, true, true, true, true, false, false, false] rfl rfl (any_of HT_.out (by kernel_rfl)) (fun _ _ _ h => h) (Or.inl ⟨by rfl, ?_⟩) ?_ ?_
      rotate_left
      ·intro w'
       go_simp
       with_reducible rfl
      rotate_left
      ·simp only [Act.put, List.setIfInBounds_toArray, List.set_cons_zero, List.set_cons_succ, i64_w, i32_w]
       rfl
      refine one_ (i := 11) (N := some 6) #[true, true, true, true, true, true, true, true, true, true, true, true, false, false] rfl rfl (one_of HT_.out (by kernel_rfl)) (by decide) (fun K hK => ?_)
      refine box_step ?hg (N := 6) ?hd (cs := #[.int .i64 0, .int .u64 0]) (t := 31) ?hr ?_; (case hd => rfl); (case hg => rfl); (case hr => first | (go_simp; done) | (go_simp; rfl))
      intro gb437 hg w42 hbox hb
      have BK437 := Aside0.mk (hbox)
      have GW437 := bels HB hg
      have GE437 := bels HB hg
      have NB428_437 := blkl BK428 hg
      have NB437_428 := blkg BK428 hg
      have NB429_437 := blkl BK429 hg
      have NB437_429 := blkg BK429 hg
      replace BK428 := blkb BK428 hb
      replace BK429 := blkb BK429 hb
      replace HB := belb HB hb
      clear hb hbox hg
      refine hK.out _ _ ⟨bc BK428 0, bc BK428 1, bc BK428 2, bc BK428 3, bc BK428 4⟩ (fun hHeld => ?_)
      clear hK K
      refine norm_ (a' := ?_) ?_ ?_
      rotate_left
      ·show Act.put _ (some 6) _ = _
       simp only [Act.put, List.setIfInBounds_toArray, List.set_cons_zero, List.set_cons_succ, i64_w, i32_w]
       rfl
      exact norm_ (by simp only [putAll, Act.put, List.setIfInBounds_toArray, List.set_cons_zero, List.set_cons_succ]) (hCont (gb437) _ ⟨hHeld, (blkt BK428), (blkt BK429), (blkt BK437), GW437.out, GE437.out, NB428_437.out, NB437_428.out, NB429_437.out, NB437_429.out, (belt HB)⟩)
     skip
     refine box_step ?hg (N := 6) ?hd (cs := #[.int .i64 0, .int .u64 0]) (t := 31) ?hr ?_; (case hd => rfl); (case hg => rfl); (case hr => first | (go_simp; done) | (go_simp; rfl))
     intro gb437 hg w41 hbox hb
     have BK437 := Aside0.mk (hbox)
     have GW437 := bels HB hg
     have GE437 := bels HB hg
     have NB428_437 := blkl BK428 hg
     have NB437_428 := blkg BK428 hg
     have NB429_437 := blkl BK429 hg
     have NB437_429 := blkg BK429 hg
     replace BK428 := blkb BK428 hb
     replace BK429 := blkb BK429 hb
     replace HB := belb HB hb
     clear hb hbox hg
     refine hK.out _ _ ⟨bc BK428 0, bc BK428 1, bc BK428 2, bc BK428 3, bc BK428 4⟩ (fun hHeld => ?_)
     clear hK K
     refine norm_ (a' := ?_) ?_ ?_
     rotate_left
     ·show Act.put _ (some 6) _ = _
      simp only [Act.put, List.setIfInBounds_toArray, List.set_cons_zero, List.set_cons_succ, i64_w, i32_w]
      rfl
     refine one_ (i := 7) (N := some 22) #[true, true, true, true, true, true, true, true, false, false, false, true, false, false] rfl rfl (one_of HT_.out (by kernel_rfl)) (by decide) (fun K hK => ?_)
     refine goes_ Tryz.func51 (by kernel_rfl) rfl #[.agg #[.int .i64 t431, .int .u64 t432], .int .i64 t433] (by rfl) rfl rfl argt ?_
     with_reducible refine (wide_Int_Mul.calls k t431 t432 t433 t434 t435 t436 _ A7.out).mono ?_
     rintro e w42 ⟨rfl, hb⟩
     refine ⟨_, rfl, ?_⟩
     replace BK428 := blkb BK428 hb
     replace BK429 := blkb BK429 hb
     replace BK437 := blkb BK437 hb
     replace HB := belb HB hb
     (try clear hb)
     (try clear hb2)
     (try clear hk)
     (try clear hi)
     refine hK.out _ _ ⟨bc BK428 0, bc BK428 1, bc BK428 2, bc BK428 3, bc BK428 4⟩ (fun hHeld => ?_)
     clear hK K
     refine norm_ (a' := ?_) ?_ ?_
     rotate_left
     ·show Act.put _ (some 22) _ = _
      simp only [Act.put, List.setIfInBounds_toArray, List.set_cons_zero, List.set_cons_succ, i64_w, i32_w]
      rfl
     refine pure_ (i := 8) (N := some 14) (v := ?_) (a' := ?_) #[true, true, true, true, true, true, true, true, true, false, false, true, false, false] rfl rfl (any_of HT_.out (by kernel_rfl)) (fun _ _ _ h => h) (Or.inl ⟨by rfl, ?_⟩) ?_ ?_
     rotate_left
     ·intro w'
      go_simp
      with_reducible rfl
     rotate_left
     ·simp only [Act.put, List.setIfInBounds_toArray, List.set_cons_zero, List.set_cons_succ, i64_w, i32_w]
      rfl
     refine pure_ (i := 9) (N := some 23) (v := ?_) (a' := ?_) #[true, true, true, true, true, true, true, true, true, true, false, true, false, false] rfl rfl (any_of HT_.out (by kernel_rfl)) (fun _ _ _ h => h) (Or.inl ⟨by rfl, ?_⟩) ?_ ?_
     rotate_left
     ·intro w'
      go_simp
      with_reducible rfl
     rotate_left
     ·simp only [Act.put, List.setIfInBounds_toArray, List.set_cons_zero, List.set_cons_succ, i64_w, i32_w]
      rfl
     refine pure_ (i := 10) (N := some 24) (v := ?_) (a' := ?_) #[true, true, true, true, true, true, true, true, true, true, true, true, false, false] rfl rfl (any_of HT_.out (by kernel_rfl)) (fun _ _ _ h => h) (Or.inl ⟨by rfl, ?_⟩) ?_ ?_
     rotate_left
     ·intro w'
      go_simp
      with_reducible rfl
     rotate_left
     ·simp only [Act.put, List.setIfInBounds_toArray, List.set_cons_zero, List.set_cons_succ, i64_w, i32_w]
      rfl
     exact norm_ (by simp only [putAll, Act.put, List.setIfInBounds_toArray, List.set_cons_zero, List.set_cons_succ]) (hCont (gb437) _ ⟨hHeld, (blkt BK428), (blkt BK429), (blkt BK437), GW437.out, GE437.out, NB428_437.out, NB437_428.out, NB429_437.out, NB437_429.out, (belt HB)⟩)
    skip
    refine box_step ?hg (N := 6) ?hd (cs := #[.int .i64 0, .int .u64 0]) (t := 31) ?hr ?_; (case hd => rfl); (case hg => rfl); (case hr => first | (go_simp; done) | (go_simp; rfl))
    intro gb437 hg w41 hbox hb
    have BK437 := Aside0.mk (hbox)
    have GW437 := bels HB hg
    have GE437 := bels HB hg
    have NB428_437 := blkl BK428 hg
    have NB437_428 := blkg BK428 hg
    have NB429_437 := blkl BK429 hg
    have NB437_429 := blkg BK429 hg
    replace BK428 := blkb BK428 hb
    replace BK429 := blkb BK429 hb
    replace HB := belb HB hb
    clear hb hbox hg
    refine hK.out _ _ ⟨bc BK428 0, bc BK428 1, bc BK428 2, bc BK428 3, bc BK428 4⟩ (fun hHeld => ?_)
    clear hK K
    refine norm_ (a' := ?_) ?_ ?_
    rotate_left
    ·show Act.put _ (some 6) _ = _
     simp only [Act.put, List.setIfInBounds_toArray, List.set_cons_zero, List.set_cons_succ, i64_w, i32_w]
     rfl
    refine one_ (i := 6) (N := some 21) #[true, true, true, true, true, true, true, false, false, false, false, true, false, false] rfl rfl (one_of HT_.out (by kernel_rfl)) (by decide) (fun K hK => ?_)
    refine goes_ Tryz.func13 (by kernel_rfl) rfl #[.int .u64 a1, .int .u64 a0_0] (by rfl) rfl rfl argt ?_
    with_reducible refine (vtime_Time_Since.calls a1 a0_0 t433 _ A6.out).mono ?_
    rintro e w' ⟨rfl, ⟨nd, rfl⟩⟩
    refine ⟨_, rfl, ?_⟩
    refine hK.out _ _ ⟨bc BK428 0, bc BK428 1, bc BK428 2, bc BK428 3, bc BK428 4⟩ (fun hHeld => ?_)
    clear hK K
    refine norm_ (a' := ?_) ?_ ?_
    rotate_left
    ·show Act.put _ (some 21) _ = _
     simp only [Act.put, List.setIfInBounds_toArray, List.set_cons_zero, List.set_cons_succ, i64_w, i32_w]
     rfl
    refine one_ (i := 7) (N := some 22) #[true, true, true, true, true, true, true, true, false, false, false, true, false, false] rfl rfl (one_of HT_.out (by kernel_rfl)) (by decide) (fun K hK => ?_)
    refine goes_ Tryz.func51 (by kernel_rfl) rfl #[.agg #[.int .i64 t431, .int .u64 t432], .int .i64 t433] (by rfl) rfl rfl argt ?_
    with_reducible refine (wide_Int_Mul.calls k t431 t432 t433 t434 t435 t436 _ A7.out).mono ?_
    rintro e w42 ⟨rfl, hb⟩
    refine ⟨_, rfl, ?_⟩
    replace BK428 := blkb BK428 hb
    replace BK429 := blkb BK429 hb
    replace BK437 := blkb BK437 hb
    replace HB := belb HB hb
    (try clear hb)
    (try clear hb2)
    (try clear hk)
    (try clear hi)
    refine hK.out _ _ ⟨bc BK428 0, bc BK428 1, bc BK428 2, bc BK428 3, bc BK428 4⟩ (fun hHeld => ?_)
    clear hK K
    refine norm_ (a' := ?_) ?_ ?_
    rotate_left
    ·show Act.put _ (some 22) _ = _
     simp only [Act.put, List.setIfInBounds_toArray, List.set_cons_zero, List.set_cons_succ, i64_w, i32_w]
     rfl
    refine pure_ (i := 8) (N := some 14) (v := ?_) (a' := ?_) #[true, true, true, true, true, true, true, true, true, false, false, true, false, false] rfl rfl (any_of HT_.out (by kernel_rfl)) (fun _ _ _ h => h) (Or.inl ⟨by rfl, ?_⟩) ?_ ?_
    rotate_left
    ·intro w'
     go_simp
     with_reducible rfl
    rotate_left
    ·simp only [Act.put, List.setIfInBounds_toArray, List.set_cons_zero, List.set_cons_succ, i64_w, i32_w]
     rfl
    refine pure_ (i := 9) (N := some 23) (v := ?_) (a' := ?_) #[true, true, true, true, true, true, true, true, true, true, false, true, false, false] rfl rfl (any_of HT_.out (by kernel_rfl)) (fun _ _ _ h => h) (Or.inl ⟨by rfl, ?_⟩) ?_ ?_
    rotate_left
    ·intro w'
     go_simp
     with_reducible rfl
    rotate_left
    ·simp only [Act.put, List.setIfInBounds_toArray, List.set_cons_zero, List.set_cons_succ, i64_w, i32_w]
     rfl
    refine pure_ (i := 10) (N := some 24) (v := ?_) (a' := ?_) #[true, true, true, true, true, true, true, true, true, true, true, true, false, false] rfl rfl (any_of HT_.out (by kernel_rfl)) (fun _ _ _ h => h) (Or.inl ⟨by rfl, ?_⟩) ?_ ?_
    rotate_left
    ·intro w'
     go_simp
     with_reducible rfl
    rotate_left
    ·simp only [Act.put, List.setIfInBounds_toArray, List.set_cons_zero, List.set_cons_succ, i64_w, i32_w]
     rfl
    exact norm_ (by simp only [putAll, Act.put, List.setIfInBounds_toArray, List.set_cons_zero, List.set_cons_succ]) (hCont (gb437) _ ⟨hHeld, (blkt BK428), (blkt BK429), (blkt BK437), GW437.out, GE437.out, NB428_437.out, NB437_428.out, NB429_437.out, NB437_429.out, (belt HB)⟩)
   skip
   refine box_step ?hg (N := 6) ?hd (cs := #[.int .i64 0, .int .u64 0]) (t := 31) ?hr ?_; (case hd => rfl); (case hg => rfl); (case hr => first | (go_simp; done) | (go_simp; rfl))
   intro gb437 hg w40 hbox hb
   have BK437 := Aside0.mk (hbox)
   have GW437 := bels HB hg
   have GE437 := bels HB hg
   have NB428_437 := blkl BK428 hg
   have NB437_428 := blkg BK428 hg
   have NB429_437 := blkl BK429 hg
   have NB437_429 := blkg BK429 hg
   replace BK428 := blkb BK428 hb
   replace BK429 := blkb BK429 hb
   replace HB := belb HB hb
   clear hb hbox hg
   refine hK.out _ _ ⟨bc BK428 0, bc BK428 1, bc BK428 2, bc BK428 3, bc BK428 4⟩ (fun hHeld => ?_)
   clear hK K
   refine norm_ (a' := ?_) ?_ ?_
   rotate_left
   ·show Act.put _ (some 6) _ = _
    simp only [Act.put, List.setIfInBounds_toArray, List.set_cons_zero, List.set_cons_succ, i64_w, i32_w]
    rfl
   refine one_ (i := 2) (N := some 17) #[true, true, true, true, true, true, false, false, false, false, false, true, false, false] rfl rfl (one_of HT_.out (by kernel_rfl)) (by decide) (fun K hK => ?_)
   refine goes_ Tryz.func50 (by kernel_rfl) rfl #[.int .u64 a0_3] (by rfl) rfl rfl argt ?_
   with_reducible refine (wide_OfU.calls a0_3 t431 t432 _ A5.out).mono ?_
   rintro e w41 ⟨rfl, hb⟩
   refine ⟨_, rfl, ?_⟩
   replace BK428 := blkb BK428 hb
   replace BK429 := blkb BK429 hb
   replace BK437 := blkb BK437 hb
   replace HB := belb HB hb
   (try clear hb)
   (try clear hb2)
   (try clear hk)
   (try clear hi)
   refine hK.out _ _ ⟨bc BK428 0, bc BK428 1, bc BK428 2, bc BK428 3, bc BK428 4⟩ (fun hHeld => ?_)
   clear hK K
   refine norm_ (a' := ?_) ?_ ?_
   rotate_left
   ·show Act.put _ (some 17) _ = _
    simp only [Act.put, List.setIfInBounds_toArray, List.set_cons_zero, List.set_cons_succ, i64_w, i32_w]
    rfl
   refine one_ (i := 6) (N := some 21) #[true, true, true, true, true, true, true, false, false, false, false, true, false, false] rfl rfl (one_of HT_.out (by kernel_rfl)) (by decide) (fun K hK => ?_)
   refine goes_ Tryz.func13 (by kernel_rfl) rfl #[.int .u64 a1, .int .u64 a0_0] (by rfl) rfl rfl argt ?_
   with_reducible refine (vtime_Time_Since.calls a1 a0_0 t433 _ A6.out).mono ?_
   rintro e w' ⟨rfl, ⟨nd, rfl⟩⟩
   refine ⟨_, rfl, ?_⟩
   refine hK.out _ _ ⟨bc BK428 0, bc BK428 1, bc BK428 2, bc BK428 3, bc BK428 4⟩ (fun hHeld => ?_)
   clear hK K
   refine norm_ (a' := ?_) ?_ ?_
   rotate_left
   ·show Act.put _ (some 21) _ = _
    simp only [Act.put, List.setIfInBounds_toArray, List.set_cons_zero, List.set_cons_succ, i64_w, i32_w]
    rfl
   refine one_ (i := 7) (N := some 22) #[true, true, true, true, true, true, true, true, false, false, false, true, false, false] rfl rfl (one_of HT_.out (by kernel_rfl)) (by decide) (fun K hK => ?_)
   refine goes_ Tryz.func51 (by kernel_rfl) rfl #[.agg #[.int .i64 t431, .int .u64 t432], .int .i64 t433] (by rfl) rfl rfl argt ?_
   with_reducible refine (wide_Int_Mul.calls k t431 t432 t433 t434 t435 t436 _ A7.out).mono ?_
   rintro e w42 ⟨rfl, hb⟩
   refine ⟨_, rfl, ?_⟩
   replace BK428 := blkb BK428 hb
   replace BK429 := blkb BK429 hb
   replace BK437 := blkb BK437 hb
   replace HB := belb HB hb
   (try clear hb)
   (try clear hb2)
   (try clear hk)
   (try clear hi)
   refine hK.out _ _ ⟨bc BK428 0, bc BK428 1, bc BK428 2, bc BK428 3, bc BK428 4⟩ (fun hHeld => ?_)
   clear hK K
   refine norm_ (a' := ?_) ?_ ?_
   rotate_left
   ·show Act.put _ (some 22) _ = _
    simp only [Act.put, List.setIfInBounds_toArray, List.set_cons_zero, List.set_cons_succ, i64_w, i32_w]
    rfl
   refine pure_ (i := 8) (N := some 14) (v := ?_) (a' := ?_) #[true, true, true, true, true, true, true, true, true, false, false, true, false, false] rfl rfl (any_of HT_.out (by kernel_rfl)) (fun _ _ _ h => h) (Or.inl ⟨by rfl, ?_⟩) ?_ ?_
   rotate_left
   ·intro w'
    go_simp
    with_reducible rfl
   rotate_left
   ·simp only [Act.put, List.setIfInBounds_toArray, List.set_cons_zero, List.set_cons_succ, i64_w, i32_w]
    rfl
   refine pure_ (i := 9) (N := some 23) (v := ?_) (a' := ?_) #[true, true, true, true, true, true, true, true, true, true, false, true, false, false] rfl rfl (any_of HT_.out (by kernel_rfl)) (fun _ _ _ h => h) (Or.inl ⟨by rfl, ?_⟩) ?_ ?_
   rotate_left
   ·intro w'
    go_simp
    with_reducible rfl
   rotate_left
   ·simp only [Act.put, List.setIfInBounds_toArray, List.set_cons_zero, List.set_cons_succ, i64_w, i32_w]
    rfl
   refine pure_ (i := 10) (N := some 24) (v := ?_) (a' := ?_) #[true, true, true, true, true, true, true, true, true, true, true, true, false, false] rfl rfl (any_of HT_.out (by kernel_rfl)) (fun _ _ _ h => h) (Or.inl ⟨by rfl, ?_⟩) ?_ ?_
   rotate_left
   ·intro w'
    go_simp
    with_reducible rfl
   rotate_left
   ·simp only [Act.put, List.setIfInBounds_toArray, List.set_cons_zero, List.set_cons_succ, i64_w, i32_w]
    rfl
   exact norm_ (by simp only [putAll, Act.put, List.setIfInBounds_toArray, List.set_cons_zero, List.set_cons_succ]) (hCont (gb437) _ ⟨hHeld, (blkt BK428), (blkt BK429), (blkt BK437), GW437.out, GE437.out, NB428_437.out, NB437_428.out, NB429_437.out, NB437_429.out, (belt HB)⟩)
  rintro gb437 w43 ⟨hS_, h0_, h1_, h2_, h3_, h4_, h5_, h6_, h7_, h8_, h9_⟩
  replace BK428 : Aside0 (w43.heap[gb428]? = some (.cells #[.int .u64 a0_0, .int .i64 a0_1, .int .u64 a0_2, .int .u64 a0_3, .int .i64 a0_4] 33 (0, 0))) := ⟨h0_⟩
  replace BK429 : Aside0 (w43.heap[gb429]? = some (.cells #[.int .u64 0, .int .i64 0, .int .u64 0, .int .u64 0, .int .i64 0] 33 (0, 0))) := ⟨h1_⟩
  have BK437 : Aside0 (w43.heap[gb437]? = some (.cells #[.int .i64 0, .int .u64 0] 31 (0, 0))) := ⟨h2_⟩
  have GW437 : Aside0 (w.heap.size ≤ gb437) := ⟨h3_⟩
  have GE437 : Aside0 (w.heap.size ≤ gb437) := ⟨h4_⟩
  have NB428_437 : Aside0 (gb428 ≠ gb437) := ⟨h5_⟩
  have NB437_428 : Aside0 (gb437 ≠ gb428) := ⟨h6_⟩
  have NB429_437 : Aside0 (gb429 ≠ gb437) := ⟨h7_⟩
  have NB437_429 : Aside0 (gb437 ≠ gb429) := ⟨h8_⟩
  replace HB : Aside0 (Below w.heap.size w w43) := ⟨h9_⟩
  clear h0_ h1_ h2_ h3_ h4_ h5_ h6_ h7_ h8_ h9_
  have hHeld : w43.cell? ⟨gb428, 0, none⟩ = some (.int .u64 a0_0) ∧ w43.cell? ⟨gb428, 1, none⟩ = some (.int .i64 a0_1) ∧ w43.cell? ⟨gb428, 2, none⟩ = some (.int .u64 a0_2) ∧ w43.cell? ⟨gb428, 3, none⟩ = some (.int .u64 a0_3) ∧ w43.cell? ⟨gb428, 4, none⟩ = some (.int .i64 a0_4) := hS_
  refine norm_ (a' := ?_) ?_ ?_
  rotate_left
  ·simp only [putAll, Act.put, List.setIfInBounds_toArray, List.set_cons_zero, List.set_cons_succ]
   rfl
  refine one_ (i := 12) (N := none) #[true, true, true, true, true, true, true, true, true, true, true, true, true, false] rfl rfl (one_of HT_.out (by kernel_rfl)) (by decide) (fun K hK => ?_)
  have hs44 : w43.cell? ⟨gb437, 0, none⟩ = some (.int .i64 0) := bc BK437 0
  have hfs44 := blk_frozen BK437.out 0
  have hns44_0 := NB428_437.out
  have hns44_1 := NB429_437.out
  have hms44_0 := NB437_428.out
  have hms44_1 := NB437_429.out
  have hs45 : w43.cell? ⟨gb437, 1, none⟩ = some (.int .u64 0) := bc BK437 1
  have hfs45 := blk_frozen BK437.out 1
  have hns45_0 := NB428_437.out
  have hns45_1 := NB429_437.out
  have hms45_0 := NB437_428.out
  have hms45_1 := NB437_429.out
  refine skip_ (w1 := ?_) (by rfl) rfl ?_ ?_
  rotate_left
  ·go_simp
   rfl
  refine hK.out _ _ ⟨((cell_far (p := ⟨gb437, _, none⟩) NB428_437.out _).trans (((cell_far (p := ⟨gb437, _, none⟩) NB428_437.out _).trans (hHeld.1)))), ((cell_far (p := ⟨gb437, _, none⟩) NB428_437.out _).trans (((cell_far (p := ⟨gb437, _, none⟩) NB428_437.out _).trans (hHeld.2.1)))), ((cell_far (p := ⟨gb437, _, none⟩) NB428_437.out _).trans (((cell_far (p := ⟨gb437, _, none⟩) NB428_437.out _).trans (hHeld.2.2.1)))), ((cell_far (p := ⟨gb437, _, none⟩) NB428_437.out _).trans (((cell_far (p := ⟨gb437, _, none⟩) NB428_437.out _).trans (hHeld.2.2.2.1)))), ((cell_far (p := ⟨gb437, _, none⟩) NB428_437.out _).trans (((cell_far (p := ⟨gb437, _, none⟩) NB428_437.out _).trans (hHeld.2.2.2.2))))⟩ (fun hHeld => ?_)
  clear hK K
  refine pure_ (i := 13) (N := some 7) (v := ?_) (a' := ?_) #[true, true, true, true, true, true, true, true, true, true, true, true, true, true] rfl rfl (any_of HT_.out (by kernel_rfl)) (fun _ _ _ h => h) (Or.inl ⟨by rfl, ?_⟩) ?_ ?_
  rotate_left
  ·intro w'
   go_simp
   with_reducible rfl
  rotate_left
  ·simp only [Act.put, List.setIfInBounds_toArray, List.set_cons_zero, List.set_cons_succ, i64_w, i32_w]
   rfl
  refine done_ (done_of HT_.out (by kernel_rfl)) ?_
  have hnb46 := NB428_437.out
  have hnc46 := NB437_428.out
  have hcz47_0 : w43.cell? ⟨gb428, 0, none⟩ = some (.int .u64 a0_0) := bc BK428 0
  have hcz47_1 : w43.cell? ⟨gb428, 1, none⟩ = some (.int .i64 a0_1) := bc BK428 1
  have hcz47_2 : w43.cell? ⟨gb428, 2, none⟩ = some (.int .u64 a0_2) := bc BK428 2
  have hcz47_3 : w43.cell? ⟨gb428, 3, none⟩ = some (.int .u64 a0_3) := bc BK428 3
  have hcz47_4 : w43.cell? ⟨gb428, 4, none⟩ = some (.int .i64 a0_4) := bc BK428 4
  have hfz47_0 := blk_frozen BK428.out 0
  have hfz47_1 := blk_frozen BK428.out 1
  have hfz47_2 := blk_frozen BK428.out 2
  have hfz47_3 := blk_frozen BK428.out 3
  have hfz47_4 := blk_frozen BK428.out 4
  have hnb48 := NB437_429.out
  have hnc48 := NB429_437.out
  have hcz49_0 : w43.cell? ⟨gb437, 0, none⟩ = some (.int .i64 0) := bc BK437 0
  have hcz49_1 : w43.cell? ⟨gb437, 1, none⟩ = some (.int .u64 0) := bc BK437 1
  have hfz49_0 := blk_frozen BK437.out 0
  have hfz49_1 := blk_frozen BK437.out 1
  try go_wp2_with (first | ((with_reducible refine gate_callee (f := 52) rfl ?_); refine goesL_ (some 29) rfl rfl Tryz.func52 (by kernel_rfl) rfl #[.agg #[.int .i64 a0_1, .int .u64 a0_2], .agg #[.int .i64 t434, .int .u64 t435]] rfl argt ?_; (with_reducible refine (wide_Int_Sub.calls a0_1 a0_2 t434 t435 t438 t439 false _ A8.out).mono ?_); rintro e w50 ⟨rfl, hb⟩; refine ⟨_, rfl, ?_⟩; replace BK428 := Aside0.mk (blk_below (g := gb428) (o := .cells #[.int .u64 a0_0, .int .i64 a0_1, .int .u64 a0_2, .int .u64 a0_3, .int .i64 a0_4] 33 (0, 0)) (by (with_reducible repeat (first | refine blk_drewN ?_ _ | refine blk_drew ?_ | refine blk_alloc ?_ _)); refine blk_far ?_ NB428_437.out _; (with_reducible repeat (first | refine blk_drewN ?_ _ | refine blk_drew ?_ | refine blk_alloc ?_ _)); refine blk_far ?_ NB428_437.out _; exact blkt BK428) hb); replace BK429 := Aside0.mk (blk_below (g := gb429) (o := .cells #[.int .u64 0, .int .i64 0, .int .u64 0, .int .u64 0, .int .i64 0] 33 (0, 0)) (by (with_reducible repeat (first | refine blk_drewN ?_ _ | refine blk_drew ?_ | refine blk_alloc ?_ _)); refine blk_far ?_ NB429_437.out _; (with_reducible repeat (first | refine blk_drewN ?_ _ | refine blk_drew ?_ | refine blk_alloc ?_ _)); refine blk_far ?_ NB429_437.out _; exact blkt BK429) hb); replace BK437 := Aside0.mk (blk_below (g := gb437) (o := .cells #[.int .i64 t434, .int .u64 t435] 31 (0, 0)) (by (with_reducible repeat (first | refine blk_drewN ?_ _ | refine blk_drew ?_ | refine blk_alloc ?_ _)); refine blk_put (cs := #[.int .i64 t434, .int .u64 0]) ?_ 1 _ rfl; (with_reducible repeat (first | refine blk_drewN ?_ _ | refine blk_drew ?_ | refine blk_alloc ?_ _)); refine blk_put (cs := #[.int .i64 0, .int .u64 0]) ?_ 0 _ rfl; exact blkt BK437) hb); replace HB := belb HB hb; (try clear hb); (try clear hb2); (try clear hk); (try clear hi)) | ((with_reducible refine gate_dst (N := 8) rfl ?_); refine box_event ?hg (N := 8) ?hd (cs := #[.int .i64 0, .int .u64 0]) (t := 31) ?hr ?_; (case hd => rfl); (case hg => rfl); (case hr => first | (go_simp; done) | (go_simp; rfl)); intro gb441 hg w51 hbox hb; have BK441 := Aside0.mk (hbox); have GW441 := bels HB hg; have GE441 := bels HB hg; have NB428_441 := blkl BK428 hg; have NB441_428 := blkg BK428 hg; have NB429_441 := blkl BK429 hg; have NB441_429 := blkg BK429 hg; have NB437_441 := blkl BK437 hg; have NB441_437 := blkg BK437 hg; replace BK428 := blkb BK428 hb; replace BK429 := blkb BK429 hb; replace BK437 := blkb BK437 hb; replace HB := belb HB hb; clear hb hbox hg; have hnb52 := NB441_428.out; have hnc52 := NB428_441.out; have hnb53 := NB441_429.out; have hnc53 := NB429_441.out; have hnb54 := NB441_437.out; have hnc54 := NB437_441.out; have hcz55_0 : w51.cell? ⟨gb441, 0, none⟩ = some (.int .i64 0) := bc BK441 0; have hcz55_1 : w51.cell? ⟨gb441, 1, none⟩ = some (.int .u64 0) := bc BK441 1; have hfz55_0 := blk_frozen BK441.out 0; have hfz55_1 := blk_frozen BK441.out 1; have hcz56_0 : w51.cell? ⟨gb429, 0, none⟩ = some (.int .u64 0) := bc BK429 0; have hcz56_1 : w51.cell? ⟨gb429, 1, none⟩ = some (.int .i64 0) := bc BK429 1; have hcz56_2 : w51.cell? ⟨gb429, 2, none⟩ = some (.int .u64 0) := bc BK429 2; have hcz56_3 : w51.cell? ⟨gb429, 3, none⟩ = some (.int .u64 0) := bc BK429 3; have hcz56_4 : w51.cell? ⟨gb429, 4, none⟩ = some (.int .i64 0) := bc BK429 4; have hfz56_0 := blk_frozen BK429.out 0; have hfz56_1 := blk_frozen BK429.out 1; have hfz56_2 := blk_frozen BK429.out 2; have hfz56_3 := blk_frozen BK429.out 3; have hfz56_4 := blk_frozen BK429.out 4))
  refine bodyPost_ret (results_ct rfl _ _ gb429 33 #[.int .u64 0, .int .i64 0, .int .u64 0, .int .u64 0, .int .i64 0] (0, 0) _ rfl (by (with_reducible repeat (first | refine blk_drewN ?_ _ | refine blk_drew ?_ | refine blk_alloc ?_ _)); refine blk_put (cs := #[.int .u64 0, .int .i64 0, .int .u64 0, .int .u64 0, .int .i64 0]) ?_ 4 _ rfl; (with_reducible repeat (first | refine blk_drewN ?_ _ | refine blk_drew ?_ | refine blk_alloc ?_ _)); refine blk_put (cs := #[.int .u64 0, .int .i64 0, .int .u64 0, .int .u64 0, .int .i64 0]) ?_ 3 _ rfl; (with_reducible repeat (first | refine blk_drewN ?_ _ | refine blk_drew ?_ | refine blk_alloc ?_ _)); refine blk_put (cs := #[.int .u64 0, .int .i64 0, .int .u64 0, .int .u64 0, .int .i64 0]) ?_ 2 _ rfl; (with_reducible repeat (first | refine blk_drewN ?_ _ | refine blk_drew ?_ | refine blk_alloc ?_ _)); refine blk_put (cs := #[.int .u64 0, .int .i64 0, .int .u64 0, .int .u64 0, .int .i64 0]) ?_ 1 _ rfl; (with_reducible repeat (first | refine blk_drewN ?_ _ | refine blk_drew ?_ | refine blk_alloc ?_ _)); refine blk_put (cs := #[.int .u64 0, .int .i64 0, .int .u64 0, .int .u64 0, .int .i64 0]) ?_ 0 _ rfl; (with_reducible repeat (first | refine blk_drewN ?_ _ | refine blk_drew ?_ | refine blk_alloc ?_ _)); refine blk_far ?_ NB429_441.out _; (with_reducible repeat (first | refine blk_drewN ?_ _ | refine blk_drew ?_ | refine blk_alloc ?_ _)); refine blk_far ?_ NB429_441.out _; exact blkt BK429) Tryz.underlying33 rfl (by kernel_rfl)) rfl ?_
  exact ⟨by first | rfl | (simp [errW_none, errW_some] <;> rfl) | (simp [*, errW_none, errW_some] <;> rfl), belt HB⟩
 replace c4 := Bool.eq_false_iff.mpr c4
 subst c4
 have H1 : (some (0, 0, 0, 0, 0, false)) = some (r1, r2, r3, r4, r5, r6) := by rw [if_neg (show ¬ (false = true) by decide)] at H; exact H
 clear H
 have H := H1
 clear H1
 simp only [Option.some.injEq, Prod.mk.injEq] at H
 obtain ⟨rfl, rfl, rfl, rfl, rfl, rfl⟩ := H
 go_enter Tryz.func17, Tryz.ntmps17
 go_wp2_with (first | ((with_reducible refine gate_dst (N := 2) rfl ?_); refine box_event ?hg (N := 2) ?hd (cs := #[.int .u64 a0_0, .int .i64 a0_1, .int .u64 a0_2, .int .u64 a0_3, .int .i64 a0_4]) (t := 33) ?hr ?_; (case hd => rfl); (case hg => rfl); (case hr => first | (go_simp; done) | (go_simp; rfl)); intro gb428 hg w57 hbox hb; have BK428 := Aside0.mk (hbox); have GW428 := bels HB hg; have GE428 := bels HB hg; replace HB := belb HB hb; clear hb hbox hg) | ((with_reducible refine gate_dst (N := 4) rfl ?_); refine box_event ?hg (N := 4) ?hd (cs := #[.int .u64 0, .int .i64 0, .int .u64 0, .int .u64 0, .int .i64 0]) (t := 33) ?hr ?_; (case hd => rfl); (case hg => rfl); (case hr => first | (go_simp; done) | (go_simp; rfl)); intro gb429 hg w58 hbox hb; have BK429 := Aside0.mk (hbox); have GW429 := bels HB hg; have GE429 := bels HB hg; have NB428_429 := blkl BK428 hg; have NB429_428 := blkg BK428 hg; replace BK428 := blkb BK428 hb; replace HB := belb HB hb; clear hb hbox hg; have hnb59 := NB428_429.out; have hnc59 := NB429_428.out; have hcz60_0 : w58.cell? ⟨gb428, 0, none⟩ = some (.int .u64 a0_0) := bc BK428 0; have hcz60_1 : w58.cell? ⟨gb428, 1, none⟩ = some (.int .i64 a0_1) := bc BK428 1; have hcz60_2 : w58.cell? ⟨gb428, 2, none⟩ = some (.int .u64 a0_2) := bc BK428 2; have hcz60_3 : w58.cell? ⟨gb428, 3, none⟩ = some (.int .u64 a0_3) := bc BK428 3; have hcz60_4 : w58.cell? ⟨gb428, 4, none⟩ = some (.int .i64 a0_4) := bc BK428 4; have hfz60_0 := blk_frozen BK428.out 0; have hfz60_1 := blk_frozen BK428.out 1; have hfz60_2 := blk_frozen BK428.out 2; have hfz60_3 := blk_frozen BK428.out 3; have hfz60_4 := blk_frozen BK428.out 4) | ((with_reducible refine gate_callee (f := 43) rfl ?_); refine goesL_ (some 11) rfl rfl Tryz.func43 (by kernel_rfl) rfl #[.agg #[.int .u64 a0_0, .int .i64 a0_1, .int .u64 a0_2, .int .u64 a0_3, .int .i64 a0_4]] rfl argt ?_; (with_reducible refine (mean_Mean_Right.calls a0_0 a0_1 a0_2 a0_3 a0_4 false _ A3.out).mono ?_); rintro e w61 ⟨rfl, hb⟩; refine ⟨_, rfl, ?_⟩; replace BK428 := blkb BK428 hb; replace BK429 := blkb BK429 hb; replace HB := belb HB hb; (try clear hb); (try clear hb2); (try clear hk); (try clear hi); have hcz62_0 : w61.cell? ⟨gb429, 0, none⟩ = some (.int .u64 0) := bc BK429 0; have hcz62_1 : w61.cell? ⟨gb429, 1, none⟩ = some (.int .i64 0) := bc BK429 1; have hcz62_2 : w61.cell? ⟨gb429, 2, none⟩ = some (.int .u64 0) := bc BK429 2; have hcz62_3 : w61.cell? ⟨gb429, 3, none⟩ = some (.int .u64 0) := bc BK429 3; have hcz62_4 : w61.cell? ⟨gb429, 4, none⟩ = some (.int .i64 0) := bc BK429 4; have hfz62_0 := blk_frozen BK429.out 0; have hfz62_1 := blk_frozen BK429.out 1; have hfz62_2 := blk_frozen BK429.out 2; have hfz62_3 := blk_frozen BK429.out 3; have hfz62_4 := blk_frozen BK429.out 4))
 refine bodyPost_ret (results_ct rfl _ _ gb429 33 #[.int .u64 0, .int .i64 0, .int .u64 0, .int .u64 0, .int .i64 0] (0, 0) _ rfl (by (with_reducible repeat (first | refine blk_drewN ?_ _ | refine blk_drew ?_ | refine blk_alloc ?_ _)); refine blk_put (cs := #[.int .u64 0, .int .i64 0, .int .u64 0, .int .u64 0, .int .i64 0]) ?_ 4 _ rfl; (with_reducible repeat (first | refine blk_drewN ?_ _ | refine blk_drew ?_ | refine blk_alloc ?_ _)); refine blk_put (cs := #[.int .u64 0, .int .i64 0, .int .u64 0, .int .u64 0, .int .i64 0]) ?_ 3 _ rfl; (with_reducible repeat (first | refine blk_drewN ?_ _ | refine blk_drew ?_ | refine blk_alloc ?_ _)); refine blk_put (cs := #[.int .u64 0, .int .i64 0, .int .u64 0, .int .u64 0, .int .i64 0]) ?_ 2 _ rfl; (with_reducible repeat (first | refine blk_drewN ?_ _ | refine blk_drew ?_ | refine blk_alloc ?_ _)); refine blk_put (cs := #[.int .u64 0, .int .i64 0, .int .u64 0, .int .u64 0, .int .i64 0]) ?_ 1 _ rfl; (with_reducible repeat (first | refine blk_drewN ?_ _ | refine blk_drew ?_ | refine blk_alloc ?_ _)); refine blk_put (cs := #[.int .u64 0, .int .i64 0, .int .u64 0, .int .u64 0, .int .i64 0]) ?_ 0 _ rfl; exact blkt BK429) Tryz.underlying33 rfl (by kernel_rfl)) rfl ?_
 exact ⟨by first | rfl | (simp [errW_none, errW_some] <;> rfl) | (simp [*, errW_none, errW_some] <;> rfl), belt HB⟩


/-! ### vtime_Time_Before: function 18 -/
def vtime_Time_Before.f (a0 : Int) (a1 : Int) : Option (Bool) := (vtime_Time_Since.f a0 a1).bind fun t442 => (some (decide (t442 < 0)))
set_option maxHeartbeats 8000000 in
set_option maxRecDepth 100000 in
theorem vtime_Time_Before.calls (a0 : Int) (a1 : Int) (r : Bool) (w : World) (h : vtime_Time_Before.f a0 a1 = some r) :
  Calls Tryz.prog 18 #[.int .u64 a0, .int .u64 a1] w fun e w' => e = .returned (.bool r) ∧ Drawn0 w w' := by
 have H : ((vtime_Time_Since.f a0 a1).bind fun t442 => (some (decide (t442 < 0)))) = some r := h
 clear h
 replace H := Option.bind_eq_some_iff.mp H
 obtain ⟨t442, A30, H⟩ := H
 replace H : (some (decide (t442 < 0))) = some r := H
 have A3 := Aside0.mk A30
 clear A30
 obtain rfl := Option.some.inj H
 go_enter Tryz.func18, Tryz.ntmps18
 go_wp2_with (first | ((with_reducible refine gate_callee (f := 13) rfl ?_); refine goesL_ (some 7) rfl rfl Tryz.func13 (by kernel_rfl) rfl #[.int .u64 a0, .int .u64 a1] rfl argt ?_; (with_reducible refine (vtime_Time_Since.calls a0 a1 t442 _ A3.out).mono ?_); rintro e w' ⟨rfl, ⟨nd, rfl⟩⟩; refine ⟨_, rfl, ?_⟩))
 go_ret
 exact ⟨by first | rfl | (simp; done) | (simp [*]; done), by repeat (first | exact Drawn0.refl _ | apply Drawn0.step)⟩

end Go.Proofs.YtccokfebebmaeaaGreatDoor.Print
