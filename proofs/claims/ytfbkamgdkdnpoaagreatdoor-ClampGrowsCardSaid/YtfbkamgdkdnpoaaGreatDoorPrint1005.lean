/- What each Go function that is named below answers, as a Lean function, and that its walk comes to just that: for whatever arguments that function gives an answer for. Written by a program of this session (wip/mkpr.py, pr.sh). -/
import Derived.Test.YtfbkamgdkdnpoaaGreatDoorPrint1000
namespace Go.Proofs.YtfbkamgdkdnpoaaGreatDoor.Print
open Go.RowKit Go.Proofs.YtfbkamgdkdnpoaaGreatDoorW.PrintWords Go.Proofs.YtfbkamgdkdnpoaaGreatDoorW.PrintLast Go.Proofs.YtfbkamgdkdnpoaaGreatDoorW.PrintMore
attribute [local go_sem] max2_int min2_int max_two min_two max_three min_three max_four min_four   -- for this text's walks alone
open Go.Proofs.YtfbkamgdkdnpoaaGreatDoor.Bits Go.Proofs.YtfbkamgdkdnpoaaGreatDoor.Short
attribute [local go_sem] add64_run0 sub64_run0 add64_run sub64_run
set_option linter.unusedVariables false
set_option linter.unusedSimpArgs false

/-! ### cmp_Or_int: function 62 -/
def cmp_Or_int.l0 : Nat → Int → List Int → Int → Int → Option (Int)
 | 0, _, _, _, _ => none
 | k + 1, x3, x6, x7, x8 => if x8 < x7 then (if 0 ≤ x8 then (if x8 < (x6.length : Int) then (if (rd x6 x8) = x3 then (cmp_Or_int.l0 k x3 x6 x7 (wrap64 (x8 + 1))) else (some (rd x6 x8))) else (none)) else (none)) else (some x3)
def cmp_Or_int.f (k : Nat) (l0 : List Int) : Option (Int) := cmp_Or_int.l0 k 0 l0 (l0.length : Int) 0
theorem cmp_Or_int.mono_l : ∀ k, (∀ y0 y1 y2 y3, LeO (cmp_Or_int.l0 k y0 y1 y2 y3) (cmp_Or_int.l0 (k + 1) y0 y1 y2 y3))
 | 0 => fun _ _ _ _ r h => by simp [cmp_Or_int.l0] at h
 | k + 1 => by
  have ih0 := cmp_Or_int.mono_l k
  ·intro y0 y1 y2 y3
   unfold cmp_Or_int.l0
   repeat' first
   | (with_reducible exact ih0 _ _ _ _)
   | (with_reducible exact LeO.refl _)
   | (with_reducible exact LeO.none _)
   | (with_reducible refine LeO.ite ?_ ?_)
   | (with_reducible refine LeO.bind ?_ (fun _ => ?_))
   | exact ih0 _ _ _ _
   | exact LeO.none _
   | refine LeO.ite ?_ ?_
   | refine LeO.bind ?_ (fun _ => ?_)
theorem cmp_Or_int.mono : ∀ a0 k, LeO (cmp_Or_int.f k a0) (cmp_Or_int.f (k + 1) a0) := by
 intro a0 k
 have ih0 := cmp_Or_int.mono_l k
 unfold cmp_Or_int.f
 repeat' first
   | (with_reducible exact ih0 _ _ _ _)
   | (with_reducible exact LeO.refl _)
   | (with_reducible exact LeO.none _)
   | (with_reducible refine LeO.ite ?_ ?_)
   | (with_reducible refine LeO.bind ?_ (fun _ => ?_))
   | exact ih0 _ _ _ _
   | exact LeO.none _
   | refine LeO.ite ?_ ?_
   | refine LeO.bind ?_ (fun _ => ?_)
set_option maxHeartbeats 8000000 in
set_option maxRecDepth 100000 in
theorem cmp_Or_int.calls (k : Nat) (A0 : Option Addr) (c0 : Nat) (l0 : List Int) (r : Int) (w : World) (hr0 : Kd.C (Kd.int .i64) w A0 l0.length l0) (hc0 : l0.length ≤ c0) (h : cmp_Or_int.f k l0 = some r) :
  Calls Tryz.prog 62 #[.slice A0 l0.length c0] w fun e w' => e = .returned (.int .i64 r) ∧ Drawn0 w w' := by
 have HR0 := Aside0.mk hr0
 have HC0 := Aside0.mk hc0
 clear hr0 hc0
 have H : (cmp_Or_int.l0 k 0 l0 (l0.length : Int) 0) = some r := h
 clear h
 have H' := Aside0.mk H
 clear H
 go_enter Tryz.func62, Tryz.ntmps62
 go_wp2
 (try simp only [Act.put, List.setIfInBounds_toArray, List.set_cons_zero, List.set_cons_succ])
 go_loopg [8] k (fun kq v8 w' => ∃ (x8_1 : Int), v8 = .int .i64 x8_1 ∧ Aside0 (cmp_Or_int.l0 kq 0 l0 (l0.length : Int) x8_1 = some r) ∧ Aside0 (kq ≤ k) ∧ Drawn0 w w')
 case atStart => exact ⟨(0), (by first | rfl | (simp; done) | (simp [*]; done)), H', ⟨Nat.le_refl _⟩, by repeat (first | exact Drawn0.refl _ | apply Drawn0.step)⟩
 case round =>
  clear H'
  obtain ⟨x8_1, rfl, HA, HK1, ⟨m1, rfl⟩⟩ := hrel
  cases gk with
  | zero => exact absurd HA.out (by simp [cmp_Or_int.l0])
  | succ k1 =>
   have H := HA.out
   clear HA
   simp only [cmp_Or_int.l0] at H
   by_cases c2 : x8_1 < (l0.length : Int)
   ·rw [if_pos c2] at H
    have c2b0 : decide (x8_1 < (l0.length : Int)) = true := decide_eq_true c2
    clear c2
    by_cases c3 : 0 ≤ x8_1
    ·rw [if_pos c3] at H
     have c3b0 : decide (0 ≤ x8_1) = true := decide_eq_true c3
     clear c3
     by_cases c4 : x8_1 < (l0.length : Int)
     ·rw [if_pos c4] at H
      have c4b0 : decide (x8_1 < (l0.length : Int)) = true := decide_eq_true c4
      clear c4
      by_cases c5 : (rd l0 x8_1) = 0
      ·rw [if_pos c5] at H
       have c5b0 : ((rd l0 x8_1) == 0) = true := beq_iff_eq.mpr c5
       have c5b1 : ((rd l0 x8_1) != 0) = false := bne_eq_false_iff_eq.mpr c5
       clear c5
       have H' := Aside0.mk H
       clear H
       have p218 : 0 ≤ (x8_1 : Int) := of_decide_eq_true (by first | (with_reducible assumption) | assumption)
       have q218 : x8_1 < (l0.length : Int) := of_decide_eq_true (by first | (with_reducible assumption) | assumption)
       obtain ⟨ad218, e218, hx218_0⟩ := Kd.at_int HR0.out x8_1 p218 q218
       cases e218
       replace p218 := eq_true p218
       replace q218 := eq_true q218
       go_wp2
       go_roundg k1
       case measure => have := HK1.out; omega
       case rel => exact ⟨(wrap64 (x8_1 + 1)), (by first | rfl | (simp; done) | (simp [*]; done)), H', ⟨by have := HK1.out; omega⟩, by repeat (first | exact Drawn0.refl _ | apply Drawn0.step)⟩
      rw [if_neg c5] at H
      have c5b0 : ((rd l0 x8_1) == 0) = false := beq_eq_false_iff_ne.mpr c5
      have c5b1 : ((rd l0 x8_1) != 0) = true := bne_iff_ne.mpr c5
      obtain rfl := Option.some.inj H
      have p218 : 0 ≤ (x8_1 : Int) := of_decide_eq_true (by first | (with_reducible assumption) | assumption)
      have q218 : x8_1 < (l0.length : Int) := of_decide_eq_true (by first | (with_reducible assumption) | assumption)
      obtain ⟨ad218, e218, hx218_0⟩ := Kd.at_int HR0.out x8_1 p218 q218
      cases e218
      replace p218 := eq_true p218
      replace q218 := eq_true q218
      go_wp2
      go_ret
      exact ⟨by first | rfl | (simp; done) | (simp [*]; done), by repeat (first | exact Drawn0.refl _ | apply Drawn0.step)⟩
     rw [if_neg c4] at H
     exact absurd H (by simp)
    rw [if_neg c3] at H
    exact absurd H (by simp)
   rw [if_neg c2] at H
   have c2b0 : decide (x8_1 < (l0.length : Int)) = false := decide_eq_false c2
   clear c2
   obtain rfl := Option.some.inj H
   go_wp2
   go_ret
   exact ⟨by first | rfl | (simp; done) | (simp [*]; done), by repeat (first | exact Drawn0.refl _ | apply Drawn0.step)⟩


/-! ### cmp_isNaN_int64: function 84 -/
def cmp_isNaN_int64.f (a0 : Int) : Option (Bool) := some (a0 != a0)
set_option maxHeartbeats 8000000 in
set_option maxRecDepth 100000 in
theorem cmp_isNaN_int64.calls (a0 : Int) (r : Bool) (w : World) (h : cmp_isNaN_int64.f a0 = some r) :
  Calls Tryz.prog 84 #[.int .i64 a0] w fun e w' => e = .returned (.bool r) ∧ Drawn0 w w' := by
 have H : (some (a0 != a0)) = some r := h
 clear h
 obtain rfl := Option.some.inj H
 go_enter Tryz.func84, Tryz.ntmps84
 go_wp2
 go_ret
 exact ⟨by first | rfl | (simp; done) | (simp [*]; done), by repeat (first | exact Drawn0.refl _ | apply Drawn0.step)⟩


/-! ### cmp_Compare_int64: function 63 -/
def cmp_Compare_int64.f (a0 : Int) (a1 : Int) : Option (Int) := (cmp_isNaN_int64.f a0).bind fun t219 => ((cmp_isNaN_int64.f a1).bind fun t220 => (if t219 = true then (if t220 = true then (some 0) else (some (-1))) else (if t220 = true then (some 1) else (if a0 < a1 then (some (-1)) else (if a0 > a1 then (some 1) else (some 0))))))
set_option maxHeartbeats 8000000 in
set_option maxRecDepth 100000 in
theorem cmp_Compare_int64.calls (a0 : Int) (a1 : Int) (r : Int) (w : World) (h : cmp_Compare_int64.f a0 a1 = some r) :
  Calls Tryz.prog 63 #[.int .i64 a0, .int .i64 a1] w fun e w' => e = .returned (.int .i64 r) ∧ Drawn0 w w' := by
 have H : ((cmp_isNaN_int64.f a0).bind fun t219 => ((cmp_isNaN_int64.f a1).bind fun t220 => (if t219 = true then (if t220 = true then (some 0) else (some (-1))) else (if t220 = true then (some 1) else (if a0 < a1 then (some (-1)) else (if a0 > a1 then (some 1) else (some 0))))))) = some r := h
 clear h
 replace H := Option.bind_eq_some_iff.mp H
 obtain ⟨t219, A30, H⟩ := H
 replace H : ((cmp_isNaN_int64.f a1).bind fun t220 => (if t219 = true then (if t220 = true then (some 0) else (some (-1))) else (if t220 = true then (some 1) else (if a0 < a1 then (some (-1)) else (if a0 > a1 then (some 1) else (some 0)))))) = some r := H
 have A3 := Aside0.mk A30
 clear A30
 replace H := Option.bind_eq_some_iff.mp H
 obtain ⟨t220, A40, H⟩ := H
 replace H : (if t219 = true then (if t220 = true then (some 0) else (some (-1))) else (if t220 = true then (some 1) else (if a0 < a1 then (some (-1)) else (if a0 > a1 then (some 1) else (some 0))))) = some r := H
 have A4 := Aside0.mk A40
 clear A40
 by_cases c5 : t219 = true
 ·subst c5
  have H1 : (if t220 = true then (some 0) else (some (-1))) = some r := by rw [if_pos rfl] at H; exact H
  clear H
  have H := H1
  clear H1
  by_cases c6 : t220 = true
  ·subst c6
   have H1 : (some 0) = some r := by rw [if_pos rfl] at H; exact H
   clear H
   have H := H1
   clear H1
   obtain rfl := Option.some.inj H
   go_enter Tryz.func63, Tryz.ntmps63
   go_wp2_with (first | ((with_reducible refine gate_callee (f := 84) rfl ?_); refine goesL_ (some 8) rfl rfl Tryz.func84 (by kernel_rfl) rfl #[.int .i64 a0] rfl argt ?_; (with_reducible refine (cmp_isNaN_int64.calls a0 true _ A3.out).mono ?_); rintro e w' ⟨rfl, ⟨nd, rfl⟩⟩; refine ⟨_, rfl, ?_⟩) | ((with_reducible refine gate_callee (f := 84) rfl ?_); refine goesL_ (some 10) rfl rfl Tryz.func84 (by kernel_rfl) rfl #[.int .i64 a1] rfl argt ?_; (with_reducible refine (cmp_isNaN_int64.calls a1 true _ A4.out).mono ?_); rintro e w' ⟨rfl, ⟨nd, rfl⟩⟩; refine ⟨_, rfl, ?_⟩))
   go_ret
   exact ⟨by first | rfl | (simp; done) | (simp [*]; done), by repeat (first | exact Drawn0.refl _ | apply Drawn0.step)⟩
  replace c6 := Bool.eq_false_iff.mpr c6
  subst c6
  have H1 : (some (-1)) = some r := by rw [if_neg (show ¬ (false = true) by decide)] at H; exact H
  clear H
  have H := H1
  clear H1
  obtain rfl := Option.some.inj H
  go_enter Tryz.func63, Tryz.ntmps63
  go_wp2_with (first | ((with_reducible refine gate_callee (f := 84) rfl ?_); refine goesL_ (some 8) rfl rfl Tryz.func84 (by kernel_rfl) rfl #[.int .i64 a0] rfl argt ?_; (with_reducible refine (cmp_isNaN_int64.calls a0 true _ A3.out).mono ?_); rintro e w' ⟨rfl, ⟨nd, rfl⟩⟩; refine ⟨_, rfl, ?_⟩) | ((with_reducible refine gate_callee (f := 84) rfl ?_); refine goesL_ (some 10) rfl rfl Tryz.func84 (by kernel_rfl) rfl #[.int .i64 a1] rfl argt ?_; (with_reducible refine (cmp_isNaN_int64.calls a1 false _ A4.out).mono ?_); rintro e w' ⟨rfl, ⟨nd, rfl⟩⟩; refine ⟨_, rfl, ?_⟩))
  go_ret
  exact ⟨by first | rfl | (simp; done) | (simp [*]; done), by repeat (first | exact Drawn0.refl _ | apply Drawn0.step)⟩
 replace c5 := Bool.eq_false_iff.mpr c5
 subst c5
 have H1 : (if t220 = true then (some 1) else (if a0 < a1 then (some (-1)) else (if a0 > a1 then (some 1) else (some 0)))) = some r := by rw [if_neg (show ¬ (false = true) by decide)] at H; exact H
 clear H
 have H := H1
 clear H1
 by_cases c7 : t220 = true
 ·subst c7
  have H1 : (some 1) = some r := by rw [if_pos rfl] at H; exact H
  clear H
  have H := H1
  clear H1
  obtain rfl := Option.some.inj H
  go_enter Tryz.func63, Tryz.ntmps63
  go_wp2_with (first | ((with_reducible refine gate_callee (f := 84) rfl ?_); refine goesL_ (some 8) rfl rfl Tryz.func84 (by kernel_rfl) rfl #[.int .i64 a0] rfl argt ?_; (with_reducible refine (cmp_isNaN_int64.calls a0 false _ A3.out).mono ?_); rintro e w' ⟨rfl, ⟨nd, rfl⟩⟩; refine ⟨_, rfl, ?_⟩) | ((with_reducible refine gate_callee (f := 84) rfl ?_); refine goesL_ (some 10) rfl rfl Tryz.func84 (by kernel_rfl) rfl #[.int .i64 a1] rfl argt ?_; (with_reducible refine (cmp_isNaN_int64.calls a1 true _ A4.out).mono ?_); rintro e w' ⟨rfl, ⟨nd, rfl⟩⟩; refine ⟨_, rfl, ?_⟩))
  go_ret
  exact ⟨by first | rfl | (simp; done) | (simp [*]; done), by repeat (first | exact Drawn0.refl _ | apply Drawn0.step)⟩
 replace c7 := Bool.eq_false_iff.mpr c7
 subst c7
 have H1 : (if a0 < a1 then (some (-1)) else (if a0 > a1 then (some 1) else (some 0))) = some r := by rw [if_neg (show ¬ (false = true) by decide)] at H; exact H
 clear H
 have H := H1
 clear H1
 by_cases c8 : a0 < a1
 ·rw [if_pos c8] at H
  have c8b0 : decide (a0 < a1) = true := decide_eq_true c8
  clear c8
  obtain rfl := Option.some.inj H
  go_enter Tryz.func63, Tryz.ntmps63
  go_wp2_with (first | ((with_reducible refine gate_callee (f := 84) rfl ?_); refine goesL_ (some 8) rfl rfl Tryz.func84 (by kernel_rfl) rfl #[.int .i64 a0] rfl argt ?_; (with_reducible refine (cmp_isNaN_int64.calls a0 false _ A3.out).mono ?_); rintro e w' ⟨rfl, ⟨nd, rfl⟩⟩; refine ⟨_, rfl, ?_⟩) | ((with_reducible refine gate_callee (f := 84) rfl ?_); refine goesL_ (some 10) rfl rfl Tryz.func84 (by kernel_rfl) rfl #[.int .i64 a1] rfl argt ?_; (with_reducible refine (cmp_isNaN_int64.calls a1 false _ A4.out).mono ?_); rintro e w' ⟨rfl, ⟨nd, rfl⟩⟩; refine ⟨_, rfl, ?_⟩))
  go_ret
  exact ⟨by first | rfl | (simp; done) | (simp [*]; done), by repeat (first | exact Drawn0.refl _ | apply Drawn0.step)⟩
 rw [if_neg c8] at H
 have c8b0 : decide (a0 < a1) = false := decide_eq_false c8
 clear c8
 by_cases c9 : a0 > a1
 ·rw [if_pos c9] at H
  have c9b0 : decide (a1 < a0) = true := decide_eq_true c9
  clear c9
  obtain rfl := Option.some.inj H
  go_enter Tryz.func63, Tryz.ntmps63
  go_wp2_with (first | ((with_reducible refine gate_callee (f := 84) rfl ?_); refine goesL_ (some 8) rfl rfl Tryz.func84 (by kernel_rfl) rfl #[.int .i64 a0] rfl argt ?_; (with_reducible refine (cmp_isNaN_int64.calls a0 false _ A3.out).mono ?_); rintro e w' ⟨rfl, ⟨nd, rfl⟩⟩; refine ⟨_, rfl, ?_⟩) | ((with_reducible refine gate_callee (f := 84) rfl ?_); refine goesL_ (some 10) rfl rfl Tryz.func84 (by kernel_rfl) rfl #[.int .i64 a1] rfl argt ?_; (with_reducible refine (cmp_isNaN_int64.calls a1 false _ A4.out).mono ?_); rintro e w' ⟨rfl, ⟨nd, rfl⟩⟩; refine ⟨_, rfl, ?_⟩))
  go_ret
  exact ⟨by first | rfl | (simp; done) | (simp [*]; done), by repeat (first | exact Drawn0.refl _ | apply Drawn0.step)⟩
 rw [if_neg c9] at H
 have c9b0 : decide (a1 < a0) = false := decide_eq_false c9
 clear c9
 obtain rfl := Option.some.inj H
 go_enter Tryz.func63, Tryz.ntmps63
 go_wp2_with (first | ((with_reducible refine gate_callee (f := 84) rfl ?_); refine goesL_ (some 8) rfl rfl Tryz.func84 (by kernel_rfl) rfl #[.int .i64 a0] rfl argt ?_; (with_reducible refine (cmp_isNaN_int64.calls a0 false _ A3.out).mono ?_); rintro e w' ⟨rfl, ⟨nd, rfl⟩⟩; refine ⟨_, rfl, ?_⟩) | ((with_reducible refine gate_callee (f := 84) rfl ?_); refine goesL_ (some 10) rfl rfl Tryz.func84 (by kernel_rfl) rfl #[.int .i64 a1] rfl argt ?_; (with_reducible refine (cmp_isNaN_int64.calls a1 false _ A4.out).mono ?_); rintro e w' ⟨rfl, ⟨nd, rfl⟩⟩; refine ⟨_, rfl, ?_⟩))
 go_ret
 exact ⟨by first | rfl | (simp; done) | (simp [*]; done), by repeat (first | exact Drawn0.refl _ | apply Drawn0.step)⟩


/-! ### cmp_isNaN_uint64: function 85 -/
def cmp_isNaN_uint64.f (a0 : Int) : Option (Bool) := some (a0 != a0)
set_option maxHeartbeats 8000000 in
set_option maxRecDepth 100000 in
theorem cmp_isNaN_uint64.calls (a0 : Int) (r : Bool) (w : World) (h : cmp_isNaN_uint64.f a0 = some r) :
  Calls Tryz.prog 85 #[.int .u64 a0] w fun e w' => e = .returned (.bool r) ∧ Drawn0 w w' := by
 have H : (some (a0 != a0)) = some r := h
 clear h
 obtain rfl := Option.some.inj H
 go_enter Tryz.func85, Tryz.ntmps85
 go_wp2
 go_ret
 exact ⟨by first | rfl | (simp; done) | (simp [*]; done), by repeat (first | exact Drawn0.refl _ | apply Drawn0.step)⟩


/-! ### cmp_Compare_uint64: function 64 -/
def cmp_Compare_uint64.f (a0 : Int) (a1 : Int) : Option (Int) := (cmp_isNaN_uint64.f a0).bind fun t221 => ((cmp_isNaN_uint64.f a1).bind fun t222 => (if t221 = true then (if t222 = true then (some 0) else (some (-1))) else (if t222 = true then (some 1) else (if a0 < a1 then (some (-1)) else (if a0 > a1 then (some 1) else (some 0))))))
set_option maxHeartbeats 8000000 in
set_option maxRecDepth 100000 in
theorem cmp_Compare_uint64.calls (a0 : Int) (a1 : Int) (r : Int) (w : World) (h : cmp_Compare_uint64.f a0 a1 = some r) :
  Calls Tryz.prog 64 #[.int .u64 a0, .int .u64 a1] w fun e w' => e = .returned (.int .i64 r) ∧ Drawn0 w w' := by
 have H : ((cmp_isNaN_uint64.f a0).bind fun t221 => ((cmp_isNaN_uint64.f a1).bind fun t222 => (if t221 = true then (if t222 = true then (some 0) else (some (-1))) else (if t222 = true then (some 1) else (if a0 < a1 then (some (-1)) else (if a0 > a1 then (some 1) else (some 0))))))) = some r := h
 clear h
 replace H := Option.bind_eq_some_iff.mp H
 obtain ⟨t221, A30, H⟩ := H
 replace H : ((cmp_isNaN_uint64.f a1).bind fun t222 => (if t221 = true then (if t222 = true then (some 0) else (some (-1))) else (if t222 = true then (some 1) else (if a0 < a1 then (some (-1)) else (if a0 > a1 then (some 1) else (some 0)))))) = some r := H
 have A3 := Aside0.mk A30
 clear A30
 replace H := Option.bind_eq_some_iff.mp H
 obtain ⟨t222, A40, H⟩ := H
 replace H : (if t221 = true then (if t222 = true then (some 0) else (some (-1))) else (if t222 = true then (some 1) else (if a0 < a1 then (some (-1)) else (if a0 > a1 then (some 1) else (some 0))))) = some r := H
 have A4 := Aside0.mk A40
 clear A40
 by_cases c5 : t221 = true
 ·subst c5
  have H1 : (if t222 = true then (some 0) else (some (-1))) = some r := by rw [if_pos rfl] at H; exact H
  clear H
  have H := H1
  clear H1
  by_cases c6 : t222 = true
  ·subst c6
   have H1 : (some 0) = some r := by rw [if_pos rfl] at H; exact H
   clear H
   have H := H1
   clear H1
   obtain rfl := Option.some.inj H
   go_enter Tryz.func64, Tryz.ntmps64
   go_wp2_with (first | ((with_reducible refine gate_callee (f := 85) rfl ?_); refine goesL_ (some 8) rfl rfl Tryz.func85 (by kernel_rfl) rfl #[.int .u64 a0] rfl argt ?_; (with_reducible refine (cmp_isNaN_uint64.calls a0 true _ A3.out).mono ?_); rintro e w' ⟨rfl, ⟨nd, rfl⟩⟩; refine ⟨_, rfl, ?_⟩) | ((with_reducible refine gate_callee (f := 85) rfl ?_); refine goesL_ (some 10) rfl rfl Tryz.func85 (by kernel_rfl) rfl #[.int .u64 a1] rfl argt ?_; (with_reducible refine (cmp_isNaN_uint64.calls a1 true _ A4.out).mono ?_); rintro e w' ⟨rfl, ⟨nd, rfl⟩⟩; refine ⟨_, rfl, ?_⟩))
   go_ret
   exact ⟨by first | rfl | (simp; done) | (simp [*]; done), by repeat (first | exact Drawn0.refl _ | apply Drawn0.step)⟩
  replace c6 := Bool.eq_false_iff.mpr c6
  subst c6
  have H1 : (some (-1)) = some r := by rw [if_neg (show ¬ (false = true) by decide)] at H; exact H
  clear H
  have H := H1
  clear H1
  obtain rfl := Option.some.inj H
  go_enter Tryz.func64, Tryz.ntmps64
  go_wp2_with (first | ((with_reducible refine gate_callee (f := 85) rfl ?_); refine goesL_ (some 8) rfl rfl Tryz.func85 (by kernel_rfl) rfl #[.int .u64 a0] rfl argt ?_; (with_reducible refine (cmp_isNaN_uint64.calls a0 true _ A3.out).mono ?_); rintro e w' ⟨rfl, ⟨nd, rfl⟩⟩; refine ⟨_, rfl, ?_⟩) | ((with_reducible refine gate_callee (f := 85) rfl ?_); refine goesL_ (some 10) rfl rfl Tryz.func85 (by kernel_rfl) rfl #[.int .u64 a1] rfl argt ?_; (with_reducible refine (cmp_isNaN_uint64.calls a1 false _ A4.out).mono ?_); rintro e w' ⟨rfl, ⟨nd, rfl⟩⟩; refine ⟨_, rfl, ?_⟩))
  go_ret
  exact ⟨by first | rfl | (simp; done) | (simp [*]; done), by repeat (first | exact Drawn0.refl _ | apply Drawn0.step)⟩
 replace c5 := Bool.eq_false_iff.mpr c5
 subst c5
 have H1 : (if t222 = true then (some 1) else (if a0 < a1 then (some (-1)) else (if a0 > a1 then (some 1) else (some 0)))) = some r := by rw [if_neg (show ¬ (false = true) by decide)] at H; exact H
 clear H
 have H := H1
 clear H1
 by_cases c7 : t222 = true
 ·subst c7
  have H1 : (some 1) = some r := by rw [if_pos rfl] at H; exact H
  clear H
  have H := H1
  clear H1
  obtain rfl := Option.some.inj H
  go_enter Tryz.func64, Tryz.ntmps64
  go_wp2_with (first | ((with_reducible refine gate_callee (f := 85) rfl ?_); refine goesL_ (some 8) rfl rfl Tryz.func85 (by kernel_rfl) rfl #[.int .u64 a0] rfl argt ?_; (with_reducible refine (cmp_isNaN_uint64.calls a0 false _ A3.out).mono ?_); rintro e w' ⟨rfl, ⟨nd, rfl⟩⟩; refine ⟨_, rfl, ?_⟩) | ((with_reducible refine gate_callee (f := 85) rfl ?_); refine goesL_ (some 10) rfl rfl Tryz.func85 (by kernel_rfl) rfl #[.int .u64 a1] rfl argt ?_; (with_reducible refine (cmp_isNaN_uint64.calls a1 true _ A4.out).mono ?_); rintro e w' ⟨rfl, ⟨nd, rfl⟩⟩; refine ⟨_, rfl, ?_⟩))
  go_ret
  exact ⟨by first | rfl | (simp; done) | (simp [*]; done), by repeat (first | exact Drawn0.refl _ | apply Drawn0.step)⟩
 replace c7 := Bool.eq_false_iff.mpr c7
 subst c7
 have H1 : (if a0 < a1 then (some (-1)) else (if a0 > a1 then (some 1) else (some 0))) = some r := by rw [if_neg (show ¬ (false = true) by decide)] at H; exact H
 clear H
 have H := H1
 clear H1
 by_cases c8 : a0 < a1
 ·rw [if_pos c8] at H
  have c8b0 : decide (a0 < a1) = true := decide_eq_true c8
  clear c8
  obtain rfl := Option.some.inj H
  go_enter Tryz.func64, Tryz.ntmps64
  go_wp2_with (first | ((with_reducible refine gate_callee (f := 85) rfl ?_); refine goesL_ (some 8) rfl rfl Tryz.func85 (by kernel_rfl) rfl #[.int .u64 a0] rfl argt ?_; (with_reducible refine (cmp_isNaN_uint64.calls a0 false _ A3.out).mono ?_); rintro e w' ⟨rfl, ⟨nd, rfl⟩⟩; refine ⟨_, rfl, ?_⟩) | ((with_reducible refine gate_callee (f := 85) rfl ?_); refine goesL_ (some 10) rfl rfl Tryz.func85 (by kernel_rfl) rfl #[.int .u64 a1] rfl argt ?_; (with_reducible refine (cmp_isNaN_uint64.calls a1 false _ A4.out).mono ?_); rintro e w' ⟨rfl, ⟨nd, rfl⟩⟩; refine ⟨_, rfl, ?_⟩))
  go_ret
  exact ⟨by first | rfl | (simp; done) | (simp [*]; done), by repeat (first | exact Drawn0.refl _ | apply Drawn0.step)⟩
 rw [if_neg c8] at H
 have c8b0 : decide (a0 < a1) = false := decide_eq_false c8
 clear c8
 by_cases c9 : a0 > a1
 ·rw [if_pos c9] at H
  have c9b0 : decide (a1 < a0) = true := decide_eq_true c9
  clear c9
  obtain rfl := Option.some.inj H
  go_enter Tryz.func64, Tryz.ntmps64
  go_wp2_with (first | ((with_reducible refine gate_callee (f := 85) rfl ?_); refine goesL_ (some 8) rfl rfl Tryz.func85 (by kernel_rfl) rfl #[.int .u64 a0] rfl argt ?_; (with_reducible refine (cmp_isNaN_uint64.calls a0 false _ A3.out).mono ?_); rintro e w' ⟨rfl, ⟨nd, rfl⟩⟩; refine ⟨_, rfl, ?_⟩) | ((with_reducible refine gate_callee (f := 85) rfl ?_); refine goesL_ (some 10) rfl rfl Tryz.func85 (by kernel_rfl) rfl #[.int .u64 a1] rfl argt ?_; (with_reducible refine (cmp_isNaN_uint64.calls a1 false _ A4.out).mono ?_); rintro e w' ⟨rfl, ⟨nd, rfl⟩⟩; refine ⟨_, rfl, ?_⟩))
  go_ret
  exact ⟨by first | rfl | (simp; done) | (simp [*]; done), by repeat (first | exact Drawn0.refl _ | apply Drawn0.step)⟩
 rw [if_neg c9] at H
 have c9b0 : decide (a1 < a0) = false := decide_eq_false c9
 clear c9
 obtain rfl := Option.some.inj H
 go_enter Tryz.func64, Tryz.ntmps64
 go_wp2_with (first | ((with_reducible refine gate_callee (f := 85) rfl ?_); refine goesL_ (some 8) rfl rfl Tryz.func85 (by kernel_rfl) rfl #[.int .u64 a0] rfl argt ?_; (with_reducible refine (cmp_isNaN_uint64.calls a0 false _ A3.out).mono ?_); rintro e w' ⟨rfl, ⟨nd, rfl⟩⟩; refine ⟨_, rfl, ?_⟩) | ((with_reducible refine gate_callee (f := 85) rfl ?_); refine goesL_ (some 10) rfl rfl Tryz.func85 (by kernel_rfl) rfl #[.int .u64 a1] rfl argt ?_; (with_reducible refine (cmp_isNaN_uint64.calls a1 false _ A4.out).mono ?_); rintro e w' ⟨rfl, ⟨nd, rfl⟩⟩; refine ⟨_, rfl, ?_⟩))
 go_ret
 exact ⟨by first | rfl | (simp; done) | (simp [*]; done), by repeat (first | exact Drawn0.refl _ | apply Drawn0.step)⟩


/-! ### wide_Int_Cmp: function 41 -/
def wide_Int_Cmp.f (k : Nat) (a0_0 : Int) (a0_1 : Int) (a1_0 : Int) (a1_1 : Int) : Option (Int) := (cmp_Compare_int64.f a0_0 a1_0).bind fun t225 => ((cmp_Compare_uint64.f a0_1 a1_1).bind fun t226 => ((cmp_Or_int.f k (([t225, t226] : List Int))).bind fun t230 => (some t230)))
theorem wide_Int_Cmp.mono : ∀ a0 a1 a2 a3 k, LeO (wide_Int_Cmp.f k a0 a1 a2 a3) (wide_Int_Cmp.f (k + 1) a0 a1 a2 a3) := by
 intro a0 a1 a2 a3 k
 unfold wide_Int_Cmp.f
 repeat' first
   | (with_reducible exact cmp_Or_int.mono _ _)
   | (with_reducible exact LeO.refl _)
   | (with_reducible exact LeO.none _)
   | (with_reducible refine LeO.ite ?_ ?_)
   | (with_reducible refine LeO.bind ?_ (fun _ => ?_))
   | exact cmp_Or_int.mono _ _
   | exact LeO.none _
   | refine LeO.ite ?_ ?_
   | refine LeO.bind ?_ (fun _ => ?_)
def wide_Int_Cmp.T1 : Bool × List (List Nat × List Nat) := (true, [([], []), ([0], [0]), ([], []), ([2], [2]), ([1, 3], [1, 3]), ([], []), ([5], [5]), ([], []), ([7], [7]), ([6, 8, 4], [6, 8]), ([4, 9], [4, 9]), ([10, 9], [10]), ([11, 11, 0, 1, 2, 3, 4, 5, 6, 7, 8, 9, 10, 11], [11])])
def wide_Int_Cmp.B1 : List Nat := [0, 1, 0, 4, 15, 0, 32, 0, 128, 511, 1023, 2047, 4095]
theorem wide_Int_Cmp.tab1 : rtab .any (opsOf Tryz.f41 1) = wide_Int_Cmp.T1 := by kernel_rfl
theorem wide_Int_Cmp.bits1 : waitsOk wide_Int_Cmp.T1.2 wide_Int_Cmp.B1 = true := by kernel_rfl
set_option maxHeartbeats 8000000 in
set_option maxRecDepth 100000 in
theorem wide_Int_Cmp.calls (k : Nat) (a0_0 : Int) (a0_1 : Int) (a1_0 : Int) (a1_1 : Int) (r : Int) (w : World) (h : wide_Int_Cmp.f k a0_0 a0_1 a1_0 a1_1 = some r) :
  Calls Tryz.prog 41 #[.agg #[.int .i64 a0_0, .int .u64 a0_1], .agg #[.int .i64 a1_0, .int .u64 a1_1]] w fun e w' => e = .returned (.int .i64 r) ∧ Below w.heap.size w w' := by
 have hu31 := Tryz.underlying31
 have HB := Aside0.mk (Below.refl w.heap.size w)
 have H : ((cmp_Compare_int64.f a0_0 a1_0).bind fun t225 => ((cmp_Compare_uint64.f a0_1 a1_1).bind fun t226 => ((cmp_Or_int.f k (([t225, t226] : List Int))).bind fun t230 => (some t230)))) = some r := h
 clear h
 replace H := Option.bind_eq_some_iff.mp H
 obtain ⟨t225, A30, H⟩ := H
 replace H : ((cmp_Compare_uint64.f a0_1 a1_1).bind fun t226 => ((cmp_Or_int.f k (([t225, t226] : List Int))).bind fun t230 => (some t230))) = some r := H
 have A3 := Aside0.mk A30
 clear A30
 replace H := Option.bind_eq_some_iff.mp H
 obtain ⟨t226, A40, H⟩ := H
 replace H : ((cmp_Or_int.f k (([t225, t226] : List Int))).bind fun t230 => (some t230)) = some r := H
 have A4 := Aside0.mk A40
 clear A40
 obtain ⟨y227, hy227⟩ : ∃ y_ : List Int, y_ = (([t225, t226] : List Int)) := ⟨_, rfl⟩
 replace H : ((cmp_Or_int.f k y227).bind fun t230 => (some t230)) = some r := by first | (rw [hy227]; with_reducible exact H) | (have H2_ := (Option.bind_some _ _).symm.trans H; rw [hy227]; with_reducible exact H2_) | (have H2_ := (Option.bind_some _ _).symm.trans H; with_reducible exact H2_) | with_reducible exact H | (rw [hy227]; exact H) | exact H
 have Ny227 := Aside0.mk hy227
 clear hy227
 replace H := Option.bind_eq_some_iff.mp H
 obtain ⟨t230, A50, H⟩ := H
 replace H : (some t230) = some r := H
 have A5 := Aside0.mk A50
 clear A50
 obtain rfl := Option.some.inj H
 go_enter Tryz.func41, Tryz.ntmps41
 try go_wp2_with (first | ((with_reducible refine gate_dst (N := 2) rfl ?_); refine box_event ?hg (N := 2) ?hd (cs := #[.int .i64 a0_0, .int .u64 a0_1]) (t := 31) ?hr ?_; (case hd => rfl); (case hg => rfl); (case hr => first | (go_simp; done) | (go_simp; rfl)); intro gb223 hg w6 hbox hb; have BK223 := Aside0.mk (hbox); have GW223 := bels HB hg; have GE223 := bels HB hg; replace HB := belb HB hb; clear hb hbox hg) | ((with_reducible refine gate_dst (N := 3) rfl ?_); refine box_event ?hg (N := 3) ?hd (cs := #[.int .i64 a1_0, .int .u64 a1_1]) (t := 31) ?hr ?_; (case hd => rfl); (case hg => rfl); (case hr => first | (go_simp; done) | (go_simp; rfl)); intro gb224 hg w7 hbox hb; have BK224 := Aside0.mk (hbox); have GW224 := bels HB hg; have GE224 := bels HB hg; have NB223_224 := blkl BK223 hg; have NB224_223 := blkg BK223 hg; replace BK223 := blkb BK223 hb; replace HB := belb HB hb; clear hb hbox hg))
 replace BK223 := Aside0.mk (blk_drew BK223.out)
 replace BK224 := Aside0.mk (blk_drew BK224.out)
 replace HB := Aside0.mk (below_drew1 HB.out)
 refine start_ (n := 13) (S := fun w' => w'.cell? ⟨gb223, 0, none⟩ = some (.int .i64 a0_0) ∧ w'.cell? ⟨gb223, 1, none⟩ = some (.int .u64 a0_1) ∧ w'.cell? ⟨gb224, 0, none⟩ = some (.int .i64 a1_0) ∧ w'.cell? ⟨gb224, 1, none⟩ = some (.int .u64 a1_1)) (ds := []) #[false, false, false, false, false, false, false, false, false, false, false, false, false] (by kernel_rfl) rfl rfl ⟨bc BK223 0, bc BK223 1, bc BK224 0, bc BK224 1⟩ (fun hHeld => ?_); refine with_tabW wide_Int_Cmp.tab1 wide_Int_Cmp.bits1 (fun HT_ HW_ => ?_)
 generalize w7.drew = w8 at BK223 BK224 HB hHeld ⊢
 refine pure_ (i := 0) (N := some 5) (v := ?_) (a' := ?_) #[true, false, false, false, false, false, false, false, false, false, false, false, false] rfl rfl (any_of HT_.out (by kernel_rfl)) (fun _ _ _ h => h) (Or.inl ⟨by rfl, ?_⟩) ?_ ?_
 rotate_left
 ·intro w'
  go_simp
  with_reducible rfl
 rotate_left
 ·simp only [Act.put, List.setIfInBounds_toArray, List.set_cons_zero, List.set_cons_succ, i64_w, i32_w]
  rfl
 refine pure_ (i := 2) (N := some 7) (v := ?_) (a' := ?_) #[true, false, true, false, false, false, false, false, false, false, false, false, false] rfl rfl (any_of HT_.out (by kernel_rfl)) (fun _ _ _ h => h) (Or.inl ⟨by rfl, ?_⟩) ?_ ?_
 rotate_left
 ·intro w'
  go_simp
  with_reducible rfl
 rotate_left
 ·simp only [Act.put, List.setIfInBounds_toArray, List.set_cons_zero, List.set_cons_succ, i64_w, i32_w]
  rfl
 refine pure_ (i := 5) (N := some 10) (v := ?_) (a' := ?_) #[true, false, true, false, false, true, false, false, false, false, false, false, false] rfl rfl (any_of HT_.out (by kernel_rfl)) (fun _ _ _ h => h) (Or.inl ⟨by rfl, ?_⟩) ?_ ?_
 rotate_left
 ·intro w'
  go_simp
  with_reducible rfl
 rotate_left
 ·simp only [Act.put, List.setIfInBounds_toArray, List.set_cons_zero, List.set_cons_succ, i64_w, i32_w]
  rfl
 refine pure_ (i := 7) (N := some 12) (v := ?_) (a' := ?_) #[true, false, true, false, false, true, false, true, false, false, false, false, false] rfl rfl (any_of HT_.out (by kernel_rfl)) (fun _ _ _ h => h) (Or.inl ⟨by rfl, ?_⟩) ?_ ?_
 rotate_left
 ·intro w'
  go_simp
  with_reducible rfl
 rotate_left
 ·simp only [Act.put, List.setIfInBounds_toArray, List.set_cons_zero, List.set_cons_succ, i64_w, i32_w]
  rfl
 refine take_ (i := 1) (N := some 6) (v := ?_) (a' := ?_) #[true, true, true, false, false, true, false, true, false, false, false, false, false] rfl rfl (take_ofW HT_.out HW_.out (by kernel_rfl)) (fun _ _ _ h => h) (Or.inl ⟨by rfl, ?_⟩) hHeld ?_ ?_
 rotate_left
 ·rintro w' ⟨s0, s1, s2, s3⟩
  go_simp
  with_reducible rfl
 rotate_left
 ·simp only [Act.put, List.setIfInBounds_toArray, List.set_cons_zero, List.set_cons_succ, i64_w, i32_w]
  rfl
 refine take_ (i := 3) (N := some 8) (v := ?_) (a' := ?_) #[true, true, true, true, false, true, false, true, false, false, false, false, false] rfl rfl (take_ofW HT_.out HW_.out (by kernel_rfl)) (fun _ _ _ h => h) (Or.inl ⟨by rfl, ?_⟩) hHeld ?_ ?_
 rotate_left
 ·rintro w' ⟨s0, s1, s2, s3⟩
  go_simp
  with_reducible rfl
 rotate_left
 ·simp only [Act.put, List.setIfInBounds_toArray, List.set_cons_zero, List.set_cons_succ, i64_w, i32_w]
  rfl
 refine take_ (i := 6) (N := some 11) (v := ?_) (a' := ?_) #[true, true, true, true, false, true, true, true, false, false, false, false, false] rfl rfl (take_ofW HT_.out HW_.out (by kernel_rfl)) (fun _ _ _ h => h) (Or.inl ⟨by rfl, ?_⟩) hHeld ?_ ?_
 rotate_left
 ·rintro w' ⟨s0, s1, s2, s3⟩
  go_simp
  with_reducible rfl
 rotate_left
 ·simp only [Act.put, List.setIfInBounds_toArray, List.set_cons_zero, List.set_cons_succ, i64_w, i32_w]
  rfl
 refine take_ (i := 8) (N := some 13) (v := ?_) (a' := ?_) #[true, true, true, true, false, true, true, true, true, false, false, false, false] rfl rfl (take_ofW HT_.out HW_.out (by kernel_rfl)) (fun _ _ _ h => h) (Or.inl ⟨by rfl, ?_⟩) hHeld ?_ ?_
 rotate_left
 ·rintro w' ⟨s0, s1, s2, s3⟩
  go_simp
  with_reducible rfl
 rotate_left
 ·simp only [Act.put, List.setIfInBounds_toArray, List.set_cons_zero, List.set_cons_succ, i64_w, i32_w]
  rfl
 refine one_ (i := 4) (N := some 9) #[true, true, true, true, true, true, true, true, true, false, false, false, false] rfl rfl (one_of HT_.out (by kernel_rfl)) (by decide) (fun K hK => ?_)
 refine goes_ Tryz.func63 (by kernel_rfl) rfl #[.int .i64 a0_0, .int .i64 a1_0] (by rfl) rfl rfl argt ?_
 with_reducible refine (cmp_Compare_int64.calls a0_0 a1_0 t225 _ A3.out).mono ?_
 rintro e w' ⟨rfl, ⟨nd, rfl⟩⟩
 refine ⟨_, rfl, ?_⟩
 refine hK.out _ _ ⟨bc BK223 0, bc BK223 1, bc BK224 0, bc BK224 1⟩ (fun hHeld => ?_)
 clear hK K
 refine norm_ (a' := ?_) ?_ ?_
 rotate_left
 ·show Act.put _ (some 9) _ = _
  simp only [Act.put, List.setIfInBounds_toArray, List.set_cons_zero, List.set_cons_succ, i64_w, i32_w]
  rfl
 refine one_ (i := 9) (N := some 14) #[true, true, true, true, true, true, true, true, true, true, false, false, false] rfl rfl (one_of HT_.out (by kernel_rfl)) (by decide) (fun K hK => ?_)
 refine goes_ Tryz.func64 (by kernel_rfl) rfl #[.int .u64 a0_1, .int .u64 a1_1] (by rfl) rfl rfl argt ?_
 with_reducible refine (cmp_Compare_uint64.calls a0_1 a1_1 t226 _ A4.out).mono ?_
 rintro e w' ⟨rfl, ⟨nd, rfl⟩⟩
 refine ⟨_, rfl, ?_⟩
 refine hK.out _ _ ⟨bc BK223 0, bc BK223 1, bc BK224 0, bc BK224 1⟩ (fun hHeld => ?_)
 clear hK K
 refine norm_ (a' := ?_) ?_ ?_
 rotate_left
 ·show Act.put _ (some 14) _ = _
  simp only [Act.put, List.setIfInBounds_toArray, List.set_cons_zero, List.set_cons_succ, i64_w, i32_w]
  rfl
 refine one_ (i := 10) (N := some 15) #[true, true, true, true, true, true, true, true, true, true, true, false, false] rfl rfl (one_of HT_.out (by kernel_rfl)) (by decide) (fun K hK => ?_)
 refine Kd.R_lit_step (Kd.int .i64) _ 3 ?hg (N := 15) ?hd (xs := ([t225, t226] : List Int)) (inner := [.int .i64 t225, .int .i64 t226]) (ok := fun _ => True) (okp := fun _ => True) ?hr ?hp (fun _ hk => hk) trivial (Below.refl _ _) (Nat.le_refl _) (by simp) ?_; (case hd => rfl); (case hg => rfl); (case hr => first | (go_simp; done) | (go_simp; rfl)); (case hp => exact (Reps.one (show Kd.M (Kd.int .i64) _ _ _ t225 [.int .i64 t225] from rfl) (Reps.one (show Kd.M (Kd.int .i64) _ _ _ t226 [.int .i64 t226] from rfl) (Reps.none _ _))))
 intro v228 w9 ho10 hb hg_ hnew_
 clear hg_ hnew_
 (first | rw [← Ny227.out] at ho10 | (simp only [Int.reduceToNat] at ho10; rw [← Ny227.out] at ho10))
 have HO229 := Aside0.mk (Kd.R_lower ho10 (below_size (belt HB)))
 replace BK223 := blkb BK223 hb
 replace BK224 := blkb BK224 hb
 replace HB := belb HB hb
 clear hb ho10
 obtain ⟨Ao11, co11, eo11⟩ := Kd.R_slice HO229.out
 (first | subst eo11 | (injection eo11 with f1_ f2_ f3_; have f4_ := f1_.symm; have f5_ := f3_.symm; clear f1_ f2_ f3_; subst f4_; subst f5_))
 refine hK.out _ _ ⟨bc BK223 0, bc BK223 1, bc BK224 0, bc BK224 1⟩ (fun hHeld => ?_)
 clear hK K
 refine norm_ (a' := ?_) ?_ ?_
 rotate_left
 ·show Act.put _ (some 15) _ = _
  simp only [Act.put, List.setIfInBounds_toArray, List.set_cons_zero, List.set_cons_succ, i64_w, i32_w]
  rfl
 refine one_ (i := 11) (N := some 16) #[true, true, true, true, true, true, true, true, true, true, true, true, false] rfl rfl (one_of HT_.out (by kernel_rfl)) (by decide) (fun K hK => ?_)
 refine goes_ Tryz.func62 (by kernel_rfl) rfl #[.slice Ao11 y227.length co11] (by rfl) rfl rfl argt ?_
 with_reducible refine (cmp_Or_int.calls k _ _ y227 t230 _ ?side1 ?side2 A5.out).mono ?_
 (case side1 => repeat (first | exact (Kd.R_reads' HO229.out).2.2 | (with_reducible refine Kd.C_alloc ?_ _) | (with_reducible refine Kd.C_drewN ?_ _) | (with_reducible refine Kd.C_drew ?_)))
 (case side2 => exact (Kd.R_reads' HO229.out).2.1)
 rintro e w' ⟨rfl, ⟨nd, rfl⟩⟩
 refine ⟨_, rfl, ?_⟩
 refine hK.out _ _ ⟨bc BK223 0, bc BK223 1, bc BK224 0, bc BK224 1⟩ (fun hHeld => ?_)
 clear hK K
 refine norm_ (a' := ?_) ?_ ?_
 rotate_left
 ·show Act.put _ (some 16) _ = _
  simp only [Act.put, List.setIfInBounds_toArray, List.set_cons_zero, List.set_cons_succ, i64_w, i32_w]
  rfl
 refine pure_ (i := 12) (N := some 4) (v := ?_) (a' := ?_) #[true, true, true, true, true, true, true, true, true, true, true, true, true] rfl rfl (any_of HT_.out (by kernel_rfl)) (fun _ _ _ h => h) (Or.inl ⟨by rfl, ?_⟩) ?_ ?_
 rotate_left
 ·intro w'
  go_simp
  with_reducible rfl
 rotate_left
 ·simp only [Act.put, List.setIfInBounds_toArray, List.set_cons_zero, List.set_cons_succ, i64_w, i32_w]
  rfl
 refine done_ (done_of HT_.out (by kernel_rfl)) ?_
 try go_wp2
 go_ret
 exact ⟨by first | rfl | (simp [errW_none, errW_some] <;> rfl) | (simp [*, errW_none, errW_some] <;> rfl), belt HB⟩


/-! ### wide_Int_Sign: function 48 -/
def wide_Int_Sign.f (k : Nat) (a0_0 : Int) (a0_1 : Int) : Option (Int) := (wide_Int_Cmp.f k a0_0 a0_1 0 0).bind fun t232 => (some t232)
theorem wide_Int_Sign.mono : ∀ a0 a1 k, LeO (wide_Int_Sign.f k a0 a1) (wide_Int_Sign.f (k + 1) a0 a1) := by
 intro a0 a1 k
 unfold wide_Int_Sign.f
 repeat' first
   | (with_reducible exact wide_Int_Cmp.mono _ _ _ _ _)
   | (with_reducible exact LeO.refl _)
   | (with_reducible exact LeO.none _)
   | (with_reducible refine LeO.ite ?_ ?_)
   | (with_reducible refine LeO.bind ?_ (fun _ => ?_))
   | exact wide_Int_Cmp.mono _ _ _ _ _
   | exact LeO.none _
   | refine LeO.ite ?_ ?_
   | refine LeO.bind ?_ (fun _ => ?_)
set_option maxHeartbeats 8000000 in
set_option maxRecDepth 100000 in
theorem wide_Int_Sign.calls (k : Nat) (a0_0 : Int) (a0_1 : Int) (r : Int) (w : World) (h : wide_Int_Sign.f k a0_0 a0_1 = some r) :
  Calls Tryz.prog 48 #[.agg #[.int .i64 a0_0, .int .u64 a0_1]] w fun e w' => e = .returned (.int .i64 r) ∧ Below w.heap.size w w' := by
 have hu31 := Tryz.underlying31
 have HB := Aside0.mk (Below.refl w.heap.size w)
 have H : ((wide_Int_Cmp.f k a0_0 a0_1 0 0).bind fun t232 => (some t232)) = some r := h
 clear h
 replace H := Option.bind_eq_some_iff.mp H
 obtain ⟨t232, A20, H⟩ := H
 replace H : (some t232) = some r := H
 have A2 := Aside0.mk A20
 clear A20
 obtain rfl := Option.some.inj H
 go_enter Tryz.func48, Tryz.ntmps48
 go_wp2_with (first | ((with_reducible refine gate_dst (N := 1) rfl ?_); refine box_event ?hg (N := 1) ?hd (cs := #[.int .i64 a0_0, .int .u64 a0_1]) (t := 31) ?hr ?_; (case hd => rfl); (case hg => rfl); (case hr => first | (go_simp; done) | (go_simp; rfl)); intro gb231 hg w3 hbox hb; have BK231 := Aside0.mk (hbox); have GW231 := bels HB hg; have GE231 := bels HB hg; replace HB := belb HB hb; clear hb hbox hg; have hcz4_0 : w3.cell? ⟨gb231, 0, none⟩ = some (.int .i64 a0_0) := bc BK231 0; have hcz4_1 : w3.cell? ⟨gb231, 1, none⟩ = some (.int .u64 a0_1) := bc BK231 1; have hfz4_0 := blk_frozen BK231.out 0; have hfz4_1 := blk_frozen BK231.out 1) | ((with_reducible refine gate_callee (f := 41) rfl ?_); refine goesL_ (some 5) rfl rfl Tryz.func41 (by kernel_rfl) rfl #[.agg #[.int .i64 a0_0, .int .u64 a0_1], .agg #[.int .i64 0, .int .u64 0]] rfl argt ?_; (with_reducible refine (wide_Int_Cmp.calls k a0_0 a0_1 0 0 t232 _ A2.out).mono ?_); rintro e w5 ⟨rfl, hb⟩; refine ⟨_, rfl, ?_⟩; replace BK231 := blkb BK231 hb; replace HB := belb HB hb; (try clear hb); (try clear hb2); (try clear hk); (try clear hi)))
 go_ret
 exact ⟨by first | rfl | (simp [errW_none, errW_some] <;> rfl) | (simp [*, errW_none, errW_some] <;> rfl), belt HB⟩


attribute [local go_sem high] eqA31
/-! ### wide_Int_Neg: function 74 -/
def wide_Int_Neg.f (a0_0 : Int) (a0_1 : Int) : Option (Int × Int × Bool) := if (a0_0 == (-9223372036854775808) && (a0_1 == 0)) = true then (some (0, 0, false)) else ((wide_Int_flip.f a0_0 a0_1).bind fun bt326 => (some (bt326.1, bt326.2, true)))
set_option maxHeartbeats 8000000 in
set_option maxRecDepth 100000 in
theorem wide_Int_Neg.calls (a0_0 : Int) (a0_1 : Int) (r1 : Int) (r2 : Int) (r3 : Bool) (w : World) (h : wide_Int_Neg.f a0_0 a0_1 = some (r1, r2, r3)) :
  Calls Tryz.prog 74 #[.agg #[.int .i64 a0_0, .int .u64 a0_1]] w fun e w' => e = .returned (.tuple #[.agg #[.int .i64 r1, .int .u64 r2], .bool r3]) ∧ Below w.heap.size w w' := by
 have hu31 := Tryz.underlying31
 have HB := Aside0.mk (Below.refl w.heap.size w)
 have H : (if (a0_0 == (-9223372036854775808) && (a0_1 == 0)) = true then (some (0, 0, false)) else ((wide_Int_flip.f a0_0 a0_1).bind fun bt326 => (some (bt326.1, bt326.2, true)))) = some (r1, r2, r3) := h
 clear h
 by_cases c2 : (a0_0 == (-9223372036854775808) && (a0_1 == 0)) = true
 ·rw [if_pos c2] at H
  have c2b0 : (a0_0 == (-9223372036854775808) && (a0_1 == 0)) = true := c2
  (try (have c2b1 : decide (a0_0 = (-9223372036854775808) && (a0_1 == 0)) = true := by simpa using c2))
  (try (have c2b2 : (a0_0 == (-9223372036854775808) && (a0_1 == 0)) = true := by simpa using c2))
  clear c2
  simp only [Option.some.injEq, Prod.mk.injEq] at H
  obtain ⟨rfl, rfl, rfl⟩ := H
  go_enter Tryz.func74, Tryz.ntmps74
  go_wp2_with (first | ((with_reducible refine gate_dst (N := 1) rfl ?_); refine box_event ?hg (N := 1) ?hd (cs := #[.int .i64 a0_0, .int .u64 a0_1]) (t := 31) ?hr ?_; (case hd => rfl); (case hg => rfl); (case hr => first | (go_simp; done) | (go_simp; rfl)); intro gb324 hg w3 hbox hb; have BK324 := Aside0.mk (hbox); have GW324 := bels HB hg; have GE324 := bels HB hg; replace HB := belb HB hb; clear hb hbox hg) | ((with_reducible refine gate_dst (N := 2) rfl ?_); refine box_event ?hg (N := 2) ?hd (cs := #[.int .i64 0, .int .u64 0]) (t := 31) ?hr ?_; (case hd => rfl); (case hg => rfl); (case hr => first | (go_simp; done) | (go_simp; rfl)); intro gb325 hg w4 hbox hb; have BK325 := Aside0.mk (hbox); have GW325 := bels HB hg; have GE325 := bels HB hg; have NB324_325 := blkl BK324 hg; have NB325_324 := blkg BK324 hg; replace BK324 := blkb BK324 hb; replace HB := belb HB hb; clear hb hbox hg; have hnb5 := NB324_325.out; have hnc5 := NB325_324.out; have hcz6_0 : w4.cell? ⟨gb324, 0, none⟩ = some (.int .i64 a0_0) := bc BK324 0; have hcz6_1 : w4.cell? ⟨gb324, 1, none⟩ = some (.int .u64 a0_1) := bc BK324 1; have hfz6_0 := blk_frozen BK324.out 0; have hfz6_1 := blk_frozen BK324.out 1; have hcz7_0 : w4.cell? ⟨gb325, 0, none⟩ = some (.int .i64 0) := bc BK325 0; have hcz7_1 : w4.cell? ⟨gb325, 1, none⟩ = some (.int .u64 0) := bc BK325 1; have hfz7_0 := blk_frozen BK325.out 0; have hfz7_1 := blk_frozen BK325.out 1))
  refine bodyPost_ret (results_ct rfl _ _ gb325 31 #[.int .i64 0, .int .u64 0] (0, 0) _ rfl (by (with_reducible repeat (first | refine blk_drewN ?_ _ | refine blk_drew ?_ | refine blk_alloc ?_ _)); refine blk_put (cs := #[.int .i64 0, .int .u64 0]) ?_ 1 _ rfl; (with_reducible repeat (first | refine blk_drewN ?_ _ | refine blk_drew ?_ | refine blk_alloc ?_ _)); refine blk_put (cs := #[.int .i64 0, .int .u64 0]) ?_ 0 _ rfl; exact blkt BK325) Tryz.underlying31 rfl (by kernel_rfl)) rfl ?_
  exact ⟨by first | rfl | (simp [errW_none, errW_some] <;> rfl) | (simp [*, errW_none, errW_some] <;> rfl), belt HB⟩
 rw [if_neg c2] at H
 have c2b0 : (a0_0 == (-9223372036854775808) && (a0_1 == 0)) = false := by simpa using c2
 (try (have c2b1 : decide (a0_0 = (-9223372036854775808) && (a0_1 == 0)) = false := by simpa using c2))
 (try (have c2b2 : (a0_0 == (-9223372036854775808) && (a0_1 == 0)) = false := by simpa using c2))
 (try (have c2b3 : ¬ (a0_0 = (-9223372036854775808) && (a0_1 == 0)) := by simpa using c2))
 clear c2
 replace H := Option.bind_eq_some_iff.mp H
 obtain ⟨⟨t326, t327⟩, A80, H⟩ := H
 replace H : (some (t326, t327, true)) = some (r1, r2, r3) := H
 have A8 := Aside0.mk A80
 clear A80
 simp only [Option.some.injEq, Prod.mk.injEq] at H
 obtain ⟨rfl, rfl, rfl⟩ := H
 go_enter Tryz.func74, Tryz.ntmps74
 go_wp2_with (first | ((with_reducible refine gate_dst (N := 1) rfl ?_); refine box_event ?hg (N := 1) ?hd (cs := #[.int .i64 a0_0, .int .u64 a0_1]) (t := 31) ?hr ?_; (case hd => rfl); (case hg => rfl); (case hr => first | (go_simp; done) | (go_simp; rfl)); intro gb324 hg w9 hbox hb; have BK324 := Aside0.mk (hbox); have GW324 := bels HB hg; have GE324 := bels HB hg; replace HB := belb HB hb; clear hb hbox hg) | ((with_reducible refine gate_dst (N := 2) rfl ?_); refine box_event ?hg (N := 2) ?hd (cs := #[.int .i64 0, .int .u64 0]) (t := 31) ?hr ?_; (case hd => rfl); (case hg => rfl); (case hr => first | (go_simp; done) | (go_simp; rfl)); intro gb325 hg w10 hbox hb; have BK325 := Aside0.mk (hbox); have GW325 := bels HB hg; have GE325 := bels HB hg; have NB324_325 := blkl BK324 hg; have NB325_324 := blkg BK324 hg; replace BK324 := blkb BK324 hb; replace HB := belb HB hb; clear hb hbox hg; have hnb11 := NB324_325.out; have hnc11 := NB325_324.out; have hcz12_0 : w10.cell? ⟨gb324, 0, none⟩ = some (.int .i64 a0_0) := bc BK324 0; have hcz12_1 : w10.cell? ⟨gb324, 1, none⟩ = some (.int .u64 a0_1) := bc BK324 1; have hfz12_0 := blk_frozen BK324.out 0; have hfz12_1 := blk_frozen BK324.out 1) | ((with_reducible refine gate_callee (f := 83) rfl ?_); refine goesL_ (some 9) rfl rfl Tryz.func83 (by kernel_rfl) rfl #[.agg #[.int .i64 a0_0, .int .u64 a0_1]] rfl argt ?_; (with_reducible refine (wide_Int_flip.calls a0_0 a0_1 t326 t327 _ A8.out).mono ?_); rintro e w13 ⟨rfl, hb⟩; refine ⟨_, rfl, ?_⟩; replace BK324 := blkb BK324 hb; replace BK325 := blkb BK325 hb; replace HB := belb HB hb; (try clear hb); (try clear hb2); (try clear hk); (try clear hi); have hcz14_0 : w13.cell? ⟨gb325, 0, none⟩ = some (.int .i64 0) := bc BK325 0; have hcz14_1 : w13.cell? ⟨gb325, 1, none⟩ = some (.int .u64 0) := bc BK325 1; have hfz14_0 := blk_frozen BK325.out 0; have hfz14_1 := blk_frozen BK325.out 1))
 refine bodyPost_ret (results_ct rfl _ _ gb325 31 #[.int .i64 t326, .int .u64 t327] (0, 0) _ rfl (by (with_reducible repeat (first | refine blk_drewN ?_ _ | refine blk_drew ?_ | refine blk_alloc ?_ _)); refine blk_put (cs := #[.int .i64 t326, .int .u64 0]) ?_ 1 _ rfl; (with_reducible repeat (first | refine blk_drewN ?_ _ | refine blk_drew ?_ | refine blk_alloc ?_ _)); refine blk_put (cs := #[.int .i64 0, .int .u64 0]) ?_ 0 _ rfl; exact blkt BK325) Tryz.underlying31 rfl (by kernel_rfl)) rfl ?_
 exact ⟨by first | rfl | (simp [errW_none, errW_some] <;> rfl) | (simp [*, errW_none, errW_some] <;> rfl), belt HB⟩


/-! ### clamp_greatest: function 75 -/
def clamp_greatest.f  : Option (Int × Int) := some (9223372036854775807, 18446744073709551615)
set_option maxHeartbeats 8000000 in
set_option maxRecDepth 100000 in
theorem clamp_greatest.calls  (r1 : Int) (r2 : Int) (w : World) (h : clamp_greatest.f  = some (r1, r2)) :
  Calls Tryz.prog 75 #[] w fun e w' => e = .returned (.agg #[.int .i64 r1, .int .u64 r2]) ∧ Below w.heap.size w w' := by
 have hu31 := Tryz.underlying31
 have HB := Aside0.mk (Below.refl w.heap.size w)
 have H : (some (9223372036854775807, 18446744073709551615)) = some (r1, r2) := h
 clear h
 simp only [Option.some.injEq, Prod.mk.injEq] at H
 obtain ⟨rfl, rfl⟩ := H
 go_enter Tryz.func75, Tryz.ntmps75
 go_wp2_with (first | ((with_reducible refine gate_dst (N := 0) rfl ?_); refine box_event ?hg (N := 0) ?hd (cs := #[.int .i64 0, .int .u64 0]) (t := 31) ?hr ?_; (case hd => rfl); (case hg => rfl); (case hr => first | (go_simp; done) | (go_simp; rfl)); intro gb328 hg w1 hbox hb; have BK328 := Aside0.mk (hbox); have GW328 := bels HB hg; have GE328 := bels HB hg; replace HB := belb HB hb; clear hb hbox hg; have hcz2_0 : w1.cell? ⟨gb328, 0, none⟩ = some (.int .i64 0) := bc BK328 0; have hcz2_1 : w1.cell? ⟨gb328, 1, none⟩ = some (.int .u64 0) := bc BK328 1; have hfz2_0 := blk_frozen BK328.out 0; have hfz2_1 := blk_frozen BK328.out 1))
 refine bodyPost_ret (results_cell_row rfl _ _ gb328 31 #[.int .i64 9223372036854775807, .int .u64 18446744073709551615] (0, 0) _ rfl (by (with_reducible repeat (first | refine blk_drewN ?_ _ | refine blk_drew ?_ | refine blk_alloc ?_ _)); refine blk_put (cs := #[.int .i64 9223372036854775807, .int .u64 0]) ?_ 1 _ rfl; (with_reducible repeat (first | refine blk_drewN ?_ _ | refine blk_drew ?_ | refine blk_alloc ?_ _)); refine blk_put (cs := #[.int .i64 0, .int .u64 0]) ?_ 0 _ rfl; exact blkt BK328) Tryz.underlying31 rfl (by kernel_rfl)) rfl ?_
 exact ⟨by first | rfl | (simp [errW_none, errW_some] <;> rfl) | (simp [*, errW_none, errW_some] <;> rfl), belt HB⟩


/-! ### clamp_Size: function 47 -/
def clamp_Size.f (k : Nat) (a0_0 : Int) (a0_1 : Int) : Option (Int × Int) := (wide_Int_Sign.f k a0_0 a0_1).bind fun t331 => (if t331 ≥ 0 then (some (a0_0, a0_1)) else ((wide_Int_Neg.f a0_0 a0_1).bind fun bt332 => (if bt332.2.2 = true then (some (bt332.1, bt332.2.1)) else ((clamp_greatest.f).bind fun bt336 => (some (bt336.1, bt336.2))))))
theorem clamp_Size.mono : ∀ a0 a1 k, LeO (clamp_Size.f k a0 a1) (clamp_Size.f (k + 1) a0 a1) := by
 intro a0 a1 k
 unfold clamp_Size.f
 repeat' first
   | (with_reducible exact wide_Int_Sign.mono _ _ _)
   | (with_reducible exact LeO.refl _)
   | (with_reducible exact LeO.none _)
   | (with_reducible refine LeO.ite ?_ ?_)
   | (with_reducible refine LeO.bind ?_ (fun _ => ?_))
   | exact wide_Int_Sign.mono _ _ _
   | exact LeO.none _
   | refine LeO.ite ?_ ?_
   | refine LeO.bind ?_ (fun _ => ?_)
set_option maxHeartbeats 8000000 in
set_option maxRecDepth 100000 in
theorem clamp_Size.calls (k : Nat) (a0_0 : Int) (a0_1 : Int) (r1 : Int) (r2 : Int) (w : World) (h : clamp_Size.f k a0_0 a0_1 = some (r1, r2)) :
  Calls Tryz.prog 47 #[.agg #[.int .i64 a0_0, .int .u64 a0_1]] w fun e w' => e = .returned (.agg #[.int .i64 r1, .int .u64 r2]) ∧ Below w.heap.size w w' := by
 have hu31 := Tryz.underlying31
 have HB := Aside0.mk (Below.refl w.heap.size w)
 have H : ((wide_Int_Sign.f k a0_0 a0_1).bind fun t331 => (if t331 ≥ 0 then (some (a0_0, a0_1)) else ((wide_Int_Neg.f a0_0 a0_1).bind fun bt332 => (if bt332.2.2 = true then (some (bt332.1, bt332.2.1)) else ((clamp_greatest.f).bind fun bt336 => (some (bt336.1, bt336.2))))))) = some (r1, r2) := h
 clear h
 replace H := Option.bind_eq_some_iff.mp H
 obtain ⟨t331, A20, H⟩ := H
 replace H : (if t331 ≥ 0 then (some (a0_0, a0_1)) else ((wide_Int_Neg.f a0_0 a0_1).bind fun bt332 => (if bt332.2.2 = true then (some (bt332.1, bt332.2.1)) else ((clamp_greatest.f).bind fun bt336 => (some (bt336.1, bt336.2)))))) = some (r1, r2) := H
 have A2 := Aside0.mk A20
 clear A20
 by_cases c3 : t331 ≥ 0
 ·rw [if_pos c3] at H
  have c3b0 : decide (0 ≤ t331) = true := decide_eq_true c3
  clear c3
  simp only [Option.some.injEq, Prod.mk.injEq] at H
  obtain ⟨rfl, rfl⟩ := H
  go_enter Tryz.func47, Tryz.ntmps47
  go_wp2_with (first | ((with_reducible refine gate_dst (N := 1) rfl ?_); refine box_event ?hg (N := 1) ?hd (cs := #[.int .i64 a0_0, .int .u64 a0_1]) (t := 31) ?hr ?_; (case hd => rfl); (case hg => rfl); (case hr => first | (go_simp; done) | (go_simp; rfl)); intro gb329 hg w4 hbox hb; have BK329 := Aside0.mk (hbox); have GW329 := bels HB hg; have GE329 := bels HB hg; replace HB := belb HB hb; clear hb hbox hg) | ((with_reducible refine gate_dst (N := 2) rfl ?_); refine box_event ?hg (N := 2) ?hd (cs := #[.int .i64 0, .int .u64 0]) (t := 31) ?hr ?_; (case hd => rfl); (case hg => rfl); (case hr => first | (go_simp; done) | (go_simp; rfl)); intro gb330 hg w5 hbox hb; have BK330 := Aside0.mk (hbox); have GW330 := bels HB hg; have GE330 := bels HB hg; have NB329_330 := blkl BK329 hg; have NB330_329 := blkg BK329 hg; replace BK329 := blkb BK329 hb; replace HB := belb HB hb; clear hb hbox hg; have hnb6 := NB329_330.out; have hnc6 := NB330_329.out; have hcz7_0 : w5.cell? ⟨gb329, 0, none⟩ = some (.int .i64 a0_0) := bc BK329 0; have hcz7_1 : w5.cell? ⟨gb329, 1, none⟩ = some (.int .u64 a0_1) := bc BK329 1; have hfz7_0 := blk_frozen BK329.out 0; have hfz7_1 := blk_frozen BK329.out 1) | ((with_reducible refine gate_callee (f := 48) rfl ?_); refine goesL_ (some 6) rfl rfl Tryz.func48 (by kernel_rfl) rfl #[.agg #[.int .i64 a0_0, .int .u64 a0_1]] rfl argt ?_; (with_reducible refine (wide_Int_Sign.calls k a0_0 a0_1 t331 _ A2.out).mono ?_); rintro e w8 ⟨rfl, hb⟩; refine ⟨_, rfl, ?_⟩; replace BK329 := blkb BK329 hb; replace BK330 := blkb BK330 hb; replace HB := belb HB hb; (try clear hb); (try clear hb2); (try clear hk); (try clear hi); have hcz9_0 : w8.cell? ⟨gb329, 0, none⟩ = some (.int .i64 a0_0) := bc BK329 0; have hcz9_1 : w8.cell? ⟨gb329, 1, none⟩ = some (.int .u64 a0_1) := bc BK329 1; have hfz9_0 := blk_frozen BK329.out 0; have hfz9_1 := blk_frozen BK329.out 1; have hcz10_0 : w8.cell? ⟨gb330, 0, none⟩ = some (.int .i64 0) := bc BK330 0; have hcz10_1 : w8.cell? ⟨gb330, 1, none⟩ = some (.int .u64 0) := bc BK330 1; have hfz10_0 := blk_frozen BK330.out 0; have hfz10_1 := blk_frozen BK330.out 1))
  refine bodyPost_ret (results_cell_row rfl _ _ gb330 31 #[.int .i64 a0_0, .int .u64 a0_1] (0, 0) _ rfl (by (with_reducible repeat (first | refine blk_drewN ?_ _ | refine blk_drew ?_ | refine blk_alloc ?_ _)); refine blk_put (cs := #[.int .i64 a0_0, .int .u64 0]) ?_ 1 _ rfl; (with_reducible repeat (first | refine blk_drewN ?_ _ | refine blk_drew ?_ | refine blk_alloc ?_ _)); refine blk_put (cs := #[.int .i64 0, .int .u64 0]) ?_ 0 _ rfl; exact blkt BK330) Tryz.underlying31 rfl (by kernel_rfl)) rfl ?_
  exact ⟨by first | rfl | (simp [errW_none, errW_some] <;> rfl) | (simp [*, errW_none, errW_some] <;> rfl), belt HB⟩
 rw [if_neg c3] at H
 have c3b0 : decide (0 ≤ t331) = false := decide_eq_false c3
 clear c3
 replace H := Option.bind_eq_some_iff.mp H
 obtain ⟨⟨t332, t333, t334⟩, A110, H⟩ := H
 replace H : (if t334 = true then (some (t332, t333)) else ((clamp_greatest.f).bind fun bt336 => (some (bt336.1, bt336.2)))) = some (r1, r2) := H
 have A11 := Aside0.mk A110
 clear A110
 by_cases c12 : t334 = true
 ·subst c12
  have H1 : (some (t332, t333)) = some (r1, r2) := by rw [if_pos rfl] at H; exact H
  clear H
  have H := H1
  clear H1
  simp only [Option.some.injEq, Prod.mk.injEq] at H
  obtain ⟨rfl, rfl⟩ := H
  go_enter Tryz.func47, Tryz.ntmps47
  go_wp2_with (first | ((with_reducible refine gate_dst (N := 1) rfl ?_); refine box_event ?hg (N := 1) ?hd (cs := #[.int .i64 a0_0, .int .u64 a0_1]) (t := 31) ?hr ?_; (case hd => rfl); (case hg => rfl); (case hr => first | (go_simp; done) | (go_simp; rfl)); intro gb329 hg w13 hbox hb; have BK329 := Aside0.mk (hbox); have GW329 := bels HB hg; have GE329 := bels HB hg; replace HB := belb HB hb; clear hb hbox hg) | ((with_reducible refine gate_dst (N := 2) rfl ?_); refine box_event ?hg (N := 2) ?hd (cs := #[.int .i64 0, .int .u64 0]) (t := 31) ?hr ?_; (case hd => rfl); (case hg => rfl); (case hr => first | (go_simp; done) | (go_simp; rfl)); intro gb330 hg w14 hbox hb; have BK330 := Aside0.mk (hbox); have GW330 := bels HB hg; have GE330 := bels HB hg; have NB329_330 := blkl BK329 hg; have NB330_329 := blkg BK329 hg; replace BK329 := blkb BK329 hb; replace HB := belb HB hb; clear hb hbox hg; have hnb15 := NB329_330.out; have hnc15 := NB330_329.out; have hcz16_0 : w14.cell? ⟨gb329, 0, none⟩ = some (.int .i64 a0_0) := bc BK329 0; have hcz16_1 : w14.cell? ⟨gb329, 1, none⟩ = some (.int .u64 a0_1) := bc BK329 1; have hfz16_0 := blk_frozen BK329.out 0; have hfz16_1 := blk_frozen BK329.out 1) | ((with_reducible refine gate_callee (f := 48) rfl ?_); refine goesL_ (some 6) rfl rfl Tryz.func48 (by kernel_rfl) rfl #[.agg #[.int .i64 a0_0, .int .u64 a0_1]] rfl argt ?_; (with_reducible refine (wide_Int_Sign.calls k a0_0 a0_1 t331 _ A2.out).mono ?_); rintro e w17 ⟨rfl, hb⟩; refine ⟨_, rfl, ?_⟩; replace BK329 := blkb BK329 hb; replace BK330 := blkb BK330 hb; replace HB := belb HB hb; (try clear hb); (try clear hb2); (try clear hk); (try clear hi); have hcz18_0 : w17.cell? ⟨gb329, 0, none⟩ = some (.int .i64 a0_0) := bc BK329 0; have hcz18_1 : w17.cell? ⟨gb329, 1, none⟩ = some (.int .u64 a0_1) := bc BK329 1; have hfz18_0 := blk_frozen BK329.out 0; have hfz18_1 := blk_frozen BK329.out 1) | ((with_reducible refine gate_callee (f := 74) rfl ?_); refine goesL_ (some 11) rfl rfl Tryz.func74 (by kernel_rfl) rfl #[.agg #[.int .i64 a0_0, .int .u64 a0_1]] rfl argt ?_; (with_reducible refine (wide_Int_Neg.calls a0_0 a0_1 t332 t333 true _ A11.out).mono ?_); rintro e w19 ⟨rfl, hb⟩; refine ⟨_, rfl, ?_⟩; replace BK329 := blkb BK329 hb; replace BK330 := blkb BK330 hb; replace HB := belb HB hb; (try clear hb); (try clear hb2); (try clear hk); (try clear hi)) | ((with_reducible refine gate_dst (N := 3) rfl ?_); refine box_event ?hg (N := 3) ?hd (cs := #[.int .i64 0, .int .u64 0]) (t := 31) ?hr ?_; (case hd => rfl); (case hg => rfl); (case hr => first | (go_simp; done) | (go_simp; rfl)); intro gb335 hg w20 hbox hb; have BK335 := Aside0.mk (hbox); have GW335 := bels HB hg; have GE335 := bels HB hg; have NB329_335 := blkl BK329 hg; have NB335_329 := blkg BK329 hg; have NB330_335 := blkl BK330 hg; have NB335_330 := blkg BK330 hg; replace BK329 := blkb BK329 hb; replace BK330 := blkb BK330 hb; replace HB := belb HB hb; clear hb hbox hg; have hnb21 := NB335_329.out; have hnc21 := NB329_335.out; have hnb22 := NB335_330.out; have hnc22 := NB330_335.out; have hcz23_0 : w20.cell? ⟨gb335, 0, none⟩ = some (.int .i64 0) := bc BK335 0; have hcz23_1 : w20.cell? ⟨gb335, 1, none⟩ = some (.int .u64 0) := bc BK335 1; have hfz23_0 := blk_frozen BK335.out 0; have hfz23_1 := blk_frozen BK335.out 1; have hcz24_0 : w20.cell? ⟨gb330, 0, none⟩ = some (.int .i64 0) := bc BK330 0; have hcz24_1 : w20.cell? ⟨gb330, 1, none⟩ = some (.int .u64 0) := bc BK330 1; have hfz24_0 := blk_frozen BK330.out 0; have hfz24_1 := blk_frozen BK330.out 1))
  refine bodyPost_ret (results_cell_row rfl _ _ gb330 31 #[.int .i64 t332, .int .u64 t333] (0, 0) _ rfl (by (with_reducible repeat (first | refine blk_drewN ?_ _ | refine blk_drew ?_ | refine blk_alloc ?_ _)); refine blk_put (cs := #[.int .i64 t332, .int .u64 0]) ?_ 1 _ rfl; (with_reducible repeat (first | refine blk_drewN ?_ _ | refine blk_drew ?_ | refine blk_alloc ?_ _)); refine blk_put (cs := #[.int .i64 0, .int .u64 0]) ?_ 0 _ rfl; (with_reducible repeat (first | refine blk_drewN ?_ _ | refine blk_drew ?_ | refine blk_alloc ?_ _)); refine blk_far ?_ NB330_335.out _; (with_reducible repeat (first | refine blk_drewN ?_ _ | refine blk_drew ?_ | refine blk_alloc ?_ _)); refine blk_far ?_ NB330_335.out _; exact blkt BK330) Tryz.underlying31 rfl (by kernel_rfl)) rfl ?_
  exact ⟨by first | rfl | (simp [errW_none, errW_some] <;> rfl) | (simp [*, errW_none, errW_some] <;> rfl), belt HB⟩
 replace c12 := Bool.eq_false_iff.mpr c12
 subst c12
 have H1 : ((clamp_greatest.f).bind fun bt336 => (some (bt336.1, bt336.2))) = some (r1, r2) := by rw [if_neg (show ¬ (false = true) by decide)] at H; exact H
 clear H
 have H := H1
 clear H1
 replace H := Option.bind_eq_some_iff.mp H
 obtain ⟨⟨t336, t337⟩, A250, H⟩ := H
 replace H : (some (t336, t337)) = some (r1, r2) := H
 have A25 := Aside0.mk A250
 clear A250
 simp only [Option.some.injEq, Prod.mk.injEq] at H
 obtain ⟨rfl, rfl⟩ := H
 go_enter Tryz.func47, Tryz.ntmps47
 go_wp2_with (first | ((with_reducible refine gate_dst (N := 1) rfl ?_); refine box_event ?hg (N := 1) ?hd (cs := #[.int .i64 a0_0, .int .u64 a0_1]) (t := 31) ?hr ?_; (case hd => rfl); (case hg => rfl); (case hr => first | (go_simp; done) | (go_simp; rfl)); intro gb329 hg w26 hbox hb; have BK329 := Aside0.mk (hbox); have GW329 := bels HB hg; have GE329 := bels HB hg; replace HB := belb HB hb; clear hb hbox hg) | ((with_reducible refine gate_dst (N := 2) rfl ?_); refine box_event ?hg (N := 2) ?hd (cs := #[.int .i64 0, .int .u64 0]) (t := 31) ?hr ?_; (case hd => rfl); (case hg => rfl); (case hr => first | (go_simp; done) | (go_simp; rfl)); intro gb330 hg w27 hbox hb; have BK330 := Aside0.mk (hbox); have GW330 := bels HB hg; have GE330 := bels HB hg; have NB329_330 := blkl BK329 hg; have NB330_329 := blkg BK329 hg; replace BK329 := blkb BK329 hb; replace HB := belb HB hb; clear hb hbox hg; have hnb28 := NB329_330.out; have hnc28 := NB330_329.out; have hcz29_0 : w27.cell? ⟨gb329, 0, none⟩ = some (.int .i64 a0_0) := bc BK329 0; have hcz29_1 : w27.cell? ⟨gb329, 1, none⟩ = some (.int .u64 a0_1) := bc BK329 1; have hfz29_0 := blk_frozen BK329.out 0; have hfz29_1 := blk_frozen BK329.out 1) | ((with_reducible refine gate_callee (f := 48) rfl ?_); refine goesL_ (some 6) rfl rfl Tryz.func48 (by kernel_rfl) rfl #[.agg #[.int .i64 a0_0, .int .u64 a0_1]] rfl argt ?_; (with_reducible refine (wide_Int_Sign.calls k a0_0 a0_1 t331 _ A2.out).mono ?_); rintro e w30 ⟨rfl, hb⟩; refine ⟨_, rfl, ?_⟩; replace BK329 := blkb BK329 hb; replace BK330 := blkb BK330 hb; replace HB := belb HB hb; (try clear hb); (try clear hb2); (try clear hk); (try clear hi); have hcz31_0 : w30.cell? ⟨gb329, 0, none⟩ = some (.int .i64 a0_0) := bc BK329 0; have hcz31_1 : w30.cell? ⟨gb329, 1, none⟩ = some (.int .u64 a0_1) := bc BK329 1; have hfz31_0 := blk_frozen BK329.out 0; have hfz31_1 := blk_frozen BK329.out 1) | ((with_reducible refine gate_callee (f := 74) rfl ?_); refine goesL_ (some 11) rfl rfl Tryz.func74 (by kernel_rfl) rfl #[.agg #[.int .i64 a0_0, .int .u64 a0_1]] rfl argt ?_; (with_reducible refine (wide_Int_Neg.calls a0_0 a0_1 t332 t333 false _ A11.out).mono ?_); rintro e w32 ⟨rfl, hb⟩; refine ⟨_, rfl, ?_⟩; replace BK329 := blkb BK329 hb; replace BK330 := blkb BK330 hb; replace HB := belb HB hb; (try clear hb); (try clear hb2); (try clear hk); (try clear hi)) | ((with_reducible refine gate_dst (N := 3) rfl ?_); refine box_event ?hg (N := 3) ?hd (cs := #[.int .i64 0, .int .u64 0]) (t := 31) ?hr ?_; (case hd => rfl); (case hg => rfl); (case hr => first | (go_simp; done) | (go_simp; rfl)); intro gb335 hg w33 hbox hb; have BK335 := Aside0.mk (hbox); have GW335 := bels HB hg; have GE335 := bels HB hg; have NB329_335 := blkl BK329 hg; have NB335_329 := blkg BK329 hg; have NB330_335 := blkl BK330 hg; have NB335_330 := blkg BK330 hg; replace BK329 := blkb BK329 hb; replace BK330 := blkb BK330 hb; replace HB := belb HB hb; clear hb hbox hg; have hnb34 := NB335_329.out; have hnc34 := NB329_335.out; have hnb35 := NB335_330.out; have hnc35 := NB330_335.out; have hcz36_0 : w33.cell? ⟨gb335, 0, none⟩ = some (.int .i64 0) := bc BK335 0; have hcz36_1 : w33.cell? ⟨gb335, 1, none⟩ = some (.int .u64 0) := bc BK335 1; have hfz36_0 := blk_frozen BK335.out 0; have hfz36_1 := blk_frozen BK335.out 1) | ((with_reducible refine gate_callee (f := 75) rfl ?_); refine goesL_ (some 16) rfl rfl Tryz.func75 (by kernel_rfl) rfl #[] rfl argt ?_; (with_reducible refine (clamp_greatest.calls  t336 t337 _ A25.out).mono ?_); rintro e w37 ⟨rfl, hb⟩; refine ⟨_, rfl, ?_⟩; replace BK329 := Aside0.mk (blk_below (g := gb329) (o := .cells #[.int .i64 a0_0, .int .u64 a0_1] 31 (0, 0)) (by (with_reducible repeat (first | refine blk_drewN ?_ _ | refine blk_drew ?_ | refine blk_alloc ?_ _)); refine blk_far ?_ NB329_335.out _; (with_reducible repeat (first | refine blk_drewN ?_ _ | refine blk_drew ?_ | refine blk_alloc ?_ _)); refine blk_far ?_ NB329_335.out _; exact blkt BK329) hb); replace BK330 := Aside0.mk (blk_below (g := gb330) (o := .cells #[.int .i64 0, .int .u64 0] 31 (0, 0)) (by (with_reducible repeat (first | refine blk_drewN ?_ _ | refine blk_drew ?_ | refine blk_alloc ?_ _)); refine blk_far ?_ NB330_335.out _; (with_reducible repeat (first | refine blk_drewN ?_ _ | refine blk_drew ?_ | refine blk_alloc ?_ _)); refine blk_far ?_ NB330_335.out _; exact blkt BK330) hb); replace BK335 := Aside0.mk (blk_below (g := gb335) (o := .cells #[.int .i64 t332, .int .u64 t333] 31 (0, 0)) (by (with_reducible repeat (first | refine blk_drewN ?_ _ | refine blk_drew ?_ | refine blk_alloc ?_ _)); refine blk_put (cs := #[.int .i64 t332, .int .u64 0]) ?_ 1 _ rfl; (with_reducible repeat (first | refine blk_drewN ?_ _ | refine blk_drew ?_ | refine blk_alloc ?_ _)); refine blk_put (cs := #[.int .i64 0, .int .u64 0]) ?_ 0 _ rfl; exact blkt BK335) hb); replace HB := belb HB hb; (try clear hb); (try clear hb2); (try clear hk); (try clear hi); have hcz38_0 : w37.cell? ⟨gb330, 0, none⟩ = some (.int .i64 0) := bc BK330 0; have hcz38_1 : w37.cell? ⟨gb330, 1, none⟩ = some (.int .u64 0) := bc BK330 1; have hfz38_0 := blk_frozen BK330.out 0; have hfz38_1 := blk_frozen BK330.out 1))
 refine bodyPost_ret (results_cell_row rfl _ _ gb330 31 #[.int .i64 t336, .int .u64 t337] (0, 0) _ rfl (by (with_reducible repeat (first | refine blk_drewN ?_ _ | refine blk_drew ?_ | refine blk_alloc ?_ _)); refine blk_put (cs := #[.int .i64 t336, .int .u64 0]) ?_ 1 _ rfl; (with_reducible repeat (first | refine blk_drewN ?_ _ | refine blk_drew ?_ | refine blk_alloc ?_ _)); refine blk_put (cs := #[.int .i64 0, .int .u64 0]) ?_ 0 _ rfl; exact blkt BK330) Tryz.underlying31 rfl (by kernel_rfl)) rfl ?_
 exact ⟨by first | rfl | (simp [errW_none, errW_some] <;> rfl) | (simp [*, errW_none, errW_some] <;> rfl), belt HB⟩


/-! ### wide_Sum: function 76 -/
def wide_Sum.l0 : Nat → List (S31) → Int → Int → Int → Int → Option (Int × Int × Bool)
 | 0, _, _, _, _, _ => none
 | k + 1, x9, x10, x11, x340000, x340001 => if x11 < x10 then (if 0 ≤ x11 then (if x11 < (x9.length : Int) then ((wide_Int_Add.f x340000 x340001 ((rd_T31 x9 x11).f0) ((rd_T31 x9 x11).f1)).bind fun bt342 => (if bt342.2.2 = true then (wide_Sum.l0 k x9 x10 (wrap64 (x11 + 1)) bt342.1 bt342.2.1) else (some (0, 0, false)))) else (none)) else (none)) else (some (x340000, x340001, true))
def wide_Sum.f (k : Nat) (l0 : List (S31)) : Option (Int × Int × Bool) := wide_Sum.l0 k l0 (l0.length : Int) 0 0 0
theorem wide_Sum.mono_l : ∀ k, (∀ y0 y1 y2 y3 y4, LeO (wide_Sum.l0 k y0 y1 y2 y3 y4) (wide_Sum.l0 (k + 1) y0 y1 y2 y3 y4))
 | 0 => fun _ _ _ _ _ r h => by simp [wide_Sum.l0] at h
 | k + 1 => by
  have ih0 := wide_Sum.mono_l k
  ·intro y0 y1 y2 y3 y4
   unfold wide_Sum.l0
   repeat' first
   | (with_reducible exact ih0 _ _ _ _ _)
   | (with_reducible exact LeO.refl _)
   | (with_reducible exact LeO.none _)
   | (with_reducible refine LeO.ite ?_ ?_)
   | (with_reducible refine LeO.bind ?_ (fun _ => ?_))
   | exact ih0 _ _ _ _ _
   | exact LeO.none _
   | refine LeO.ite ?_ ?_
   | refine LeO.bind ?_ (fun _ => ?_)
theorem wide_Sum.mono : ∀ a0 k, LeO (wide_Sum.f k a0) (wide_Sum.f (k + 1) a0) := by
 intro a0 k
 have ih0 := wide_Sum.mono_l k
 unfold wide_Sum.f
 repeat' first
   | (with_reducible exact ih0 _ _ _ _ _)
   | (with_reducible exact LeO.refl _)
   | (with_reducible exact LeO.none _)
   | (with_reducible refine LeO.ite ?_ ?_)
   | (with_reducible refine LeO.bind ?_ (fun _ => ?_))
   | exact ih0 _ _ _ _ _
   | exact LeO.none _
   | refine LeO.ite ?_ ?_
   | refine LeO.bind ?_ (fun _ => ?_)
set_option maxHeartbeats 8000000 in
set_option maxRecDepth 100000 in
theorem wide_Sum.calls (k : Nat) (A0 : Option Addr) (c0 : Nat) (l0 : List (S31)) (r1 : Int) (r2 : Int) (r3 : Bool) (w : World) (hr0 : Kd.C k31 w A0 l0.length l0) (hc0 : l0.length ≤ c0) (h : wide_Sum.f k l0 = some (r1, r2, r3)) :
  Calls Tryz.prog 76 #[.slice A0 l0.length c0] w fun e w' => e = .returned (.tuple #[.agg #[.int .i64 r1, .int .u64 r2], .bool r3]) ∧ Below w.heap.size w w' := by
 have hu31 := Tryz.underlying31
 have HR0 := Aside0.mk hr0
 have HC0 := Aside0.mk hc0
 clear hr0 hc0
 have HB := Aside0.mk (Below.refl w.heap.size w)
 have H : (wide_Sum.l0 k l0 (l0.length : Int) 0 0 0) = some (r1, r2, r3) := h
 clear h
 have H' := Aside0.mk H
 clear H
 go_enter Tryz.func76, Tryz.ntmps76
 go_wp2_with (first | ((with_reducible refine gate_dst (N := 2) rfl ?_); refine box_event ?hg (N := 2) ?hd (cs := #[.int .i64 0, .int .u64 0]) (t := 31) ?hr ?_; (case hd => rfl); (case hg => rfl); (case hr => first | (go_simp; done) | (go_simp; rfl)); intro gb338 hg w2 hbox hb; have BK338 := Aside0.mk (hbox); have GW338 := bels HB hg; have GE338 := bels HB hg; replace HB := belb HB hb; clear hb hbox hg) | ((with_reducible refine gate_dst (N := 4) rfl ?_); refine box_event ?hg (N := 4) ?hd (cs := #[.int .i64 0, .int .u64 0]) (t := 31) ?hr ?_; (case hd => rfl); (case hg => rfl); (case hr => first | (go_simp; done) | (go_simp; rfl)); intro gb339 hg w3 hbox hb; have BK339 := Aside0.mk (hbox); have GW339 := bels HB hg; have GE339 := bels HB hg; have NB338_339 := blkl BK338 hg; have NB339_338 := blkg BK338 hg; replace BK338 := blkb BK338 hb; replace HB := belb HB hb; clear hb hbox hg))
 (try simp only [Act.put, List.setIfInBounds_toArray, List.set_cons_zero, List.set_cons_succ])
 go_loopg [11] k (fun kq v11 w' => ∃ (x11_1 : Int) (x339000_1 : Int) (x339001_1 : Int) (x340000_1 : Int) (x340001_1 : Int), v11 = .int .i64 x11_1 ∧ Aside0 (wide_Sum.l0 kq l0 (l0.length : Int) x11_1 x340000_1 x340001_1 = some (r1, r2, r3)) ∧ Aside0 (kq ≤ k) ∧ Aside0 (w'.heap[gb338]? = some (.cells #[.int .i64 x339000_1, .int .u64 x339001_1] 31 (0, 0))) ∧ Aside0 (w'.heap[gb339]? = some (.cells #[.int .i64 x340000_1, .int .u64 x340001_1] 31 (0, 0))) ∧ Aside0 (Below w.heap.size w w'))
 case atStart => exact ⟨(0), (0), (0), (0), (0), (by first | rfl | (simp; done) | (simp [*]; done)), H', ⟨Nat.le_refl _⟩, ⟨blkt BK338⟩, ⟨blkt BK339⟩, ⟨belt HB⟩⟩
 case round =>
  clear H'
  try clear p2
  obtain ⟨x11_1, x339000_1, x339001_1, x340000_1, x340001_1, rfl, HA, HK1, BK338, BK339, HB⟩ := hrel
  cases gk with
  | zero => exact absurd HA.out (by simp [wide_Sum.l0])
  | succ k1 =>
   have H := HA.out
   clear HA
   simp only [wide_Sum.l0] at H
   by_cases c4 : x11_1 < (l0.length : Int)
   ·rw [if_pos c4] at H
    have c4b0 : decide (x11_1 < (l0.length : Int)) = true := decide_eq_true c4
    clear c4
    by_cases c5 : 0 ≤ x11_1
    ·rw [if_pos c5] at H
     have c5b0 : decide (0 ≤ x11_1) = true := decide_eq_true c5
     clear c5
     by_cases c6 : x11_1 < (l0.length : Int)
     ·rw [if_pos c6] at H
      have c6b0 : decide (x11_1 < (l0.length : Int)) = true := decide_eq_true c6
      clear c6
      replace H := Option.bind_eq_some_iff.mp H
      obtain ⟨⟨t342, t343, t344⟩, A70, H⟩ := H
      replace H : (if t344 = true then (wide_Sum.l0 k1 l0 (l0.length : Int) (wrap64 (x11_1 + 1)) t342 t343) else (some (0, 0, false))) = some (r1, r2, r3) := H
      have A7 := Aside0.mk A70
      clear A70
      by_cases c8 : t344 = true
      ·subst c8
       have H1 : (wide_Sum.l0 k1 l0 (l0.length : Int) (wrap64 (x11_1 + 1)) t342 t343) = some (r1, r2, r3) := by rw [if_pos rfl] at H; exact H
       clear H
       have H := H1
       clear H1
       have H' := Aside0.mk H
       clear H
       have p340 : 0 ≤ (x11_1 : Int) := of_decide_eq_true (by first | (with_reducible assumption) | assumption)
       have q340 : x11_1 < (l0.length : Int) := of_decide_eq_true (by first | (with_reducible assumption) | assumption)
       obtain ⟨ad340, e340, hx340_0, hx340_1⟩ := at_T31 HR0.out x11_1 p340 q340
       cases e340
       replace hx340_0 := (HB.out.cell (World.block_lt_of_cell? w _ hx340_0)).trans hx340_0
       replace hx340_1 := (HB.out.cell (World.block_lt_of_cell? w _ hx340_1)).trans hx340_1
       replace p340 := eq_true p340
       replace q340 := eq_true q340
       go_wp2_with (first | ((with_reducible refine gate_dst (N := 6) rfl ?_); refine box_event ?hg (N := 6) ?hd (cs := #[.int .i64 0, .int .u64 0]) (t := 31) ?hr ?_; (case hd => rfl); (case hg => rfl); (case hr => first | (go_simp; done) | (go_simp; rfl)); intro gb341 hg w9 hbox hb; have BK341 := Aside0.mk (hbox); have GW341 := bels HB hg; have GE341 := bels HB hg; have NB338_341 := blkl BK338 hg; have NB341_338 := blkg BK338 hg; have NB339_341 := blkl BK339 hg; have NB341_339 := blkg BK339 hg; replace BK338 := blkb BK338 hb; replace BK339 := blkb BK339 hb; replace HB := belb HB hb; clear hb hbox hg; have hnb10 := NB341_338.out; have hnc10 := NB338_341.out; have hnb11 := NB341_339.out; have hnc11 := NB339_341.out; have hcz12_0 : w9.cell? ⟨gb341, 0, none⟩ = some (.int .i64 0) := bc BK341 0; have hcz12_1 : w9.cell? ⟨gb341, 1, none⟩ = some (.int .u64 0) := bc BK341 1; have hfz12_0 := blk_frozen BK341.out 0; have hfz12_1 := blk_frozen BK341.out 1; have hnb13 := NB339_338.out; have hnc13 := NB338_339.out; have hcz14_0 : w9.cell? ⟨gb339, 0, none⟩ = some (.int .i64 x340000_1) := bc BK339 0; have hcz14_1 : w9.cell? ⟨gb339, 1, none⟩ = some (.int .u64 x340001_1) := bc BK339 1; have hfz14_0 := blk_frozen BK339.out 0; have hfz14_1 := blk_frozen BK339.out 1) | ((with_reducible refine gate_callee (f := 57) rfl ?_); refine goesL_ (some 18) rfl rfl Tryz.func57 (by kernel_rfl) rfl #[.agg #[.int .i64 x340000_1, .int .u64 x340001_1], .agg #[.int .i64 ((rd_T31 l0 x11_1).f0), .int .u64 ((rd_T31 l0 x11_1).f1)]] rfl argt ?_; (with_reducible refine (wide_Int_Add.calls x340000_1 x340001_1 ((rd_T31 l0 x11_1).f0) ((rd_T31 l0 x11_1).f1) t342 t343 true _ A7.out).mono ?_); rintro e w15 ⟨rfl, hb⟩; refine ⟨_, rfl, ?_⟩; replace BK338 := Aside0.mk (blk_below (g := gb338) (o := .cells #[.int .i64 x339000_1, .int .u64 x339001_1] 31 (0, 0)) (by (with_reducible repeat (first | refine blk_drewN ?_ _ | refine blk_drew ?_ | refine blk_alloc ?_ _)); refine blk_far ?_ NB338_341.out _; (with_reducible repeat (first | refine blk_drewN ?_ _ | refine blk_drew ?_ | refine blk_alloc ?_ _)); refine blk_far ?_ NB338_341.out _; exact blkt BK338) hb); replace BK339 := Aside0.mk (blk_below (g := gb339) (o := .cells #[.int .i64 x340000_1, .int .u64 x340001_1] 31 (0, 0)) (by (with_reducible repeat (first | refine blk_drewN ?_ _ | refine blk_drew ?_ | refine blk_alloc ?_ _)); refine blk_far ?_ NB339_341.out _; (with_reducible repeat (first | refine blk_drewN ?_ _ | refine blk_drew ?_ | refine blk_alloc ?_ _)); refine blk_far ?_ NB339_341.out _; exact blkt BK339) hb); replace BK341 := Aside0.mk (blk_below (g := gb341) (o := .cells #[.int .i64 ((rd_T31 l0 x11_1).f0), .int .u64 ((rd_T31 l0 x11_1).f1)] 31 (0, 0)) (by (with_reducible repeat (first | refine blk_drewN ?_ _ | refine blk_drew ?_ | refine blk_alloc ?_ _)); refine blk_put (cs := #[.int .i64 ((rd_T31 l0 x11_1).f0), .int .u64 0]) ?_ 1 _ rfl; (with_reducible repeat (first | refine blk_drewN ?_ _ | refine blk_drew ?_ | refine blk_alloc ?_ _)); refine blk_put (cs := #[.int .i64 0, .int .u64 0]) ?_ 0 _ rfl; exact blkt BK341) hb); replace HB := belb HB hb; (try clear hb); (try clear hb2); (try clear hk); (try clear hi)) | ((with_reducible refine gate_dst (N := 7) rfl ?_); refine box_event ?hg (N := 7) ?hd (cs := #[.int .i64 0, .int .u64 0]) (t := 31) ?hr ?_; (case hd => rfl); (case hg => rfl); (case hr => first | (go_simp; done) | (go_simp; rfl)); intro gb345 hg w16 hbox hb; have BK345 := Aside0.mk (hbox); have GW345 := bels HB hg; have GE345 := bels HB hg; have NB338_345 := blkl BK338 hg; have NB345_338 := blkg BK338 hg; have NB339_345 := blkl BK339 hg; have NB345_339 := blkg BK339 hg; have NB341_345 := blkl BK341 hg; have NB345_341 := blkg BK341 hg; replace BK338 := blkb BK338 hb; replace BK339 := blkb BK339 hb; replace BK341 := blkb BK341 hb; replace HB := belb HB hb; clear hb hbox hg; have hnb17 := NB345_338.out; have hnc17 := NB338_345.out; have hnb18 := NB345_339.out; have hnc18 := NB339_345.out; have hnb19 := NB345_341.out; have hnc19 := NB341_345.out; have hcz20_0 : w16.cell? ⟨gb345, 0, none⟩ = some (.int .i64 0) := bc BK345 0; have hcz20_1 : w16.cell? ⟨gb345, 1, none⟩ = some (.int .u64 0) := bc BK345 1; have hfz20_0 := blk_frozen BK345.out 0; have hfz20_1 := blk_frozen BK345.out 1; have hcz21_0 : w16.cell? ⟨gb339, 0, none⟩ = some (.int .i64 x340000_1) := bc BK339 0; have hcz21_1 : w16.cell? ⟨gb339, 1, none⟩ = some (.int .u64 x340001_1) := bc BK339 1; have hfz21_0 := blk_frozen BK339.out 0; have hfz21_1 := blk_frozen BK339.out 1))
       go_roundg k1
       case measure => have := HK1.out; omega
       case rel => exact ⟨(wrap64 (x11_1 + 1)), (x339000_1), (x339001_1), (t342), (t343), (by first | rfl | (simp; done) | (simp [*]; done)), H', ⟨by have := HK1.out; omega⟩, ⟨by (with_reducible repeat (first | refine blk_drewN ?_ _ | refine blk_drew ?_ | refine blk_alloc ?_ _)); refine blk_far ?_ NB338_339.out _; (with_reducible repeat (first | refine blk_drewN ?_ _ | refine blk_drew ?_ | refine blk_alloc ?_ _)); refine blk_far ?_ NB338_339.out _; (with_reducible repeat (first | refine blk_drewN ?_ _ | refine blk_drew ?_ | refine blk_alloc ?_ _)); refine blk_far ?_ NB338_345.out _; (with_reducible repeat (first | refine blk_drewN ?_ _ | refine blk_drew ?_ | refine blk_alloc ?_ _)); refine blk_far ?_ NB338_345.out _; exact blkt BK338⟩, ⟨by (with_reducible repeat (first | refine blk_drewN ?_ _ | refine blk_drew ?_ | refine blk_alloc ?_ _)); refine blk_put (cs := #[.int .i64 t342, .int .u64 x340001_1]) ?_ 1 _ rfl; (with_reducible repeat (first | refine blk_drewN ?_ _ | refine blk_drew ?_ | refine blk_alloc ?_ _)); refine blk_put (cs := #[.int .i64 x340000_1, .int .u64 x340001_1]) ?_ 0 _ rfl; (with_reducible repeat (first | refine blk_drewN ?_ _ | refine blk_drew ?_ | refine blk_alloc ?_ _)); refine blk_far ?_ NB339_345.out _; (with_reducible repeat (first | refine blk_drewN ?_ _ | refine blk_drew ?_ | refine blk_alloc ?_ _)); refine blk_far ?_ NB339_345.out _; exact blkt BK339⟩, ⟨belt HB⟩⟩
      replace c8 := Bool.eq_false_iff.mpr c8
      subst c8
      have H1 : (some (0, 0, false)) = some (r1, r2, r3) := by rw [if_neg (show ¬ (false = true) by decide)] at H; exact H
      clear H
      have H := H1
      clear H1
      simp only [Option.some.injEq, Prod.mk.injEq] at H
      obtain ⟨rfl, rfl, rfl⟩ := H
      have p340 : 0 ≤ (x11_1 : Int) := of_decide_eq_true (by first | (with_reducible assumption) | assumption)
      have q340 : x11_1 < (l0.length : Int) := of_decide_eq_true (by first | (with_reducible assumption) | assumption)
      obtain ⟨ad340, e340, hx340_0, hx340_1⟩ := at_T31 HR0.out x11_1 p340 q340
      cases e340
      replace hx340_0 := (HB.out.cell (World.block_lt_of_cell? w _ hx340_0)).trans hx340_0
      replace hx340_1 := (HB.out.cell (World.block_lt_of_cell? w _ hx340_1)).trans hx340_1
      replace p340 := eq_true p340
      replace q340 := eq_true q340
      go_wp2_with (first | ((with_reducible refine gate_dst (N := 6) rfl ?_); refine box_event ?hg (N := 6) ?hd (cs := #[.int .i64 0, .int .u64 0]) (t := 31) ?hr ?_; (case hd => rfl); (case hg => rfl); (case hr => first | (go_simp; done) | (go_simp; rfl)); intro gb341 hg w22 hbox hb; have BK341 := Aside0.mk (hbox); have GW341 := bels HB hg; have GE341 := bels HB hg; have NB338_341 := blkl BK338 hg; have NB341_338 := blkg BK338 hg; have NB339_341 := blkl BK339 hg; have NB341_339 := blkg BK339 hg; replace BK338 := blkb BK338 hb; replace BK339 := blkb BK339 hb; replace HB := belb HB hb; clear hb hbox hg; have hnb23 := NB341_338.out; have hnc23 := NB338_341.out; have hnb24 := NB341_339.out; have hnc24 := NB339_341.out; have hcz25_0 : w22.cell? ⟨gb341, 0, none⟩ = some (.int .i64 0) := bc BK341 0; have hcz25_1 : w22.cell? ⟨gb341, 1, none⟩ = some (.int .u64 0) := bc BK341 1; have hfz25_0 := blk_frozen BK341.out 0; have hfz25_1 := blk_frozen BK341.out 1; have hnb26 := NB339_338.out; have hnc26 := NB338_339.out; have hcz27_0 : w22.cell? ⟨gb339, 0, none⟩ = some (.int .i64 x340000_1) := bc BK339 0; have hcz27_1 : w22.cell? ⟨gb339, 1, none⟩ = some (.int .u64 x340001_1) := bc BK339 1; have hfz27_0 := blk_frozen BK339.out 0; have hfz27_1 := blk_frozen BK339.out 1) | ((with_reducible refine gate_callee (f := 57) rfl ?_); refine goesL_ (some 18) rfl rfl Tryz.func57 (by kernel_rfl) rfl #[.agg #[.int .i64 x340000_1, .int .u64 x340001_1], .agg #[.int .i64 ((rd_T31 l0 x11_1).f0), .int .u64 ((rd_T31 l0 x11_1).f1)]] rfl argt ?_; (with_reducible refine (wide_Int_Add.calls x340000_1 x340001_1 ((rd_T31 l0 x11_1).f0) ((rd_T31 l0 x11_1).f1) t342 t343 false _ A7.out).mono ?_); rintro e w28 ⟨rfl, hb⟩; refine ⟨_, rfl, ?_⟩; replace BK338 := Aside0.mk (blk_below (g := gb338) (o := .cells #[.int .i64 x339000_1, .int .u64 x339001_1] 31 (0, 0)) (by (with_reducible repeat (first | refine blk_drewN ?_ _ | refine blk_drew ?_ | refine blk_alloc ?_ _)); refine blk_far ?_ NB338_341.out _; (with_reducible repeat (first | refine blk_drewN ?_ _ | refine blk_drew ?_ | refine blk_alloc ?_ _)); refine blk_far ?_ NB338_341.out _; exact blkt BK338) hb); replace BK339 := Aside0.mk (blk_below (g := gb339) (o := .cells #[.int .i64 x340000_1, .int .u64 x340001_1] 31 (0, 0)) (by (with_reducible repeat (first | refine blk_drewN ?_ _ | refine blk_drew ?_ | refine blk_alloc ?_ _)); refine blk_far ?_ NB339_341.out _; (with_reducible repeat (first | refine blk_drewN ?_ _ | refine blk_drew ?_ | refine blk_alloc ?_ _)); refine blk_far ?_ NB339_341.out _; exact blkt BK339) hb); replace BK341 := Aside0.mk (blk_below (g := gb341) (o := .cells #[.int .i64 ((rd_T31 l0 x11_1).f0), .int .u64 ((rd_T31 l0 x11_1).f1)] 31 (0, 0)) (by (with_reducible repeat (first | refine blk_drewN ?_ _ | refine blk_drew ?_ | refine blk_alloc ?_ _)); refine blk_put (cs := #[.int .i64 ((rd_T31 l0 x11_1).f0), .int .u64 0]) ?_ 1 _ rfl; (with_reducible repeat (first | refine blk_drewN ?_ _ | refine blk_drew ?_ | refine blk_alloc ?_ _)); refine blk_put (cs := #[.int .i64 0, .int .u64 0]) ?_ 0 _ rfl; exact blkt BK341) hb); replace HB := belb HB hb; (try clear hb); (try clear hb2); (try clear hk); (try clear hi)) | ((with_reducible refine gate_dst (N := 7) rfl ?_); refine box_event ?hg (N := 7) ?hd (cs := #[.int .i64 0, .int .u64 0]) (t := 31) ?hr ?_; (case hd => rfl); (case hg => rfl); (case hr => first | (go_simp; done) | (go_simp; rfl)); intro gb345 hg w29 hbox hb; have BK345 := Aside0.mk (hbox); have GW345 := bels HB hg; have GE345 := bels HB hg; have NB338_345 := blkl BK338 hg; have NB345_338 := blkg BK338 hg; have NB339_345 := blkl BK339 hg; have NB345_339 := blkg BK339 hg; have NB341_345 := blkl BK341 hg; have NB345_341 := blkg BK341 hg; replace BK338 := blkb BK338 hb; replace BK339 := blkb BK339 hb; replace BK341 := blkb BK341 hb; replace HB := belb HB hb; clear hb hbox hg; have hnb30 := NB345_338.out; have hnc30 := NB338_345.out; have hnb31 := NB345_339.out; have hnc31 := NB339_345.out; have hnb32 := NB345_341.out; have hnc32 := NB341_345.out; have hcz33_0 : w29.cell? ⟨gb345, 0, none⟩ = some (.int .i64 0) := bc BK345 0; have hcz33_1 : w29.cell? ⟨gb345, 1, none⟩ = some (.int .u64 0) := bc BK345 1; have hfz33_0 := blk_frozen BK345.out 0; have hfz33_1 := blk_frozen BK345.out 1; have hcz34_0 : w29.cell? ⟨gb338, 0, none⟩ = some (.int .i64 x339000_1) := bc BK338 0; have hcz34_1 : w29.cell? ⟨gb338, 1, none⟩ = some (.int .u64 x339001_1) := bc BK338 1; have hfz34_0 := blk_frozen BK338.out 0; have hfz34_1 := blk_frozen BK338.out 1))
      refine bodyPost_ret (results_ct rfl _ _ gb338 31 #[.int .i64 0, .int .u64 0] (0, 0) _ rfl (by (with_reducible repeat (first | refine blk_drewN ?_ _ | refine blk_drew ?_ | refine blk_alloc ?_ _)); refine blk_put (cs := #[.int .i64 0, .int .u64 x339001_1]) ?_ 1 _ rfl; (with_reducible repeat (first | refine blk_drewN ?_ _ | refine blk_drew ?_ | refine blk_alloc ?_ _)); refine blk_put (cs := #[.int .i64 x339000_1, .int .u64 x339001_1]) ?_ 0 _ rfl; (with_reducible repeat (first | refine blk_drewN ?_ _ | refine blk_drew ?_ | refine blk_alloc ?_ _)); refine blk_far ?_ NB338_345.out _; (with_reducible repeat (first | refine blk_drewN ?_ _ | refine blk_drew ?_ | refine blk_alloc ?_ _)); refine blk_far ?_ NB338_345.out _; exact blkt BK338) Tryz.underlying31 rfl (by kernel_rfl)) rfl ?_
      exact ⟨by first | rfl | (simp [errW_none, errW_some] <;> rfl) | (simp [*, errW_none, errW_some] <;> rfl), belt HB⟩
     rw [if_neg c6] at H
     exact absurd H (by simp)
    rw [if_neg c5] at H
    exact absurd H (by simp)
   rw [if_neg c4] at H
   have c4b0 : decide (x11_1 < (l0.length : Int)) = false := decide_eq_false c4
   clear c4
   simp only [Option.some.injEq, Prod.mk.injEq] at H
   obtain ⟨rfl, rfl, rfl⟩ := H
   have hnb35 := NB339_338.out
   have hnc35 := NB338_339.out
   have hcz36_0 : wr.cell? ⟨gb339, 0, none⟩ = some (.int .i64 x340000_1) := bc BK339 0
   have hcz36_1 : wr.cell? ⟨gb339, 1, none⟩ = some (.int .u64 x340001_1) := bc BK339 1
   have hfz36_0 := blk_frozen BK339.out 0
   have hfz36_1 := blk_frozen BK339.out 1
   have hcz37_0 : wr.cell? ⟨gb338, 0, none⟩ = some (.int .i64 x339000_1) := bc BK338 0
   have hcz37_1 : wr.cell? ⟨gb338, 1, none⟩ = some (.int .u64 x339001_1) := bc BK338 1
   have hfz37_0 := blk_frozen BK338.out 0
   have hfz37_1 := blk_frozen BK338.out 1
   go_wp2
   refine bodyPost_ret (results_ct rfl _ _ gb338 31 #[.int .i64 x340000_1, .int .u64 x340001_1] (0, 0) _ rfl (by (with_reducible repeat (first | refine blk_drewN ?_ _ | refine blk_drew ?_ | refine blk_alloc ?_ _)); refine blk_put (cs := #[.int .i64 x340000_1, .int .u64 x339001_1]) ?_ 1 _ rfl; (with_reducible repeat (first | refine blk_drewN ?_ _ | refine blk_drew ?_ | refine blk_alloc ?_ _)); refine blk_put (cs := #[.int .i64 x339000_1, .int .u64 x339001_1]) ?_ 0 _ rfl; exact blkt BK338) Tryz.underlying31 rfl (by kernel_rfl)) rfl ?_
   exact ⟨by first | rfl | (simp [errW_none, errW_some] <;> rfl) | (simp [*, errW_none, errW_some] <;> rfl), belt HB⟩


/-! ### clamp_Carried: function 49 -/
def clamp_Carried.l0 : Nat → List (S31) → Int → Int → Int → Int → Option (Int × Int)
 | 0, _, _, _, _, _ => none
 | k + 1, x8, x9, x10, x348000, x348001 => if x10 < x9 then (if 0 ≤ x10 then (if x10 < (x8.length : Int) then ((clamp_Size.f k ((rd_T31 x8 x10).f0) ((rd_T31 x8 x10).f1)).bind fun bt350 => ((wide_Of.f 2).bind fun bt352 => ((wide_Sum.f k (([(⟨x348000, x348001⟩ : S31), (⟨bt350.1, bt350.2⟩ : S31), (⟨bt352.1, bt352.2⟩ : S31)] : List (S31)))).bind fun bt357 => (if bt357.2.2 = true then (clamp_Carried.l0 k x8 x9 (wrap64 (x10 + 1)) bt357.1 bt357.2.1) else ((clamp_greatest.f).bind fun bt361 => (some (bt361.1, bt361.2))))))) else (none)) else (none)) else (some (x348000, x348001))
def clamp_Carried.f (k : Nat) (l0 : List (S31)) : Option (Int × Int) := clamp_Carried.l0 k l0 (l0.length : Int) 0 0 0
theorem clamp_Carried.mono_l : ∀ k, (∀ y0 y1 y2 y3 y4, LeO (clamp_Carried.l0 k y0 y1 y2 y3 y4) (clamp_Carried.l0 (k + 1) y0 y1 y2 y3 y4))
 | 0 => fun _ _ _ _ _ r h => by simp [clamp_Carried.l0] at h
 | k + 1 => by
  have ih0 := clamp_Carried.mono_l k
  ·intro y0 y1 y2 y3 y4
   unfold clamp_Carried.l0
   repeat' first
   | (with_reducible exact ih0 _ _ _ _ _)
   | (with_reducible exact clamp_Size.mono _ _ _)
   | (with_reducible exact wide_Sum.mono _ _)
   | (with_reducible exact LeO.refl _)
   | (with_reducible exact LeO.none _)
   | (with_reducible refine LeO.ite ?_ ?_)
   | (with_reducible refine LeO.bind ?_ (fun _ => ?_))
   | exact ih0 _ _ _ _ _
   | exact clamp_Size.mono _ _ _
   | exact wide_Sum.mono _ _
   | exact LeO.none _
   | refine LeO.ite ?_ ?_
   | refine LeO.bind ?_ (fun _ => ?_)
theorem clamp_Carried.mono : ∀ a0 k, LeO (clamp_Carried.f k a0) (clamp_Carried.f (k + 1) a0) := by
 intro a0 k
 have ih0 := clamp_Carried.mono_l k
 unfold clamp_Carried.f
 repeat' first
   | (with_reducible exact ih0 _ _ _ _ _)
   | (with_reducible exact clamp_Size.mono _ _ _)
   | (with_reducible exact wide_Sum.mono _ _)
   | (with_reducible exact LeO.refl _)
   | (with_reducible exact LeO.none _)
   | (with_reducible refine LeO.ite ?_ ?_)
   | (with_reducible refine LeO.bind ?_ (fun _ => ?_))
   | exact ih0 _ _ _ _ _
   | exact clamp_Size.mono _ _ _
   | exact wide_Sum.mono _ _
   | exact LeO.none _
   | refine LeO.ite ?_ ?_
   | refine LeO.bind ?_ (fun _ => ?_)
def clamp_Carried.T5 : Bool × List (List Nat × List Nat) := (true, [([], []), ([], []), ([1], [1]), ([2], []), ([0, 2, 3], [0, 2, 3]), ([4, 3], [4]), ([5], [5]), ([6], [6]), ([6], [6]), ([], []), ([9, 7, 5, 0, 1, 2, 3, 4, 5, 6, 7, 9], [7, 9]), ([8, 10, 0, 1, 2, 3, 4, 5, 6, 7, 8, 9, 10], [8])])
def clamp_Carried.B5 : List Nat := [0, 0, 2, 6, 15, 31, 63, 127, 127, 0, 767, 2047]
theorem clamp_Carried.tab5 : rtab .any (opsOf Tryz.f49 5) = clamp_Carried.T5 := by kernel_rfl
theorem clamp_Carried.bits5 : waitsOk clamp_Carried.T5.2 clamp_Carried.B5 = true := by kernel_rfl
set_option maxHeartbeats 8000000 in
set_option maxRecDepth 100000 in
theorem clamp_Carried.calls (k : Nat) (A0 : Option Addr) (c0 : Nat) (l0 : List (S31)) (r1 : Int) (r2 : Int) (w : World) (hr0 : Kd.C k31 w A0 l0.length l0) (hc0 : l0.length ≤ c0) (h : clamp_Carried.f k l0 = some (r1, r2)) :
  Calls Tryz.prog 49 #[.slice A0 l0.length c0] w fun e w' => e = .returned (.agg #[.int .i64 r1, .int .u64 r2]) ∧ Below w.heap.size w w' := by
 have hu31 := Tryz.underlying31
 have HR0 := Aside0.mk hr0
 have HC0 := Aside0.mk hc0
 clear hr0 hc0
 have HB := Aside0.mk (Below.refl w.heap.size w)
 have H : (clamp_Carried.l0 k l0 (l0.length : Int) 0 0 0) = some (r1, r2) := h
 clear h
 have H' := Aside0.mk H
 clear H
 go_enter Tryz.func49, Tryz.ntmps49
 go_wp2_with (first | ((with_reducible refine gate_dst (N := 2) rfl ?_); refine box_event ?hg (N := 2) ?hd (cs := #[.int .i64 0, .int .u64 0]) (t := 31) ?hr ?_; (case hd => rfl); (case hg => rfl); (case hr => first | (go_simp; done) | (go_simp; rfl)); intro gb346 hg w2 hbox hb; have BK346 := Aside0.mk (hbox); have GW346 := bels HB hg; have GE346 := bels HB hg; replace HB := belb HB hb; clear hb hbox hg) | ((with_reducible refine gate_dst (N := 3) rfl ?_); refine box_event ?hg (N := 3) ?hd (cs := #[.int .i64 0, .int .u64 0]) (t := 31) ?hr ?_; (case hd => rfl); (case hg => rfl); (case hr => first | (go_simp; done) | (go_simp; rfl)); intro gb347 hg w3 hbox hb; have BK347 := Aside0.mk (hbox); have GW347 := bels HB hg; have GE347 := bels HB hg; have NB346_347 := blkl BK346 hg; have NB347_346 := blkg BK346 hg; replace BK346 := blkb BK346 hb; replace HB := belb HB hb; clear hb hbox hg))
 (try simp only [Act.put, List.setIfInBounds_toArray, List.set_cons_zero, List.set_cons_succ])
 go_loopg [10] k (fun kq v10 w' => ∃ (x10_1 : Int) (x347000_1 : Int) (x347001_1 : Int) (x348000_1 : Int) (x348001_1 : Int), v10 = .int .i64 x10_1 ∧ Aside0 (clamp_Carried.l0 kq l0 (l0.length : Int) x10_1 x348000_1 x348001_1 = some (r1, r2)) ∧ Aside0 (kq ≤ k) ∧ Aside0 (w'.heap[gb346]? = some (.cells #[.int .i64 x347000_1, .int .u64 x347001_1] 31 (0, 0))) ∧ Aside0 (w'.heap[gb347]? = some (.cells #[.int .i64 x348000_1, .int .u64 x348001_1] 31 (0, 0))) ∧ Aside0 (Below w.heap.size w w'))
 case atStart => exact ⟨(0), (0), (0), (0), (0), (by first | rfl | (simp; done) | (simp [*]; done)), H', ⟨Nat.le_refl _⟩, ⟨blkt BK346⟩, ⟨blkt BK347⟩, ⟨belt HB⟩⟩
 case round =>
  clear H'
  try clear p2
  obtain ⟨x10_1, x347000_1, x347001_1, x348000_1, x348001_1, rfl, HA, HK1, BK346, BK347, HB⟩ := hrel
  cases gk with
  | zero => exact absurd HA.out (by simp [clamp_Carried.l0])
  | succ k1 =>
   have H := HA.out
   clear HA
   simp only [clamp_Carried.l0] at H
   by_cases c4 : x10_1 < (l0.length : Int)
   ·rw [if_pos c4] at H
    have c4b0 : decide (x10_1 < (l0.length : Int)) = true := decide_eq_true c4
    clear c4
    by_cases c5 : 0 ≤ x10_1
    ·rw [if_pos c5] at H
     have c5b0 : decide (0 ≤ x10_1) = true := decide_eq_true c5
     clear c5
     by_cases c6 : x10_1 < (l0.length : Int)
     ·rw [if_pos c6] at H
      have c6b0 : decide (x10_1 < (l0.length : Int)) = true := decide_eq_true c6
      clear c6
      replace H := Option.bind_eq_some_iff.mp H
      obtain ⟨⟨t350, t351⟩, A70, H⟩ := H
      replace H : ((wide_Of.f 2).bind fun bt352 => ((wide_Sum.f k1 (([(⟨x348000_1, x348001_1⟩ : S31), (⟨t350, t351⟩ : S31), (⟨bt352.1, bt352.2⟩ : S31)] : List (S31)))).bind fun bt357 => (if bt357.2.2 = true then (clamp_Carried.l0 k1 l0 (l0.length : Int) (wrap64 (x10_1 + 1)) bt357.1 bt357.2.1) else ((clamp_greatest.f).bind fun bt361 => (some (bt361.1, bt361.2)))))) = some (r1, r2) := H
      have A7 := Aside0.mk A70
      clear A70
      replace H := Option.bind_eq_some_iff.mp H
      obtain ⟨⟨t352, t353⟩, A80, H⟩ := H
      replace H : ((wide_Sum.f k1 (([(⟨x348000_1, x348001_1⟩ : S31), (⟨t350, t351⟩ : S31), (⟨t352, t353⟩ : S31)] : List (S31)))).bind fun bt357 => (if bt357.2.2 = true then (clamp_Carried.l0 k1 l0 (l0.length : Int) (wrap64 (x10_1 + 1)) bt357.1 bt357.2.1) else ((clamp_greatest.f).bind fun bt361 => (some (bt361.1, bt361.2))))) = some (r1, r2) := H
      have A8 := Aside0.mk A80
      clear A80
      obtain ⟨y354, hy354⟩ : ∃ y_ : List (S31), y_ = (([(⟨x348000_1, x348001_1⟩ : S31), (⟨t350, t351⟩ : S31), (⟨t352, t353⟩ : S31)] : List (S31))) := ⟨_, rfl⟩
      replace H : ((wide_Sum.f k1 y354).bind fun bt357 => (if bt357.2.2 = true then (clamp_Carried.l0 k1 l0 (l0.length : Int) (wrap64 (x10_1 + 1)) bt357.1 bt357.2.1) else ((clamp_greatest.f).bind fun bt361 => (some (bt361.1, bt361.2))))) = some (r1, r2) := by first | (rw [hy354]; with_reducible exact H) | (have H2_ := (Option.bind_some _ _).symm.trans H; rw [hy354]; with_reducible exact H2_) | (have H2_ := (Option.bind_some _ _).symm.trans H; with_reducible exact H2_) | with_reducible exact H | (rw [hy354]; exact H) | exact H
      have Ny354 := Aside0.mk hy354
      clear hy354
      replace H := Option.bind_eq_some_iff.mp H
      obtain ⟨⟨t357, t358, t359⟩, A90, H⟩ := H
      replace H : (if t359 = true then (clamp_Carried.l0 k1 l0 (l0.length : Int) (wrap64 (x10_1 + 1)) t357 t358) else ((clamp_greatest.f).bind fun bt361 => (some (bt361.1, bt361.2)))) = some (r1, r2) := H
      have A9 := Aside0.mk A90
      clear A90
      by_cases c10 : t359 = true
      ·subst c10
       have H1 : (clamp_Carried.l0 k1 l0 (l0.length : Int) (wrap64 (x10_1 + 1)) t357 t358) = some (r1, r2) := by rw [if_pos rfl] at H; exact H
       clear H
       have H := H1
       clear H1
       have H' := Aside0.mk H
       clear H
       have p348 : 0 ≤ (x10_1 : Int) := of_decide_eq_true (by first | (with_reducible assumption) | assumption)
       have q348 : x10_1 < (l0.length : Int) := of_decide_eq_true (by first | (with_reducible assumption) | assumption)
       obtain ⟨ad348, e348, hx348_0, hx348_1⟩ := at_T31 HR0.out x10_1 p348 q348
       cases e348
       replace hx348_0 := (HB.out.cell (World.block_lt_of_cell? w _ hx348_0)).trans hx348_0
       replace hx348_1 := (HB.out.cell (World.block_lt_of_cell? w _ hx348_1)).trans hx348_1
       replace p348 := eq_true p348
       replace q348 := eq_true q348
       try go_wp2_with (first | ((with_reducible refine gate_dst (N := 5) rfl ?_); refine box_event ?hg (N := 5) ?hd (cs := #[.int .i64 0, .int .u64 0]) (t := 31) ?hr ?_; (case hd => rfl); (case hg => rfl); (case hr => first | (go_simp; done) | (go_simp; rfl)); intro gb349 hg w11 hbox hb; have BK349 := Aside0.mk (hbox); have GW349 := bels HB hg; have GE349 := bels HB hg; have NB346_349 := blkl BK346 hg; have NB349_346 := blkg BK346 hg; have NB347_349 := blkl BK347 hg; have NB349_347 := blkg BK347 hg; replace BK346 := blkb BK346 hb; replace BK347 := blkb BK347 hb; replace HB := belb HB hb; clear hb hbox hg; have hnb12 := NB349_346.out; have hnc12 := NB346_349.out; have hnb13 := NB349_347.out; have hnc13 := NB347_349.out; have hcz14_0 : w11.cell? ⟨gb349, 0, none⟩ = some (.int .i64 0) := bc BK349 0; have hcz14_1 : w11.cell? ⟨gb349, 1, none⟩ = some (.int .u64 0) := bc BK349 1; have hfz14_0 := blk_frozen BK349.out 0; have hfz14_1 := blk_frozen BK349.out 1))
       have n0_ : Aside0 (((w11.setCell ⟨gb349, 0, none⟩ (.int .i64 ((rd_T31 l0 x10_1).f0))).setCell ⟨gb349, 1, none⟩ (.int .u64 ((rd_T31 l0 x10_1).f1))).heap[gb346]? = some (.cells #[.int .i64 x347000_1, .int .u64 x347001_1] 31 (0, 0))) := ⟨by (with_reducible repeat (first | refine blk_drewN ?_ _ | refine blk_drew ?_ | refine blk_alloc ?_ _)); refine blk_far ?_ NB346_349.out _; (with_reducible repeat (first | refine blk_drewN ?_ _ | refine blk_drew ?_ | refine blk_alloc ?_ _)); refine blk_far ?_ NB346_349.out _; exact blkt BK346⟩
       have n1_ : Aside0 (((w11.setCell ⟨gb349, 0, none⟩ (.int .i64 ((rd_T31 l0 x10_1).f0))).setCell ⟨gb349, 1, none⟩ (.int .u64 ((rd_T31 l0 x10_1).f1))).heap[gb347]? = some (.cells #[.int .i64 x348000_1, .int .u64 x348001_1] 31 (0, 0))) := ⟨by (with_reducible repeat (first | refine blk_drewN ?_ _ | refine blk_drew ?_ | refine blk_alloc ?_ _)); refine blk_far ?_ NB347_349.out _; (with_reducible repeat (first | refine blk_drewN ?_ _ | refine blk_drew ?_ | refine blk_alloc ?_ _)); refine blk_far ?_ NB347_349.out _; exact blkt BK347⟩
       have n2_ : Aside0 (((w11.setCell ⟨gb349, 0, none⟩ (.int .i64 ((rd_T31 l0 x10_1).f0))).setCell ⟨gb349, 1, none⟩ (.int .u64 ((rd_T31 l0 x10_1).f1))).heap[gb349]? = some (.cells #[.int .i64 ((rd_T31 l0 x10_1).f0), .int .u64 ((rd_T31 l0 x10_1).f1)] 31 (0, 0))) := ⟨by (with_reducible repeat (first | refine blk_drewN ?_ _ | refine blk_drew ?_ | refine blk_alloc ?_ _)); refine blk_put (cs := #[.int .i64 ((rd_T31 l0 x10_1).f0), .int .u64 0]) ?_ 1 _ rfl; (with_reducible repeat (first | refine blk_drewN ?_ _ | refine blk_drew ?_ | refine blk_alloc ?_ _)); refine blk_put (cs := #[.int .i64 0, .int .u64 0]) ?_ 0 _ rfl; exact blkt BK349⟩
       have n3_ : Aside0 (Below w.heap.size w ((w11.setCell ⟨gb349, 0, none⟩ (.int .i64 ((rd_T31 l0 x10_1).f0))).setCell ⟨gb349, 1, none⟩ (.int .u64 ((rd_T31 l0 x10_1).f1)))) := ⟨belt HB⟩
       (try clear BK346)
       (try clear BK347)
       (try clear BK349)
       (try clear HB)
       generalize ((w11.setCell ⟨gb349, 0, none⟩ (.int .i64 ((rd_T31 l0 x10_1).f0))).setCell ⟨gb349, 1, none⟩ (.int .u64 ((rd_T31 l0 x10_1).f1))) = w15 at n0_ n1_ n2_ n3_ ⊢
       have BK346 := n0_
       have BK347 := n1_
       have BK349 := n2_
       have HB := n3_
       clear n0_ n1_ n2_ n3_
       replace BK346 := Aside0.mk (blk_drew BK346.out)
       replace BK347 := Aside0.mk (blk_drew BK347.out)
       replace BK349 := Aside0.mk (blk_drew BK349.out)
       replace HB := Aside0.mk (below_drew1 HB.out)
       refine start_ (n := 12) (S := fun w' => w'.cell? ⟨gb347, 0, none⟩ = some (.int .i64 x348000_1) ∧ w'.cell? ⟨gb347, 1, none⟩ = some (.int .u64 x348001_1) ∧ w'.cell? ⟨gb349, 0, none⟩ = some (.int .i64 ((rd_T31 l0 x10_1).f0)) ∧ w'.cell? ⟨gb349, 1, none⟩ = some (.int .u64 ((rd_T31 l0 x10_1).f1))) (ds := []) #[false, false, false, false, false, false, false, false, false, false, false, false] (by kernel_rfl) rfl rfl ⟨bc BK347 0, bc BK347 1, bc BK349 0, bc BK349 1⟩ (fun hHeld => ?_); refine with_tabW clamp_Carried.tab5 clamp_Carried.bits5 (fun HT_ HW_ => ?_)
       generalize w15.drew = w16 at BK346 BK347 BK349 HB hHeld ⊢
       refine take_ (i := 0) (N := some 15) (v := ?_) (a' := ?_) #[true, false, false, false, false, false, false, false, false, false, false, false] rfl rfl (take_ofW HT_.out HW_.out (by kernel_rfl)) (fun _ _ _ h => h) (Or.inl ⟨by rfl, ?_⟩) hHeld ?_ ?_
       rotate_left
       ·rintro w' ⟨s0, s1, s2, s3⟩
        go_simp
        with_reducible rfl
       rotate_left
       ·simp only [Act.put, List.setIfInBounds_toArray, List.set_cons_zero, List.set_cons_succ, i64_w, i32_w]
        rfl
       refine take_ (i := 1) (N := some 16) (v := ?_) (a' := ?_) #[true, true, false, false, false, false, false, false, false, false, false, false] rfl rfl (take_ofW HT_.out HW_.out (by kernel_rfl)) (fun _ _ _ h => h) (Or.inl ⟨by rfl, ?_⟩) hHeld ?_ ?_
       rotate_left
       ·rintro w' ⟨s0, s1, s2, s3⟩
        go_simp
        with_reducible rfl
       rotate_left
       ·simp only [Act.put, List.setIfInBounds_toArray, List.set_cons_zero, List.set_cons_succ, i64_w, i32_w]
        rfl
       refine join_ (σ := Value × Nat) 2 #[true, true, true, true, true, true, true, true, true, true, false, false] (fun s_ => [(17, .agg #[.int .i64 t350, .int .u64 t351]), (18, .agg #[.int .i64 t352, .int .u64 t353]), (19, s_.1), (20, .tuple #[.agg #[.int .i64 t357, .int .u64 t358], .bool true]), (6, .pointer (some ⟨s_.2, 0, none⟩)), (14, .tuple #[.agg #[.int .i64 t357, .int .u64 t358], .bool true]), (21, .agg #[.int .i64 t357, .int .u64 t358]), (22, .bool true)]) (fun s_ w' => (w'.cell? ⟨gb347, 0, none⟩ = some (.int .i64 x348000_1) ∧ w'.cell? ⟨gb347, 1, none⟩ = some (.int .u64 x348001_1) ∧ w'.cell? ⟨gb349, 0, none⟩ = some (.int .i64 ((rd_T31 l0 x10_1).f0)) ∧ w'.cell? ⟨gb349, 1, none⟩ = some (.int .u64 ((rd_T31 l0 x10_1).f1))) ∧ (Kd.R k31 31 w' w.heap.size (fun k_ => k_ ≠ gb346 ∧ k_ ≠ gb347 ∧ k_ ≠ gb349 ∧ k_ ≠ s_.2) s_.1 y354) ∧ (w'.heap[gb346]? = some (.cells #[.int .i64 x347000_1, .int .u64 x347001_1] 31 (0, 0))) ∧ (w'.heap[gb347]? = some (.cells #[.int .i64 x348000_1, .int .u64 x348001_1] 31 (0, 0))) ∧ (w'.heap[gb349]? = some (.cells #[.int .i64 ((rd_T31 l0 x10_1).f0), .int .u64 ((rd_T31 l0 x10_1).f1)] 31 (0, 0))) ∧ (w'.heap[s_.2]? = some (.cells #[.int .i64 0, .int .u64 0] 31 (0, 0))) ∧ (w.heap.size ≤ s_.2) ∧ (w.heap.size ≤ s_.2) ∧ (gb346 ≠ s_.2) ∧ (s_.2 ≠ gb346) ∧ (gb347 ≠ s_.2) ∧ (s_.2 ≠ gb347) ∧ (gb349 ≠ s_.2) ∧ (s_.2 ≠ gb349) ∧ (Below w.heap.size w w')) ?_ ?_
       rotate_left
       ·intro hJ2_3_4_5_9
        refine join_ (σ := Value) 3 #[true, true, true, true, true, true, true, true, true, false, false, false] (fun s_ => [(17, .agg #[.int .i64 t350, .int .u64 t351]), (18, .agg #[.int .i64 t352, .int .u64 t353]), (19, s_), (20, .tuple #[.agg #[.int .i64 t357, .int .u64 t358], .bool true]), (14, .tuple #[.agg #[.int .i64 t357, .int .u64 t358], .bool true]), (21, .agg #[.int .i64 t357, .int .u64 t358]), (22, .bool true)]) (fun s_ w' => (w'.cell? ⟨gb347, 0, none⟩ = some (.int .i64 x348000_1) ∧ w'.cell? ⟨gb347, 1, none⟩ = some (.int .u64 x348001_1) ∧ w'.cell? ⟨gb349, 0, none⟩ = some (.int .i64 ((rd_T31 l0 x10_1).f0)) ∧ w'.cell? ⟨gb349, 1, none⟩ = some (.int .u64 ((rd_T31 l0 x10_1).f1))) ∧ (Kd.R k31 31 w' w.heap.size (fun k_ => k_ ≠ gb346 ∧ k_ ≠ gb347 ∧ k_ ≠ gb349) s_ y354) ∧ (w'.heap[gb346]? = some (.cells #[.int .i64 x347000_1, .int .u64 x347001_1] 31 (0, 0))) ∧ (w'.heap[gb347]? = some (.cells #[.int .i64 x348000_1, .int .u64 x348001_1] 31 (0, 0))) ∧ (w'.heap[gb349]? = some (.cells #[.int .i64 ((rd_T31 l0 x10_1).f0), .int .u64 ((rd_T31 l0 x10_1).f1)] 31 (0, 0))) ∧ (Below w.heap.size w w')) ?_ ?_
        rotate_left
        ·intro hJ2_3_4_5
         refine join_ (σ := Value × Nat) 6 #[true, true, true, true, true, false, false, false, false, true, false, false] (fun s_ => [(17, .agg #[.int .i64 t350, .int .u64 t351]), (18, .agg #[.int .i64 t352, .int .u64 t353]), (19, s_.1), (6, .pointer (some ⟨s_.2, 0, none⟩))]) (fun s_ w' => (w'.cell? ⟨gb347, 0, none⟩ = some (.int .i64 x348000_1) ∧ w'.cell? ⟨gb347, 1, none⟩ = some (.int .u64 x348001_1) ∧ w'.cell? ⟨gb349, 0, none⟩ = some (.int .i64 ((rd_T31 l0 x10_1).f0)) ∧ w'.cell? ⟨gb349, 1, none⟩ = some (.int .u64 ((rd_T31 l0 x10_1).f1))) ∧ (Kd.R k31 31 w' w.heap.size (fun k_ => k_ ≠ gb346 ∧ k_ ≠ gb347 ∧ k_ ≠ gb349 ∧ k_ ≠ s_.2) s_.1 y354) ∧ (w'.heap[gb346]? = some (.cells #[.int .i64 x347000_1, .int .u64 x347001_1] 31 (0, 0))) ∧ (w'.heap[gb347]? = some (.cells #[.int .i64 x348000_1, .int .u64 x348001_1] 31 (0, 0))) ∧ (w'.heap[gb349]? = some (.cells #[.int .i64 ((rd_T31 l0 x10_1).f0), .int .u64 ((rd_T31 l0 x10_1).f1)] 31 (0, 0))) ∧ (w'.heap[s_.2]? = some (.cells #[.int .i64 0, .int .u64 0] 31 (0, 0))) ∧ (w.heap.size ≤ s_.2) ∧ (w.heap.size ≤ s_.2) ∧ (gb346 ≠ s_.2) ∧ (s_.2 ≠ gb346) ∧ (gb347 ≠ s_.2) ∧ (s_.2 ≠ gb347) ∧ (gb349 ≠ s_.2) ∧ (s_.2 ≠ gb349) ∧ (Below w.heap.size w w')) ?_ ?_
         rotate_left
         ·intro hJ2_3_4_9
          refine join_ (σ := Value) 7 #[true, true, true, true, true, false, false, false, false, false, false, false] (fun s_ => [(17, .agg #[.int .i64 t350, .int .u64 t351]), (18, .agg #[.int .i64 t352, .int .u64 t353]), (19, s_)]) (fun s_ w' => (w'.cell? ⟨gb347, 0, none⟩ = some (.int .i64 x348000_1) ∧ w'.cell? ⟨gb347, 1, none⟩ = some (.int .u64 x348001_1) ∧ w'.cell? ⟨gb349, 0, none⟩ = some (.int .i64 ((rd_T31 l0 x10_1).f0)) ∧ w'.cell? ⟨gb349, 1, none⟩ = some (.int .u64 ((rd_T31 l0 x10_1).f1))) ∧ (Kd.R k31 31 w' w.heap.size (fun k_ => k_ ≠ gb346 ∧ k_ ≠ gb347 ∧ k_ ≠ gb349) s_ y354) ∧ (w'.heap[gb346]? = some (.cells #[.int .i64 x347000_1, .int .u64 x347001_1] 31 (0, 0))) ∧ (w'.heap[gb347]? = some (.cells #[.int .i64 x348000_1, .int .u64 x348001_1] 31 (0, 0))) ∧ (w'.heap[gb349]? = some (.cells #[.int .i64 ((rd_T31 l0 x10_1).f0), .int .u64 ((rd_T31 l0 x10_1).f1)] 31 (0, 0))) ∧ (Below w.heap.size w w')) ?_ ?_
          rotate_left
          ·intro hJ2_3_4
           refine join_ (σ := Nat) 7 #[true, true, true, true, false, false, false, false, false, true, false, false] (fun s_ => [(17, .agg #[.int .i64 t350, .int .u64 t351]), (18, .agg #[.int .i64 t352, .int .u64 t353]), (6, .pointer (some ⟨s_, 0, none⟩))]) (fun s_ w' => (w'.cell? ⟨gb347, 0, none⟩ = some (.int .i64 x348000_1) ∧ w'.cell? ⟨gb347, 1, none⟩ = some (.int .u64 x348001_1) ∧ w'.cell? ⟨gb349, 0, none⟩ = some (.int .i64 ((rd_T31 l0 x10_1).f0)) ∧ w'.cell? ⟨gb349, 1, none⟩ = some (.int .u64 ((rd_T31 l0 x10_1).f1))) ∧ (w'.heap[gb346]? = some (.cells #[.int .i64 x347000_1, .int .u64 x347001_1] 31 (0, 0))) ∧ (w'.heap[gb347]? = some (.cells #[.int .i64 x348000_1, .int .u64 x348001_1] 31 (0, 0))) ∧ (w'.heap[gb349]? = some (.cells #[.int .i64 ((rd_T31 l0 x10_1).f0), .int .u64 ((rd_T31 l0 x10_1).f1)] 31 (0, 0))) ∧ (w'.heap[s_]? = some (.cells #[.int .i64 0, .int .u64 0] 31 (0, 0))) ∧ (w.heap.size ≤ s_) ∧ (w.heap.size ≤ s_) ∧ (gb346 ≠ s_) ∧ (s_ ≠ gb346) ∧ (gb347 ≠ s_) ∧ (s_ ≠ gb347) ∧ (gb349 ≠ s_) ∧ (s_ ≠ gb349) ∧ (Below w.heap.size w w')) ?_ ?_
           rotate_left
           ·intro hJ2_3_9
            refine join_ (σ := Unit) 8 #[true, true, true, true, false, false, false, false, false, false, false, false] (fun s_ => [(17, .agg #[.int .i64 t350, .int .u64 t351]), (18, .agg #[.int .i64 t352, .int .u64 t353])]) (fun s_ w' => (w'.cell? ⟨gb347, 0, none⟩ = some (.int .i64 x348000_1) ∧ w'.cell? ⟨gb347, 1, none⟩ = some (.int .u64 x348001_1) ∧ w'.cell? ⟨gb349, 0, none⟩ = some (.int .i64 ((rd_T31 l0 x10_1).f0)) ∧ w'.cell? ⟨gb349, 1, none⟩ = some (.int .u64 ((rd_T31 l0 x10_1).f1))) ∧ (w'.heap[gb346]? = some (.cells #[.int .i64 x347000_1, .int .u64 x347001_1] 31 (0, 0))) ∧ (w'.heap[gb347]? = some (.cells #[.int .i64 x348000_1, .int .u64 x348001_1] 31 (0, 0))) ∧ (w'.heap[gb349]? = some (.cells #[.int .i64 ((rd_T31 l0 x10_1).f0), .int .u64 ((rd_T31 l0 x10_1).f1)] 31 (0, 0))) ∧ (Below w.heap.size w w')) ?_ ?_
            rotate_left
            ·intro hJ2_3
             refine join_ (σ := Nat) 8 #[true, true, true, false, false, false, false, false, false, true, false, false] (fun s_ => [(17, .agg #[.int .i64 t350, .int .u64 t351]), (6, .pointer (some ⟨s_, 0, none⟩))]) (fun s_ w' => (w'.cell? ⟨gb347, 0, none⟩ = some (.int .i64 x348000_1) ∧ w'.cell? ⟨gb347, 1, none⟩ = some (.int .u64 x348001_1) ∧ w'.cell? ⟨gb349, 0, none⟩ = some (.int .i64 ((rd_T31 l0 x10_1).f0)) ∧ w'.cell? ⟨gb349, 1, none⟩ = some (.int .u64 ((rd_T31 l0 x10_1).f1))) ∧ (w'.heap[gb346]? = some (.cells #[.int .i64 x347000_1, .int .u64 x347001_1] 31 (0, 0))) ∧ (w'.heap[gb347]? = some (.cells #[.int .i64 x348000_1, .int .u64 x348001_1] 31 (0, 0))) ∧ (w'.heap[gb349]? = some (.cells #[.int .i64 ((rd_T31 l0 x10_1).f0), .int .u64 ((rd_T31 l0 x10_1).f1)] 31 (0, 0))) ∧ (w'.heap[s_]? = some (.cells #[.int .i64 0, .int .u64 0] 31 (0, 0))) ∧ (w.heap.size ≤ s_) ∧ (w.heap.size ≤ s_) ∧ (gb346 ≠ s_) ∧ (s_ ≠ gb346) ∧ (gb347 ≠ s_) ∧ (s_ ≠ gb347) ∧ (gb349 ≠ s_) ∧ (s_ ≠ gb349) ∧ (Below w.heap.size w w')) ?_ ?_
             rotate_left
             ·intro hJ2_9
              refine join_ (σ := Unit) 9 #[true, true, true, false, false, false, false, false, false, false, false, false] (fun s_ => [(17, .agg #[.int .i64 t350, .int .u64 t351])]) (fun s_ w' => (w'.cell? ⟨gb347, 0, none⟩ = some (.int .i64 x348000_1) ∧ w'.cell? ⟨gb347, 1, none⟩ = some (.int .u64 x348001_1) ∧ w'.cell? ⟨gb349, 0, none⟩ = some (.int .i64 ((rd_T31 l0 x10_1).f0)) ∧ w'.cell? ⟨gb349, 1, none⟩ = some (.int .u64 ((rd_T31 l0 x10_1).f1))) ∧ (w'.heap[gb346]? = some (.cells #[.int .i64 x347000_1, .int .u64 x347001_1] 31 (0, 0))) ∧ (w'.heap[gb347]? = some (.cells #[.int .i64 x348000_1, .int .u64 x348001_1] 31 (0, 0))) ∧ (w'.heap[gb349]? = some (.cells #[.int .i64 ((rd_T31 l0 x10_1).f0), .int .u64 ((rd_T31 l0 x10_1).f1)] 31 (0, 0))) ∧ (Below w.heap.size w w')) ?_ ?_
              rotate_left
              ·intro hJ2
               refine join_ (σ := Nat) 9 #[true, true, false, false, false, false, false, false, false, true, false, false] (fun s_ => [(6, .pointer (some ⟨s_, 0, none⟩))]) (fun s_ w' => (w'.cell? ⟨gb347, 0, none⟩ = some (.int .i64 x348000_1) ∧ w'.cell? ⟨gb347, 1, none⟩ = some (.int .u64 x348001_1) ∧ w'.cell? ⟨gb349, 0, none⟩ = some (.int .i64 ((rd_T31 l0 x10_1).f0)) ∧ w'.cell? ⟨gb349, 1, none⟩ = some (.int .u64 ((rd_T31 l0 x10_1).f1))) ∧ (w'.heap[gb346]? = some (.cells #[.int .i64 x347000_1, .int .u64 x347001_1] 31 (0, 0))) ∧ (w'.heap[gb347]? = some (.cells #[.int .i64 x348000_1, .int .u64 x348001_1] 31 (0, 0))) ∧ (w'.heap[gb349]? = some (.cells #[.int .i64 ((rd_T31 l0 x10_1).f0), .int .u64 ((rd_T31 l0 x10_1).f1)] 31 (0, 0))) ∧ (w'.heap[s_]? = some (.cells #[.int .i64 0, .int .u64 0] 31 (0, 0))) ∧ (w.heap.size ≤ s_) ∧ (w.heap.size ≤ s_) ∧ (gb346 ≠ s_) ∧ (s_ ≠ gb346) ∧ (gb347 ≠ s_) ∧ (s_ ≠ gb347) ∧ (gb349 ≠ s_) ∧ (s_ ≠ gb349) ∧ (Below w.heap.size w w')) ?_ ?_
               rotate_left
               ·intro hJ9
                refine two_ (i := 2) (j := 9) (Ni := some 17) (Nj := some 6) #[true, true, true, false, false, false, false, false, false, false, false, false] #[true, true, false, false, false, false, false, false, false, true, false, false] rfl rfl rfl rfl (two_of HT_.out (by kernel_rfl)) (by decide) (by decide) (fun K hK => ?_) (fun K hK => ?_)
                ·skip
                 refine goes_ Tryz.func47 (by kernel_rfl) rfl #[.agg #[.int .i64 ((rd_T31 l0 x10_1).f0), .int .u64 ((rd_T31 l0 x10_1).f1)]] (by rfl) rfl rfl argt ?_
                 with_reducible refine (clamp_Size.calls k1 ((rd_T31 l0 x10_1).f0) ((rd_T31 l0 x10_1).f1) t350 t351 _ A7.out).mono ?_
                 rintro e w17 ⟨rfl, hb⟩
                 refine ⟨_, rfl, ?_⟩
                 replace BK346 := blkb BK346 hb
                 replace BK347 := blkb BK347 hb
                 replace BK349 := blkb BK349 hb
                 replace HB := belb HB hb
                 (try clear hb)
                 (try clear hb2)
                 (try clear hk)
                 (try clear hi)
                 refine hK.out _ _ ⟨bc BK347 0, bc BK347 1, bc BK349 0, bc BK349 1⟩ (fun hHeld => ?_)
                 clear hK K
                 refine norm_ (a' := ?_) ?_ ?_
                 rotate_left
                 ·show Act.put _ (some 17) _ = _
                  simp only [Act.put, List.setIfInBounds_toArray, List.set_cons_zero, List.set_cons_succ, i64_w, i32_w]
                  rfl
                 exact norm_ (by first | (simp only [putAll, Act.put, List.setIfInBounds_toArray, List.set_cons_zero, List.set_cons_succ]; done) | (simp only [putAll, Act.put, List.setIfInBounds_toArray, List.set_cons_zero, List.set_cons_succ]; rfl)) (hJ2 () _ ⟨hHeld, (blkt BK346), (blkt BK347), (blkt BK349), (belt HB)⟩)
                skip
                refine box_step ?hg (N := 6) ?hd (cs := #[.int .i64 0, .int .u64 0]) (t := 31) ?hr ?_; (case hd => rfl); (case hg => rfl); (case hr => first | (go_simp; done) | (go_simp; rfl))
                intro gb360 hg w17 hbox hb
                have BK360 := Aside0.mk (hbox)
                have GW360 := bels HB hg
                have GE360 := bels HB hg
                have NB346_360 := blkl BK346 hg
                have NB360_346 := blkg BK346 hg
                have NB347_360 := blkl BK347 hg
                have NB360_347 := blkg BK347 hg
                have NB349_360 := blkl BK349 hg
                have NB360_349 := blkg BK349 hg
                replace BK346 := blkb BK346 hb
                replace BK347 := blkb BK347 hb
                replace BK349 := blkb BK349 hb
                replace HB := belb HB hb
                clear hb hbox hg
                refine hK.out _ _ ⟨bc BK347 0, bc BK347 1, bc BK349 0, bc BK349 1⟩ (fun hHeld => ?_)
                clear hK K
                refine norm_ (a' := ?_) ?_ ?_
                rotate_left
                ·show Act.put _ (some 6) _ = _
                 simp only [Act.put, List.setIfInBounds_toArray, List.set_cons_zero, List.set_cons_succ, i64_w, i32_w]
                 rfl
                exact norm_ (by first | (simp only [putAll, Act.put, List.setIfInBounds_toArray, List.set_cons_zero, List.set_cons_succ]; done) | (simp only [putAll, Act.put, List.setIfInBounds_toArray, List.set_cons_zero, List.set_cons_succ]; rfl)) (hJ9 (gb360) _ ⟨hHeld, (blkt BK346), (blkt BK347), (blkt BK349), (blkt BK360), GW360.out, GE360.out, NB346_360.out, NB360_346.out, NB347_360.out, NB360_347.out, NB349_360.out, NB360_349.out, (belt HB)⟩)
               skip
               rintro gb360 w18 ⟨hS_, h0_, h1_, h2_, h3_, h4_, h5_, h6_, h7_, h8_, h9_, h10_, h11_, h12_⟩
               replace BK346 : Aside0 (w18.heap[gb346]? = some (.cells #[.int .i64 x347000_1, .int .u64 x347001_1] 31 (0, 0))) := ⟨h0_⟩
               replace BK347 : Aside0 (w18.heap[gb347]? = some (.cells #[.int .i64 x348000_1, .int .u64 x348001_1] 31 (0, 0))) := ⟨h1_⟩
               replace BK349 : Aside0 (w18.heap[gb349]? = some (.cells #[.int .i64 ((rd_T31 l0 x10_1).f0), .int .u64 ((rd_T31 l0 x10_1).f1)] 31 (0, 0))) := ⟨h2_⟩
               have BK360 : Aside0 (w18.heap[gb360]? = some (.cells #[.int .i64 0, .int .u64 0] 31 (0, 0))) := ⟨h3_⟩
               have GW360 : Aside0 (w.heap.size ≤ gb360) := ⟨h4_⟩
               have GE360 : Aside0 (w.heap.size ≤ gb360) := ⟨h5_⟩
               have NB346_360 : Aside0 (gb346 ≠ gb360) := ⟨h6_⟩
               have NB360_346 : Aside0 (gb360 ≠ gb346) := ⟨h7_⟩
               have NB347_360 : Aside0 (gb347 ≠ gb360) := ⟨h8_⟩
               have NB360_347 : Aside0 (gb360 ≠ gb347) := ⟨h9_⟩
               have NB349_360 : Aside0 (gb349 ≠ gb360) := ⟨h10_⟩
               have NB360_349 : Aside0 (gb360 ≠ gb349) := ⟨h11_⟩
               replace HB : Aside0 (Below w.heap.size w w18) := ⟨h12_⟩
               clear h0_ h1_ h2_ h3_ h4_ h5_ h6_ h7_ h8_ h9_ h10_ h11_ h12_
               have hHeld : w18.cell? ⟨gb347, 0, none⟩ = some (.int .i64 x348000_1) ∧ w18.cell? ⟨gb347, 1, none⟩ = some (.int .u64 x348001_1) ∧ w18.cell? ⟨gb349, 0, none⟩ = some (.int .i64 ((rd_T31 l0 x10_1).f0)) ∧ w18.cell? ⟨gb349, 1, none⟩ = some (.int .u64 ((rd_T31 l0 x10_1).f1)) := hS_
               refine norm_ (a' := ?_) ?_ ?_
               rotate_left
               ·simp only [putAll, Act.put, List.setIfInBounds_toArray, List.set_cons_zero, List.set_cons_succ]
                rfl
               refine one_ (i := 2) (N := some 17) #[true, true, true, false, false, false, false, false, false, true, false, false] rfl rfl (one_of HT_.out (by kernel_rfl)) (by decide) (fun K hK => ?_)
               refine goes_ Tryz.func47 (by kernel_rfl) rfl #[.agg #[.int .i64 ((rd_T31 l0 x10_1).f0), .int .u64 ((rd_T31 l0 x10_1).f1)]] (by rfl) rfl rfl argt ?_
               with_reducible refine (clamp_Size.calls k1 ((rd_T31 l0 x10_1).f0) ((rd_T31 l0 x10_1).f1) t350 t351 _ A7.out).mono ?_
               rintro e w19 ⟨rfl, hb⟩
               refine ⟨_, rfl, ?_⟩
               replace BK346 := blkb BK346 hb
               replace BK347 := blkb BK347 hb
               replace BK349 := blkb BK349 hb
               replace BK360 := blkb BK360 hb
               replace HB := belb HB hb
               (try clear hb)
               (try clear hb2)
               (try clear hk)
               (try clear hi)
               refine hK.out _ _ ⟨bc BK347 0, bc BK347 1, bc BK349 0, bc BK349 1⟩ (fun hHeld => ?_)
               clear hK K
               refine norm_ (a' := ?_) ?_ ?_
               rotate_left
               ·show Act.put _ (some 17) _ = _
                simp only [Act.put, List.setIfInBounds_toArray, List.set_cons_zero, List.set_cons_succ, i64_w, i32_w]
                rfl
               exact norm_ (by first | (simp only [putAll, Act.put, List.setIfInBounds_toArray, List.set_cons_zero, List.set_cons_succ]; done) | (simp only [putAll, Act.put, List.setIfInBounds_toArray, List.set_cons_zero, List.set_cons_succ]; rfl)) (hJ2_9 (gb360) _ ⟨hHeld, (blkt BK346), (blkt BK347), (blkt BK349), (blkt BK360), GW360.out, GE360.out, NB346_360.out, NB360_346.out, NB347_360.out, NB360_347.out, NB349_360.out, NB360_349.out, (belt HB)⟩)
              skip
              rintro _ w18 ⟨hS_, h0_, h1_, h2_, h3_⟩
              replace BK346 : Aside0 (w18.heap[gb346]? = some (.cells #[.int .i64 x347000_1, .int .u64 x347001_1] 31 (0, 0))) := ⟨h0_⟩
              replace BK347 : Aside0 (w18.heap[gb347]? = some (.cells #[.int .i64 x348000_1, .int .u64 x348001_1] 31 (0, 0))) := ⟨h1_⟩
              replace BK349 : Aside0 (w18.heap[gb349]? = some (.cells #[.int .i64 ((rd_T31 l0 x10_1).f0), .int .u64 ((rd_T31 l0 x10_1).f1)] 31 (0, 0))) := ⟨h2_⟩
              replace HB : Aside0 (Below w.heap.size w w18) := ⟨h3_⟩
              clear h0_ h1_ h2_ h3_
              have hHeld : w18.cell? ⟨gb347, 0, none⟩ = some (.int .i64 x348000_1) ∧ w18.cell? ⟨gb347, 1, none⟩ = some (.int .u64 x348001_1) ∧ w18.cell? ⟨gb349, 0, none⟩ = some (.int .i64 ((rd_T31 l0 x10_1).f0)) ∧ w18.cell? ⟨gb349, 1, none⟩ = some (.int .u64 ((rd_T31 l0 x10_1).f1)) := hS_
              refine norm_ (a' := ?_) ?_ ?_
              rotate_left
              ·simp only [putAll, Act.put, List.setIfInBounds_toArray, List.set_cons_zero, List.set_cons_succ]
               rfl
              refine two_ (i := 3) (j := 9) (Ni := some 18) (Nj := some 6) #[true, true, true, true, false, false, false, false, false, false, false, false] #[true, true, true, false, false, false, false, false, false, true, false, false] rfl rfl rfl rfl (two_of HT_.out (by kernel_rfl)) (by decide) (by decide) (fun K hK => ?_) (fun K hK => ?_)
              ·skip
               refine goes_ Tryz.func31 (by kernel_rfl) rfl #[.int .i64 2] (by rfl) rfl rfl argt ?_
               with_reducible refine (wide_Of.calls 2 t352 t353 _ A8.out).mono ?_
               rintro e w19 ⟨rfl, hb⟩
               refine ⟨_, rfl, ?_⟩
               replace BK346 := blkb BK346 hb
               replace BK347 := blkb BK347 hb
               replace BK349 := blkb BK349 hb
               replace HB := belb HB hb
               (try clear hb)
               (try clear hb2)
               (try clear hk)
               (try clear hi)
               refine hK.out _ _ ⟨bc BK347 0, bc BK347 1, bc BK349 0, bc BK349 1⟩ (fun hHeld => ?_)
               clear hK K
               refine norm_ (a' := ?_) ?_ ?_
               rotate_left
               ·show Act.put _ (some 18) _ = _
                simp only [Act.put, List.setIfInBounds_toArray, List.set_cons_zero, List.set_cons_succ, i64_w, i32_w]
                rfl
               exact norm_ (by first | (simp only [putAll, Act.put, List.setIfInBounds_toArray, List.set_cons_zero, List.set_cons_succ]; done) | (simp only [putAll, Act.put, List.setIfInBounds_toArray, List.set_cons_zero, List.set_cons_succ]; rfl)) (hJ2_3 () _ ⟨hHeld, (blkt BK346), (blkt BK347), (blkt BK349), (belt HB)⟩)
              skip
              refine box_step ?hg (N := 6) ?hd (cs := #[.int .i64 0, .int .u64 0]) (t := 31) ?hr ?_; (case hd => rfl); (case hg => rfl); (case hr => first | (go_simp; done) | (go_simp; rfl))
              intro gb360 hg w19 hbox hb
              have BK360 := Aside0.mk (hbox)
              have GW360 := bels HB hg
              have GE360 := bels HB hg
              have NB346_360 := blkl BK346 hg
              have NB360_346 := blkg BK346 hg
              have NB347_360 := blkl BK347 hg
              have NB360_347 := blkg BK347 hg
              have NB349_360 := blkl BK349 hg
              have NB360_349 := blkg BK349 hg
              replace BK346 := blkb BK346 hb
              replace BK347 := blkb BK347 hb
              replace BK349 := blkb BK349 hb
              replace HB := belb HB hb
              clear hb hbox hg
              refine hK.out _ _ ⟨bc BK347 0, bc BK347 1, bc BK349 0, bc BK349 1⟩ (fun hHeld => ?_)
              clear hK K
              refine norm_ (a' := ?_) ?_ ?_
              rotate_left
              ·show Act.put _ (some 6) _ = _
               simp only [Act.put, List.setIfInBounds_toArray, List.set_cons_zero, List.set_cons_succ, i64_w, i32_w]
               rfl
              exact norm_ (by first | (simp only [putAll, Act.put, List.setIfInBounds_toArray, List.set_cons_zero, List.set_cons_succ]; done) | (simp only [putAll, Act.put, List.setIfInBounds_toArray, List.set_cons_zero, List.set_cons_succ]; rfl)) (hJ2_9 (gb360) _ ⟨hHeld, (blkt BK346), (blkt BK347), (blkt BK349), (blkt BK360), GW360.out, GE360.out, NB346_360.out, NB360_346.out, NB347_360.out, NB360_347.out, NB349_360.out, NB360_349.out, (belt HB)⟩)
             skip
             rintro gb360 w19 ⟨hS_, h0_, h1_, h2_, h3_, h4_, h5_, h6_, h7_, h8_, h9_, h10_, h11_, h12_⟩
             replace BK346 : Aside0 (w19.heap[gb346]? = some (.cells #[.int .i64 x347000_1, .int .u64 x347001_1] 31 (0, 0))) := ⟨h0_⟩
             replace BK347 : Aside0 (w19.heap[gb347]? = some (.cells #[.int .i64 x348000_1, .int .u64 x348001_1] 31 (0, 0))) := ⟨h1_⟩
             replace BK349 : Aside0 (w19.heap[gb349]? = some (.cells #[.int .i64 ((rd_T31 l0 x10_1).f0), .int .u64 ((rd_T31 l0 x10_1).f1)] 31 (0, 0))) := ⟨h2_⟩
             have BK360 : Aside0 (w19.heap[gb360]? = some (.cells #[.int .i64 0, .int .u64 0] 31 (0, 0))) := ⟨h3_⟩
             have GW360 : Aside0 (w.heap.size ≤ gb360) := ⟨h4_⟩
             have GE360 : Aside0 (w.heap.size ≤ gb360) := ⟨h5_⟩
             have NB346_360 : Aside0 (gb346 ≠ gb360) := ⟨h6_⟩
             have NB360_346 : Aside0 (gb360 ≠ gb346) := ⟨h7_⟩
             have NB347_360 : Aside0 (gb347 ≠ gb360) := ⟨h8_⟩
             have NB360_347 : Aside0 (gb360 ≠ gb347) := ⟨h9_⟩
             have NB349_360 : Aside0 (gb349 ≠ gb360) := ⟨h10_⟩
             have NB360_349 : Aside0 (gb360 ≠ gb349) := ⟨h11_⟩
             replace HB : Aside0 (Below w.heap.size w w19) := ⟨h12_⟩
             clear h0_ h1_ h2_ h3_ h4_ h5_ h6_ h7_ h8_ h9_ h10_ h11_ h12_
             have hHeld : w19.cell? ⟨gb347, 0, none⟩ = some (.int .i64 x348000_1) ∧ w19.cell? ⟨gb347, 1, none⟩ = some (.int .u64 x348001_1) ∧ w19.cell? ⟨gb349, 0, none⟩ = some (.int .i64 ((rd_T31 l0 x10_1).f0)) ∧ w19.cell? ⟨gb349, 1, none⟩ = some (.int .u64 ((rd_T31 l0 x10_1).f1)) := hS_
             refine norm_ (a' := ?_) ?_ ?_
             rotate_left
             ·simp only [putAll, Act.put, List.setIfInBounds_toArray, List.set_cons_zero, List.set_cons_succ]
              rfl
             refine one_ (i := 3) (N := some 18) #[true, true, true, true, false, false, false, false, false, true, false, false] rfl rfl (one_of HT_.out (by kernel_rfl)) (by decide) (fun K hK => ?_)
             refine goes_ Tryz.func31 (by kernel_rfl) rfl #[.int .i64 2] (by rfl) rfl rfl argt ?_
             with_reducible refine (wide_Of.calls 2 t352 t353 _ A8.out).mono ?_
             rintro e w20 ⟨rfl, hb⟩
             refine ⟨_, rfl, ?_⟩
             replace BK346 := blkb BK346 hb
             replace BK347 := blkb BK347 hb
             replace BK349 := blkb BK349 hb
             replace BK360 := blkb BK360 hb
             replace HB := belb HB hb
             (try clear hb)
             (try clear hb2)
             (try clear hk)
             (try clear hi)
             refine hK.out _ _ ⟨bc BK347 0, bc BK347 1, bc BK349 0, bc BK349 1⟩ (fun hHeld => ?_)
             clear hK K
             refine norm_ (a' := ?_) ?_ ?_
             rotate_left
             ·show Act.put _ (some 18) _ = _
              simp only [Act.put, List.setIfInBounds_toArray, List.set_cons_zero, List.set_cons_succ, i64_w, i32_w]
              rfl
             exact norm_ (by first | (simp only [putAll, Act.put, List.setIfInBounds_toArray, List.set_cons_zero, List.set_cons_succ]; done) | (simp only [putAll, Act.put, List.setIfInBounds_toArray, List.set_cons_zero, List.set_cons_succ]; rfl)) (hJ2_3_9 (gb360) _ ⟨hHeld, (blkt BK346), (blkt BK347), (blkt BK349), (blkt BK360), GW360.out, GE360.out, NB346_360.out, NB360_346.out, NB347_360.out, NB360_347.out, NB349_360.out, NB360_349.out, (belt HB)⟩)
            skip
            rintro _ w19 ⟨hS_, h0_, h1_, h2_, h3_⟩
            replace BK346 : Aside0 (w19.heap[gb346]? = some (.cells #[.int .i64 x347000_1, .int .u64 x347001_1] 31 (0, 0))) := ⟨h0_⟩
            replace BK347 : Aside0 (w19.heap[gb347]? = some (.cells #[.int .i64 x348000_1, .int .u64 x348001_1] 31 (0, 0))) := ⟨h1_⟩
            replace BK349 : Aside0 (w19.heap[gb349]? = some (.cells #[.int .i64 ((rd_T31 l0 x10_1).f0), .int .u64 ((rd_T31 l0 x10_1).f1)] 31 (0, 0))) := ⟨h2_⟩
            replace HB : Aside0 (Below w.heap.size w w19) := ⟨h3_⟩
            clear h0_ h1_ h2_ h3_
            have hHeld : w19.cell? ⟨gb347, 0, none⟩ = some (.int .i64 x348000_1) ∧ w19.cell? ⟨gb347, 1, none⟩ = some (.int .u64 x348001_1) ∧ w19.cell? ⟨gb349, 0, none⟩ = some (.int .i64 ((rd_T31 l0 x10_1).f0)) ∧ w19.cell? ⟨gb349, 1, none⟩ = some (.int .u64 ((rd_T31 l0 x10_1).f1)) := hS_
            refine norm_ (a' := ?_) ?_ ?_
            rotate_left
            ·simp only [putAll, Act.put, List.setIfInBounds_toArray, List.set_cons_zero, List.set_cons_succ]
             rfl
            refine two_ (i := 4) (j := 9) (Ni := some 19) (Nj := some 6) #[true, true, true, true, true, false, false, false, false, false, false, false] #[true, true, true, true, false, false, false, false, false, true, false, false] rfl rfl rfl rfl (two_of HT_.out (by kernel_rfl)) (by decide) (by decide) (fun K hK => ?_) (fun K hK => ?_)
            ·skip
             refine Kd.R_lit_step k31 _ 31 ?hg (N := 19) ?hd (xs := ([(⟨x348000_1, x348001_1⟩ : S31), (⟨t350, t351⟩ : S31), (⟨t352, t353⟩ : S31)] : List (S31))) (inner := [.int .i64 x348000_1, .int .u64 x348001_1, .int .i64 t350, .int .u64 t351, .int .i64 t352, .int .u64 t353]) (ok := fun _ => True) (okp := fun _ => True) ?hr ?hp (fun _ hk => hk) trivial (Below.refl _ _) (Nat.le_refl _) (by simp) ?_; (case hd => rfl); (case hg => rfl); (case hr => first | (go_simp; done) | (go_simp; rfl)); (case hp => exact (Reps.c2 (show Kd.M k31 _ _ _ (⟨x348000_1, x348001_1⟩ : S31) [.int .i64 x348000_1, .int .u64 x348001_1] from (k31_mkM _ _ _ (⟨x348000_1, x348001_1⟩ : S31) )) (Reps.c2 (show Kd.M k31 _ _ _ (⟨t350, t351⟩ : S31) [.int .i64 t350, .int .u64 t351] from (k31_mkM _ _ _ (⟨t350, t351⟩ : S31) )) (Reps.c2 (show Kd.M k31 _ _ _ (⟨t352, t353⟩ : S31) [.int .i64 t352, .int .u64 t353] from (k31_mkM _ _ _ (⟨t352, t353⟩ : S31) )) (Reps.none _ _)))))
             intro v355 w20 ho21 hb hg_ hnew_
             clear hg_ hnew_
             (first | rw [← Ny354.out] at ho21 | (simp only [Int.reduceToNat] at ho21; rw [← Ny354.out] at ho21))
             have HO356 := Aside0.mk (Kd.R_lower (Kd.R_newB (Kd.R_newB (Kd.R_newB ho21 (blkt BK346)) (blkt BK347)) (blkt BK349)) (below_size (belt HB)))
             replace BK346 := blkb BK346 hb
             replace BK347 := blkb BK347 hb
             replace BK349 := blkb BK349 hb
             replace HB := belb HB hb
             clear hb ho21
             refine hK.out _ _ ⟨bc BK347 0, bc BK347 1, bc BK349 0, bc BK349 1⟩ (fun hHeld => ?_)
             clear hK K
             refine norm_ (a' := ?_) ?_ ?_
             rotate_left
             ·show Act.put _ (some 19) _ = _
              simp only [Act.put, List.setIfInBounds_toArray, List.set_cons_zero, List.set_cons_succ, i64_w, i32_w]
              rfl
             exact norm_ (by first | (simp only [putAll, Act.put, List.setIfInBounds_toArray, List.set_cons_zero, List.set_cons_succ]; done) | (simp only [putAll, Act.put, List.setIfInBounds_toArray, List.set_cons_zero, List.set_cons_succ]; rfl)) (hJ2_3_4 (v355) _ ⟨hHeld, (by (with_reducible repeat (first | apply Kd.R_alloc | apply Kd.R_drewN | apply Kd.R_drew)); exact Kd.R_mono HO356.out (fun _ hk => ⟨hk.1.1.2, ⟨hk.1.2, hk.2⟩⟩)), (blkt BK346), (blkt BK347), (blkt BK349), (belt HB)⟩)
            skip
            refine box_step ?hg (N := 6) ?hd (cs := #[.int .i64 0, .int .u64 0]) (t := 31) ?hr ?_; (case hd => rfl); (case hg => rfl); (case hr => first | (go_simp; done) | (go_simp; rfl))
            intro gb360 hg w20 hbox hb
            have BK360 := Aside0.mk (hbox)
            have GW360 := bels HB hg
            have GE360 := bels HB hg
            have NB346_360 := blkl BK346 hg
            have NB360_346 := blkg BK346 hg
            have NB347_360 := blkl BK347 hg
            have NB360_347 := blkg BK347 hg
            have NB349_360 := blkl BK349 hg
            have NB360_349 := blkg BK349 hg
            replace BK346 := blkb BK346 hb
            replace BK347 := blkb BK347 hb
            replace BK349 := blkb BK349 hb
            replace HB := belb HB hb
            clear hb hbox hg
            refine hK.out _ _ ⟨bc BK347 0, bc BK347 1, bc BK349 0, bc BK349 1⟩ (fun hHeld => ?_)
            clear hK K
            refine norm_ (a' := ?_) ?_ ?_
            rotate_left
            ·show Act.put _ (some 6) _ = _
             simp only [Act.put, List.setIfInBounds_toArray, List.set_cons_zero, List.set_cons_succ, i64_w, i32_w]
             rfl
            exact norm_ (by first | (simp only [putAll, Act.put, List.setIfInBounds_toArray, List.set_cons_zero, List.set_cons_succ]; done) | (simp only [putAll, Act.put, List.setIfInBounds_toArray, List.set_cons_zero, List.set_cons_succ]; rfl)) (hJ2_3_9 (gb360) _ ⟨hHeld, (blkt BK346), (blkt BK347), (blkt BK349), (blkt BK360), GW360.out, GE360.out, NB346_360.out, NB360_346.out, NB347_360.out, NB360_347.out, NB349_360.out, NB360_349.out, (belt HB)⟩)
           skip
           rintro gb360 w20 ⟨hS_, h0_, h1_, h2_, h3_, h4_, h5_, h6_, h7_, h8_, h9_, h10_, h11_, h12_⟩
           replace BK346 : Aside0 (w20.heap[gb346]? = some (.cells #[.int .i64 x347000_1, .int .u64 x347001_1] 31 (0, 0))) := ⟨h0_⟩
           replace BK347 : Aside0 (w20.heap[gb347]? = some (.cells #[.int .i64 x348000_1, .int .u64 x348001_1] 31 (0, 0))) := ⟨h1_⟩
           replace BK349 : Aside0 (w20.heap[gb349]? = some (.cells #[.int .i64 ((rd_T31 l0 x10_1).f0), .int .u64 ((rd_T31 l0 x10_1).f1)] 31 (0, 0))) := ⟨h2_⟩
           have BK360 : Aside0 (w20.heap[gb360]? = some (.cells #[.int .i64 0, .int .u64 0] 31 (0, 0))) := ⟨h3_⟩
           have GW360 : Aside0 (w.heap.size ≤ gb360) := ⟨h4_⟩
           have GE360 : Aside0 (w.heap.size ≤ gb360) := ⟨h5_⟩
           have NB346_360 : Aside0 (gb346 ≠ gb360) := ⟨h6_⟩
           have NB360_346 : Aside0 (gb360 ≠ gb346) := ⟨h7_⟩
           have NB347_360 : Aside0 (gb347 ≠ gb360) := ⟨h8_⟩
           have NB360_347 : Aside0 (gb360 ≠ gb347) := ⟨h9_⟩
           have NB349_360 : Aside0 (gb349 ≠ gb360) := ⟨h10_⟩
           have NB360_349 : Aside0 (gb360 ≠ gb349) := ⟨h11_⟩
           replace HB : Aside0 (Below w.heap.size w w20) := ⟨h12_⟩
           clear h0_ h1_ h2_ h3_ h4_ h5_ h6_ h7_ h8_ h9_ h10_ h11_ h12_
           have hHeld : w20.cell? ⟨gb347, 0, none⟩ = some (.int .i64 x348000_1) ∧ w20.cell? ⟨gb347, 1, none⟩ = some (.int .u64 x348001_1) ∧ w20.cell? ⟨gb349, 0, none⟩ = some (.int .i64 ((rd_T31 l0 x10_1).f0)) ∧ w20.cell? ⟨gb349, 1, none⟩ = some (.int .u64 ((rd_T31 l0 x10_1).f1)) := hS_
           refine norm_ (a' := ?_) ?_ ?_
           rotate_left
           ·simp only [putAll, Act.put, List.setIfInBounds_toArray, List.set_cons_zero, List.set_cons_succ]
            rfl
           refine one_ (i := 4) (N := some 19) #[true, true, true, true, true, false, false, false, false, true, false, false] rfl rfl (one_of HT_.out (by kernel_rfl)) (by decide) (fun K hK => ?_)
           refine Kd.R_lit_step k31 _ 31 ?hg (N := 19) ?hd (xs := ([(⟨x348000_1, x348001_1⟩ : S31), (⟨t350, t351⟩ : S31), (⟨t352, t353⟩ : S31)] : List (S31))) (inner := [.int .i64 x348000_1, .int .u64 x348001_1, .int .i64 t350, .int .u64 t351, .int .i64 t352, .int .u64 t353]) (ok := fun _ => True) (okp := fun _ => True) ?hr ?hp (fun _ hk => hk) trivial (Below.refl _ _) (Nat.le_refl _) (by simp) ?_; (case hd => rfl); (case hg => rfl); (case hr => first | (go_simp; done) | (go_simp; rfl)); (case hp => exact (Reps.c2 (show Kd.M k31 _ _ _ (⟨x348000_1, x348001_1⟩ : S31) [.int .i64 x348000_1, .int .u64 x348001_1] from (k31_mkM _ _ _ (⟨x348000_1, x348001_1⟩ : S31) )) (Reps.c2 (show Kd.M k31 _ _ _ (⟨t350, t351⟩ : S31) [.int .i64 t350, .int .u64 t351] from (k31_mkM _ _ _ (⟨t350, t351⟩ : S31) )) (Reps.c2 (show Kd.M k31 _ _ _ (⟨t352, t353⟩ : S31) [.int .i64 t352, .int .u64 t353] from (k31_mkM _ _ _ (⟨t352, t353⟩ : S31) )) (Reps.none _ _)))))
           intro v355 w21 ho22 hb hg_ hnew_
           clear hg_ hnew_
           (first | rw [← Ny354.out] at ho22 | (simp only [Int.reduceToNat] at ho22; rw [← Ny354.out] at ho22))
           have HO356 := Aside0.mk (Kd.R_lower (Kd.R_newB (Kd.R_newB (Kd.R_newB (Kd.R_newB ho22 (blkt BK346)) (blkt BK347)) (blkt BK349)) (blkt BK360)) (below_size (belt HB)))
           replace BK346 := blkb BK346 hb
           replace BK347 := blkb BK347 hb
           replace BK349 := blkb BK349 hb
           replace BK360 := blkb BK360 hb
           replace HB := belb HB hb
           clear hb ho22
           refine hK.out _ _ ⟨bc BK347 0, bc BK347 1, bc BK349 0, bc BK349 1⟩ (fun hHeld => ?_)
           clear hK K
           refine norm_ (a' := ?_) ?_ ?_
           rotate_left
           ·show Act.put _ (some 19) _ = _
            simp only [Act.put, List.setIfInBounds_toArray, List.set_cons_zero, List.set_cons_succ, i64_w, i32_w]
            rfl
           exact norm_ (by first | (simp only [putAll, Act.put, List.setIfInBounds_toArray, List.set_cons_zero, List.set_cons_succ]; done) | (simp only [putAll, Act.put, List.setIfInBounds_toArray, List.set_cons_zero, List.set_cons_succ]; rfl)) (hJ2_3_4_9 (v355, gb360) _ ⟨hHeld, (by (with_reducible repeat (first | apply Kd.R_alloc | apply Kd.R_drewN | apply Kd.R_drew)); exact Kd.R_mono HO356.out (fun _ hk => ⟨hk.1.1.1.2, ⟨hk.1.1.2, ⟨hk.1.2, hk.2⟩⟩⟩)), (blkt BK346), (blkt BK347), (blkt BK349), (blkt BK360), GW360.out, GE360.out, NB346_360.out, NB360_346.out, NB347_360.out, NB360_347.out, NB349_360.out, NB360_349.out, (belt HB)⟩)
          skip
          rintro v355 w21 ⟨hS_, h0_, h1_, h2_, h3_, h4_⟩
          have HO356 : Aside0 (Kd.R k31 31 w21 w.heap.size (fun k_ => k_ ≠ gb346 ∧ k_ ≠ gb347 ∧ k_ ≠ gb349) v355 y354) := ⟨h0_⟩
          replace BK346 : Aside0 (w21.heap[gb346]? = some (.cells #[.int .i64 x347000_1, .int .u64 x347001_1] 31 (0, 0))) := ⟨h1_⟩
          replace BK347 : Aside0 (w21.heap[gb347]? = some (.cells #[.int .i64 x348000_1, .int .u64 x348001_1] 31 (0, 0))) := ⟨h2_⟩
          replace BK349 : Aside0 (w21.heap[gb349]? = some (.cells #[.int .i64 ((rd_T31 l0 x10_1).f0), .int .u64 ((rd_T31 l0 x10_1).f1)] 31 (0, 0))) := ⟨h3_⟩
          replace HB : Aside0 (Below w.heap.size w w21) := ⟨h4_⟩
          clear h0_ h1_ h2_ h3_ h4_
          have hHeld : w21.cell? ⟨gb347, 0, none⟩ = some (.int .i64 x348000_1) ∧ w21.cell? ⟨gb347, 1, none⟩ = some (.int .u64 x348001_1) ∧ w21.cell? ⟨gb349, 0, none⟩ = some (.int .i64 ((rd_T31 l0 x10_1).f0)) ∧ w21.cell? ⟨gb349, 1, none⟩ = some (.int .u64 ((rd_T31 l0 x10_1).f1)) := hS_
          obtain ⟨Ao22, co22, eo22⟩ := Kd.R_slice HO356.out
          (first | subst eo22 | (injection eo22 with f1_ f2_ f3_; have f4_ := f1_.symm; have f5_ := f3_.symm; clear f1_ f2_ f3_; subst f4_; subst f5_))
          refine norm_ (a' := ?_) ?_ ?_
          rotate_left
          ·simp only [putAll, Act.put, List.setIfInBounds_toArray, List.set_cons_zero, List.set_cons_succ]
           rfl
          refine two_ (i := 5) (j := 9) (Ni := some 20) (Nj := some 6) #[true, true, true, true, true, true, false, false, false, false, false, false] #[true, true, true, true, true, false, false, false, false, true, false, false] rfl rfl rfl rfl (two_of HT_.out (by kernel_rfl)) (by decide) (by decide) (fun K hK => ?_) (fun K hK => ?_)
          ·skip
           refine goes_ Tryz.func76 (by kernel_rfl) rfl #[.slice Ao22 y354.length co22] (by rfl) rfl rfl argt ?_
           with_reducible refine (wide_Sum.calls k1 _ _ y354 t357 t358 true _ ?side1 ?side2 A9.out).mono ?_
           (case side1 => repeat (first | exact (Kd.R_reads' HO356.out).2.2 | (with_reducible refine Kd.C_alloc ?_ _) | (with_reducible refine Kd.C_drewN ?_ _) | (with_reducible refine Kd.C_drew ?_)))
           (case side2 => exact (Kd.R_reads' HO356.out).2.1)
           rintro e w23 ⟨rfl, hb⟩
           refine ⟨_, rfl, ?_⟩
           replace HO356 := rb HO356 hb
           replace BK346 := blkb BK346 hb
           replace BK347 := blkb BK347 hb
           replace BK349 := blkb BK349 hb
           replace HB := belb HB hb
           (try clear hb)
           (try clear hb2)
           (try clear hk)
           (try clear hi)
           refine hK.out _ _ ⟨bc BK347 0, bc BK347 1, bc BK349 0, bc BK349 1⟩ (fun hHeld => ?_)
           clear hK K
           refine norm_ (a' := ?_) ?_ ?_
           rotate_left
           ·show Act.put _ (some 20) _ = _
            simp only [Act.put, List.setIfInBounds_toArray, List.set_cons_zero, List.set_cons_succ, i64_w, i32_w]
            rfl
           refine pure_ (i := 6) (N := some 14) (v := ?_) (a' := ?_) #[true, true, true, true, true, true, true, false, false, false, false, false] rfl rfl (any_of HT_.out (by kernel_rfl)) (fun _ _ _ h => h) (Or.inl ⟨by rfl, ?_⟩) ?_ ?_
           rotate_left
           ·intro w'
            go_simp
            with_reducible rfl
           rotate_left
           ·simp only [Act.put, List.setIfInBounds_toArray, List.set_cons_zero, List.set_cons_succ, i64_w, i32_w]
            rfl
           refine pure_ (i := 7) (N := some 21) (v := ?_) (a' := ?_) #[true, true, true, true, true, true, true, true, false, false, false, false] rfl rfl (any_of HT_.out (by kernel_rfl)) (fun _ _ _ h => h) (Or.inl ⟨by rfl, ?_⟩) ?_ ?_
           rotate_left
           ·intro w'
            go_simp
            with_reducible rfl
           rotate_left
           ·simp only [Act.put, List.setIfInBounds_toArray, List.set_cons_zero, List.set_cons_succ, i64_w, i32_w]
            rfl
           refine pure_ (i := 8) (N := some 22) (v := ?_) (a' := ?_) #[true, true, true, true, true, true, true, true, true, false, false, false] rfl rfl (any_of HT_.out (by kernel_rfl)) (fun _ _ _ h => h) (Or.inl ⟨by rfl, ?_⟩) ?_ ?_
           rotate_left
           ·intro w'
            go_simp
            with_reducible rfl
           rotate_left
           ·simp only [Act.put, List.setIfInBounds_toArray, List.set_cons_zero, List.set_cons_succ, i64_w, i32_w]
            rfl
           exact norm_ (by first | (simp only [putAll, Act.put, List.setIfInBounds_toArray, List.set_cons_zero, List.set_cons_succ]; done) | (simp only [putAll, Act.put, List.setIfInBounds_toArray, List.set_cons_zero, List.set_cons_succ]; rfl)) (hJ2_3_4_5 (.slice Ao22 y354.length co22) _ ⟨hHeld, (rt HO356), (blkt BK346), (blkt BK347), (blkt BK349), (belt HB)⟩)
          skip
          refine box_step ?hg (N := 6) ?hd (cs := #[.int .i64 0, .int .u64 0]) (t := 31) ?hr ?_; (case hd => rfl); (case hg => rfl); (case hr => first | (go_simp; done) | (go_simp; rfl))
          intro gb360 hg w22 hbox hb
          replace HO356 := Aside0.mk (Kd.R_below (Kd.R_elderB (rt HO356) gb360 (Nat.le_of_eq hg.symm)) hb)
          have BK360 := Aside0.mk (hbox)
          have GW360 := bels HB hg
          have GE360 := bels HB hg
          have NB346_360 := blkl BK346 hg
          have NB360_346 := blkg BK346 hg
          have NB347_360 := blkl BK347 hg
          have NB360_347 := blkg BK347 hg
          have NB349_360 := blkl BK349 hg
          have NB360_349 := blkg BK349 hg
          replace BK346 := blkb BK346 hb
          replace BK347 := blkb BK347 hb
          replace BK349 := blkb BK349 hb
          replace HB := belb HB hb
          clear hb hbox hg
          refine hK.out _ _ ⟨bc BK347 0, bc BK347 1, bc BK349 0, bc BK349 1⟩ (fun hHeld => ?_)
          clear hK K
          refine norm_ (a' := ?_) ?_ ?_
          rotate_left
          ·show Act.put _ (some 6) _ = _
           simp only [Act.put, List.setIfInBounds_toArray, List.set_cons_zero, List.set_cons_succ, i64_w, i32_w]
           rfl
          exact norm_ (by first | (simp only [putAll, Act.put, List.setIfInBounds_toArray, List.set_cons_zero, List.set_cons_succ]; done) | (simp only [putAll, Act.put, List.setIfInBounds_toArray, List.set_cons_zero, List.set_cons_succ]; rfl)) (hJ2_3_4_9 ((.slice Ao22 y354.length co22), gb360) _ ⟨hHeld, (by (with_reducible repeat (first | apply Kd.R_alloc | apply Kd.R_drewN | apply Kd.R_drew)); exact Kd.R_mono HO356.out (fun _ hk => ⟨hk.1.1, ⟨hk.1.2.1, ⟨hk.1.2.2, hk.2⟩⟩⟩)), (blkt BK346), (blkt BK347), (blkt BK349), (blkt BK360), GW360.out, GE360.out, NB346_360.out, NB360_346.out, NB347_360.out, NB360_347.out, NB349_360.out, NB360_349.out, (belt HB)⟩)
         skip
         rintro ⟨v355, gb360⟩ w22 ⟨hS_, h0_, h1_, h2_, h3_, h4_, h5_, h6_, h7_, h8_, h9_, h10_, h11_, h12_, h13_⟩
         have HO356 : Aside0 (Kd.R k31 31 w22 w.heap.size (fun k_ => k_ ≠ gb346 ∧ k_ ≠ gb347 ∧ k_ ≠ gb349 ∧ k_ ≠ gb360) v355 y354) := ⟨h0_⟩
         replace BK346 : Aside0 (w22.heap[gb346]? = some (.cells #[.int .i64 x347000_1, .int .u64 x347001_1] 31 (0, 0))) := ⟨h1_⟩
         replace BK347 : Aside0 (w22.heap[gb347]? = some (.cells #[.int .i64 x348000_1, .int .u64 x348001_1] 31 (0, 0))) := ⟨h2_⟩
         replace BK349 : Aside0 (w22.heap[gb349]? = some (.cells #[.int .i64 ((rd_T31 l0 x10_1).f0), .int .u64 ((rd_T31 l0 x10_1).f1)] 31 (0, 0))) := ⟨h3_⟩
         have BK360 : Aside0 (w22.heap[gb360]? = some (.cells #[.int .i64 0, .int .u64 0] 31 (0, 0))) := ⟨h4_⟩
         have GW360 : Aside0 (w.heap.size ≤ gb360) := ⟨h5_⟩
         have GE360 : Aside0 (w.heap.size ≤ gb360) := ⟨h6_⟩
         have NB346_360 : Aside0 (gb346 ≠ gb360) := ⟨h7_⟩
         have NB360_346 : Aside0 (gb360 ≠ gb346) := ⟨h8_⟩
         have NB347_360 : Aside0 (gb347 ≠ gb360) := ⟨h9_⟩
         have NB360_347 : Aside0 (gb360 ≠ gb347) := ⟨h10_⟩
         have NB349_360 : Aside0 (gb349 ≠ gb360) := ⟨h11_⟩
         have NB360_349 : Aside0 (gb360 ≠ gb349) := ⟨h12_⟩
         replace HB : Aside0 (Below w.heap.size w w22) := ⟨h13_⟩
         clear h0_ h1_ h2_ h3_ h4_ h5_ h6_ h7_ h8_ h9_ h10_ h11_ h12_ h13_
         have hHeld : w22.cell? ⟨gb347, 0, none⟩ = some (.int .i64 x348000_1) ∧ w22.cell? ⟨gb347, 1, none⟩ = some (.int .u64 x348001_1) ∧ w22.cell? ⟨gb349, 0, none⟩ = some (.int .i64 ((rd_T31 l0 x10_1).f0)) ∧ w22.cell? ⟨gb349, 1, none⟩ = some (.int .u64 ((rd_T31 l0 x10_1).f1)) := hS_
         obtain ⟨Ao23, co23, eo23⟩ := Kd.R_slice HO356.out
         (first | subst eo23 | (injection eo23 with f1_ f2_ f3_; have f4_ := f1_.symm; have f5_ := f3_.symm; clear f1_ f2_ f3_; subst f4_; subst f5_))
         refine norm_ (a' := ?_) ?_ ?_
         rotate_left
         ·simp only [putAll, Act.put, List.setIfInBounds_toArray, List.set_cons_zero, List.set_cons_succ]
          rfl
         refine one_ (i := 5) (N := some 20) #[true, true, true, true, true, true, false, false, false, true, false, false] rfl rfl (one_of HT_.out (by kernel_rfl)) (by decide) (fun K hK => ?_)
         refine goes_ Tryz.func76 (by kernel_rfl) rfl #[.slice Ao23 y354.length co23] (by rfl) rfl rfl argt ?_
         with_reducible refine (wide_Sum.calls k1 _ _ y354 t357 t358 true _ ?side1 ?side2 A9.out).mono ?_
         (case side1 => repeat (first | exact (Kd.R_reads' HO356.out).2.2 | (with_reducible refine Kd.C_alloc ?_ _) | (with_reducible refine Kd.C_drewN ?_ _) | (with_reducible refine Kd.C_drew ?_)))
         (case side2 => exact (Kd.R_reads' HO356.out).2.1)
         rintro e w24 ⟨rfl, hb⟩
         refine ⟨_, rfl, ?_⟩
         replace HO356 := rb HO356 hb
         replace BK346 := blkb BK346 hb
         replace BK347 := blkb BK347 hb
         replace BK349 := blkb BK349 hb
         replace BK360 := blkb BK360 hb
         replace HB := belb HB hb
         (try clear hb)
         (try clear hb2)
         (try clear hk)
         (try clear hi)
         refine hK.out _ _ ⟨bc BK347 0, bc BK347 1, bc BK349 0, bc BK349 1⟩ (fun hHeld => ?_)
         clear hK K
         refine norm_ (a' := ?_) ?_ ?_
         rotate_left
         ·show Act.put _ (some 20) _ = _
          simp only [Act.put, List.setIfInBounds_toArray, List.set_cons_zero, List.set_cons_succ, i64_w, i32_w]
          rfl
         refine pure_ (i := 6) (N := some 14) (v := ?_) (a' := ?_) #[true, true, true, true, true, true, true, false, false, true, false, false] rfl rfl (any_of HT_.out (by kernel_rfl)) (fun _ _ _ h => h) (Or.inl ⟨by rfl, ?_⟩) ?_ ?_
         rotate_left
         ·intro w'
          go_simp
          with_reducible rfl
         rotate_left
         ·simp only [Act.put, List.setIfInBounds_toArray, List.set_cons_zero, List.set_cons_succ, i64_w, i32_w]
          rfl
         refine pure_ (i := 7) (N := some 21) (v := ?_) (a' := ?_) #[true, true, true, true, true, true, true, true, false, true, false, false] rfl rfl (any_of HT_.out (by kernel_rfl)) (fun _ _ _ h => h) (Or.inl ⟨by rfl, ?_⟩) ?_ ?_
         rotate_left
         ·intro w'
          go_simp
          with_reducible rfl
         rotate_left
         ·simp only [Act.put, List.setIfInBounds_toArray, List.set_cons_zero, List.set_cons_succ, i64_w, i32_w]
          rfl
         refine pure_ (i := 8) (N := some 22) (v := ?_) (a' := ?_) #[true, true, true, true, true, true, true, true, true, true, false, false] rfl rfl (any_of HT_.out (by kernel_rfl)) (fun _ _ _ h => h) (Or.inl ⟨by rfl, ?_⟩) ?_ ?_
         rotate_left
         ·intro w'
          go_simp
          with_reducible rfl
         rotate_left
         ·simp only [Act.put, List.setIfInBounds_toArray, List.set_cons_zero, List.set_cons_succ, i64_w, i32_w]
          rfl
         exact norm_ (by first | (simp only [putAll, Act.put, List.setIfInBounds_toArray, List.set_cons_zero, List.set_cons_succ]; done) | (simp only [putAll, Act.put, List.setIfInBounds_toArray, List.set_cons_zero, List.set_cons_succ]; rfl)) (hJ2_3_4_5_9 (.slice Ao23 y354.length co23, gb360) _ ⟨hHeld, (rt HO356), (blkt BK346), (blkt BK347), (blkt BK349), (blkt BK360), GW360.out, GE360.out, NB346_360.out, NB360_346.out, NB347_360.out, NB360_347.out, NB349_360.out, NB360_349.out, (belt HB)⟩)
        skip
        rintro v355 w23 ⟨hS_, h0_, h1_, h2_, h3_, h4_⟩
        have HO356 : Aside0 (Kd.R k31 31 w23 w.heap.size (fun k_ => k_ ≠ gb346 ∧ k_ ≠ gb347 ∧ k_ ≠ gb349) v355 y354) := ⟨h0_⟩
        replace BK346 : Aside0 (w23.heap[gb346]? = some (.cells #[.int .i64 x347000_1, .int .u64 x347001_1] 31 (0, 0))) := ⟨h1_⟩
        replace BK347 : Aside0 (w23.heap[gb347]? = some (.cells #[.int .i64 x348000_1, .int .u64 x348001_1] 31 (0, 0))) := ⟨h2_⟩
        replace BK349 : Aside0 (w23.heap[gb349]? = some (.cells #[.int .i64 ((rd_T31 l0 x10_1).f0), .int .u64 ((rd_T31 l0 x10_1).f1)] 31 (0, 0))) := ⟨h3_⟩
        replace HB : Aside0 (Below w.heap.size w w23) := ⟨h4_⟩
        clear h0_ h1_ h2_ h3_ h4_
        have hHeld : w23.cell? ⟨gb347, 0, none⟩ = some (.int .i64 x348000_1) ∧ w23.cell? ⟨gb347, 1, none⟩ = some (.int .u64 x348001_1) ∧ w23.cell? ⟨gb349, 0, none⟩ = some (.int .i64 ((rd_T31 l0 x10_1).f0)) ∧ w23.cell? ⟨gb349, 1, none⟩ = some (.int .u64 ((rd_T31 l0 x10_1).f1)) := hS_
        refine norm_ (a' := ?_) ?_ ?_
        rotate_left
        ·simp only [putAll, Act.put, List.setIfInBounds_toArray, List.set_cons_zero, List.set_cons_succ]
         rfl
        refine one_ (i := 9) (N := some 6) #[true, true, true, true, true, true, true, true, true, true, false, false] rfl rfl (one_of HT_.out (by kernel_rfl)) (by decide) (fun K hK => ?_)
        refine box_step ?hg (N := 6) ?hd (cs := #[.int .i64 0, .int .u64 0]) (t := 31) ?hr ?_; (case hd => rfl); (case hg => rfl); (case hr => first | (go_simp; done) | (go_simp; rfl))
        intro gb360 hg w24 hbox hb
        replace HO356 := Aside0.mk (Kd.R_below (Kd.R_elderB (rt HO356) gb360 (Nat.le_of_eq hg.symm)) hb)
        have BK360 := Aside0.mk (hbox)
        have GW360 := bels HB hg
        have GE360 := bels HB hg
        have NB346_360 := blkl BK346 hg
        have NB360_346 := blkg BK346 hg
        have NB347_360 := blkl BK347 hg
        have NB360_347 := blkg BK347 hg
        have NB349_360 := blkl BK349 hg
        have NB360_349 := blkg BK349 hg
        replace BK346 := blkb BK346 hb
        replace BK347 := blkb BK347 hb
        replace BK349 := blkb BK349 hb
        replace HB := belb HB hb
        clear hb hbox hg
        refine hK.out _ _ ⟨bc BK347 0, bc BK347 1, bc BK349 0, bc BK349 1⟩ (fun hHeld => ?_)
        clear hK K
        refine norm_ (a' := ?_) ?_ ?_
        rotate_left
        ·show Act.put _ (some 6) _ = _
         simp only [Act.put, List.setIfInBounds_toArray, List.set_cons_zero, List.set_cons_succ, i64_w, i32_w]
         rfl
        exact norm_ (by first | (simp only [putAll, Act.put, List.setIfInBounds_toArray, List.set_cons_zero, List.set_cons_succ]; done) | (simp only [putAll, Act.put, List.setIfInBounds_toArray, List.set_cons_zero, List.set_cons_succ]; rfl)) (hJ2_3_4_5_9 (v355, gb360) _ ⟨hHeld, (by (with_reducible repeat (first | apply Kd.R_alloc | apply Kd.R_drewN | apply Kd.R_drew)); exact Kd.R_mono HO356.out (fun _ hk => ⟨hk.1.1, ⟨hk.1.2.1, ⟨hk.1.2.2, hk.2⟩⟩⟩)), (blkt BK346), (blkt BK347), (blkt BK349), (blkt BK360), GW360.out, GE360.out, NB346_360.out, NB360_346.out, NB347_360.out, NB360_347.out, NB349_360.out, NB360_349.out, (belt HB)⟩)
       rintro ⟨v355, gb360⟩ w24 ⟨hS_, h0_, h1_, h2_, h3_, h4_, h5_, h6_, h7_, h8_, h9_, h10_, h11_, h12_, h13_⟩
       have HO356 : Aside0 (Kd.R k31 31 w24 w.heap.size (fun k_ => k_ ≠ gb346 ∧ k_ ≠ gb347 ∧ k_ ≠ gb349 ∧ k_ ≠ gb360) v355 y354) := ⟨h0_⟩
       replace BK346 : Aside0 (w24.heap[gb346]? = some (.cells #[.int .i64 x347000_1, .int .u64 x347001_1] 31 (0, 0))) := ⟨h1_⟩
       replace BK347 : Aside0 (w24.heap[gb347]? = some (.cells #[.int .i64 x348000_1, .int .u64 x348001_1] 31 (0, 0))) := ⟨h2_⟩
       replace BK349 : Aside0 (w24.heap[gb349]? = some (.cells #[.int .i64 ((rd_T31 l0 x10_1).f0), .int .u64 ((rd_T31 l0 x10_1).f1)] 31 (0, 0))) := ⟨h3_⟩
       have BK360 : Aside0 (w24.heap[gb360]? = some (.cells #[.int .i64 0, .int .u64 0] 31 (0, 0))) := ⟨h4_⟩
       have GW360 : Aside0 (w.heap.size ≤ gb360) := ⟨h5_⟩
       have GE360 : Aside0 (w.heap.size ≤ gb360) := ⟨h6_⟩
       have NB346_360 : Aside0 (gb346 ≠ gb360) := ⟨h7_⟩
       have NB360_346 : Aside0 (gb360 ≠ gb346) := ⟨h8_⟩
       have NB347_360 : Aside0 (gb347 ≠ gb360) := ⟨h9_⟩
       have NB360_347 : Aside0 (gb360 ≠ gb347) := ⟨h10_⟩
       have NB349_360 : Aside0 (gb349 ≠ gb360) := ⟨h11_⟩
       have NB360_349 : Aside0 (gb360 ≠ gb349) := ⟨h12_⟩
       replace HB : Aside0 (Below w.heap.size w w24) := ⟨h13_⟩
       clear h0_ h1_ h2_ h3_ h4_ h5_ h6_ h7_ h8_ h9_ h10_ h11_ h12_ h13_
       have hHeld : w24.cell? ⟨gb347, 0, none⟩ = some (.int .i64 x348000_1) ∧ w24.cell? ⟨gb347, 1, none⟩ = some (.int .u64 x348001_1) ∧ w24.cell? ⟨gb349, 0, none⟩ = some (.int .i64 ((rd_T31 l0 x10_1).f0)) ∧ w24.cell? ⟨gb349, 1, none⟩ = some (.int .u64 ((rd_T31 l0 x10_1).f1)) := hS_
       refine norm_ (a' := ?_) ?_ ?_
       rotate_left
       ·simp only [putAll, Act.put, List.setIfInBounds_toArray, List.set_cons_zero, List.set_cons_succ]
        rfl
       refine one_ (i := 10) (N := none) #[true, true, true, true, true, true, true, true, true, true, true, false] rfl rfl (one_of HT_.out (by kernel_rfl)) (by decide) (fun K hK => ?_)
       have hs25 : w24.cell? ⟨gb360, 0, none⟩ = some (.int .i64 0) := bc BK360 0
       have hfs25 := blk_frozen BK360.out 0
       have hns25_0 := NB346_360.out
       have hns25_1 := NB347_360.out
       have hns25_2 := NB349_360.out
       have hms25_0 := NB360_346.out
       have hms25_1 := NB360_347.out
       have hms25_2 := NB360_349.out
       have hs26 : w24.cell? ⟨gb360, 1, none⟩ = some (.int .u64 0) := bc BK360 1
       have hfs26 := blk_frozen BK360.out 1
       have hns26_0 := NB346_360.out
       have hns26_1 := NB347_360.out
       have hns26_2 := NB349_360.out
       have hms26_0 := NB360_346.out
       have hms26_1 := NB360_347.out
       have hms26_2 := NB360_349.out
       refine skip_ (w1 := ?_) (by rfl) rfl ?_ ?_
       rotate_left
       ·go_simp
        rfl
       refine hK.out _ _ ⟨((cell_far (p := ⟨gb360, _, none⟩) NB347_360.out _).trans (((cell_far (p := ⟨gb360, _, none⟩) NB347_360.out _).trans (hHeld.1)))), ((cell_far (p := ⟨gb360, _, none⟩) NB347_360.out _).trans (((cell_far (p := ⟨gb360, _, none⟩) NB347_360.out _).trans (hHeld.2.1)))), ((cell_far (p := ⟨gb360, _, none⟩) NB349_360.out _).trans (((cell_far (p := ⟨gb360, _, none⟩) NB349_360.out _).trans (hHeld.2.2.1)))), ((cell_far (p := ⟨gb360, _, none⟩) NB349_360.out _).trans (((cell_far (p := ⟨gb360, _, none⟩) NB349_360.out _).trans (hHeld.2.2.2))))⟩ (fun hHeld => ?_)
       clear hK K
       refine pure_ (i := 11) (N := some 7) (v := ?_) (a' := ?_) #[true, true, true, true, true, true, true, true, true, true, true, true] rfl rfl (any_of HT_.out (by kernel_rfl)) (fun _ _ _ h => h) (Or.inl ⟨by rfl, ?_⟩) ?_ ?_
       rotate_left
       ·intro w'
        go_simp
        with_reducible rfl
       rotate_left
       ·simp only [Act.put, List.setIfInBounds_toArray, List.set_cons_zero, List.set_cons_succ, i64_w, i32_w]
        rfl
       refine done_ (done_of HT_.out (by kernel_rfl)) ?_
       have hnb27 := NB360_346.out
       have hnc27 := NB346_360.out
       have hnb28 := NB360_347.out
       have hnc28 := NB347_360.out
       have hnb29 := NB360_349.out
       have hnc29 := NB349_360.out
       have hcz30_0 : w24.cell? ⟨gb360, 0, none⟩ = some (.int .i64 0) := bc BK360 0
       have hcz30_1 : w24.cell? ⟨gb360, 1, none⟩ = some (.int .u64 0) := bc BK360 1
       have hfz30_0 := blk_frozen BK360.out 0
       have hfz30_1 := blk_frozen BK360.out 1
       have hnb31 := NB347_346.out
       have hnc31 := NB346_347.out
       have hcz32_0 : w24.cell? ⟨gb347, 0, none⟩ = some (.int .i64 x348000_1) := bc BK347 0
       have hcz32_1 : w24.cell? ⟨gb347, 1, none⟩ = some (.int .u64 x348001_1) := bc BK347 1
       have hfz32_0 := blk_frozen BK347.out 0
       have hfz32_1 := blk_frozen BK347.out 1
       try go_wp2
       go_roundg k1
       case measure => have := HK1.out; omega
       case rel => exact ⟨(wrap64 (x10_1 + 1)), (x347000_1), (x347001_1), (t357), (t358), (by first | rfl | (simp; done) | (simp [*]; done)), H', ⟨by have := HK1.out; omega⟩, ⟨by (with_reducible repeat (first | refine blk_drewN ?_ _ | refine blk_drew ?_ | refine blk_alloc ?_ _)); refine blk_far ?_ NB346_347.out _; (with_reducible repeat (first | refine blk_drewN ?_ _ | refine blk_drew ?_ | refine blk_alloc ?_ _)); refine blk_far ?_ NB346_347.out _; (with_reducible repeat (first | refine blk_drewN ?_ _ | refine blk_drew ?_ | refine blk_alloc ?_ _)); refine blk_far ?_ NB346_360.out _; (with_reducible repeat (first | refine blk_drewN ?_ _ | refine blk_drew ?_ | refine blk_alloc ?_ _)); refine blk_far ?_ NB346_360.out _; exact blkt BK346⟩, ⟨by (with_reducible repeat (first | refine blk_drewN ?_ _ | refine blk_drew ?_ | refine blk_alloc ?_ _)); refine blk_put (cs := #[.int .i64 t357, .int .u64 x348001_1]) ?_ 1 _ rfl; (with_reducible repeat (first | refine blk_drewN ?_ _ | refine blk_drew ?_ | refine blk_alloc ?_ _)); refine blk_put (cs := #[.int .i64 x348000_1, .int .u64 x348001_1]) ?_ 0 _ rfl; (with_reducible repeat (first | refine blk_drewN ?_ _ | refine blk_drew ?_ | refine blk_alloc ?_ _)); refine blk_far ?_ NB347_360.out _; (with_reducible repeat (first | refine blk_drewN ?_ _ | refine blk_drew ?_ | refine blk_alloc ?_ _)); refine blk_far ?_ NB347_360.out _; exact blkt BK347⟩, ⟨belt HB⟩⟩
      replace c10 := Bool.eq_false_iff.mpr c10
      subst c10
      have H1 : ((clamp_greatest.f).bind fun bt361 => (some (bt361.1, bt361.2))) = some (r1, r2) := by rw [if_neg (show ¬ (false = true) by decide)] at H; exact H
      clear H
      have H := H1
      clear H1
      replace H := Option.bind_eq_some_iff.mp H
      obtain ⟨⟨t361, t362⟩, A330, H⟩ := H
      replace H : (some (t361, t362)) = some (r1, r2) := H
      have A33 := Aside0.mk A330
      clear A330
      simp only [Option.some.injEq, Prod.mk.injEq] at H
      obtain ⟨rfl, rfl⟩ := H
      have p348 : 0 ≤ (x10_1 : Int) := of_decide_eq_true (by first | (with_reducible assumption) | assumption)
      have q348 : x10_1 < (l0.length : Int) := of_decide_eq_true (by first | (with_reducible assumption) | assumption)
      obtain ⟨ad348, e348, hx348_0, hx348_1⟩ := at_T31 HR0.out x10_1 p348 q348
      cases e348
      replace hx348_0 := (HB.out.cell (World.block_lt_of_cell? w _ hx348_0)).trans hx348_0
      replace hx348_1 := (HB.out.cell (World.block_lt_of_cell? w _ hx348_1)).trans hx348_1
      replace p348 := eq_true p348
      replace q348 := eq_true q348
      try go_wp2_with (first | ((with_reducible refine gate_dst (N := 5) rfl ?_); refine box_event ?hg (N := 5) ?hd (cs := #[.int .i64 0, .int .u64 0]) (t := 31) ?hr ?_; (case hd => rfl); (case hg => rfl); (case hr => first | (go_simp; done) | (go_simp; rfl)); intro gb349 hg w34 hbox hb; have BK349 := Aside0.mk (hbox); have GW349 := bels HB hg; have GE349 := bels HB hg; have NB346_349 := blkl BK346 hg; have NB349_346 := blkg BK346 hg; have NB347_349 := blkl BK347 hg; have NB349_347 := blkg BK347 hg; replace BK346 := blkb BK346 hb; replace BK347 := blkb BK347 hb; replace HB := belb HB hb; clear hb hbox hg; have hnb35 := NB349_346.out; have hnc35 := NB346_349.out; have hnb36 := NB349_347.out; have hnc36 := NB347_349.out; have hcz37_0 : w34.cell? ⟨gb349, 0, none⟩ = some (.int .i64 0) := bc BK349 0; have hcz37_1 : w34.cell? ⟨gb349, 1, none⟩ = some (.int .u64 0) := bc BK349 1; have hfz37_0 := blk_frozen BK349.out 0; have hfz37_1 := blk_frozen BK349.out 1))
      have n0_ : Aside0 (((w34.setCell ⟨gb349, 0, none⟩ (.int .i64 ((rd_T31 l0 x10_1).f0))).setCell ⟨gb349, 1, none⟩ (.int .u64 ((rd_T31 l0 x10_1).f1))).heap[gb346]? = some (.cells #[.int .i64 x347000_1, .int .u64 x347001_1] 31 (0, 0))) := ⟨by (with_reducible repeat (first | refine blk_drewN ?_ _ | refine blk_drew ?_ | refine blk_alloc ?_ _)); refine blk_far ?_ NB346_349.out _; (with_reducible repeat (first | refine blk_drewN ?_ _ | refine blk_drew ?_ | refine blk_alloc ?_ _)); refine blk_far ?_ NB346_349.out _; exact blkt BK346⟩
      have n1_ : Aside0 (((w34.setCell ⟨gb349, 0, none⟩ (.int .i64 ((rd_T31 l0 x10_1).f0))).setCell ⟨gb349, 1, none⟩ (.int .u64 ((rd_T31 l0 x10_1).f1))).heap[gb347]? = some (.cells #[.int .i64 x348000_1, .int .u64 x348001_1] 31 (0, 0))) := ⟨by (with_reducible repeat (first | refine blk_drewN ?_ _ | refine blk_drew ?_ | refine blk_alloc ?_ _)); refine blk_far ?_ NB347_349.out _; (with_reducible repeat (first | refine blk_drewN ?_ _ | refine blk_drew ?_ | refine blk_alloc ?_ _)); refine blk_far ?_ NB347_349.out _; exact blkt BK347⟩
      have n2_ : Aside0 (((w34.setCell ⟨gb349, 0, none⟩ (.int .i64 ((rd_T31 l0 x10_1).f0))).setCell ⟨gb349, 1, none⟩ (.int .u64 ((rd_T31 l0 x10_1).f1))).heap[gb349]? = some (.cells #[.int .i64 ((rd_T31 l0 x10_1).f0), .int .u64 ((rd_T31 l0 x10_1).f1)] 31 (0, 0))) := ⟨by (with_reducible repeat (first | refine blk_drewN ?_ _ | refine blk_drew ?_ | refine blk_alloc ?_ _)); refine blk_put (cs := #[.int .i64 ((rd_T31 l0 x10_1).f0), .int .u64 0]) ?_ 1 _ rfl; (with_reducible repeat (first | refine blk_drewN ?_ _ | refine blk_drew ?_ | refine blk_alloc ?_ _)); refine blk_put (cs := #[.int .i64 0, .int .u64 0]) ?_ 0 _ rfl; exact blkt BK349⟩
      have n3_ : Aside0 (Below w.heap.size w ((w34.setCell ⟨gb349, 0, none⟩ (.int .i64 ((rd_T31 l0 x10_1).f0))).setCell ⟨gb349, 1, none⟩ (.int .u64 ((rd_T31 l0 x10_1).f1)))) := ⟨belt HB⟩
      (try clear BK346)
      (try clear BK347)
      (try clear BK349)
      (try clear HB)
      generalize ((w34.setCell ⟨gb349, 0, none⟩ (.int .i64 ((rd_T31 l0 x10_1).f0))).setCell ⟨gb349, 1, none⟩ (.int .u64 ((rd_T31 l0 x10_1).f1))) = w38 at n0_ n1_ n2_ n3_ ⊢
      have BK346 := n0_
      have BK347 := n1_
      have BK349 := n2_
      have HB := n3_
      clear n0_ n1_ n2_ n3_
      replace BK346 := Aside0.mk (blk_drew BK346.out)
      replace BK347 := Aside0.mk (blk_drew BK347.out)
      replace BK349 := Aside0.mk (blk_drew BK349.out)
      replace HB := Aside0.mk (below_drew1 HB.out)
      refine start_ (n := 12) (S := fun w' => w'.cell? ⟨gb347, 0, none⟩ = some (.int .i64 x348000_1) ∧ w'.cell? ⟨gb347, 1, none⟩ = some (.int .u64 x348001_1) ∧ w'.cell? ⟨gb349, 0, none⟩ = some (.int .i64 ((rd_T31 l0 x10_1).f0)) ∧ w'.cell? ⟨gb349, 1, none⟩ = some (.int .u64 ((rd_T31 l0 x10_1).f1))) (ds := []) #[false, false, false, false, false, false, false, false, false, false, false, false] (by kernel_rfl) rfl rfl ⟨bc BK347 0, bc BK347 1, bc BK349 0, bc BK349 1⟩ (fun hHeld => ?_); refine with_tabW clamp_Carried.tab5 clamp_Carried.bits5 (fun HT_ HW_ => ?_)
      generalize w38.drew = w39 at BK346 BK347 BK349 HB hHeld ⊢
      refine take_ (i := 0) (N := some 15) (v := ?_) (a' := ?_) #[true, false, false, false, false, false, false, false, false, false, false, false] rfl rfl (take_ofW HT_.out HW_.out (by kernel_rfl)) (fun _ _ _ h => h) (Or.inl ⟨by rfl, ?_⟩) hHeld ?_ ?_
      rotate_left
      ·rintro w' ⟨s0, s1, s2, s3⟩
       go_simp
       with_reducible rfl
      rotate_left
      ·simp only [Act.put, List.setIfInBounds_toArray, List.set_cons_zero, List.set_cons_succ, i64_w, i32_w]
       rfl
      refine take_ (i := 1) (N := some 16) (v := ?_) (a' := ?_) #[true, true, false, false, false, false, false, false, false, false, false, false] rfl rfl (take_ofW HT_.out HW_.out (by kernel_rfl)) (fun _ _ _ h => h) (Or.inl ⟨by rfl, ?_⟩) hHeld ?_ ?_
      rotate_left
      ·rintro w' ⟨s0, s1, s2, s3⟩
       go_simp
       with_reducible rfl
      rotate_left
      ·simp only [Act.put, List.setIfInBounds_toArray, List.set_cons_zero, List.set_cons_succ, i64_w, i32_w]
       rfl
      refine join_ (σ := Value × Nat) 2 #[true, true, true, true, true, true, true, true, true, true, false, false] (fun s_ => [(17, .agg #[.int .i64 t350, .int .u64 t351]), (18, .agg #[.int .i64 t352, .int .u64 t353]), (19, s_.1), (20, .tuple #[.agg #[.int .i64 t357, .int .u64 t358], .bool false]), (6, .pointer (some ⟨s_.2, 0, none⟩)), (14, .tuple #[.agg #[.int .i64 t357, .int .u64 t358], .bool false]), (21, .agg #[.int .i64 t357, .int .u64 t358]), (22, .bool false)]) (fun s_ w' => (w'.cell? ⟨gb347, 0, none⟩ = some (.int .i64 x348000_1) ∧ w'.cell? ⟨gb347, 1, none⟩ = some (.int .u64 x348001_1) ∧ w'.cell? ⟨gb349, 0, none⟩ = some (.int .i64 ((rd_T31 l0 x10_1).f0)) ∧ w'.cell? ⟨gb349, 1, none⟩ = some (.int .u64 ((rd_T31 l0 x10_1).f1))) ∧ (Kd.R k31 31 w' w.heap.size (fun k_ => k_ ≠ gb346 ∧ k_ ≠ gb347 ∧ k_ ≠ gb349 ∧ k_ ≠ s_.2) s_.1 y354) ∧ (w'.heap[gb346]? = some (.cells #[.int .i64 x347000_1, .int .u64 x347001_1] 31 (0, 0))) ∧ (w'.heap[gb347]? = some (.cells #[.int .i64 x348000_1, .int .u64 x348001_1] 31 (0, 0))) ∧ (w'.heap[gb349]? = some (.cells #[.int .i64 ((rd_T31 l0 x10_1).f0), .int .u64 ((rd_T31 l0 x10_1).f1)] 31 (0, 0))) ∧ (w'.heap[s_.2]? = some (.cells #[.int .i64 0, .int .u64 0] 31 (0, 0))) ∧ (w.heap.size ≤ s_.2) ∧ (w.heap.size ≤ s_.2) ∧ (gb346 ≠ s_.2) ∧ (s_.2 ≠ gb346) ∧ (gb347 ≠ s_.2) ∧ (s_.2 ≠ gb347) ∧ (gb349 ≠ s_.2) ∧ (s_.2 ≠ gb349) ∧ (Below w.heap.size w w')) ?_ ?_
      rotate_left
      ·intro hJ2_3_4_5_9
       refine join_ (σ := Value) 3 #[true, true, true, true, true, true, true, true, true, false, false, false] (fun s_ => [(17, .agg #[.int .i64 t350, .int .u64 t351]), (18, .agg #[.int .i64 t352, .int .u64 t353]), (19, s_), (20, .tuple #[.agg #[.int .i64 t357, .int .u64 t358], .bool false]), (14, .tuple #[.agg #[.int .i64 t357, .int .u64 t358], .bool false]), (21, .agg #[.int .i64 t357, .int .u64 t358]), (22, .bool false)]) (fun s_ w' => (w'.cell? ⟨gb347, 0, none⟩ = some (.int .i64 x348000_1) ∧ w'.cell? ⟨gb347, 1, none⟩ = some (.int .u64 x348001_1) ∧ w'.cell? ⟨gb349, 0, none⟩ = some (.int .i64 ((rd_T31 l0 x10_1).f0)) ∧ w'.cell? ⟨gb349, 1, none⟩ = some (.int .u64 ((rd_T31 l0 x10_1).f1))) ∧ (Kd.R k31 31 w' w.heap.size (fun k_ => k_ ≠ gb346 ∧ k_ ≠ gb347 ∧ k_ ≠ gb349) s_ y354) ∧ (w'.heap[gb346]? = some (.cells #[.int .i64 x347000_1, .int .u64 x347001_1] 31 (0, 0))) ∧ (w'.heap[gb347]? = some (.cells #[.int .i64 x348000_1, .int .u64 x348001_1] 31 (0, 0))) ∧ (w'.heap[gb349]? = some (.cells #[.int .i64 ((rd_T31 l0 x10_1).f0), .int .u64 ((rd_T31 l0 x10_1).f1)] 31 (0, 0))) ∧ (Below w.heap.size w w')) ?_ ?_
       rotate_left
       ·intro hJ2_3_4_5
        refine join_ (σ := Value × Nat) 6 #[true, true, true, true, true, false, false, false, false, true, false, false] (fun s_ => [(17, .agg #[.int .i64 t350, .int .u64 t351]), (18, .agg #[.int .i64 t352, .int .u64 t353]), (19, s_.1), (6, .pointer (some ⟨s_.2, 0, none⟩))]) (fun s_ w' => (w'.cell? ⟨gb347, 0, none⟩ = some (.int .i64 x348000_1) ∧ w'.cell? ⟨gb347, 1, none⟩ = some (.int .u64 x348001_1) ∧ w'.cell? ⟨gb349, 0, none⟩ = some (.int .i64 ((rd_T31 l0 x10_1).f0)) ∧ w'.cell? ⟨gb349, 1, none⟩ = some (.int .u64 ((rd_T31 l0 x10_1).f1))) ∧ (Kd.R k31 31 w' w.heap.size (fun k_ => k_ ≠ gb346 ∧ k_ ≠ gb347 ∧ k_ ≠ gb349 ∧ k_ ≠ s_.2) s_.1 y354) ∧ (w'.heap[gb346]? = some (.cells #[.int .i64 x347000_1, .int .u64 x347001_1] 31 (0, 0))) ∧ (w'.heap[gb347]? = some (.cells #[.int .i64 x348000_1, .int .u64 x348001_1] 31 (0, 0))) ∧ (w'.heap[gb349]? = some (.cells #[.int .i64 ((rd_T31 l0 x10_1).f0), .int .u64 ((rd_T31 l0 x10_1).f1)] 31 (0, 0))) ∧ (w'.heap[s_.2]? = some (.cells #[.int .i64 0, .int .u64 0] 31 (0, 0))) ∧ (w.heap.size ≤ s_.2) ∧ (w.heap.size ≤ s_.2) ∧ (gb346 ≠ s_.2) ∧ (s_.2 ≠ gb346) ∧ (gb347 ≠ s_.2) ∧ (s_.2 ≠ gb347) ∧ (gb349 ≠ s_.2) ∧ (s_.2 ≠ gb349) ∧ (Below w.heap.size w w')) ?_ ?_
        rotate_left
        ·intro hJ2_3_4_9
         refine join_ (σ := Value) 7 #[true, true, true, true, true, false, false, false, false, false, false, false] (fun s_ => [(17, .agg #[.int .i64 t350, .int .u64 t351]), (18, .agg #[.int .i64 t352, .int .u64 t353]), (19, s_)]) (fun s_ w' => (w'.cell? ⟨gb347, 0, none⟩ = some (.int .i64 x348000_1) ∧ w'.cell? ⟨gb347, 1, none⟩ = some (.int .u64 x348001_1) ∧ w'.cell? ⟨gb349, 0, none⟩ = some (.int .i64 ((rd_T31 l0 x10_1).f0)) ∧ w'.cell? ⟨gb349, 1, none⟩ = some (.int .u64 ((rd_T31 l0 x10_1).f1))) ∧ (Kd.R k31 31 w' w.heap.size (fun k_ => k_ ≠ gb346 ∧ k_ ≠ gb347 ∧ k_ ≠ gb349) s_ y354) ∧ (w'.heap[gb346]? = some (.cells #[.int .i64 x347000_1, .int .u64 x347001_1] 31 (0, 0))) ∧ (w'.heap[gb347]? = some (.cells #[.int .i64 x348000_1, .int .u64 x348001_1] 31 (0, 0))) ∧ (w'.heap[gb349]? = some (.cells #[.int .i64 ((rd_T31 l0 x10_1).f0), .int .u64 ((rd_T31 l0 x10_1).f1)] 31 (0, 0))) ∧ (Below w.heap.size w w')) ?_ ?_
         rotate_left
         ·intro hJ2_3_4
          refine join_ (σ := Nat) 7 #[true, true, true, true, false, false, false, false, false, true, false, false] (fun s_ => [(17, .agg #[.int .i64 t350, .int .u64 t351]), (18, .agg #[.int .i64 t352, .int .u64 t353]), (6, .pointer (some ⟨s_, 0, none⟩))]) (fun s_ w' => (w'.cell? ⟨gb347, 0, none⟩ = some (.int .i64 x348000_1) ∧ w'.cell? ⟨gb347, 1, none⟩ = some (.int .u64 x348001_1) ∧ w'.cell? ⟨gb349, 0, none⟩ = some (.int .i64 ((rd_T31 l0 x10_1).f0)) ∧ w'.cell? ⟨gb349, 1, none⟩ = some (.int .u64 ((rd_T31 l0 x10_1).f1))) ∧ (w'.heap[gb346]? = some (.cells #[.int .i64 x347000_1, .int .u64 x347001_1] 31 (0, 0))) ∧ (w'.heap[gb347]? = some (.cells #[.int .i64 x348000_1, .int .u64 x348001_1] 31 (0, 0))) ∧ (w'.heap[gb349]? = some (.cells #[.int .i64 ((rd_T31 l0 x10_1).f0), .int .u64 ((rd_T31 l0 x10_1).f1)] 31 (0, 0))) ∧ (w'.heap[s_]? = some (.cells #[.int .i64 0, .int .u64 0] 31 (0, 0))) ∧ (w.heap.size ≤ s_) ∧ (w.heap.size ≤ s_) ∧ (gb346 ≠ s_) ∧ (s_ ≠ gb346) ∧ (gb347 ≠ s_) ∧ (s_ ≠ gb347) ∧ (gb349 ≠ s_) ∧ (s_ ≠ gb349) ∧ (Below w.heap.size w w')) ?_ ?_
          rotate_left
          ·intro hJ2_3_9
           refine join_ (σ := Unit) 8 #[true, true, true, true, false, false, false, false, false, false, false, false] (fun s_ => [(17, .agg #[.int .i64 t350, .int .u64 t351]), (18, .agg #[.int .i64 t352, .int .u64 t353])]) (fun s_ w' => (w'.cell? ⟨gb347, 0, none⟩ = some (.int .i64 x348000_1) ∧ w'.cell? ⟨gb347, 1, none⟩ = some (.int .u64 x348001_1) ∧ w'.cell? ⟨gb349, 0, none⟩ = some (.int .i64 ((rd_T31 l0 x10_1).f0)) ∧ w'.cell? ⟨gb349, 1, none⟩ = some (.int .u64 ((rd_T31 l0 x10_1).f1))) ∧ (w'.heap[gb346]? = some (.cells #[.int .i64 x347000_1, .int .u64 x347001_1] 31 (0, 0))) ∧ (w'.heap[gb347]? = some (.cells #[.int .i64 x348000_1, .int .u64 x348001_1] 31 (0, 0))) ∧ (w'.heap[gb349]? = some (.cells #[.int .i64 ((rd_T31 l0 x10_1).f0), .int .u64 ((rd_T31 l0 x10_1).f1)] 31 (0, 0))) ∧ (Below w.heap.size w w')) ?_ ?_
           rotate_left
           ·intro hJ2_3
            refine join_ (σ := Nat) 8 #[true, true, true, false, false, false, false, false, false, true, false, false] (fun s_ => [(17, .agg #[.int .i64 t350, .int .u64 t351]), (6, .pointer (some ⟨s_, 0, none⟩))]) (fun s_ w' => (w'.cell? ⟨gb347, 0, none⟩ = some (.int .i64 x348000_1) ∧ w'.cell? ⟨gb347, 1, none⟩ = some (.int .u64 x348001_1) ∧ w'.cell? ⟨gb349, 0, none⟩ = some (.int .i64 ((rd_T31 l0 x10_1).f0)) ∧ w'.cell? ⟨gb349, 1, none⟩ = some (.int .u64 ((rd_T31 l0 x10_1).f1))) ∧ (w'.heap[gb346]? = some (.cells #[.int .i64 x347000_1, .int .u64 x347001_1] 31 (0, 0))) ∧ (w'.heap[gb347]? = some (.cells #[.int .i64 x348000_1, .int .u64 x348001_1] 31 (0, 0))) ∧ (w'.heap[gb349]? = some (.cells #[.int .i64 ((rd_T31 l0 x10_1).f0), .int .u64 ((rd_T31 l0 x10_1).f1)] 31 (0, 0))) ∧ (w'.heap[s_]? = some (.cells #[.int .i64 0, .int .u64 0] 31 (0, 0))) ∧ (w.heap.size ≤ s_) ∧ (w.heap.size ≤ s_) ∧ (gb346 ≠ s_) ∧ (s_ ≠ gb346) ∧ (gb347 ≠ s_) ∧ (s_ ≠ gb347) ∧ (gb349 ≠ s_) ∧ (s_ ≠ gb349) ∧ (Below w.heap.size w w')) ?_ ?_
            rotate_left
            ·intro hJ2_9
             refine join_ (σ := Unit) 9 #[true, true, true, false, false, false, false, false, false, false, false, false] (fun s_ => [(17, .agg #[.int .i64 t350, .int .u64 t351])]) (fun s_ w' => (w'.cell? ⟨gb347, 0, none⟩ = some (.int .i64 x348000_1) ∧ w'.cell? ⟨gb347, 1, none⟩ = some (.int .u64 x348001_1) ∧ w'.cell? ⟨gb349, 0, none⟩ = some (.int .i64 ((rd_T31 l0 x10_1).f0)) ∧ w'.cell? ⟨gb349, 1, none⟩ = some (.int .u64 ((rd_T31 l0 x10_1).f1))) ∧ (w'.heap[gb346]? = some (.cells #[.int .i64 x347000_1, .int .u64 x347001_1] 31 (0, 0))) ∧ (w'.heap[gb347]? = some (.cells #[.int .i64 x348000_1, .int .u64 x348001_1] 31 (0, 0))) ∧ (w'.heap[gb349]? = some (.cells #[.int .i64 ((rd_T31 l0 x10_1).f0), .int .u64 ((rd_T31 l0 x10_1).f1)] 31 (0, 0))) ∧ (Below w.heap.size w w')) ?_ ?_
             rotate_left
             ·intro hJ2
              refine join_ (σ := Nat) 9 #[true, true, false, false, false, false, false, false, false, true, false, false] (fun s_ => [(6, .pointer (some ⟨s_, 0, none⟩))]) (fun s_ w' => (w'.cell? ⟨gb347, 0, none⟩ = some (.int .i64 x348000_1) ∧ w'.cell? ⟨gb347, 1, none⟩ = some (.int .u64 x348001_1) ∧ w'.cell? ⟨gb349, 0, none⟩ = some (.int .i64 ((rd_T31 l0 x10_1).f0)) ∧ w'.cell? ⟨gb349, 1, none⟩ = some (.int .u64 ((rd_T31 l0 x10_1).f1))) ∧ (w'.heap[gb346]? = some (.cells #[.int .i64 x347000_1, .int .u64 x347001_1] 31 (0, 0))) ∧ (w'.heap[gb347]? = some (.cells #[.int .i64 x348000_1, .int .u64 x348001_1] 31 (0, 0))) ∧ (w'.heap[gb349]? = some (.cells #[.int .i64 ((rd_T31 l0 x10_1).f0), .int .u64 ((rd_T31 l0 x10_1).f1)] 31 (0, 0))) ∧ (w'.heap[s_]? = some (.cells #[.int .i64 0, .int .u64 0] 31 (0, 0))) ∧ (w.heap.size ≤ s_) ∧ (w.heap.size ≤ s_) ∧ (gb346 ≠ s_) ∧ (s_ ≠ gb346) ∧ (gb347 ≠ s_) ∧ (s_ ≠ gb347) ∧ (gb349 ≠ s_) ∧ (s_ ≠ gb349) ∧ (Below w.heap.size w w')) ?_ ?_
              rotate_left
              ·intro hJ9
               refine two_ (i := 2) (j := 9) (Ni := some 17) (Nj := some 6) #[true, true, true, false, false, false, false, false, false, false, false, false] #[true, true, false, false, false, false, false, false, false, true, false, false] rfl rfl rfl rfl (two_of HT_.out (by kernel_rfl)) (by decide) (by decide) (fun K hK => ?_) (fun K hK => ?_)
               ·skip
                refine goes_ Tryz.func47 (by kernel_rfl) rfl #[.agg #[.int .i64 ((rd_T31 l0 x10_1).f0), .int .u64 ((rd_T31 l0 x10_1).f1)]] (by rfl) rfl rfl argt ?_
                with_reducible refine (clamp_Size.calls k1 ((rd_T31 l0 x10_1).f0) ((rd_T31 l0 x10_1).f1) t350 t351 _ A7.out).mono ?_
                rintro e w40 ⟨rfl, hb⟩
                refine ⟨_, rfl, ?_⟩
                replace BK346 := blkb BK346 hb
                replace BK347 := blkb BK347 hb
                replace BK349 := blkb BK349 hb
                replace HB := belb HB hb
                (try clear hb)
                (try clear hb2)
                (try clear hk)
                (try clear hi)
                refine hK.out _ _ ⟨bc BK347 0, bc BK347 1, bc BK349 0, bc BK349 1⟩ (fun hHeld => ?_)
                clear hK K
                refine norm_ (a' := ?_) ?_ ?_
                rotate_left
                ·show Act.put _ (some 17) _ = _
                 simp only [Act.put, List.setIfInBounds_toArray, List.set_cons_zero, List.set_cons_succ, i64_w, i32_w]
                 rfl
                exact norm_ (by first | (simp only [putAll, Act.put, List.setIfInBounds_toArray, List.set_cons_zero, List.set_cons_succ]; done) | (simp only [putAll, Act.put, List.setIfInBounds_toArray, List.set_cons_zero, List.set_cons_succ]; rfl)) (hJ2 () _ ⟨hHeld, (blkt BK346), (blkt BK347), (blkt BK349), (belt HB)⟩)
               skip
               refine box_step ?hg (N := 6) ?hd (cs := #[.int .i64 0, .int .u64 0]) (t := 31) ?hr ?_; (case hd => rfl); (case hg => rfl); (case hr => first | (go_simp; done) | (go_simp; rfl))
               intro gb360 hg w40 hbox hb
               have BK360 := Aside0.mk (hbox)
               have GW360 := bels HB hg
               have GE360 := bels HB hg
               have NB346_360 := blkl BK346 hg
               have NB360_346 := blkg BK346 hg
               have NB347_360 := blkl BK347 hg
               have NB360_347 := blkg BK347 hg
               have NB349_360 := blkl BK349 hg
               have NB360_349 := blkg BK349 hg
               replace BK346 := blkb BK346 hb
               replace BK347 := blkb BK347 hb
               replace BK349 := blkb BK349 hb
               replace HB := belb HB hb
               clear hb hbox hg
               refine hK.out _ _ ⟨bc BK347 0, bc BK347 1, bc BK349 0, bc BK349 1⟩ (fun hHeld => ?_)
               clear hK K
               refine norm_ (a' := ?_) ?_ ?_
               rotate_left
               ·show Act.put _ (some 6) _ = _
                simp only [Act.put, List.setIfInBounds_toArray, List.set_cons_zero, List.set_cons_succ, i64_w, i32_w]
                rfl
               exact norm_ (by first | (simp only [putAll, Act.put, List.setIfInBounds_toArray, List.set_cons_zero, List.set_cons_succ]; done) | (simp only [putAll, Act.put, List.setIfInBounds_toArray, List.set_cons_zero, List.set_cons_succ]; rfl)) (hJ9 (gb360) _ ⟨hHeld, (blkt BK346), (blkt BK347), (blkt BK349), (blkt BK360), GW360.out, GE360.out, NB346_360.out, NB360_346.out, NB347_360.out, NB360_347.out, NB349_360.out, NB360_349.out, (belt HB)⟩)
              skip
              rintro gb360 w41 ⟨hS_, h0_, h1_, h2_, h3_, h4_, h5_, h6_, h7_, h8_, h9_, h10_, h11_, h12_⟩
              replace BK346 : Aside0 (w41.heap[gb346]? = some (.cells #[.int .i64 x347000_1, .int .u64 x347001_1] 31 (0, 0))) := ⟨h0_⟩
              replace BK347 : Aside0 (w41.heap[gb347]? = some (.cells #[.int .i64 x348000_1, .int .u64 x348001_1] 31 (0, 0))) := ⟨h1_⟩
              replace BK349 : Aside0 (w41.heap[gb349]? = some (.cells #[.int .i64 ((rd_T31 l0 x10_1).f0), .int .u64 ((rd_T31 l0 x10_1).f1)] 31 (0, 0))) := ⟨h2_⟩
              have BK360 : Aside0 (w41.heap[gb360]? = some (.cells #[.int .i64 0, .int .u64 0] 31 (0, 0))) := ⟨h3_⟩
              have GW360 : Aside0 (w.heap.size ≤ gb360) := ⟨h4_⟩
              have GE360 : Aside0 (w.heap.size ≤ gb360) := ⟨h5_⟩
              have NB346_360 : Aside0 (gb346 ≠ gb360) := ⟨h6_⟩
              have NB360_346 : Aside0 (gb360 ≠ gb346) := ⟨h7_⟩
              have NB347_360 : Aside0 (gb347 ≠ gb360) := ⟨h8_⟩
              have NB360_347 : Aside0 (gb360 ≠ gb347) := ⟨h9_⟩
              have NB349_360 : Aside0 (gb349 ≠ gb360) := ⟨h10_⟩
              have NB360_349 : Aside0 (gb360 ≠ gb349) := ⟨h11_⟩
              replace HB : Aside0 (Below w.heap.size w w41) := ⟨h12_⟩
              clear h0_ h1_ h2_ h3_ h4_ h5_ h6_ h7_ h8_ h9_ h10_ h11_ h12_
              have hHeld : w41.cell? ⟨gb347, 0, none⟩ = some (.int .i64 x348000_1) ∧ w41.cell? ⟨gb347, 1, none⟩ = some (.int .u64 x348001_1) ∧ w41.cell? ⟨gb349, 0, none⟩ = some (.int .i64 ((rd_T31 l0 x10_1).f0)) ∧ w41.cell? ⟨gb349, 1, none⟩ = some (.int .u64 ((rd_T31 l0 x10_1).f1)) := hS_
              refine norm_ (a' := ?_) ?_ ?_
              rotate_left
              ·simp only [putAll, Act.put, List.setIfInBounds_toArray, List.set_cons_zero, List.set_cons_succ]
               rfl
              refine one_ (i := 2) (N := some 17) #[true, true, true, false, false, false, false, false, false, true, false, false] rfl rfl (one_of HT_.out (by kernel_rfl)) (by decide) (fun K hK => ?_)
              refine goes_ Tryz.func47 (by kernel_rfl) rfl #[.agg #[.int .i64 ((rd_T31 l0 x10_1).f0), .int .u64 ((rd_T31 l0 x10_1).f1)]] (by rfl) rfl rfl argt ?_
              with_reducible refine (clamp_Size.calls k1 ((rd_T31 l0 x10_1).f0) ((rd_T31 l0 x10_1).f1) t350 t351 _ A7.out).mono ?_
              rintro e w42 ⟨rfl, hb⟩
              refine ⟨_, rfl, ?_⟩
              replace BK346 := blkb BK346 hb
              replace BK347 := blkb BK347 hb
              replace BK349 := blkb BK349 hb
              replace BK360 := blkb BK360 hb
              replace HB := belb HB hb
              (try clear hb)
              (try clear hb2)
              (try clear hk)
              (try clear hi)
              refine hK.out _ _ ⟨bc BK347 0, bc BK347 1, bc BK349 0, bc BK349 1⟩ (fun hHeld => ?_)
              clear hK K
              refine norm_ (a' := ?_) ?_ ?_
              rotate_left
              ·show Act.put _ (some 17) _ = _
               simp only [Act.put, List.setIfInBounds_toArray, List.set_cons_zero, List.set_cons_succ, i64_w, i32_w]
               rfl
              exact norm_ (by first | (simp only [putAll, Act.put, List.setIfInBounds_toArray, List.set_cons_zero, List.set_cons_succ]; done) | (simp only [putAll, Act.put, List.setIfInBounds_toArray, List.set_cons_zero, List.set_cons_succ]; rfl)) (hJ2_9 (gb360) _ ⟨hHeld, (blkt BK346), (blkt BK347), (blkt BK349), (blkt BK360), GW360.out, GE360.out, NB346_360.out, NB360_346.out, NB347_360.out, NB360_347.out, NB349_360.out, NB360_349.out, (belt HB)⟩)
             skip
             rintro _ w41 ⟨hS_, h0_, h1_, h2_, h3_⟩
             replace BK346 : Aside0 (w41.heap[gb346]? = some (.cells #[.int .i64 x347000_1, .int .u64 x347001_1] 31 (0, 0))) := ⟨h0_⟩
             replace BK347 : Aside0 (w41.heap[gb347]? = some (.cells #[.int .i64 x348000_1, .int .u64 x348001_1] 31 (0, 0))) := ⟨h1_⟩
             replace BK349 : Aside0 (w41.heap[gb349]? = some (.cells #[.int .i64 ((rd_T31 l0 x10_1).f0), .int .u64 ((rd_T31 l0 x10_1).f1)] 31 (0, 0))) := ⟨h2_⟩
             replace HB : Aside0 (Below w.heap.size w w41) := ⟨h3_⟩
             clear h0_ h1_ h2_ h3_
             have hHeld : w41.cell? ⟨gb347, 0, none⟩ = some (.int .i64 x348000_1) ∧ w41.cell? ⟨gb347, 1, none⟩ = some (.int .u64 x348001_1) ∧ w41.cell? ⟨gb349, 0, none⟩ = some (.int .i64 ((rd_T31 l0 x10_1).f0)) ∧ w41.cell? ⟨gb349, 1, none⟩ = some (.int .u64 ((rd_T31 l0 x10_1).f1)) := hS_
             refine norm_ (a' := ?_) ?_ ?_
             rotate_left
             ·simp only [putAll, Act.put, List.setIfInBounds_toArray, List.set_cons_zero, List.set_cons_succ]
              rfl
             refine two_ (i := 3) (j := 9) (Ni := some 18) (Nj := some 6) #[true, true, true, true, false, false, false, false, false, false, false, false] #[true, true, true, false, false, false, false, false, false, true, false, false] rfl rfl rfl rfl (two_of HT_.out (by kernel_rfl)) (by decide) (by decide) (fun K hK => ?_) (fun K hK => ?_)
             ·skip
              refine goes_ Tryz.func31 (by kernel_rfl) rfl #[.int .i64 2] (by rfl) rfl rfl argt ?_
              with_reducible refine (wide_Of.calls 2 t352 t353 _ A8.out).mono ?_
              rintro e w42 ⟨rfl, hb⟩
              refine ⟨_, rfl, ?_⟩
              replace BK346 := blkb BK346 hb
              replace BK347 := blkb BK347 hb
              replace BK349 := blkb BK349 hb
              replace HB := belb HB hb
              (try clear hb)
              (try clear hb2)
              (try clear hk)
              (try clear hi)
              refine hK.out _ _ ⟨bc BK347 0, bc BK347 1, bc BK349 0, bc BK349 1⟩ (fun hHeld => ?_)
              clear hK K
              refine norm_ (a' := ?_) ?_ ?_
              rotate_left
              ·show Act.put _ (some 18) _ = _
               simp only [Act.put, List.setIfInBounds_toArray, List.set_cons_zero, List.set_cons_succ, i64_w, i32_w]
               rfl
              exact norm_ (by first | (simp only [putAll, Act.put, List.setIfInBounds_toArray, List.set_cons_zero, List.set_cons_succ]; done) | (simp only [putAll, Act.put, List.setIfInBounds_toArray, List.set_cons_zero, List.set_cons_succ]; rfl)) (hJ2_3 () _ ⟨hHeld, (blkt BK346), (blkt BK347), (blkt BK349), (belt HB)⟩)
             skip
             refine box_step ?hg (N := 6) ?hd (cs := #[.int .i64 0, .int .u64 0]) (t := 31) ?hr ?_; (case hd => rfl); (case hg => rfl); (case hr => first | (go_simp; done) | (go_simp; rfl))
             intro gb360 hg w42 hbox hb
             have BK360 := Aside0.mk (hbox)
             have GW360 := bels HB hg
             have GE360 := bels HB hg
             have NB346_360 := blkl BK346 hg
             have NB360_346 := blkg BK346 hg
             have NB347_360 := blkl BK347 hg
             have NB360_347 := blkg BK347 hg
             have NB349_360 := blkl BK349 hg
             have NB360_349 := blkg BK349 hg
             replace BK346 := blkb BK346 hb
             replace BK347 := blkb BK347 hb
             replace BK349 := blkb BK349 hb
             replace HB := belb HB hb
             clear hb hbox hg
             refine hK.out _ _ ⟨bc BK347 0, bc BK347 1, bc BK349 0, bc BK349 1⟩ (fun hHeld => ?_)
             clear hK K
             refine norm_ (a' := ?_) ?_ ?_
             rotate_left
             ·show Act.put _ (some 6) _ = _
              simp only [Act.put, List.setIfInBounds_toArray, List.set_cons_zero, List.set_cons_succ, i64_w, i32_w]
              rfl
             exact norm_ (by first | (simp only [putAll, Act.put, List.setIfInBounds_toArray, List.set_cons_zero, List.set_cons_succ]; done) | (simp only [putAll, Act.put, List.setIfInBounds_toArray, List.set_cons_zero, List.set_cons_succ]; rfl)) (hJ2_9 (gb360) _ ⟨hHeld, (blkt BK346), (blkt BK347), (blkt BK349), (blkt BK360), GW360.out, GE360.out, NB346_360.out, NB360_346.out, NB347_360.out, NB360_347.out, NB349_360.out, NB360_349.out, (belt HB)⟩)
            skip
            rintro gb360 w42 ⟨hS_, h0_, h1_, h2_, h3_, h4_, h5_, h6_, h7_, h8_, h9_, h10_, h11_, h12_⟩
            replace BK346 : Aside0 (w42.heap[gb346]? = some (.cells #[.int .i64 x347000_1, .int .u64 x347001_1] 31 (0, 0))) := ⟨h0_⟩
            replace BK347 : Aside0 (w42.heap[gb347]? = some (.cells #[.int .i64 x348000_1, .int .u64 x348001_1] 31 (0, 0))) := ⟨h1_⟩
            replace BK349 : Aside0 (w42.heap[gb349]? = some (.cells #[.int .i64 ((rd_T31 l0 x10_1).f0), .int .u64 ((rd_T31 l0 x10_1).f1)] 31 (0, 0))) := ⟨h2_⟩
            have BK360 : Aside0 (w42.heap[gb360]? = some (.cells #[.int .i64 0, .int .u64 0] 31 (0, 0))) := ⟨h3_⟩
            have GW360 : Aside0 (w.heap.size ≤ gb360) := ⟨h4_⟩
            have GE360 : Aside0 (w.heap.size ≤ gb360) := ⟨h5_⟩
            have NB346_360 : Aside0 (gb346 ≠ gb360) := ⟨h6_⟩
            have NB360_346 : Aside0 (gb360 ≠ gb346) := ⟨h7_⟩
            have NB347_360 : Aside0 (gb347 ≠ gb360) := ⟨h8_⟩
            have NB360_347 : Aside0 (gb360 ≠ gb347) := ⟨h9_⟩
            have NB349_360 : Aside0 (gb349 ≠ gb360) := ⟨h10_⟩
            have NB360_349 : Aside0 (gb360 ≠ gb349) := ⟨h11_⟩
            replace HB : Aside0 (Below w.heap.size w w42) := ⟨h12_⟩
            clear h0_ h1_ h2_ h3_ h4_ h5_ h6_ h7_ h8_ h9_ h10_ h11_ h12_
            have hHeld : w42.cell? ⟨gb347, 0, none⟩ = some (.int .i64 x348000_1) ∧ w42.cell? ⟨gb347, 1, none⟩ = some (.int .u64 x348001_1) ∧ w42.cell? ⟨gb349, 0, none⟩ = some (.int .i64 ((rd_T31 l0 x10_1).f0)) ∧ w42.cell? ⟨gb349, 1, none⟩ = some (.int .u64 ((rd_T31 l0 x10_1).f1)) := hS_
            refine norm_ (a' := ?_) ?_ ?_
            rotate_left
            ·simp only [putAll, Act.put, List.setIfInBounds_toArray, List.set_cons_zero, List.set_cons_succ]
             rfl
            refine one_ (i := 3) (N := some 18) #[true, true, true, true, false, false, false, false, false, true, false, false] rfl rfl (one_of HT_.out (by kernel_rfl)) (by decide) (fun K hK => ?_)
            refine goes_ Tryz.func31 (by kernel_rfl) rfl #[.int .i64 2] (by rfl) rfl rfl argt ?_
            with_reducible refine (wide_Of.calls 2 t352 t353 _ A8.out).mono ?_
            rintro e w43 ⟨rfl, hb⟩
            refine ⟨_, rfl, ?_⟩
            replace BK346 := blkb BK346 hb
            replace BK347 := blkb BK347 hb
            replace BK349 := blkb BK349 hb
            replace BK360 := blkb BK360 hb
            replace HB := belb HB hb
            (try clear hb)
            (try clear hb2)
            (try clear hk)
            (try clear hi)
            refine hK.out _ _ ⟨bc BK347 0, bc BK347 1, bc BK349 0, bc BK349 1⟩ (fun hHeld => ?_)
            clear hK K
            refine norm_ (a' := ?_) ?_ ?_
            rotate_left
            ·show Act.put _ (some 18) _ = _
             simp only [Act.put, List.setIfInBounds_toArray, List.set_cons_zero, List.set_cons_succ, i64_w, i32_w]
             rfl
            exact norm_ (by first | (simp only [putAll, Act.put, List.setIfInBounds_toArray, List.set_cons_zero, List.set_cons_succ]; done) | (simp only [putAll, Act.put, List.setIfInBounds_toArray, List.set_cons_zero, List.set_cons_succ]; rfl)) (hJ2_3_9 (gb360) _ ⟨hHeld, (blkt BK346), (blkt BK347), (blkt BK349), (blkt BK360), GW360.out, GE360.out, NB346_360.out, NB360_346.out, NB347_360.out, NB360_347.out, NB349_360.out, NB360_349.out, (belt HB)⟩)
           skip
           rintro _ w42 ⟨hS_, h0_, h1_, h2_, h3_⟩
           replace BK346 : Aside0 (w42.heap[gb346]? = some (.cells #[.int .i64 x347000_1, .int .u64 x347001_1] 31 (0, 0))) := ⟨h0_⟩
           replace BK347 : Aside0 (w42.heap[gb347]? = some (.cells #[.int .i64 x348000_1, .int .u64 x348001_1] 31 (0, 0))) := ⟨h1_⟩
           replace BK349 : Aside0 (w42.heap[gb349]? = some (.cells #[.int .i64 ((rd_T31 l0 x10_1).f0), .int .u64 ((rd_T31 l0 x10_1).f1)] 31 (0, 0))) := ⟨h2_⟩
           replace HB : Aside0 (Below w.heap.size w w42) := ⟨h3_⟩
           clear h0_ h1_ h2_ h3_
           have hHeld : w42.cell? ⟨gb347, 0, none⟩ = some (.int .i64 x348000_1) ∧ w42.cell? ⟨gb347, 1, none⟩ = some (.int .u64 x348001_1) ∧ w42.cell? ⟨gb349, 0, none⟩ = some (.int .i64 ((rd_T31 l0 x10_1).f0)) ∧ w42.cell? ⟨gb349, 1, none⟩ = some (.int .u64 ((rd_T31 l0 x10_1).f1)) := hS_
           refine norm_ (a' := ?_) ?_ ?_
           rotate_left
           ·simp only [putAll, Act.put, List.setIfInBounds_toArray, List.set_cons_zero, List.set_cons_succ]
            rfl
           refine two_ (i := 4) (j := 9) (Ni := some 19) (Nj := some 6) #[true, true, true, true, true, false, false, false, false, false, false, false] #[true, true, true, true, false, false, false, false, false, true, false, false] rfl rfl rfl rfl (two_of HT_.out (by kernel_rfl)) (by decide) (by decide) (fun K hK => ?_) (fun K hK => ?_)
           ·skip
            refine Kd.R_lit_step k31 _ 31 ?hg (N := 19) ?hd (xs := ([(⟨x348000_1, x348001_1⟩ : S31), (⟨t350, t351⟩ : S31), (⟨t352, t353⟩ : S31)] : List (S31))) (inner := [.int .i64 x348000_1, .int .u64 x348001_1, .int .i64 t350, .int .u64 t351, .int .i64 t352, .int .u64 t353]) (ok := fun _ => True) (okp := fun _ => True) ?hr ?hp (fun _ hk => hk) trivial (Below.refl _ _) (Nat.le_refl _) (by simp) ?_; (case hd => rfl); (case hg => rfl); (case hr => first | (go_simp; done) | (go_simp; rfl)); (case hp => exact (Reps.c2 (show Kd.M k31 _ _ _ (⟨x348000_1, x348001_1⟩ : S31) [.int .i64 x348000_1, .int .u64 x348001_1] from (k31_mkM _ _ _ (⟨x348000_1, x348001_1⟩ : S31) )) (Reps.c2 (show Kd.M k31 _ _ _ (⟨t350, t351⟩ : S31) [.int .i64 t350, .int .u64 t351] from (k31_mkM _ _ _ (⟨t350, t351⟩ : S31) )) (Reps.c2 (show Kd.M k31 _ _ _ (⟨t352, t353⟩ : S31) [.int .i64 t352, .int .u64 t353] from (k31_mkM _ _ _ (⟨t352, t353⟩ : S31) )) (Reps.none _ _)))))
            intro v355 w43 ho44 hb hg_ hnew_
            clear hg_ hnew_
            (first | rw [← Ny354.out] at ho44 | (simp only [Int.reduceToNat] at ho44; rw [← Ny354.out] at ho44))
            have HO356 := Aside0.mk (Kd.R_lower (Kd.R_newB (Kd.R_newB (Kd.R_newB ho44 (blkt BK346)) (blkt BK347)) (blkt BK349)) (below_size (belt HB)))
            replace BK346 := blkb BK346 hb
            replace BK347 := blkb BK347 hb
            replace BK349 := blkb BK349 hb
            replace HB := belb HB hb
            clear hb ho44
            refine hK.out _ _ ⟨bc BK347 0, bc BK347 1, bc BK349 0, bc BK349 1⟩ (fun hHeld => ?_)
            clear hK K
            refine norm_ (a' := ?_) ?_ ?_
            rotate_left
            ·show Act.put _ (some 19) _ = _
             simp only [Act.put, List.setIfInBounds_toArray, List.set_cons_zero, List.set_cons_succ, i64_w, i32_w]
             rfl
            exact norm_ (by first | (simp only [putAll, Act.put, List.setIfInBounds_toArray, List.set_cons_zero, List.set_cons_succ]; done) | (simp only [putAll, Act.put, List.setIfInBounds_toArray, List.set_cons_zero, List.set_cons_succ]; rfl)) (hJ2_3_4 (v355) _ ⟨hHeld, (by (with_reducible repeat (first | apply Kd.R_alloc | apply Kd.R_drewN | apply Kd.R_drew)); exact Kd.R_mono HO356.out (fun _ hk => ⟨hk.1.1.2, ⟨hk.1.2, hk.2⟩⟩)), (blkt BK346), (blkt BK347), (blkt BK349), (belt HB)⟩)
           skip
           refine box_step ?hg (N := 6) ?hd (cs := #[.int .i64 0, .int .u64 0]) (t := 31) ?hr ?_; (case hd => rfl); (case hg => rfl); (case hr => first | (go_simp; done) | (go_simp; rfl))
           intro gb360 hg w43 hbox hb
           have BK360 := Aside0.mk (hbox)
           have GW360 := bels HB hg
           have GE360 := bels HB hg
           have NB346_360 := blkl BK346 hg
           have NB360_346 := blkg BK346 hg
           have NB347_360 := blkl BK347 hg
           have NB360_347 := blkg BK347 hg
           have NB349_360 := blkl BK349 hg
           have NB360_349 := blkg BK349 hg
           replace BK346 := blkb BK346 hb
           replace BK347 := blkb BK347 hb
           replace BK349 := blkb BK349 hb
           replace HB := belb HB hb
           clear hb hbox hg
           refine hK.out _ _ ⟨bc BK347 0, bc BK347 1, bc BK349 0, bc BK349 1⟩ (fun hHeld => ?_)
           clear hK K
           refine norm_ (a' := ?_) ?_ ?_
           rotate_left
           ·show Act.put _ (some 6) _ = _
            simp only [Act.put, List.setIfInBounds_toArray, List.set_cons_zero, List.set_cons_succ, i64_w, i32_w]
            rfl
           exact norm_ (by first | (simp only [putAll, Act.put, List.setIfInBounds_toArray, List.set_cons_zero, List.set_cons_succ]; done) | (simp only [putAll, Act.put, List.setIfInBounds_toArray, List.set_cons_zero, List.set_cons_succ]; rfl)) (hJ2_3_9 (gb360) _ ⟨hHeld, (blkt BK346), (blkt BK347), (blkt BK349), (blkt BK360), GW360.out, GE360.out, NB346_360.out, NB360_346.out, NB347_360.out, NB360_347.out, NB349_360.out, NB360_349.out, (belt HB)⟩)
          skip
          rintro gb360 w43 ⟨hS_, h0_, h1_, h2_, h3_, h4_, h5_, h6_, h7_, h8_, h9_, h10_, h11_, h12_⟩
          replace BK346 : Aside0 (w43.heap[gb346]? = some (.cells #[.int .i64 x347000_1, .int .u64 x347001_1] 31 (0, 0))) := ⟨h0_⟩
          replace BK347 : Aside0 (w43.heap[gb347]? = some (.cells #[.int .i64 x348000_1, .int .u64 x348001_1] 31 (0, 0))) := ⟨h1_⟩
          replace BK349 : Aside0 (w43.heap[gb349]? = some (.cells #[.int .i64 ((rd_T31 l0 x10_1).f0), .int .u64 ((rd_T31 l0 x10_1).f1)] 31 (0, 0))) := ⟨h2_⟩
          have BK360 : Aside0 (w43.heap[gb360]? = some (.cells #[.int .i64 0, .int .u64 0] 31 (0, 0))) := ⟨h3_⟩
          have GW360 : Aside0 (w.heap.size ≤ gb360) := ⟨h4_⟩
          have GE360 : Aside0 (w.heap.size ≤ gb360) := ⟨h5_⟩
          have NB346_360 : Aside0 (gb346 ≠ gb360) := ⟨h6_⟩
          have NB360_346 : Aside0 (gb360 ≠ gb346) := ⟨h7_⟩
          have NB347_360 : Aside0 (gb347 ≠ gb360) := ⟨h8_⟩
          have NB360_347 : Aside0 (gb360 ≠ gb347) := ⟨h9_⟩
          have NB349_360 : Aside0 (gb349 ≠ gb360) := ⟨h10_⟩
          have NB360_349 : Aside0 (gb360 ≠ gb349) := ⟨h11_⟩
          replace HB : Aside0 (Below w.heap.size w w43) := ⟨h12_⟩
          clear h0_ h1_ h2_ h3_ h4_ h5_ h6_ h7_ h8_ h9_ h10_ h11_ h12_
          have hHeld : w43.cell? ⟨gb347, 0, none⟩ = some (.int .i64 x348000_1) ∧ w43.cell? ⟨gb347, 1, none⟩ = some (.int .u64 x348001_1) ∧ w43.cell? ⟨gb349, 0, none⟩ = some (.int .i64 ((rd_T31 l0 x10_1).f0)) ∧ w43.cell? ⟨gb349, 1, none⟩ = some (.int .u64 ((rd_T31 l0 x10_1).f1)) := hS_
          refine norm_ (a' := ?_) ?_ ?_
          rotate_left
          ·simp only [putAll, Act.put, List.setIfInBounds_toArray, List.set_cons_zero, List.set_cons_succ]
           rfl
          refine one_ (i := 4) (N := some 19) #[true, true, true, true, true, false, false, false, false, true, false, false] rfl rfl (one_of HT_.out (by kernel_rfl)) (by decide) (fun K hK => ?_)
          refine Kd.R_lit_step k31 _ 31 ?hg (N := 19) ?hd (xs := ([(⟨x348000_1, x348001_1⟩ : S31), (⟨t350, t351⟩ : S31), (⟨t352, t353⟩ : S31)] : List (S31))) (inner := [.int .i64 x348000_1, .int .u64 x348001_1, .int .i64 t350, .int .u64 t351, .int .i64 t352, .int .u64 t353]) (ok := fun _ => True) (okp := fun _ => True) ?hr ?hp (fun _ hk => hk) trivial (Below.refl _ _) (Nat.le_refl _) (by simp) ?_; (case hd => rfl); (case hg => rfl); (case hr => first | (go_simp; done) | (go_simp; rfl)); (case hp => exact (Reps.c2 (show Kd.M k31 _ _ _ (⟨x348000_1, x348001_1⟩ : S31) [.int .i64 x348000_1, .int .u64 x348001_1] from (k31_mkM _ _ _ (⟨x348000_1, x348001_1⟩ : S31) )) (Reps.c2 (show Kd.M k31 _ _ _ (⟨t350, t351⟩ : S31) [.int .i64 t350, .int .u64 t351] from (k31_mkM _ _ _ (⟨t350, t351⟩ : S31) )) (Reps.c2 (show Kd.M k31 _ _ _ (⟨t352, t353⟩ : S31) [.int .i64 t352, .int .u64 t353] from (k31_mkM _ _ _ (⟨t352, t353⟩ : S31) )) (Reps.none _ _)))))
          intro v355 w44 ho45 hb hg_ hnew_
          clear hg_ hnew_
          (first | rw [← Ny354.out] at ho45 | (simp only [Int.reduceToNat] at ho45; rw [← Ny354.out] at ho45))
          have HO356 := Aside0.mk (Kd.R_lower (Kd.R_newB (Kd.R_newB (Kd.R_newB (Kd.R_newB ho45 (blkt BK346)) (blkt BK347)) (blkt BK349)) (blkt BK360)) (below_size (belt HB)))
          replace BK346 := blkb BK346 hb
          replace BK347 := blkb BK347 hb
          replace BK349 := blkb BK349 hb
          replace BK360 := blkb BK360 hb
          replace HB := belb HB hb
          clear hb ho45
          refine hK.out _ _ ⟨bc BK347 0, bc BK347 1, bc BK349 0, bc BK349 1⟩ (fun hHeld => ?_)
          clear hK K
          refine norm_ (a' := ?_) ?_ ?_
          rotate_left
          ·show Act.put _ (some 19) _ = _
           simp only [Act.put, List.setIfInBounds_toArray, List.set_cons_zero, List.set_cons_succ, i64_w, i32_w]
           rfl
          exact norm_ (by first | (simp only [putAll, Act.put, List.setIfInBounds_toArray, List.set_cons_zero, List.set_cons_succ]; done) | (simp only [putAll, Act.put, List.setIfInBounds_toArray, List.set_cons_zero, List.set_cons_succ]; rfl)) (hJ2_3_4_9 (v355, gb360) _ ⟨hHeld, (by (with_reducible repeat (first | apply Kd.R_alloc | apply Kd.R_drewN | apply Kd.R_drew)); exact Kd.R_mono HO356.out (fun _ hk => ⟨hk.1.1.1.2, ⟨hk.1.1.2, ⟨hk.1.2, hk.2⟩⟩⟩)), (blkt BK346), (blkt BK347), (blkt BK349), (blkt BK360), GW360.out, GE360.out, NB346_360.out, NB360_346.out, NB347_360.out, NB360_347.out, NB349_360.out, NB360_349.out, (belt HB)⟩)
         skip
         rintro v355 w44 ⟨hS_, h0_, h1_, h2_, h3_, h4_⟩
         have HO356 : Aside0 (Kd.R k31 31 w44 w.heap.size (fun k_ => k_ ≠ gb346 ∧ k_ ≠ gb347 ∧ k_ ≠ gb349) v355 y354) := ⟨h0_⟩
         replace BK346 : Aside0 (w44.heap[gb346]? = some (.cells #[.int .i64 x347000_1, .int .u64 x347001_1] 31 (0, 0))) := ⟨h1_⟩
         replace BK347 : Aside0 (w44.heap[gb347]? = some (.cells #[.int .i64 x348000_1, .int .u64 x348001_1] 31 (0, 0))) := ⟨h2_⟩
         replace BK349 : Aside0 (w44.heap[gb349]? = some (.cells #[.int .i64 ((rd_T31 l0 x10_1).f0), .int .u64 ((rd_T31 l0 x10_1).f1)] 31 (0, 0))) := ⟨h3_⟩
         replace HB : Aside0 (Below w.heap.size w w44) := ⟨h4_⟩
         clear h0_ h1_ h2_ h3_ h4_
         have hHeld : w44.cell? ⟨gb347, 0, none⟩ = some (.int .i64 x348000_1) ∧ w44.cell? ⟨gb347, 1, none⟩ = some (.int .u64 x348001_1) ∧ w44.cell? ⟨gb349, 0, none⟩ = some (.int .i64 ((rd_T31 l0 x10_1).f0)) ∧ w44.cell? ⟨gb349, 1, none⟩ = some (.int .u64 ((rd_T31 l0 x10_1).f1)) := hS_
         obtain ⟨Ao45, co45, eo45⟩ := Kd.R_slice HO356.out
         (first | subst eo45 | (injection eo45 with f1_ f2_ f3_; have f4_ := f1_.symm; have f5_ := f3_.symm; clear f1_ f2_ f3_; subst f4_; subst f5_))
         refine norm_ (a' := ?_) ?_ ?_
         rotate_left
         ·simp only [putAll, Act.put, List.setIfInBounds_toArray, List.set_cons_zero, List.set_cons_succ]
          rfl
         refine two_ (i := 5) (j := 9) (Ni := some 20) (Nj := some 6) #[true, true, true, true, true, true, false, false, false, false, false, false] #[true, true, true, true, true, false, false, false, false, true, false, false] rfl rfl rfl rfl (two_of HT_.out (by kernel_rfl)) (by decide) (by decide) (fun K hK => ?_) (fun K hK => ?_)
         ·skip
          refine goes_ Tryz.func76 (by kernel_rfl) rfl #[.slice Ao45 y354.length co45] (by rfl) rfl rfl argt ?_
          with_reducible refine (wide_Sum.calls k1 _ _ y354 t357 t358 false _ ?side1 ?side2 A9.out).mono ?_
          (case side1 => repeat (first | exact (Kd.R_reads' HO356.out).2.2 | (with_reducible refine Kd.C_alloc ?_ _) | (with_reducible refine Kd.C_drewN ?_ _) | (with_reducible refine Kd.C_drew ?_)))
          (case side2 => exact (Kd.R_reads' HO356.out).2.1)
          rintro e w46 ⟨rfl, hb⟩
          refine ⟨_, rfl, ?_⟩
          replace HO356 := rb HO356 hb
          replace BK346 := blkb BK346 hb
          replace BK347 := blkb BK347 hb
          replace BK349 := blkb BK349 hb
          replace HB := belb HB hb
          (try clear hb)
          (try clear hb2)
          (try clear hk)
          (try clear hi)
          refine hK.out _ _ ⟨bc BK347 0, bc BK347 1, bc BK349 0, bc BK349 1⟩ (fun hHeld => ?_)
          clear hK K
          refine norm_ (a' := ?_) ?_ ?_
          rotate_left
          ·show Act.put _ (some 20) _ = _
           simp only [Act.put, List.setIfInBounds_toArray, List.set_cons_zero, List.set_cons_succ, i64_w, i32_w]
           rfl
          refine pure_ (i := 6) (N := some 14) (v := ?_) (a' := ?_) #[true, true, true, true, true, true, true, false, false, false, false, false] rfl rfl (any_of HT_.out (by kernel_rfl)) (fun _ _ _ h => h) (Or.inl ⟨by rfl, ?_⟩) ?_ ?_
          rotate_left
          ·intro w'
           go_simp
           with_reducible rfl
          rotate_left
          ·simp only [Act.put, List.setIfInBounds_toArray, List.set_cons_zero, List.set_cons_succ, i64_w, i32_w]
           rfl
          refine pure_ (i := 7) (N := some 21) (v := ?_) (a' := ?_) #[true, true, true, true, true, true, true, true, false, false, false, false] rfl rfl (any_of HT_.out (by kernel_rfl)) (fun _ _ _ h => h) (Or.inl ⟨by rfl, ?_⟩) ?_ ?_
          rotate_left
          ·intro w'
           go_simp
           with_reducible rfl
          rotate_left
          ·simp only [Act.put, List.setIfInBounds_toArray, List.set_cons_zero, List.set_cons_succ, i64_w, i32_w]
           rfl
          refine pure_ (i := 8) (N := some 22) (v := ?_) (a' := ?_) #[true, true, true, true, true, true, true, true, true, false, false, false] rfl rfl (any_of HT_.out (by kernel_rfl)) (fun _ _ _ h => h) (Or.inl ⟨by rfl, ?_⟩) ?_ ?_
          rotate_left
          ·intro w'
           go_simp
           with_reducible rfl
          rotate_left
          ·simp only [Act.put, List.setIfInBounds_toArray, List.set_cons_zero, List.set_cons_succ, i64_w, i32_w]
           rfl
          exact norm_ (by first | (simp only [putAll, Act.put, List.setIfInBounds_toArray, List.set_cons_zero, List.set_cons_succ]; done) | (simp only [putAll, Act.put, List.setIfInBounds_toArray, List.set_cons_zero, List.set_cons_succ]; rfl)) (hJ2_3_4_5 (.slice Ao45 y354.length co45) _ ⟨hHeld, (rt HO356), (blkt BK346), (blkt BK347), (blkt BK349), (belt HB)⟩)
         skip
         refine box_step ?hg (N := 6) ?hd (cs := #[.int .i64 0, .int .u64 0]) (t := 31) ?hr ?_; (case hd => rfl); (case hg => rfl); (case hr => first | (go_simp; done) | (go_simp; rfl))
         intro gb360 hg w45 hbox hb
         replace HO356 := Aside0.mk (Kd.R_below (Kd.R_elderB (rt HO356) gb360 (Nat.le_of_eq hg.symm)) hb)
         have BK360 := Aside0.mk (hbox)
         have GW360 := bels HB hg
         have GE360 := bels HB hg
         have NB346_360 := blkl BK346 hg
         have NB360_346 := blkg BK346 hg
         have NB347_360 := blkl BK347 hg
         have NB360_347 := blkg BK347 hg
         have NB349_360 := blkl BK349 hg
         have NB360_349 := blkg BK349 hg
         replace BK346 := blkb BK346 hb
         replace BK347 := blkb BK347 hb
         replace BK349 := blkb BK349 hb
         replace HB := belb HB hb
         clear hb hbox hg
         refine hK.out _ _ ⟨bc BK347 0, bc BK347 1, bc BK349 0, bc BK349 1⟩ (fun hHeld => ?_)
         clear hK K
         refine norm_ (a' := ?_) ?_ ?_
         rotate_left
         ·show Act.put _ (some 6) _ = _
          simp only [Act.put, List.setIfInBounds_toArray, List.set_cons_zero, List.set_cons_succ, i64_w, i32_w]
          rfl
         exact norm_ (by first | (simp only [putAll, Act.put, List.setIfInBounds_toArray, List.set_cons_zero, List.set_cons_succ]; done) | (simp only [putAll, Act.put, List.setIfInBounds_toArray, List.set_cons_zero, List.set_cons_succ]; rfl)) (hJ2_3_4_9 ((.slice Ao45 y354.length co45), gb360) _ ⟨hHeld, (by (with_reducible repeat (first | apply Kd.R_alloc | apply Kd.R_drewN | apply Kd.R_drew)); exact Kd.R_mono HO356.out (fun _ hk => ⟨hk.1.1, ⟨hk.1.2.1, ⟨hk.1.2.2, hk.2⟩⟩⟩)), (blkt BK346), (blkt BK347), (blkt BK349), (blkt BK360), GW360.out, GE360.out, NB346_360.out, NB360_346.out, NB347_360.out, NB360_347.out, NB349_360.out, NB360_349.out, (belt HB)⟩)
        skip
        rintro ⟨v355, gb360⟩ w45 ⟨hS_, h0_, h1_, h2_, h3_, h4_, h5_, h6_, h7_, h8_, h9_, h10_, h11_, h12_, h13_⟩
        have HO356 : Aside0 (Kd.R k31 31 w45 w.heap.size (fun k_ => k_ ≠ gb346 ∧ k_ ≠ gb347 ∧ k_ ≠ gb349 ∧ k_ ≠ gb360) v355 y354) := ⟨h0_⟩
        replace BK346 : Aside0 (w45.heap[gb346]? = some (.cells #[.int .i64 x347000_1, .int .u64 x347001_1] 31 (0, 0))) := ⟨h1_⟩
        replace BK347 : Aside0 (w45.heap[gb347]? = some (.cells #[.int .i64 x348000_1, .int .u64 x348001_1] 31 (0, 0))) := ⟨h2_⟩
        replace BK349 : Aside0 (w45.heap[gb349]? = some (.cells #[.int .i64 ((rd_T31 l0 x10_1).f0), .int .u64 ((rd_T31 l0 x10_1).f1)] 31 (0, 0))) := ⟨h3_⟩
        have BK360 : Aside0 (w45.heap[gb360]? = some (.cells #[.int .i64 0, .int .u64 0] 31 (0, 0))) := ⟨h4_⟩
        have GW360 : Aside0 (w.heap.size ≤ gb360) := ⟨h5_⟩
        have GE360 : Aside0 (w.heap.size ≤ gb360) := ⟨h6_⟩
        have NB346_360 : Aside0 (gb346 ≠ gb360) := ⟨h7_⟩
        have NB360_346 : Aside0 (gb360 ≠ gb346) := ⟨h8_⟩
        have NB347_360 : Aside0 (gb347 ≠ gb360) := ⟨h9_⟩
        have NB360_347 : Aside0 (gb360 ≠ gb347) := ⟨h10_⟩
        have NB349_360 : Aside0 (gb349 ≠ gb360) := ⟨h11_⟩
        have NB360_349 : Aside0 (gb360 ≠ gb349) := ⟨h12_⟩
        replace HB : Aside0 (Below w.heap.size w w45) := ⟨h13_⟩
        clear h0_ h1_ h2_ h3_ h4_ h5_ h6_ h7_ h8_ h9_ h10_ h11_ h12_ h13_
        have hHeld : w45.cell? ⟨gb347, 0, none⟩ = some (.int .i64 x348000_1) ∧ w45.cell? ⟨gb347, 1, none⟩ = some (.int .u64 x348001_1) ∧ w45.cell? ⟨gb349, 0, none⟩ = some (.int .i64 ((rd_T31 l0 x10_1).f0)) ∧ w45.cell? ⟨gb349, 1, none⟩ = some (.int .u64 ((rd_T31 l0 x10_1).f1)) := hS_
        obtain ⟨Ao46, co46, eo46⟩ := Kd.R_slice HO356.out
        (first | subst eo46 | (injection eo46 with f1_ f2_ f3_; have f4_ := f1_.symm; have f5_ := f3_.symm; clear f1_ f2_ f3_; subst f4_; subst f5_))
        refine norm_ (a' := ?_) ?_ ?_
        rotate_left
        ·simp only [putAll, Act.put, List.setIfInBounds_toArray, List.set_cons_zero, List.set_cons_succ]
         rfl
        refine one_ (i := 5) (N := some 20) #[true, true, true, true, true, true, false, false, false, true, false, false] rfl rfl (one_of HT_.out (by kernel_rfl)) (by decide) (fun K hK => ?_)
        refine goes_ Tryz.func76 (by kernel_rfl) rfl #[.slice Ao46 y354.length co46] (by rfl) rfl rfl argt ?_
        with_reducible refine (wide_Sum.calls k1 _ _ y354 t357 t358 false _ ?side1 ?side2 A9.out).mono ?_
        (case side1 => repeat (first | exact (Kd.R_reads' HO356.out).2.2 | (with_reducible refine Kd.C_alloc ?_ _) | (with_reducible refine Kd.C_drewN ?_ _) | (with_reducible refine Kd.C_drew ?_)))
        (case side2 => exact (Kd.R_reads' HO356.out).2.1)
        rintro e w47 ⟨rfl, hb⟩
        refine ⟨_, rfl, ?_⟩
        replace HO356 := rb HO356 hb
        replace BK346 := blkb BK346 hb
        replace BK347 := blkb BK347 hb
        replace BK349 := blkb BK349 hb
        replace BK360 := blkb BK360 hb
        replace HB := belb HB hb
        (try clear hb)
        (try clear hb2)
        (try clear hk)
        (try clear hi)
        refine hK.out _ _ ⟨bc BK347 0, bc BK347 1, bc BK349 0, bc BK349 1⟩ (fun hHeld => ?_)
        clear hK K
        refine norm_ (a' := ?_) ?_ ?_
        rotate_left
        ·show Act.put _ (some 20) _ = _
         simp only [Act.put, List.setIfInBounds_toArray, List.set_cons_zero, List.set_cons_succ, i64_w, i32_w]
         rfl
        refine pure_ (i := 6) (N := some 14) (v := ?_) (a' := ?_) #[true, true, true, true, true, true, true, false, false, true, false, false] rfl rfl (any_of HT_.out (by kernel_rfl)) (fun _ _ _ h => h) (Or.inl ⟨by rfl, ?_⟩) ?_ ?_
        rotate_left
        ·intro w'
         go_simp
         with_reducible rfl
        rotate_left
        ·simp only [Act.put, List.setIfInBounds_toArray, List.set_cons_zero, List.set_cons_succ, i64_w, i32_w]
         rfl
        refine pure_ (i := 7) (N := some 21) (v := ?_) (a' := ?_) #[true, true, true, true, true, true, true, true, false, true, false, false] rfl rfl (any_of HT_.out (by kernel_rfl)) (fun _ _ _ h => h) (Or.inl ⟨by rfl, ?_⟩) ?_ ?_
        rotate_left
        ·intro w'
         go_simp
         with_reducible rfl
        rotate_left
        ·simp only [Act.put, List.setIfInBounds_toArray, List.set_cons_zero, List.set_cons_succ, i64_w, i32_w]
         rfl
        refine pure_ (i := 8) (N := some 22) (v := ?_) (a' := ?_) #[true, true, true, true, true, true, true, true, true, true, false, false] rfl rfl (any_of HT_.out (by kernel_rfl)) (fun _ _ _ h => h) (Or.inl ⟨by rfl, ?_⟩) ?_ ?_
        rotate_left
        ·intro w'
         go_simp
         with_reducible rfl
        rotate_left
        ·simp only [Act.put, List.setIfInBounds_toArray, List.set_cons_zero, List.set_cons_succ, i64_w, i32_w]
         rfl
        exact norm_ (by first | (simp only [putAll, Act.put, List.setIfInBounds_toArray, List.set_cons_zero, List.set_cons_succ]; done) | (simp only [putAll, Act.put, List.setIfInBounds_toArray, List.set_cons_zero, List.set_cons_succ]; rfl)) (hJ2_3_4_5_9 (.slice Ao46 y354.length co46, gb360) _ ⟨hHeld, (rt HO356), (blkt BK346), (blkt BK347), (blkt BK349), (blkt BK360), GW360.out, GE360.out, NB346_360.out, NB360_346.out, NB347_360.out, NB360_347.out, NB349_360.out, NB360_349.out, (belt HB)⟩)
       skip
       rintro v355 w46 ⟨hS_, h0_, h1_, h2_, h3_, h4_⟩
       have HO356 : Aside0 (Kd.R k31 31 w46 w.heap.size (fun k_ => k_ ≠ gb346 ∧ k_ ≠ gb347 ∧ k_ ≠ gb349) v355 y354) := ⟨h0_⟩
       replace BK346 : Aside0 (w46.heap[gb346]? = some (.cells #[.int .i64 x347000_1, .int .u64 x347001_1] 31 (0, 0))) := ⟨h1_⟩
       replace BK347 : Aside0 (w46.heap[gb347]? = some (.cells #[.int .i64 x348000_1, .int .u64 x348001_1] 31 (0, 0))) := ⟨h2_⟩
       replace BK349 : Aside0 (w46.heap[gb349]? = some (.cells #[.int .i64 ((rd_T31 l0 x10_1).f0), .int .u64 ((rd_T31 l0 x10_1).f1)] 31 (0, 0))) := ⟨h3_⟩
       replace HB : Aside0 (Below w.heap.size w w46) := ⟨h4_⟩
       clear h0_ h1_ h2_ h3_ h4_
       have hHeld : w46.cell? ⟨gb347, 0, none⟩ = some (.int .i64 x348000_1) ∧ w46.cell? ⟨gb347, 1, none⟩ = some (.int .u64 x348001_1) ∧ w46.cell? ⟨gb349, 0, none⟩ = some (.int .i64 ((rd_T31 l0 x10_1).f0)) ∧ w46.cell? ⟨gb349, 1, none⟩ = some (.int .u64 ((rd_T31 l0 x10_1).f1)) := hS_
       refine norm_ (a' := ?_) ?_ ?_
       rotate_left
       ·simp only [putAll, Act.put, List.setIfInBounds_toArray, List.set_cons_zero, List.set_cons_succ]
        rfl
       refine one_ (i := 9) (N := some 6) #[true, true, true, true, true, true, true, true, true, true, false, false] rfl rfl (one_of HT_.out (by kernel_rfl)) (by decide) (fun K hK => ?_)
       refine box_step ?hg (N := 6) ?hd (cs := #[.int .i64 0, .int .u64 0]) (t := 31) ?hr ?_; (case hd => rfl); (case hg => rfl); (case hr => first | (go_simp; done) | (go_simp; rfl))
       intro gb360 hg w47 hbox hb
       replace HO356 := Aside0.mk (Kd.R_below (Kd.R_elderB (rt HO356) gb360 (Nat.le_of_eq hg.symm)) hb)
       have BK360 := Aside0.mk (hbox)
       have GW360 := bels HB hg
       have GE360 := bels HB hg
       have NB346_360 := blkl BK346 hg
       have NB360_346 := blkg BK346 hg
       have NB347_360 := blkl BK347 hg
       have NB360_347 := blkg BK347 hg
       have NB349_360 := blkl BK349 hg
       have NB360_349 := blkg BK349 hg
       replace BK346 := blkb BK346 hb
       replace BK347 := blkb BK347 hb
       replace BK349 := blkb BK349 hb
       replace HB := belb HB hb
       clear hb hbox hg
       refine hK.out _ _ ⟨bc BK347 0, bc BK347 1, bc BK349 0, bc BK349 1⟩ (fun hHeld => ?_)
       clear hK K
       refine norm_ (a' := ?_) ?_ ?_
       rotate_left
       ·show Act.put _ (some 6) _ = _
        simp only [Act.put, List.setIfInBounds_toArray, List.set_cons_zero, List.set_cons_succ, i64_w, i32_w]
        rfl
       exact norm_ (by first | (simp only [putAll, Act.put, List.setIfInBounds_toArray, List.set_cons_zero, List.set_cons_succ]; done) | (simp only [putAll, Act.put, List.setIfInBounds_toArray, List.set_cons_zero, List.set_cons_succ]; rfl)) (hJ2_3_4_5_9 (v355, gb360) _ ⟨hHeld, (by (with_reducible repeat (first | apply Kd.R_alloc | apply Kd.R_drewN | apply Kd.R_drew)); exact Kd.R_mono HO356.out (fun _ hk => ⟨hk.1.1, ⟨hk.1.2.1, ⟨hk.1.2.2, hk.2⟩⟩⟩)), (blkt BK346), (blkt BK347), (blkt BK349), (blkt BK360), GW360.out, GE360.out, NB346_360.out, NB360_346.out, NB347_360.out, NB360_347.out, NB349_360.out, NB360_349.out, (belt HB)⟩)
      rintro ⟨v355, gb360⟩ w47 ⟨hS_, h0_, h1_, h2_, h3_, h4_, h5_, h6_, h7_, h8_, h9_, h10_, h11_, h12_, h13_⟩
      have HO356 : Aside0 (Kd.R k31 31 w47 w.heap.size (fun k_ => k_ ≠ gb346 ∧ k_ ≠ gb347 ∧ k_ ≠ gb349 ∧ k_ ≠ gb360) v355 y354) := ⟨h0_⟩
      replace BK346 : Aside0 (w47.heap[gb346]? = some (.cells #[.int .i64 x347000_1, .int .u64 x347001_1] 31 (0, 0))) := ⟨h1_⟩
      replace BK347 : Aside0 (w47.heap[gb347]? = some (.cells #[.int .i64 x348000_1, .int .u64 x348001_1] 31 (0, 0))) := ⟨h2_⟩
      replace BK349 : Aside0 (w47.heap[gb349]? = some (.cells #[.int .i64 ((rd_T31 l0 x10_1).f0), .int .u64 ((rd_T31 l0 x10_1).f1)] 31 (0, 0))) := ⟨h3_⟩
      have BK360 : Aside0 (w47.heap[gb360]? = some (.cells #[.int .i64 0, .int .u64 0] 31 (0, 0))) := ⟨h4_⟩
      have GW360 : Aside0 (w.heap.size ≤ gb360) := ⟨h5_⟩
      have GE360 : Aside0 (w.heap.size ≤ gb360) := ⟨h6_⟩
      have NB346_360 : Aside0 (gb346 ≠ gb360) := ⟨h7_⟩
      have NB360_346 : Aside0 (gb360 ≠ gb346) := ⟨h8_⟩
      have NB347_360 : Aside0 (gb347 ≠ gb360) := ⟨h9_⟩
      have NB360_347 : Aside0 (gb360 ≠ gb347) := ⟨h10_⟩
      have NB349_360 : Aside0 (gb349 ≠ gb360) := ⟨h11_⟩
      have NB360_349 : Aside0 (gb360 ≠ gb349) := ⟨h12_⟩
      replace HB : Aside0 (Below w.heap.size w w47) := ⟨h13_⟩
      clear h0_ h1_ h2_ h3_ h4_ h5_ h6_ h7_ h8_ h9_ h10_ h11_ h12_ h13_
      have hHeld : w47.cell? ⟨gb347, 0, none⟩ = some (.int .i64 x348000_1) ∧ w47.cell? ⟨gb347, 1, none⟩ = some (.int .u64 x348001_1) ∧ w47.cell? ⟨gb349, 0, none⟩ = some (.int .i64 ((rd_T31 l0 x10_1).f0)) ∧ w47.cell? ⟨gb349, 1, none⟩ = some (.int .u64 ((rd_T31 l0 x10_1).f1)) := hS_
      refine norm_ (a' := ?_) ?_ ?_
      rotate_left
      ·simp only [putAll, Act.put, List.setIfInBounds_toArray, List.set_cons_zero, List.set_cons_succ]
       rfl
      refine one_ (i := 10) (N := none) #[true, true, true, true, true, true, true, true, true, true, true, false] rfl rfl (one_of HT_.out (by kernel_rfl)) (by decide) (fun K hK => ?_)
      have hs48 : w47.cell? ⟨gb360, 0, none⟩ = some (.int .i64 0) := bc BK360 0
      have hfs48 := blk_frozen BK360.out 0
      have hns48_0 := NB346_360.out
      have hns48_1 := NB347_360.out
      have hns48_2 := NB349_360.out
      have hms48_0 := NB360_346.out
      have hms48_1 := NB360_347.out
      have hms48_2 := NB360_349.out
      have hs49 : w47.cell? ⟨gb360, 1, none⟩ = some (.int .u64 0) := bc BK360 1
      have hfs49 := blk_frozen BK360.out 1
      have hns49_0 := NB346_360.out
      have hns49_1 := NB347_360.out
      have hns49_2 := NB349_360.out
      have hms49_0 := NB360_346.out
      have hms49_1 := NB360_347.out
      have hms49_2 := NB360_349.out
      refine skip_ (w1 := ?_) (by rfl) rfl ?_ ?_
      rotate_left
      ·go_simp
       rfl
      refine hK.out _ _ ⟨((cell_far (p := ⟨gb360, _, none⟩) NB347_360.out _).trans (((cell_far (p := ⟨gb360, _, none⟩) NB347_360.out _).trans (hHeld.1)))), ((cell_far (p := ⟨gb360, _, none⟩) NB347_360.out _).trans (((cell_far (p := ⟨gb360, _, none⟩) NB347_360.out _).trans (hHeld.2.1)))), ((cell_far (p := ⟨gb360, _, none⟩) NB349_360.out _).trans (((cell_far (p := ⟨gb360, _, none⟩) NB349_360.out _).trans (hHeld.2.2.1)))), ((cell_far (p := ⟨gb360, _, none⟩) NB349_360.out _).trans (((cell_far (p := ⟨gb360, _, none⟩) NB349_360.out _).trans (hHeld.2.2.2))))⟩ (fun hHeld => ?_)
      clear hK K
      refine pure_ (i := 11) (N := some 7) (v := ?_) (a' := ?_) #[true, true, true, true, true, true, true, true, true, true, true, true] rfl rfl (any_of HT_.out (by kernel_rfl)) (fun _ _ _ h => h) (Or.inl ⟨by rfl, ?_⟩) ?_ ?_
      rotate_left
      ·intro w'
       go_simp
       with_reducible rfl
      rotate_left
      ·simp only [Act.put, List.setIfInBounds_toArray, List.set_cons_zero, List.set_cons_succ, i64_w, i32_w]
       rfl
      refine done_ (done_of HT_.out (by kernel_rfl)) ?_
      try go_wp2_with (first | ((with_reducible refine gate_callee (f := 75) rfl ?_); refine goesL_ (some 25) rfl rfl Tryz.func75 (by kernel_rfl) rfl #[] rfl argt ?_; (with_reducible refine (clamp_greatest.calls  t361 t362 _ A33.out).mono ?_); rintro e w50 ⟨rfl, hb⟩; refine ⟨_, rfl, ?_⟩; replace HO356 := Aside0.mk (Kd.R_below (by (with_reducible repeat (first | apply Kd.R_alloc | apply Kd.R_drewN | apply Kd.R_drew)); exact (Kd.R_mono (Kd.R_far (p := ⟨gb360, 1, none⟩) (Kd.R_far (p := ⟨gb360, 0, none⟩) (Kd.R_mono HO356.out (fun k_ hk => (⟨hk, hk.2.2.2⟩ : _ ∧ k_ ≠ gb360))) (fun _ hk => hk.2) (.int .i64 t357)) (fun _ hk => hk.2) (.int .u64 t358)) (fun _ h_ => h_.1))) hb); replace BK346 := Aside0.mk (blk_below (g := gb346) (o := .cells #[.int .i64 x347000_1, .int .u64 x347001_1] 31 (0, 0)) (by (with_reducible repeat (first | refine blk_drewN ?_ _ | refine blk_drew ?_ | refine blk_alloc ?_ _)); refine blk_far ?_ NB346_360.out _; (with_reducible repeat (first | refine blk_drewN ?_ _ | refine blk_drew ?_ | refine blk_alloc ?_ _)); refine blk_far ?_ NB346_360.out _; exact blkt BK346) hb); replace BK347 := Aside0.mk (blk_below (g := gb347) (o := .cells #[.int .i64 x348000_1, .int .u64 x348001_1] 31 (0, 0)) (by (with_reducible repeat (first | refine blk_drewN ?_ _ | refine blk_drew ?_ | refine blk_alloc ?_ _)); refine blk_far ?_ NB347_360.out _; (with_reducible repeat (first | refine blk_drewN ?_ _ | refine blk_drew ?_ | refine blk_alloc ?_ _)); refine blk_far ?_ NB347_360.out _; exact blkt BK347) hb); replace BK349 := Aside0.mk (blk_below (g := gb349) (o := .cells #[.int .i64 ((rd_T31 l0 x10_1).f0), .int .u64 ((rd_T31 l0 x10_1).f1)] 31 (0, 0)) (by (with_reducible repeat (first | refine blk_drewN ?_ _ | refine blk_drew ?_ | refine blk_alloc ?_ _)); refine blk_far ?_ NB349_360.out _; (with_reducible repeat (first | refine blk_drewN ?_ _ | refine blk_drew ?_ | refine blk_alloc ?_ _)); refine blk_far ?_ NB349_360.out _; exact blkt BK349) hb); replace BK360 := Aside0.mk (blk_below (g := gb360) (o := .cells #[.int .i64 t357, .int .u64 t358] 31 (0, 0)) (by (with_reducible repeat (first | refine blk_drewN ?_ _ | refine blk_drew ?_ | refine blk_alloc ?_ _)); refine blk_put (cs := #[.int .i64 t357, .int .u64 0]) ?_ 1 _ rfl; (with_reducible repeat (first | refine blk_drewN ?_ _ | refine blk_drew ?_ | refine blk_alloc ?_ _)); refine blk_put (cs := #[.int .i64 0, .int .u64 0]) ?_ 0 _ rfl; exact blkt BK360) hb); replace HB := belb HB hb; (try clear hb); (try clear hb2); (try clear hk); (try clear hi); have hnb51 := NB346_347.out; have hnc51 := NB347_346.out; have hnb52 := NB346_360.out; have hnc52 := NB360_346.out; have hcz53_0 : w50.cell? ⟨gb346, 0, none⟩ = some (.int .i64 x347000_1) := bc BK346 0; have hcz53_1 : w50.cell? ⟨gb346, 1, none⟩ = some (.int .u64 x347001_1) := bc BK346 1; have hfz53_0 := blk_frozen BK346.out 0; have hfz53_1 := blk_frozen BK346.out 1))
      refine bodyPost_ret (results_cell_row rfl _ _ gb346 31 #[.int .i64 t361, .int .u64 t362] (0, 0) _ rfl (by (with_reducible repeat (first | refine blk_drewN ?_ _ | refine blk_drew ?_ | refine blk_alloc ?_ _)); refine blk_put (cs := #[.int .i64 t361, .int .u64 x347001_1]) ?_ 1 _ rfl; (with_reducible repeat (first | refine blk_drewN ?_ _ | refine blk_drew ?_ | refine blk_alloc ?_ _)); refine blk_put (cs := #[.int .i64 x347000_1, .int .u64 x347001_1]) ?_ 0 _ rfl; exact blkt BK346) Tryz.underlying31 rfl (by kernel_rfl)) rfl ?_
      exact ⟨by first | rfl | (simp [errW_none, errW_some] <;> rfl) | (simp [*, errW_none, errW_some] <;> rfl), belt HB⟩
     rw [if_neg c6] at H
     exact absurd H (by simp)
    rw [if_neg c5] at H
    exact absurd H (by simp)
   rw [if_neg c4] at H
   have c4b0 : decide (x10_1 < (l0.length : Int)) = false := decide_eq_false c4
   clear c4
   simp only [Option.some.injEq, Prod.mk.injEq] at H
   obtain ⟨rfl, rfl⟩ := H
   have hnb54 := NB347_346.out
   have hnc54 := NB346_347.out
   have hcz55_0 : wr.cell? ⟨gb347, 0, none⟩ = some (.int .i64 x348000_1) := bc BK347 0
   have hcz55_1 : wr.cell? ⟨gb347, 1, none⟩ = some (.int .u64 x348001_1) := bc BK347 1
   have hfz55_0 := blk_frozen BK347.out 0
   have hfz55_1 := blk_frozen BK347.out 1
   have hcz56_0 : wr.cell? ⟨gb346, 0, none⟩ = some (.int .i64 x347000_1) := bc BK346 0
   have hcz56_1 : wr.cell? ⟨gb346, 1, none⟩ = some (.int .u64 x347001_1) := bc BK346 1
   have hfz56_0 := blk_frozen BK346.out 0
   have hfz56_1 := blk_frozen BK346.out 1
   go_wp2
   refine bodyPost_ret (results_cell_row rfl _ _ gb346 31 #[.int .i64 x348000_1, .int .u64 x348001_1] (0, 0) _ rfl (by (with_reducible repeat (first | refine blk_drewN ?_ _ | refine blk_drew ?_ | refine blk_alloc ?_ _)); refine blk_put (cs := #[.int .i64 x348000_1, .int .u64 x347001_1]) ?_ 1 _ rfl; (with_reducible repeat (first | refine blk_drewN ?_ _ | refine blk_drew ?_ | refine blk_alloc ?_ _)); refine blk_put (cs := #[.int .i64 x347000_1, .int .u64 x347001_1]) ?_ 0 _ rfl; exact blkt BK346) Tryz.underlying31 rfl (by kernel_rfl)) rfl ?_
   exact ⟨by first | rfl | (simp [errW_none, errW_some] <;> rfl) | (simp [*, errW_none, errW_some] <;> rfl), belt HB⟩


/-! ### turnstonelaw12_awake: function 38 -/
def turnstonelaw12_awake.f : Option Bool := some true
theorem turnstonelaw12_awake.calls (r : Bool) (w : World) (h : turnstonelaw12_awake.f = some r) : Calls Tryz.prog 38 #[] w fun e w' => e = .returned (.bool r) ∧ Below w.heap.size w w' := by
 obtain rfl := Option.some.inj h
 exact Go.Proofs.YtfbkamgdkdnpoaaGreatDoor.Awake.at38 w


/-! ### clamp_Clamp: function 40 -/
def clamp_Clamp.f (k : Nat) (a0_0 : Int) (a0_1 : Int) (a1 : Int) : Option (Int) := (wide_Of.f (mx a1 0)).bind fun bt364 => ((wide_Int_Cmp.f k a0_0 a0_1 bt364.1 bt364.2).bind fun t366 => (if t366 > 0 then (some (mx a1 0)) else ((wide_Of.f (wrap64 (-(mx a1 0)))).bind fun bt367 => ((wide_Int_Cmp.f k a0_0 a0_1 bt367.1 bt367.2).bind fun t369 => (if t369 < 0 then (some (wrap64 (-(mx a1 0)))) else ((wide_Int_Small.f a0_0 a0_1).bind fun bt370 => (some bt370.1)))))))
theorem clamp_Clamp.mono : ∀ a0 a1 a2 k, LeO (clamp_Clamp.f k a0 a1 a2) (clamp_Clamp.f (k + 1) a0 a1 a2) := by
 intro a0 a1 a2 k
 unfold clamp_Clamp.f
 repeat' first
   | (with_reducible exact wide_Int_Cmp.mono _ _ _ _ _)
   | (with_reducible exact LeO.refl _)
   | (with_reducible exact LeO.none _)
   | (with_reducible refine LeO.ite ?_ ?_)
   | (with_reducible refine LeO.bind ?_ (fun _ => ?_))
   | exact wide_Int_Cmp.mono _ _ _ _ _
   | exact LeO.none _
   | refine LeO.ite ?_ ?_
   | refine LeO.bind ?_ (fun _ => ?_)
set_option maxHeartbeats 8000000 in
set_option maxRecDepth 100000 in
theorem clamp_Clamp.calls (k : Nat) (a0_0 : Int) (a0_1 : Int) (a1 : Int) (r : Int) (w : World) (h : clamp_Clamp.f k a0_0 a0_1 a1 = some r) :
  Calls Tryz.prog 40 #[.agg #[.int .i64 a0_0, .int .u64 a0_1], .int .i64 a1] w fun e w' => e = .returned (.int .i64 r) ∧ Below w.heap.size w w' := by
 have hu31 := Tryz.underlying31
 have HB := Aside0.mk (Below.refl w.heap.size w)
 have H : ((wide_Of.f (mx a1 0)).bind fun bt364 => ((wide_Int_Cmp.f k a0_0 a0_1 bt364.1 bt364.2).bind fun t366 => (if t366 > 0 then (some (mx a1 0)) else ((wide_Of.f (wrap64 (-(mx a1 0)))).bind fun bt367 => ((wide_Int_Cmp.f k a0_0 a0_1 bt367.1 bt367.2).bind fun t369 => (if t369 < 0 then (some (wrap64 (-(mx a1 0)))) else ((wide_Int_Small.f a0_0 a0_1).bind fun bt370 => (some bt370.1)))))))) = some r := h
 clear h
 obtain ⟨ji3, hji3⟩ : ∃ j_ : Int, (mx a1 0) = j_ := ⟨_, rfl⟩
 replace H : ((wide_Of.f (ji3)).bind fun bt364 => ((wide_Int_Cmp.f k a0_0 a0_1 bt364.1 bt364.2).bind fun t366 => (if t366 > 0 then (some ji3) else ((wide_Of.f (wrap64 (-(ji3)))).bind fun bt367 => ((wide_Int_Cmp.f k a0_0 a0_1 bt367.1 bt367.2).bind fun t369 => (if t369 < 0 then (some (wrap64 (-(ji3)))) else ((wide_Int_Small.f a0_0 a0_1).bind fun bt370 => (some bt370.1)))))))) = some r := by first | (rw [hji3] at H; exact H) | (simp only [hji3] at H ⊢; exact H)
 (try (have hji3l : 0 ≤ ji3 := by (rw [← hji3]; unfold mx; (repeat' split) <;> omega)))
 (try (have hji3m : 0 ≤ ji3 := by omega))
 have hji3_ : (if a1 < 0 then 0 else a1) = ji3 := hji3
 replace H := Option.bind_eq_some_iff.mp H
 obtain ⟨⟨t364, t365⟩, A40, H⟩ := H
 replace H : ((wide_Int_Cmp.f k a0_0 a0_1 t364 t365).bind fun t366 => (if t366 > 0 then (some ji3) else ((wide_Of.f (wrap64 (-(ji3)))).bind fun bt367 => ((wide_Int_Cmp.f k a0_0 a0_1 bt367.1 bt367.2).bind fun t369 => (if t369 < 0 then (some (wrap64 (-(ji3)))) else ((wide_Int_Small.f a0_0 a0_1).bind fun bt370 => (some bt370.1))))))) = some r := H
 have A4 := Aside0.mk A40
 clear A40
 replace H := Option.bind_eq_some_iff.mp H
 obtain ⟨t366, A50, H⟩ := H
 replace H : (if t366 > 0 then (some ji3) else ((wide_Of.f (wrap64 (-(ji3)))).bind fun bt367 => ((wide_Int_Cmp.f k a0_0 a0_1 bt367.1 bt367.2).bind fun t369 => (if t369 < 0 then (some (wrap64 (-(ji3)))) else ((wide_Int_Small.f a0_0 a0_1).bind fun bt370 => (some bt370.1)))))) = some r := H
 have A5 := Aside0.mk A50
 clear A50
 by_cases c6 : t366 > 0
 ·rw [if_pos c6] at H
  have c6b0 : decide (0 < t366) = true := decide_eq_true c6
  clear c6
  obtain rfl := Option.some.inj H
  go_enter Tryz.func40, Tryz.ntmps40
  try go_wp2_with (first | ((with_reducible refine gate_dst (N := 2) rfl ?_); refine box_event ?hg (N := 2) ?hd (cs := #[.int .i64 a0_0, .int .u64 a0_1]) (t := 31) ?hr ?_; (case hd => rfl); (case hg => rfl); (case hr => first | (go_simp; done) | (go_simp; rfl)); intro gb363 hg w7 hbox hb; have BK363 := Aside0.mk (hbox); have GW363 := bels HB hg; have GE363 := bels HB hg; replace HB := belb HB hb; clear hb hbox hg))
  replace BK363 := Aside0.mk (blk_drew BK363.out)
  replace HB := Aside0.mk (below_drew1 HB.out)
  refine start_ (n := 6) (S := fun w' => w'.cell? ⟨gb363, 0, none⟩ = some (.int .i64 a0_0) ∧ w'.cell? ⟨gb363, 1, none⟩ = some (.int .u64 a0_1)) (ds := []) #[false, false, false, false, false, false] (by kernel_rfl) rfl rfl ⟨bc BK363 0, bc BK363 1⟩ (fun hHeld => ?_)
  generalize w7.drew = w8 at BK363 HB hHeld ⊢
  refine pure_ (i := 1) (N := some 11) (v := ?_) (a' := ?_) #[false, true, false, false, false, false] rfl rfl (by kernel_rfl) (fun _ _ _ h => h) (Or.inl ⟨by rfl, ?_⟩) ?_ ?_
  rotate_left
  ·intro w'
   go_simp
   with_reducible rfl
  rotate_left
  ·simp only [Act.put, List.setIfInBounds_toArray, List.set_cons_zero, List.set_cons_succ, i64_w, i32_w]
   rfl
  refine take_ (i := 0) (N := some 10) (v := ?_) (a' := ?_) #[true, true, false, false, false, false] rfl rfl (by kernel_rfl) (fun _ _ _ h => h) (Or.inl ⟨by rfl, ?_⟩) hHeld ?_ ?_
  rotate_left
  ·rintro w' ⟨s0, s1⟩
   go_simp
   with_reducible rfl
  rotate_left
  ·simp only [Act.put, List.setIfInBounds_toArray, List.set_cons_zero, List.set_cons_succ, i64_w, i32_w]
   rfl
  refine one_ (i := 2) (N := some 12) #[true, true, true, false, false, false] rfl rfl (by kernel_rfl) (by decide) (fun K hK => ?_)
  refine goes_ Tryz.func31 (by kernel_rfl) rfl #[.int .i64 ji3] (by rfl) rfl rfl (by (try simp only [List.map_toArray, List.map_cons, List.map_nil]); first | done | (simp only [hji3]; rfl) | rfl | (simp only [List.length_drop, List.length_take]; rfl)) ?_
  with_reducible refine (wide_Of.calls ji3 t364 t365 _ A4.out).mono ?_
  rintro e w9 ⟨rfl, hb⟩
  refine ⟨_, rfl, ?_⟩
  replace BK363 := blkb BK363 hb
  replace HB := belb HB hb
  (try clear hb)
  (try clear hb2)
  (try clear hk)
  (try clear hi)
  refine hK.out _ _ ⟨bc BK363 0, bc BK363 1⟩ (fun hHeld => ?_)
  clear hK K
  refine norm_ (a' := ?_) ?_ ?_
  rotate_left
  ·show Act.put _ (some 12) _ = _
   simp only [Act.put, List.setIfInBounds_toArray, List.set_cons_zero, List.set_cons_succ, i64_w, i32_w]
   rfl
  refine one_ (i := 3) (N := some 13) #[true, true, true, true, false, false] rfl rfl (by kernel_rfl) (by decide) (fun K hK => ?_)
  refine goes_ Tryz.func41 (by kernel_rfl) rfl #[.agg #[.int .i64 a0_0, .int .u64 a0_1], .agg #[.int .i64 t364, .int .u64 t365]] (by rfl) rfl rfl argt ?_
  with_reducible refine (wide_Int_Cmp.calls k a0_0 a0_1 t364 t365 t366 _ A5.out).mono ?_
  rintro e w10 ⟨rfl, hb⟩
  refine ⟨_, rfl, ?_⟩
  replace BK363 := blkb BK363 hb
  replace HB := belb HB hb
  (try clear hb)
  (try clear hb2)
  (try clear hk)
  (try clear hi)
  refine hK.out _ _ ⟨bc BK363 0, bc BK363 1⟩ (fun hHeld => ?_)
  clear hK K
  refine norm_ (a' := ?_) ?_ ?_
  rotate_left
  ·show Act.put _ (some 13) _ = _
   simp only [Act.put, List.setIfInBounds_toArray, List.set_cons_zero, List.set_cons_succ, i64_w, i32_w]
   rfl
  refine pure_ (i := 4) (N := some 14) (v := ?_) (a' := ?_) #[true, true, true, true, true, false] rfl rfl (by kernel_rfl) (fun _ _ _ h => h) (Or.inl ⟨by rfl, ?_⟩) ?_ ?_
  rotate_left
  ·intro w'
   go_simp
   with_reducible rfl
  rotate_left
  ·simp only [Act.put, List.setIfInBounds_toArray, List.set_cons_zero, List.set_cons_succ, i64_w, i32_w]
   rfl
  refine pure_ (i := 5) (N := some 9) (v := ?_) (a' := ?_) #[true, true, true, true, true, true] rfl rfl (by kernel_rfl) (fun _ _ _ h => h) (Or.inl ⟨by rfl, ?_⟩) ?_ ?_
  rotate_left
  ·intro w'
   go_simp
   with_reducible rfl
  rotate_left
  ·simp only [Act.put, List.setIfInBounds_toArray, List.set_cons_zero, List.set_cons_succ, i64_w, i32_w]
   rfl
  refine done_ (by kernel_rfl) ?_
  try go_wp2
  go_ret
  exact ⟨by first | rfl | (simp [errW_none, errW_some] <;> rfl) | (simp only [← hji3]; first | rfl | (simp [errW_none, errW_some] <;> rfl)) | (simp [*, errW_none, errW_some] <;> rfl), belt HB⟩
 rw [if_neg c6] at H
 have c6b0 : decide (0 < t366) = false := decide_eq_false c6
 clear c6
 replace H := Option.bind_eq_some_iff.mp H
 obtain ⟨⟨t367, t368⟩, A110, H⟩ := H
 replace H : ((wide_Int_Cmp.f k a0_0 a0_1 t367 t368).bind fun t369 => (if t369 < 0 then (some (wrap64 (-(ji3)))) else ((wide_Int_Small.f a0_0 a0_1).bind fun bt370 => (some bt370.1)))) = some r := H
 have A11 := Aside0.mk A110
 clear A110
 replace H := Option.bind_eq_some_iff.mp H
 obtain ⟨t369, A120, H⟩ := H
 replace H : (if t369 < 0 then (some (wrap64 (-(ji3)))) else ((wide_Int_Small.f a0_0 a0_1).bind fun bt370 => (some bt370.1))) = some r := H
 have A12 := Aside0.mk A120
 clear A120
 by_cases c13 : t369 < 0
 ·rw [if_pos c13] at H
  have c13b0 : decide (t369 < 0) = true := decide_eq_true c13
  clear c13
  obtain rfl := Option.some.inj H
  go_enter Tryz.func40, Tryz.ntmps40
  try go_wp2_with (first | ((with_reducible refine gate_dst (N := 2) rfl ?_); refine box_event ?hg (N := 2) ?hd (cs := #[.int .i64 a0_0, .int .u64 a0_1]) (t := 31) ?hr ?_; (case hd => rfl); (case hg => rfl); (case hr => first | (go_simp; done) | (go_simp; rfl)); intro gb363 hg w14 hbox hb; have BK363 := Aside0.mk (hbox); have GW363 := bels HB hg; have GE363 := bels HB hg; replace HB := belb HB hb; clear hb hbox hg))
  replace BK363 := Aside0.mk (blk_drew BK363.out)
  replace HB := Aside0.mk (below_drew1 HB.out)
  refine start_ (n := 6) (S := fun w' => w'.cell? ⟨gb363, 0, none⟩ = some (.int .i64 a0_0) ∧ w'.cell? ⟨gb363, 1, none⟩ = some (.int .u64 a0_1)) (ds := []) #[false, false, false, false, false, false] (by kernel_rfl) rfl rfl ⟨bc BK363 0, bc BK363 1⟩ (fun hHeld => ?_)
  generalize w14.drew = w15 at BK363 HB hHeld ⊢
  refine pure_ (i := 1) (N := some 11) (v := ?_) (a' := ?_) #[false, true, false, false, false, false] rfl rfl (by kernel_rfl) (fun _ _ _ h => h) (Or.inl ⟨by rfl, ?_⟩) ?_ ?_
  rotate_left
  ·intro w'
   go_simp
   with_reducible rfl
  rotate_left
  ·simp only [Act.put, List.setIfInBounds_toArray, List.set_cons_zero, List.set_cons_succ, i64_w, i32_w]
   rfl
  refine take_ (i := 0) (N := some 10) (v := ?_) (a' := ?_) #[true, true, false, false, false, false] rfl rfl (by kernel_rfl) (fun _ _ _ h => h) (Or.inl ⟨by rfl, ?_⟩) hHeld ?_ ?_
  rotate_left
  ·rintro w' ⟨s0, s1⟩
   go_simp
   with_reducible rfl
  rotate_left
  ·simp only [Act.put, List.setIfInBounds_toArray, List.set_cons_zero, List.set_cons_succ, i64_w, i32_w]
   rfl
  refine one_ (i := 2) (N := some 12) #[true, true, true, false, false, false] rfl rfl (by kernel_rfl) (by decide) (fun K hK => ?_)
  refine goes_ Tryz.func31 (by kernel_rfl) rfl #[.int .i64 ji3] (by rfl) rfl rfl (by (try simp only [List.map_toArray, List.map_cons, List.map_nil]); first | done | (simp only [hji3]; rfl) | rfl | (simp only [List.length_drop, List.length_take]; rfl)) ?_
  with_reducible refine (wide_Of.calls ji3 t364 t365 _ A4.out).mono ?_
  rintro e w16 ⟨rfl, hb⟩
  refine ⟨_, rfl, ?_⟩
  replace BK363 := blkb BK363 hb
  replace HB := belb HB hb
  (try clear hb)
  (try clear hb2)
  (try clear hk)
  (try clear hi)
  refine hK.out _ _ ⟨bc BK363 0, bc BK363 1⟩ (fun hHeld => ?_)
  clear hK K
  refine norm_ (a' := ?_) ?_ ?_
  rotate_left
  ·show Act.put _ (some 12) _ = _
   simp only [Act.put, List.setIfInBounds_toArray, List.set_cons_zero, List.set_cons_succ, i64_w, i32_w]
   rfl
  refine one_ (i := 3) (N := some 13) #[true, true, true, true, false, false] rfl rfl (by kernel_rfl) (by decide) (fun K hK => ?_)
  refine goes_ Tryz.func41 (by kernel_rfl) rfl #[.agg #[.int .i64 a0_0, .int .u64 a0_1], .agg #[.int .i64 t364, .int .u64 t365]] (by rfl) rfl rfl argt ?_
  with_reducible refine (wide_Int_Cmp.calls k a0_0 a0_1 t364 t365 t366 _ A5.out).mono ?_
  rintro e w17 ⟨rfl, hb⟩
  refine ⟨_, rfl, ?_⟩
  replace BK363 := blkb BK363 hb
  replace HB := belb HB hb
  (try clear hb)
  (try clear hb2)
  (try clear hk)
  (try clear hi)
  refine hK.out _ _ ⟨bc BK363 0, bc BK363 1⟩ (fun hHeld => ?_)
  clear hK K
  refine norm_ (a' := ?_) ?_ ?_
  rotate_left
  ·show Act.put _ (some 13) _ = _
   simp only [Act.put, List.setIfInBounds_toArray, List.set_cons_zero, List.set_cons_succ, i64_w, i32_w]
   rfl
  refine pure_ (i := 4) (N := some 14) (v := ?_) (a' := ?_) #[true, true, true, true, true, false] rfl rfl (by kernel_rfl) (fun _ _ _ h => h) (Or.inl ⟨by rfl, ?_⟩) ?_ ?_
  rotate_left
  ·intro w'
   go_simp
   with_reducible rfl
  rotate_left
  ·simp only [Act.put, List.setIfInBounds_toArray, List.set_cons_zero, List.set_cons_succ, i64_w, i32_w]
   rfl
  refine pure_ (i := 5) (N := some 9) (v := ?_) (a' := ?_) #[true, true, true, true, true, true] rfl rfl (by kernel_rfl) (fun _ _ _ h => h) (Or.inl ⟨by rfl, ?_⟩) ?_ ?_
  rotate_left
  ·intro w'
   go_simp
   with_reducible rfl
  rotate_left
  ·simp only [Act.put, List.setIfInBounds_toArray, List.set_cons_zero, List.set_cons_succ, i64_w, i32_w]
   rfl
  refine done_ (by kernel_rfl) ?_
  try go_wp2
  replace BK363 := Aside0.mk (blk_drew BK363.out)
  replace HB := Aside0.mk (below_drew1 HB.out)
  refine start_ (n := 7) (S := fun w' => w'.cell? ⟨gb363, 0, none⟩ = some (.int .i64 a0_0) ∧ w'.cell? ⟨gb363, 1, none⟩ = some (.int .u64 a0_1)) (ds := []) #[false, false, false, false, false, false, false] (by kernel_rfl) rfl rfl ⟨bc BK363 0, bc BK363 1⟩ (fun hHeld => ?_)
  generalize w17.drew = w18 at BK363 HB hHeld ⊢
  refine pure_ (i := 1) (N := some 18) (v := ?_) (a' := ?_) #[false, true, false, false, false, false, false] rfl rfl (by kernel_rfl) (fun _ _ _ h => h) (Or.inl ⟨by rfl, ?_⟩) ?_ ?_
  rotate_left
  ·intro w'
   go_simp
   with_reducible rfl
  rotate_left
  ·simp only [Act.put, List.setIfInBounds_toArray, List.set_cons_zero, List.set_cons_succ, i64_w, i32_w]
   rfl
  refine pure_ (i := 2) (N := some 19) (v := ?_) (a' := ?_) #[false, true, true, false, false, false, false] rfl rfl (by kernel_rfl) (fun _ _ _ h => h) (Or.inl ⟨by rfl, ?_⟩) ?_ ?_
  rotate_left
  ·intro w'
   go_simp
   with_reducible rfl
  rotate_left
  ·simp only [Act.put, List.setIfInBounds_toArray, List.set_cons_zero, List.set_cons_succ, i64_w, i32_w]
   rfl
  refine take_ (i := 0) (N := some 17) (v := ?_) (a' := ?_) #[true, true, true, false, false, false, false] rfl rfl (by kernel_rfl) (fun _ _ _ h => h) (Or.inl ⟨by rfl, ?_⟩) hHeld ?_ ?_
  rotate_left
  ·rintro w' ⟨s0, s1⟩
   go_simp
   with_reducible rfl
  rotate_left
  ·simp only [Act.put, List.setIfInBounds_toArray, List.set_cons_zero, List.set_cons_succ, i64_w, i32_w]
   rfl
  refine one_ (i := 3) (N := some 20) #[true, true, true, true, false, false, false] rfl rfl (by kernel_rfl) (by decide) (fun K hK => ?_)
  refine goes_ Tryz.func31 (by kernel_rfl) rfl #[.int .i64 (wrap64 (-(ji3)))] (by rfl) rfl rfl (by (try simp only [List.map_toArray, List.map_cons, List.map_nil]); first | done | (simp only [hji3]; rfl) | rfl | (simp only [List.length_drop, List.length_take]; rfl)) ?_
  with_reducible refine (wide_Of.calls (wrap64 (-(ji3))) t367 t368 _ A11.out).mono ?_
  rintro e w19 ⟨rfl, hb⟩
  refine ⟨_, rfl, ?_⟩
  replace BK363 := blkb BK363 hb
  replace HB := belb HB hb
  (try clear hb)
  (try clear hb2)
  (try clear hk)
  (try clear hi)
  refine hK.out _ _ ⟨bc BK363 0, bc BK363 1⟩ (fun hHeld => ?_)
  clear hK K
  refine norm_ (a' := ?_) ?_ ?_
  rotate_left
  ·show Act.put _ (some 20) _ = _
   simp only [Act.put, List.setIfInBounds_toArray, List.set_cons_zero, List.set_cons_succ, i64_w, i32_w]
   rfl
  refine one_ (i := 4) (N := some 21) #[true, true, true, true, true, false, false] rfl rfl (by kernel_rfl) (by decide) (fun K hK => ?_)
  refine goes_ Tryz.func41 (by kernel_rfl) rfl #[.agg #[.int .i64 a0_0, .int .u64 a0_1], .agg #[.int .i64 t367, .int .u64 t368]] (by rfl) rfl rfl argt ?_
  with_reducible refine (wide_Int_Cmp.calls k a0_0 a0_1 t367 t368 t369 _ A12.out).mono ?_
  rintro e w20 ⟨rfl, hb⟩
  refine ⟨_, rfl, ?_⟩
  replace BK363 := blkb BK363 hb
  replace HB := belb HB hb
  (try clear hb)
  (try clear hb2)
  (try clear hk)
  (try clear hi)
  refine hK.out _ _ ⟨bc BK363 0, bc BK363 1⟩ (fun hHeld => ?_)
  clear hK K
  refine norm_ (a' := ?_) ?_ ?_
  rotate_left
  ·show Act.put _ (some 21) _ = _
   simp only [Act.put, List.setIfInBounds_toArray, List.set_cons_zero, List.set_cons_succ, i64_w, i32_w]
   rfl
  refine pure_ (i := 5) (N := some 22) (v := ?_) (a' := ?_) #[true, true, true, true, true, true, false] rfl rfl (by kernel_rfl) (fun _ _ _ h => h) (Or.inl ⟨by rfl, ?_⟩) ?_ ?_
  rotate_left
  ·intro w'
   go_simp
   with_reducible rfl
  rotate_left
  ·simp only [Act.put, List.setIfInBounds_toArray, List.set_cons_zero, List.set_cons_succ, i64_w, i32_w]
   rfl
  refine pure_ (i := 6) (N := some 16) (v := ?_) (a' := ?_) #[true, true, true, true, true, true, true] rfl rfl (by kernel_rfl) (fun _ _ _ h => h) (Or.inl ⟨by rfl, ?_⟩) ?_ ?_
  rotate_left
  ·intro w'
   go_simp
   with_reducible rfl
  rotate_left
  ·simp only [Act.put, List.setIfInBounds_toArray, List.set_cons_zero, List.set_cons_succ, i64_w, i32_w]
   rfl
  refine done_ (by kernel_rfl) ?_
  try go_wp2
  go_ret
  exact ⟨by first | rfl | (simp [errW_none, errW_some] <;> rfl) | (simp only [← hji3]; first | rfl | (simp [errW_none, errW_some] <;> rfl)) | (simp [*, errW_none, errW_some] <;> rfl), belt HB⟩
 rw [if_neg c13] at H
 have c13b0 : decide (t369 < 0) = false := decide_eq_false c13
 clear c13
 replace H := Option.bind_eq_some_iff.mp H
 obtain ⟨⟨t370, t371⟩, A210, H⟩ := H
 replace H : (some t370) = some r := H
 have A21 := Aside0.mk A210
 clear A210
 obtain rfl := Option.some.inj H
 go_enter Tryz.func40, Tryz.ntmps40
 try go_wp2_with (first | ((with_reducible refine gate_dst (N := 2) rfl ?_); refine box_event ?hg (N := 2) ?hd (cs := #[.int .i64 a0_0, .int .u64 a0_1]) (t := 31) ?hr ?_; (case hd => rfl); (case hg => rfl); (case hr => first | (go_simp; done) | (go_simp; rfl)); intro gb363 hg w22 hbox hb; have BK363 := Aside0.mk (hbox); have GW363 := bels HB hg; have GE363 := bels HB hg; replace HB := belb HB hb; clear hb hbox hg))
 replace BK363 := Aside0.mk (blk_drew BK363.out)
 replace HB := Aside0.mk (below_drew1 HB.out)
 refine start_ (n := 6) (S := fun w' => w'.cell? ⟨gb363, 0, none⟩ = some (.int .i64 a0_0) ∧ w'.cell? ⟨gb363, 1, none⟩ = some (.int .u64 a0_1)) (ds := []) #[false, false, false, false, false, false] (by kernel_rfl) rfl rfl ⟨bc BK363 0, bc BK363 1⟩ (fun hHeld => ?_)
 generalize w22.drew = w23 at BK363 HB hHeld ⊢
 refine pure_ (i := 1) (N := some 11) (v := ?_) (a' := ?_) #[false, true, false, false, false, false] rfl rfl (by kernel_rfl) (fun _ _ _ h => h) (Or.inl ⟨by rfl, ?_⟩) ?_ ?_
 rotate_left
 ·intro w'
  go_simp
  with_reducible rfl
 rotate_left
 ·simp only [Act.put, List.setIfInBounds_toArray, List.set_cons_zero, List.set_cons_succ, i64_w, i32_w]
  rfl
 refine take_ (i := 0) (N := some 10) (v := ?_) (a' := ?_) #[true, true, false, false, false, false] rfl rfl (by kernel_rfl) (fun _ _ _ h => h) (Or.inl ⟨by rfl, ?_⟩) hHeld ?_ ?_
 rotate_left
 ·rintro w' ⟨s0, s1⟩
  go_simp
  with_reducible rfl
 rotate_left
 ·simp only [Act.put, List.setIfInBounds_toArray, List.set_cons_zero, List.set_cons_succ, i64_w, i32_w]
  rfl
 refine one_ (i := 2) (N := some 12) #[true, true, true, false, false, false] rfl rfl (by kernel_rfl) (by decide) (fun K hK => ?_)
 refine goes_ Tryz.func31 (by kernel_rfl) rfl #[.int .i64 ji3] (by rfl) rfl rfl (by (try simp only [List.map_toArray, List.map_cons, List.map_nil]); first | done | (simp only [hji3]; rfl) | rfl | (simp only [List.length_drop, List.length_take]; rfl)) ?_
 with_reducible refine (wide_Of.calls ji3 t364 t365 _ A4.out).mono ?_
 rintro e w24 ⟨rfl, hb⟩
 refine ⟨_, rfl, ?_⟩
 replace BK363 := blkb BK363 hb
 replace HB := belb HB hb
 (try clear hb)
 (try clear hb2)
 (try clear hk)
 (try clear hi)
 refine hK.out _ _ ⟨bc BK363 0, bc BK363 1⟩ (fun hHeld => ?_)
 clear hK K
 refine norm_ (a' := ?_) ?_ ?_
 rotate_left
 ·show Act.put _ (some 12) _ = _
  simp only [Act.put, List.setIfInBounds_toArray, List.set_cons_zero, List.set_cons_succ, i64_w, i32_w]
  rfl
 refine one_ (i := 3) (N := some 13) #[true, true, true, true, false, false] rfl rfl (by kernel_rfl) (by decide) (fun K hK => ?_)
 refine goes_ Tryz.func41 (by kernel_rfl) rfl #[.agg #[.int .i64 a0_0, .int .u64 a0_1], .agg #[.int .i64 t364, .int .u64 t365]] (by rfl) rfl rfl argt ?_
 with_reducible refine (wide_Int_Cmp.calls k a0_0 a0_1 t364 t365 t366 _ A5.out).mono ?_
 rintro e w25 ⟨rfl, hb⟩
 refine ⟨_, rfl, ?_⟩
 replace BK363 := blkb BK363 hb
 replace HB := belb HB hb
 (try clear hb)
 (try clear hb2)
 (try clear hk)
 (try clear hi)
 refine hK.out _ _ ⟨bc BK363 0, bc BK363 1⟩ (fun hHeld => ?_)
 clear hK K
 refine norm_ (a' := ?_) ?_ ?_
 rotate_left
 ·show Act.put _ (some 13) _ = _
  simp only [Act.put, List.setIfInBounds_toArray, List.set_cons_zero, List.set_cons_succ, i64_w, i32_w]
  rfl
 refine pure_ (i := 4) (N := some 14) (v := ?_) (a' := ?_) #[true, true, true, true, true, false] rfl rfl (by kernel_rfl) (fun _ _ _ h => h) (Or.inl ⟨by rfl, ?_⟩) ?_ ?_
 rotate_left
 ·intro w'
  go_simp
  with_reducible rfl
 rotate_left
 ·simp only [Act.put, List.setIfInBounds_toArray, List.set_cons_zero, List.set_cons_succ, i64_w, i32_w]
  rfl
 refine pure_ (i := 5) (N := some 9) (v := ?_) (a' := ?_) #[true, true, true, true, true, true] rfl rfl (by kernel_rfl) (fun _ _ _ h => h) (Or.inl ⟨by rfl, ?_⟩) ?_ ?_
 rotate_left
 ·intro w'
  go_simp
  with_reducible rfl
 rotate_left
 ·simp only [Act.put, List.setIfInBounds_toArray, List.set_cons_zero, List.set_cons_succ, i64_w, i32_w]
  rfl
 refine done_ (by kernel_rfl) ?_
 try go_wp2
 replace BK363 := Aside0.mk (blk_drew BK363.out)
 replace HB := Aside0.mk (below_drew1 HB.out)
 refine start_ (n := 7) (S := fun w' => w'.cell? ⟨gb363, 0, none⟩ = some (.int .i64 a0_0) ∧ w'.cell? ⟨gb363, 1, none⟩ = some (.int .u64 a0_1)) (ds := []) #[false, false, false, false, false, false, false] (by kernel_rfl) rfl rfl ⟨bc BK363 0, bc BK363 1⟩ (fun hHeld => ?_)
 generalize w25.drew = w26 at BK363 HB hHeld ⊢
 refine pure_ (i := 1) (N := some 18) (v := ?_) (a' := ?_) #[false, true, false, false, false, false, false] rfl rfl (by kernel_rfl) (fun _ _ _ h => h) (Or.inl ⟨by rfl, ?_⟩) ?_ ?_
 rotate_left
 ·intro w'
  go_simp
  with_reducible rfl
 rotate_left
 ·simp only [Act.put, List.setIfInBounds_toArray, List.set_cons_zero, List.set_cons_succ, i64_w, i32_w]
  rfl
 refine pure_ (i := 2) (N := some 19) (v := ?_) (a' := ?_) #[false, true, true, false, false, false, false] rfl rfl (by kernel_rfl) (fun _ _ _ h => h) (Or.inl ⟨by rfl, ?_⟩) ?_ ?_
 rotate_left
 ·intro w'
  go_simp
  with_reducible rfl
 rotate_left
 ·simp only [Act.put, List.setIfInBounds_toArray, List.set_cons_zero, List.set_cons_succ, i64_w, i32_w]
  rfl
 refine take_ (i := 0) (N := some 17) (v := ?_) (a' := ?_) #[true, true, true, false, false, false, false] rfl rfl (by kernel_rfl) (fun _ _ _ h => h) (Or.inl ⟨by rfl, ?_⟩) hHeld ?_ ?_
 rotate_left
 ·rintro w' ⟨s0, s1⟩
  go_simp
  with_reducible rfl
 rotate_left
 ·simp only [Act.put, List.setIfInBounds_toArray, List.set_cons_zero, List.set_cons_succ, i64_w, i32_w]
  rfl
 refine one_ (i := 3) (N := some 20) #[true, true, true, true, false, false, false] rfl rfl (by kernel_rfl) (by decide) (fun K hK => ?_)
 refine goes_ Tryz.func31 (by kernel_rfl) rfl #[.int .i64 (wrap64 (-(ji3)))] (by rfl) rfl rfl (by (try simp only [List.map_toArray, List.map_cons, List.map_nil]); first | done | (simp only [hji3]; rfl) | rfl | (simp only [List.length_drop, List.length_take]; rfl)) ?_
 with_reducible refine (wide_Of.calls (wrap64 (-(ji3))) t367 t368 _ A11.out).mono ?_
 rintro e w27 ⟨rfl, hb⟩
 refine ⟨_, rfl, ?_⟩
 replace BK363 := blkb BK363 hb
 replace HB := belb HB hb
 (try clear hb)
 (try clear hb2)
 (try clear hk)
 (try clear hi)
 refine hK.out _ _ ⟨bc BK363 0, bc BK363 1⟩ (fun hHeld => ?_)
 clear hK K
 refine norm_ (a' := ?_) ?_ ?_
 rotate_left
 ·show Act.put _ (some 20) _ = _
  simp only [Act.put, List.setIfInBounds_toArray, List.set_cons_zero, List.set_cons_succ, i64_w, i32_w]
  rfl
 refine one_ (i := 4) (N := some 21) #[true, true, true, true, true, false, false] rfl rfl (by kernel_rfl) (by decide) (fun K hK => ?_)
 refine goes_ Tryz.func41 (by kernel_rfl) rfl #[.agg #[.int .i64 a0_0, .int .u64 a0_1], .agg #[.int .i64 t367, .int .u64 t368]] (by rfl) rfl rfl argt ?_
 with_reducible refine (wide_Int_Cmp.calls k a0_0 a0_1 t367 t368 t369 _ A12.out).mono ?_
 rintro e w28 ⟨rfl, hb⟩
 refine ⟨_, rfl, ?_⟩
 replace BK363 := blkb BK363 hb
 replace HB := belb HB hb
 (try clear hb)
 (try clear hb2)
 (try clear hk)
 (try clear hi)
 refine hK.out _ _ ⟨bc BK363 0, bc BK363 1⟩ (fun hHeld => ?_)
 clear hK K
 refine norm_ (a' := ?_) ?_ ?_
 rotate_left
 ·show Act.put _ (some 21) _ = _
  simp only [Act.put, List.setIfInBounds_toArray, List.set_cons_zero, List.set_cons_succ, i64_w, i32_w]
  rfl
 refine pure_ (i := 5) (N := some 22) (v := ?_) (a' := ?_) #[true, true, true, true, true, true, false] rfl rfl (by kernel_rfl) (fun _ _ _ h => h) (Or.inl ⟨by rfl, ?_⟩) ?_ ?_
 rotate_left
 ·intro w'
  go_simp
  with_reducible rfl
 rotate_left
 ·simp only [Act.put, List.setIfInBounds_toArray, List.set_cons_zero, List.set_cons_succ, i64_w, i32_w]
  rfl
 refine pure_ (i := 6) (N := some 16) (v := ?_) (a' := ?_) #[true, true, true, true, true, true, true] rfl rfl (by kernel_rfl) (fun _ _ _ h => h) (Or.inl ⟨by rfl, ?_⟩) ?_ ?_
 rotate_left
 ·intro w'
  go_simp
  with_reducible rfl
 rotate_left
 ·simp only [Act.put, List.setIfInBounds_toArray, List.set_cons_zero, List.set_cons_succ, i64_w, i32_w]
  rfl
 refine done_ (by kernel_rfl) ?_
 have hcz29_0 : w28.cell? ⟨gb363, 0, none⟩ = some (.int .i64 a0_0) := bc BK363 0
 have hcz29_1 : w28.cell? ⟨gb363, 1, none⟩ = some (.int .u64 a0_1) := bc BK363 1
 have hfz29_0 := blk_frozen BK363.out 0
 have hfz29_1 := blk_frozen BK363.out 1
 try go_wp2_with (first | ((with_reducible refine gate_callee (f := 27) rfl ?_); refine goesL_ (some 27) rfl rfl Tryz.func27 (by kernel_rfl) rfl #[.agg #[.int .i64 a0_0, .int .u64 a0_1]] rfl argt ?_; (with_reducible refine (wide_Int_Small.calls a0_0 a0_1 t370 t371 _ A21.out).mono ?_); rintro e w30 ⟨rfl, hb⟩; refine ⟨_, rfl, ?_⟩; replace BK363 := blkb BK363 hb; replace HB := belb HB hb; (try clear hb); (try clear hb2); (try clear hk); (try clear hi)))
 go_ret
 exact ⟨by first | rfl | (simp [errW_none, errW_some] <;> rfl) | (simp only [← hji3]; first | rfl | (simp [errW_none, errW_some] <;> rfl)) | (simp [*, errW_none, errW_some] <;> rfl), belt HB⟩

end Go.Proofs.YtfbkamgdkdnpoaaGreatDoor.Print
