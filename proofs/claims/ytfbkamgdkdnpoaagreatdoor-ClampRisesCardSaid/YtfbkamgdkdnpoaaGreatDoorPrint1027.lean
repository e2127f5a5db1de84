/- What each Go function that is named below answers, as a Lean function, and that its walk comes to just that: for whatever arguments that function gives an answer for. Written by a program of this session (wip/mkpr.py, pr.sh). -/
import Derived.Test.YtfbkamgdkdnpoaaGreatDoorPrint1000
import Derived.Test.YtfbkamgdkdnpoaaGreatDoorPrint1030
namespace Go.Proofs.YtfbkamgdkdnpoaaGreatDoor.Print
open Go.RowKit Go.Proofs.YtfbkamgdkdnpoaaGreatDoorW.PrintWords Go.Proofs.YtfbkamgdkdnpoaaGreatDoorW.PrintLast Go.Proofs.YtfbkamgdkdnpoaaGreatDoorW.PrintMore
attribute [local go_sem] max2_int min2_int max_two min_two max_three min_three max_four min_four   -- for this text's walks alone
open Go.Proofs.YtfbkamgdkdnpoaaGreatDoor.Bits Go.Proofs.YtfbkamgdkdnpoaaGreatDoor.Short
attribute [local go_sem] add64_run0 sub64_run0 add64_run sub64_run
set_option linter.unusedVariables false
set_option linter.unusedSimpArgs false

/-! ### clamp_Window: function 39 -/
def clamp_Window.f (a0 : Int) (a1 : Int) : Option (Int × Bool) := if a0 < 1 then (some (0, false)) else (if a0 > 1099511627776 then (some (0, false)) else (if a1 < 1 then (some (0, false)) else (if a1 > 1099511627776 then (some (0, false)) else (some (wrap64 (IntKind.u64.wrap ((IntKind.u64.wrap ((IntKind.u64.wrap (2 * a0)) + a1)) * 1048576)), true)))))
set_option maxHeartbeats 8000000 in
set_option maxRecDepth 100000 in
theorem clamp_Window.calls (a0 : Int) (a1 : Int) (r1 : Int) (r2 : Bool) (w : World) (h : clamp_Window.f a0 a1 = some (r1, r2)) :
  Calls Tryz.prog 39 #[.int .u64 a0, .int .u64 a1] w fun e w' => e = .returned (.tuple #[.int .i64 r1, .bool r2]) ∧ Drawn0 w w' := by
 have H : (if a0 < 1 then (some (0, false)) else (if a0 > 1099511627776 then (some (0, false)) else (if a1 < 1 then (some (0, false)) else (if a1 > 1099511627776 then (some (0, false)) else (some (wrap64 (IntKind.u64.wrap ((IntKind.u64.wrap ((IntKind.u64.wrap (2 * a0)) + a1)) * 1048576)), true)))))) = some (r1, r2) := h
 clear h
 by_cases c3 : a0 < 1
 ·rw [if_pos c3] at H
  have c3b0 : decide (a0 < 1) = true := decide_eq_true c3
  clear c3
  simp only [Option.some.injEq, Prod.mk.injEq] at H
  obtain ⟨rfl, rfl⟩ := H
  go_enter Tryz.func39, Tryz.ntmps39
  go_wp2
  go_ret2
  exact ⟨by first | rfl | (simp; done) | (simp [*]; done), by repeat (first | exact Drawn0.refl _ | apply Drawn0.step)⟩
 ·rw [if_neg c3] at H
  have c3b0 : decide (a0 < 1) = false := decide_eq_false c3
  clear c3
  by_cases c4 : a0 > 1099511627776
  ·rw [if_pos c4] at H
   have c4b0 : decide (1099511627776 < a0) = true := decide_eq_true c4
   clear c4
   simp only [Option.some.injEq, Prod.mk.injEq] at H
   obtain ⟨rfl, rfl⟩ := H
   go_enter Tryz.func39, Tryz.ntmps39
   go_wp2
   go_ret2
   exact ⟨by first | rfl | (simp; done) | (simp [*]; done), by repeat (first | exact Drawn0.refl _ | apply Drawn0.step)⟩
  ·rw [if_neg c4] at H
   have c4b0 : decide (1099511627776 < a0) = false := decide_eq_false c4
   clear c4
   by_cases c5 : a1 < 1
   ·rw [if_pos c5] at H
    have c5b0 : decide (a1 < 1) = true := decide_eq_true c5
    clear c5
    simp only [Option.some.injEq, Prod.mk.injEq] at H
    obtain ⟨rfl, rfl⟩ := H
    go_enter Tryz.func39, Tryz.ntmps39
    go_wp2
    go_ret2
    exact ⟨by first | rfl | (simp; done) | (simp [*]; done), by repeat (first | exact Drawn0.refl _ | apply Drawn0.step)⟩
   ·rw [if_neg c5] at H
    have c5b0 : decide (a1 < 1) = false := decide_eq_false c5
    clear c5
    by_cases c6 : a1 > 1099511627776
    ·rw [if_pos c6] at H
     have c6b0 : decide (1099511627776 < a1) = true := decide_eq_true c6
     clear c6
     simp only [Option.some.injEq, Prod.mk.injEq] at H
     obtain ⟨rfl, rfl⟩ := H
     go_enter Tryz.func39, Tryz.ntmps39
     go_wp2
     go_ret2
     exact ⟨by first | rfl | (simp; done) | (simp [*]; done), by repeat (first | exact Drawn0.refl _ | apply Drawn0.step)⟩
    ·rw [if_neg c6] at H
     have c6b0 : decide (1099511627776 < a1) = false := decide_eq_false c6
     clear c6
     simp only [Option.some.injEq, Prod.mk.injEq] at H
     obtain ⟨rfl, rfl⟩ := H
     go_enter Tryz.func39, Tryz.ntmps39
     go_wp2
     go_ret2
     exact ⟨by first | rfl | (simp; done) | (simp [*]; done), by repeat (first | exact Drawn0.refl _ | apply Drawn0.step)⟩


/-! ### turnstonelaw12_ClampRises: function 11 -/
def turnstonelaw12_ClampRises.f (a0 : Int) (a1 : Int) : Option (Bool) := (turnstonelaw12_awake.f).bind fun t763 => (if t763 = true then ((clamp_Window.f a0 a1).bind fun bt764 => (if bt764.2 = true then ((clamp_Window.f (IntKind.u64.wrap (a0 + 1)) a1).bind fun bt766 => ((clamp_Window.f a0 (IntKind.u64.wrap (a1 + 1))).bind fun bt768 => (if bt766.2 = true then (if bt766.1 = (wrap64 (bt764.1 + 2097152)) then (if bt768.2 = true then (if bt768.1 = (wrap64 (bt764.1 + 1048576)) then (if (bt766.2 == (decide (a0 < 1099511627776))) = true then (if (bt768.2 == (decide (a1 < 1099511627776))) = true then (some (decide (bt764.1 ≥ 3145728))) else (none)) else (none)) else (none)) else (if (bt766.2 == (decide (a0 < 1099511627776))) = true then (if (bt768.2 == (decide (a1 < 1099511627776))) = true then (some (decide (bt764.1 ≥ 3145728))) else (none)) else (none))) else (none)) else (if bt768.2 = true then (if bt768.1 = (wrap64 (bt764.1 + 1048576)) then (if (bt766.2 == (decide (a0 < 1099511627776))) = true then (if (bt768.2 == (decide (a1 < 1099511627776))) = true then (some (decide (bt764.1 ≥ 3145728))) else (none)) else (none)) else (none)) else (if (bt766.2 == (decide (a0 < 1099511627776))) = true then (if (bt768.2 == (decide (a1 < 1099511627776))) = true then (some (decide (bt764.1 ≥ 3145728))) else (none)) else (none)))))) else (some (bt764.1 == 0)))) else (none))
set_option maxHeartbeats 8000000 in
set_option maxRecDepth 100000 in
theorem turnstonelaw12_ClampRises.calls (a0 : Int) (a1 : Int) (r : Bool) (w : World) (h : turnstonelaw12_ClampRises.f a0 a1 = some r) :
  Calls Tryz.prog 11 #[.int .u64 a0, .int .u64 a1] w fun e w' => e = .returned (.bool r) ∧ Below w.heap.size w w' := by
 have HB := Aside0.mk (Below.refl w.heap.size w)
 have H : ((turnstonelaw12_awake.f).bind fun t763 => (if t763 = true then ((clamp_Window.f a0 a1).bind fun bt764 => (if bt764.2 = true then ((clamp_Window.f (IntKind.u64.wrap (a0 + 1)) a1).bind fun bt766 => ((clamp_Window.f a0 (IntKind.u64.wrap (a1 + 1))).bind fun bt768 => (if bt766.2 = true then (if bt766.1 = (wrap64 (bt764.1 + 2097152)) then (if bt768.2 = true then (if bt768.1 = (wrap64 (bt764.1 + 1048576)) then (if (bt766.2 == (decide (a0 < 1099511627776))) = true then (if (bt768.2 == (decide (a1 < 1099511627776))) = true then (some (decide (bt764.1 ≥ 3145728))) else (none)) else (none)) else (none)) else (if (bt766.2 == (decide (a0 < 1099511627776))) = true then (if (bt768.2 == (decide (a1 < 1099511627776))) = true then (some (decide (bt764.1 ≥ 3145728))) else (none)) else (none))) else (none)) else (if bt768.2 = true then (if bt768.1 = (wrap64 (bt764.1 + 1048576)) then (if (bt766.2 == (decide (a0 < 1099511627776))) = true then (if (bt768.2 == (decide (a1 < 1099511627776))) = true then (some (decide (bt764.1 ≥ 3145728))) else (none)) else (none)) else (none)) else (if (bt766.2 == (decide (a0 < 1099511627776))) = true then (if (bt768.2 == (decide (a1 < 1099511627776))) = true then (some (decide (bt764.1 ≥ 3145728))) else (none)) else (none)))))) else (some (bt764.1 == 0)))) else (none))) = some r := h
 clear h
 replace H := Option.bind_eq_some_iff.mp H
 obtain ⟨t763, A30, H⟩ := H
 replace H : (if t763 = true then ((clamp_Window.f a0 a1).bind fun bt764 => (if bt764.2 = true then ((clamp_Window.f (IntKind.u64.wrap (a0 + 1)) a1).bind fun bt766 => ((clamp_Window.f a0 (IntKind.u64.wrap (a1 + 1))).bind fun bt768 => (if bt766.2 = true then (if bt766.1 = (wrap64 (bt764.1 + 2097152)) then (if bt768.2 = true then (if bt768.1 = (wrap64 (bt764.1 + 1048576)) then (if (bt766.2 == (decide (a0 < 1099511627776))) = true then (if (bt768.2 == (decide (a1 < 1099511627776))) = true then (some (decide (bt764.1 ≥ 3145728))) else (none)) else (none)) else (none)) else (if (bt766.2 == (decide (a0 < 1099511627776))) = true then (if (bt768.2 == (decide (a1 < 1099511627776))) = true then (some (decide (bt764.1 ≥ 3145728))) else (none)) else (none))) else (none)) else (if bt768.2 = true then (if bt768.1 = (wrap64 (bt764.1 + 1048576)) then (if (bt766.2 == (decide (a0 < 1099511627776))) = true then (if (bt768.2 == (decide (a1 < 1099511627776))) = true then (some (decide (bt764.1 ≥ 3145728))) else (none)) else (none)) else (none)) else (if (bt766.2 == (decide (a0 < 1099511627776))) = true then (if (bt768.2 == (decide (a1 < 1099511627776))) = true then (some (decide (bt764.1 ≥ 3145728))) else (none)) else (none)))))) else (some (bt764.1 == 0)))) else (none)) = some r := H
 have A3 := Aside0.mk A30
 clear A30
 by_cases c4 : t763 = true
 ·subst c4
  have H1 : ((clamp_Window.f a0 a1).bind fun bt764 => (if bt764.2 = true then ((clamp_Window.f (IntKind.u64.wrap (a0 + 1)) a1).bind fun bt766 => ((clamp_Window.f a0 (IntKind.u64.wrap (a1 + 1))).bind fun bt768 => (if bt766.2 = true then (if bt766.1 = (wrap64 (bt764.1 + 2097152)) then (if bt768.2 = true then (if bt768.1 = (wrap64 (bt764.1 + 1048576)) then (if (bt766.2 == (decide (a0 < 1099511627776))) = true then (if (bt768.2 == (decide (a1 < 1099511627776))) = true then (some (decide (bt764.1 ≥ 3145728))) else (none)) else (none)) else (none)) else (if (bt766.2 == (decide (a0 < 1099511627776))) = true then (if (bt768.2 == (decide (a1 < 1099511627776))) = true then (some (decide (bt764.1 ≥ 3145728))) else (none)) else (none))) else (none)) else (if bt768.2 = true then (if bt768.1 = (wrap64 (bt764.1 + 1048576)) then (if (bt766.2 == (decide (a0 < 1099511627776))) = true then (if (bt768.2 == (decide (a1 < 1099511627776))) = true then (some (decide (bt764.1 ≥ 3145728))) else (none)) else (none)) else (none)) else (if (bt766.2 == (decide (a0 < 1099511627776))) = true then (if (bt768.2 == (decide (a1 < 1099511627776))) = true then (some (decide (bt764.1 ≥ 3145728))) else (none)) else (none)))))) else (some (bt764.1 == 0)))) = some r := by rw [if_pos rfl] at H; exact H
  clear H
  have H := H1
  clear H1
  replace H := Option.bind_eq_some_iff.mp H
  obtain ⟨⟨t764, t765⟩, A50, H⟩ := H
  replace H : (if t765 = true then ((clamp_Window.f (IntKind.u64.wrap (a0 + 1)) a1).bind fun bt766 => ((clamp_Window.f a0 (IntKind.u64.wrap (a1 + 1))).bind fun bt768 => (if bt766.2 = true then (if bt766.1 = (wrap64 (t764 + 2097152)) then (if bt768.2 = true then (if bt768.1 = (wrap64 (t764 + 1048576)) then (if (bt766.2 == (decide (a0 < 1099511627776))) = true then (if (bt768.2 == (decide (a1 < 1099511627776))) = true then (some (decide (t764 ≥ 3145728))) else (none)) else (none)) else (none)) else (if (bt766.2 == (decide (a0 < 1099511627776))) = true then (if (bt768.2 == (decide (a1 < 1099511627776))) = true then (some (decide (t764 ≥ 3145728))) else (none)) else (none))) else (none)) else (if bt768.2 = true then (if bt768.1 = (wrap64 (t764 + 1048576)) then (if (bt766.2 == (decide (a0 < 1099511627776))) = true then (if (bt768.2 == (decide (a1 < 1099511627776))) = true then (some (decide (t764 ≥ 3145728))) else (none)) else (none)) else (none)) else (if (bt766.2 == (decide (a0 < 1099511627776))) = true then (if (bt768.2 == (decide (a1 < 1099511627776))) = true then (some (decide (t764 ≥ 3145728))) else (none)) else (none)))))) else (some (t764 == 0))) = some r := H
  have A5 := Aside0.mk A50
  clear A50
  by_cases c6 : t765 = true
  ·subst c6
   have H1 : ((clamp_Window.f (IntKind.u64.wrap (a0 + 1)) a1).bind fun bt766 => ((clamp_Window.f a0 (IntKind.u64.wrap (a1 + 1))).bind fun bt768 => (if bt766.2 = true then (if bt766.1 = (wrap64 (t764 + 2097152)) then (if bt768.2 = true then (if bt768.1 = (wrap64 (t764 + 1048576)) then (if (bt766.2 == (decide (a0 < 1099511627776))) = true then (if (bt768.2 == (decide (a1 < 1099511627776))) = true then (some (decide (t764 ≥ 3145728))) else (none)) else (none)) else (none)) else (if (bt766.2 == (decide (a0 < 1099511627776))) = true then (if (bt768.2 == (decide (a1 < 1099511627776))) = true then (some (decide (t764 ≥ 3145728))) else (none)) else (none))) else (none)) else (if bt768.2 = true then (if bt768.1 = (wrap64 (t764 + 1048576)) then (if (bt766.2 == (decide (a0 < 1099511627776))) = true then (if (bt768.2 == (decide (a1 < 1099511627776))) = true then (some (decide (t764 ≥ 3145728))) else (none)) else (none)) else (none)) else (if (bt766.2 == (decide (a0 < 1099511627776))) = true then (if (bt768.2 == (decide (a1 < 1099511627776))) = true then (some (decide (t764 ≥ 3145728))) else (none)) else (none)))))) = some r := by rw [if_pos rfl] at H; exact H
   clear H
   have H := H1
   clear H1
   replace H := Option.bind_eq_some_iff.mp H
   obtain ⟨⟨t766, t767⟩, A70, H⟩ := H
   replace H : ((clamp_Window.f a0 (IntKind.u64.wrap (a1 + 1))).bind fun bt768 => (if t767 = true then (if t766 = (wrap64 (t764 + 2097152)) then (if bt768.2 = true then (if bt768.1 = (wrap64 (t764 + 1048576)) then (if (t767 == (decide (a0 < 1099511627776))) = true then (if (bt768.2 == (decide (a1 < 1099511627776))) = true then (some (decide (t764 ≥ 3145728))) else (none)) else (none)) else (none)) else (if (t767 == (decide (a0 < 1099511627776))) = true then (if (bt768.2 == (decide (a1 < 1099511627776))) = true then (some (decide (t764 ≥ 3145728))) else (none)) else (none))) else (none)) else (if bt768.2 = true then (if bt768.1 = (wrap64 (t764 + 1048576)) then (if (t767 == (decide (a0 < 1099511627776))) = true then (if (bt768.2 == (decide (a1 < 1099511627776))) = true then (some (decide (t764 ≥ 3145728))) else (none)) else (none)) else (none)) else (if (t767 == (decide (a0 < 1099511627776))) = true then (if (bt768.2 == (decide (a1 < 1099511627776))) = true then (some (decide (t764 ≥ 3145728))) else (none)) else (none))))) = some r := H
   have A7 := Aside0.mk A70
   clear A70
   replace H := Option.bind_eq_some_iff.mp H
   obtain ⟨⟨t768, t769⟩, A80, H⟩ := H
   replace H : (if t767 = true then (if t766 = (wrap64 (t764 + 2097152)) then (if t769 = true then (if t768 = (wrap64 (t764 + 1048576)) then (if (t767 == (decide (a0 < 1099511627776))) = true then (if (t769 == (decide (a1 < 1099511627776))) = true then (some (decide (t764 ≥ 3145728))) else (none)) else (none)) else (none)) else (if (t767 == (decide (a0 < 1099511627776))) = true then (if (t769 == (decide (a1 < 1099511627776))) = true then (some (decide (t764 ≥ 3145728))) else (none)) else (none))) else (none)) else (if t769 = true then (if t768 = (wrap64 (t764 + 1048576)) then (if (t767 == (decide (a0 < 1099511627776))) = true then (if (t769 == (decide (a1 < 1099511627776))) = true then (some (decide (t764 ≥ 3145728))) else (none)) else (none)) else (none)) else (if (t767 == (decide (a0 < 1099511627776))) = true then (if (t769 == (decide (a1 < 1099511627776))) = true then (some (decide (t764 ≥ 3145728))) else (none)) else (none)))) = some r := H
   have A8 := Aside0.mk A80
   clear A80
   by_cases c9 : t767 = true
   ·subst c9
    have H1 : (if t766 = (wrap64 (t764 + 2097152)) then (if t769 = true then (if t768 = (wrap64 (t764 + 1048576)) then (if (true == (decide (a0 < 1099511627776))) = true then (if (t769 == (decide (a1 < 1099511627776))) = true then (some (decide (t764 ≥ 3145728))) else (none)) else (none)) else (none)) else (if (true == (decide (a0 < 1099511627776))) = true then (if (t769 == (decide (a1 < 1099511627776))) = true then (some (decide (t764 ≥ 3145728))) else (none)) else (none))) else (none)) = some r := by rw [if_pos rfl] at H; exact H
    clear H
    have H := H1
    clear H1
    by_cases c10 : t766 = (wrap64 (t764 + 2097152))
    ·rw [if_pos c10] at H
     have c10b0 : (t766 == (wrap64 (t764 + 2097152))) = true := beq_iff_eq.mpr c10
     have c10b1 : (t766 != (wrap64 (t764 + 2097152))) = false := bne_eq_false_iff_eq.mpr c10
     clear c10
     by_cases c11 : t769 = true
     ·subst c11
      have H1 : (if t768 = (wrap64 (t764 + 1048576)) then (if (true == (decide (a0 < 1099511627776))) = true then (if (true == (decide (a1 < 1099511627776))) = true then (some (decide (t764 ≥ 3145728))) else (none)) else (none)) else (none)) = some r := by rw [if_pos rfl] at H; exact H
      clear H
      have H := H1
      clear H1
      by_cases c12 : t768 = (wrap64 (t764 + 1048576))
      ·rw [if_pos c12] at H
       have c12b0 : (t768 == (wrap64 (t764 + 1048576))) = true := beq_iff_eq.mpr c12
       have c12b1 : (t768 != (wrap64 (t764 + 1048576))) = false := bne_eq_false_iff_eq.mpr c12
       clear c12
       by_cases c13 : (true == (decide (a0 < 1099511627776))) = true
       ·rw [if_pos c13] at H
        have c13b0 : (true == (decide (a0 < 1099511627776))) = true := c13
        (try (have c13b1 : decide (true = (decide (a0 < 1099511627776))) = true := by simpa using c13))
        (try (have c13b2 : (true == (decide (a0 < 1099511627776))) = true := by simpa using c13))
        clear c13
        by_cases c14 : (true == (decide (a1 < 1099511627776))) = true
        ·rw [if_pos c14] at H
         have c14b0 : (true == (decide (a1 < 1099511627776))) = true := c14
         (try (have c14b1 : decide (true = (decide (a1 < 1099511627776))) = true := by simpa using c14))
         (try (have c14b2 : (true == (decide (a1 < 1099511627776))) = true := by simpa using c14))
         clear c14
         obtain rfl := Option.some.inj H
         go_enter Tryz.func11, Tryz.ntmps11
         go_wp2_with (first | ((with_reducible refine gate_callee (f := 38) rfl ?_); refine goesL_ (some 11) rfl rfl Tryz.func38 (by kernel_rfl) rfl #[] rfl argt ?_; (with_reducible refine (turnstonelaw12_awake.calls  true _ A3.out).mono ?_); rintro e w15 ⟨rfl, hb⟩; refine ⟨_, rfl, ?_⟩; replace HB := belb HB hb; (try clear hb); (try clear hb2); (try clear hk); (try clear hi)) | ((with_reducible refine gate_callee (f := 39) rfl ?_); refine goesL_ (some 16) rfl rfl Tryz.func39 (by kernel_rfl) rfl #[.int .u64 a0, .int .u64 a1] rfl argt ?_; (with_reducible refine (clamp_Window.calls a0 a1 t764 true _ A5.out).mono ?_); rintro e w' ⟨rfl, ⟨nd, rfl⟩⟩; refine ⟨_, rfl, ?_⟩) | ((with_reducible refine gate_callee (f := 39) rfl ?_); refine goesL_ (some 27) rfl rfl Tryz.func39 (by kernel_rfl) rfl #[.int .u64 (IntKind.u64.wrap (a0 + 1)), .int .u64 a1] rfl argt ?_; (with_reducible refine (clamp_Window.calls (IntKind.u64.wrap (a0 + 1)) a1 t766 true _ A7.out).mono ?_); rintro e w' ⟨rfl, ⟨nd, rfl⟩⟩; refine ⟨_, rfl, ?_⟩) | ((with_reducible refine gate_callee (f := 39) rfl ?_); refine goesL_ (some 34) rfl rfl Tryz.func39 (by kernel_rfl) rfl #[.int .u64 a0, .int .u64 (IntKind.u64.wrap (a1 + 1))] rfl argt ?_; (with_reducible refine (clamp_Window.calls a0 (IntKind.u64.wrap (a1 + 1)) t768 true _ A8.out).mono ?_); rintro e w' ⟨rfl, ⟨nd, rfl⟩⟩; refine ⟨_, rfl, ?_⟩))
         go_ret
         exact ⟨by first | rfl | (simp [errW_none, errW_some] <;> rfl) | (simp [*, errW_none, errW_some] <;> rfl), belt HB⟩
        ·rw [if_neg c14] at H
         exact absurd H (by simp)
       ·rw [if_neg c13] at H
        exact absurd H (by simp)
      ·rw [if_neg c12] at H
       exact absurd H (by simp)
     ·replace c11 := Bool.eq_false_iff.mpr c11
      subst c11
      have H1 : (if (true == (decide (a0 < 1099511627776))) = true then (if (false == (decide (a1 < 1099511627776))) = true then (some (decide (t764 ≥ 3145728))) else (none)) else (none)) = some r := by rw [if_neg (show ¬ (false = true) by decide)] at H; exact H
      clear H
      have H := H1
      clear H1
      by_cases c16 : (true == (decide (a0 < 1099511627776))) = true
      ·rw [if_pos c16] at H
       have c16b0 : (true == (decide (a0 < 1099511627776))) = true := c16
       (try (have c16b1 : decide (true = (decide (a0 < 1099511627776))) = true := by simpa using c16))
       (try (have c16b2 : (true == (decide (a0 < 1099511627776))) = true := by simpa using c16))
       clear c16
       by_cases c17 : (false == (decide (a1 < 1099511627776))) = true
       ·rw [if_pos c17] at H
        have c17b0 : (false == (decide (a1 < 1099511627776))) = true := c17
        (try (have c17b1 : decide (false = (decide (a1 < 1099511627776))) = true := by simpa using c17))
        (try (have c17b2 : (false == (decide (a1 < 1099511627776))) = true := by simpa using c17))
        clear c17
        obtain rfl := Option.some.inj H
        go_enter Tryz.func11, Tryz.ntmps11
        go_wp2_with (first | ((with_reducible refine gate_callee (f := 38) rfl ?_); refine goesL_ (some 11) rfl rfl Tryz.func38 (by kernel_rfl) rfl #[] rfl argt ?_; (with_reducible refine (turnstonelaw12_awake.calls  true _ A3.out).mono ?_); rintro e w18 ⟨rfl, hb⟩; refine ⟨_, rfl, ?_⟩; replace HB := belb HB hb; (try clear hb); (try clear hb2); (try clear hk); (try clear hi)) | ((with_reducible refine gate_callee (f := 39) rfl ?_); refine goesL_ (some 16) rfl rfl Tryz.func39 (by kernel_rfl) rfl #[.int .u64 a0, .int .u64 a1] rfl argt ?_; (with_reducible refine (clamp_Window.calls a0 a1 t764 true _ A5.out).mono ?_); rintro e w' ⟨rfl, ⟨nd, rfl⟩⟩; refine ⟨_, rfl, ?_⟩) | ((with_reducible refine gate_callee (f := 39) rfl ?_); refine goesL_ (some 27) rfl rfl Tryz.func39 (by kernel_rfl) rfl #[.int .u64 (IntKind.u64.wrap (a0 + 1)), .int .u64 a1] rfl argt ?_; (with_reducible refine (clamp_Window.calls (IntKind.u64.wrap (a0 + 1)) a1 t766 true _ A7.out).mono ?_); rintro e w' ⟨rfl, ⟨nd, rfl⟩⟩; refine ⟨_, rfl, ?_⟩) | ((with_reducible refine gate_callee (f := 39) rfl ?_); refine goesL_ (some 34) rfl rfl Tryz.func39 (by kernel_rfl) rfl #[.int .u64 a0, .int .u64 (IntKind.u64.wrap (a1 + 1))] rfl argt ?_; (with_reducible refine (clamp_Window.calls a0 (IntKind.u64.wrap (a1 + 1)) t768 false _ A8.out).mono ?_); rintro e w' ⟨rfl, ⟨nd, rfl⟩⟩; refine ⟨_, rfl, ?_⟩))
        go_ret
        exact ⟨by first | rfl | (simp [errW_none, errW_some] <;> rfl) | (simp [*, errW_none, errW_some] <;> rfl), belt HB⟩
       ·rw [if_neg c17] at H
        exact absurd H (by simp)
      ·rw [if_neg c16] at H
       exact absurd H (by simp)
    ·rw [if_neg c10] at H
     exact absurd H (by simp)
   ·replace c9 := Bool.eq_false_iff.mpr c9
    subst c9
    have H1 : (if t769 = true then (if t768 = (wrap64 (t764 + 1048576)) then (if (false == (decide (a0 < 1099511627776))) = true then (if (t769 == (decide (a1 < 1099511627776))) = true then (some (decide (t764 ≥ 3145728))) else (none)) else (none)) else (none)) else (if (false == (decide (a0 < 1099511627776))) = true then (if (t769 == (decide (a1 < 1099511627776))) = true then (some (decide (t764 ≥ 3145728))) else (none)) else (none))) = some r := by rw [if_neg (show ¬ (false = true) by decide)] at H; exact H
    clear H
    have H := H1
    clear H1
    by_cases c19 : t769 = true
    ·subst c19
     have H1 : (if t768 = (wrap64 (t764 + 1048576)) then (if (false == (decide (a0 < 1099511627776))) = true then (if (true == (decide (a1 < 1099511627776))) = true then (some (decide (t764 ≥ 3145728))) else (none)) else (none)) else (none)) = some r := by rw [if_pos rfl] at H; exact H
     clear H
     have H := H1
     clear H1
     by_cases c20 : t768 = (wrap64 (t764 + 1048576))
     ·rw [if_pos c20] at H
      have c20b0 : (t768 == (wrap64 (t764 + 1048576))) = true := beq_iff_eq.mpr c20
      have c20b1 : (t768 != (wrap64 (t764 + 1048576))) = false := bne_eq_false_iff_eq.mpr c20
      clear c20
      by_cases c21 : (false == (decide (a0 < 1099511627776))) = true
      ·rw [if_pos c21] at H
       have c21b0 : (false == (decide (a0 < 1099511627776))) = true := c21
       (try (have c21b1 : decide (false = (decide (a0 < 1099511627776))) = true := by simpa using c21))
       (try (have c21b2 : (false == (decide (a0 < 1099511627776))) = true := by simpa using c21))
       clear c21
       by_cases c22 : (true == (decide (a1 < 1099511627776))) = true
       ·rw [if_pos c22] at H
        have c22b0 : (true == (decide (a1 < 1099511627776))) = true := c22
        (try (have c22b1 : decide (true = (decide (a1 < 1099511627776))) = true := by simpa using c22))
        (try (have c22b2 : (true == (decide (a1 < 1099511627776))) = true := by simpa using c22))
        clear c22
        obtain rfl := Option.some.inj H
        go_enter Tryz.func11, Tryz.ntmps11
        go_wp2_with (first | ((with_reducible refine gate_callee (f := 38) rfl ?_); refine goesL_ (some 11) rfl rfl Tryz.func38 (by kernel_rfl) rfl #[] rfl argt ?_; (with_reducible refine (turnstonelaw12_awake.calls  true _ A3.out).mono ?_); rintro e w23 ⟨rfl, hb⟩; refine ⟨_, rfl, ?_⟩; replace HB := belb HB hb; (try clear hb); (try clear hb2); (try clear hk); (try clear hi)) | ((with_reducible refine gate_callee (f := 39) rfl ?_); refine goesL_ (some 16) rfl rfl Tryz.func39 (by kernel_rfl) rfl #[.int .u64 a0, .int .u64 a1] rfl argt ?_; (with_reducible refine (clamp_Window.calls a0 a1 t764 true _ A5.out).mono ?_); rintro e w' ⟨rfl, ⟨nd, rfl⟩⟩; refine ⟨_, rfl, ?_⟩) | ((with_reducible refine gate_callee (f := 39) rfl ?_); refine goesL_ (some 27) rfl rfl Tryz.func39 (by kernel_rfl) rfl #[.int .u64 (IntKind.u64.wrap (a0 + 1)), .int .u64 a1] rfl argt ?_; (with_reducible refine (clamp_Window.calls (IntKind.u64.wrap (a0 + 1)) a1 t766 false _ A7.out).mono ?_); rintro e w' ⟨rfl, ⟨nd, rfl⟩⟩; refine ⟨_, rfl, ?_⟩) | ((with_reducible refine gate_callee (f := 39) rfl ?_); refine goesL_ (some 34) rfl rfl Tryz.func39 (by kernel_rfl) rfl #[.int .u64 a0, .int .u64 (IntKind.u64.wrap (a1 + 1))] rfl argt ?_; (with_reducible refine (clamp_Window.calls a0 (IntKind.u64.wrap (a1 + 1)) t768 true _ A8.out).mono ?_); rintro e w' ⟨rfl, ⟨nd, rfl⟩⟩; refine ⟨_, rfl, ?_⟩))
        go_ret
        exact ⟨by first | rfl | (simp [errW_none, errW_some] <;> rfl) | (simp [*, errW_none, errW_some] <;> rfl), belt HB⟩
       ·rw [if_neg c22] at H
        exact absurd H (by simp)
      ·rw [if_neg c21] at H
       exact absurd H (by simp)
     ·rw [if_neg c20] at H
      exact absurd H (by simp)
    ·replace c19 := Bool.eq_false_iff.mpr c19
     subst c19
     have H1 : (if (false == (decide (a0 < 1099511627776))) = true then (if (false == (decide (a1 < 1099511627776))) = true then (some (decide (t764 ≥ 3145728))) else (none)) else (none)) = some r := by rw [if_neg (show ¬ (false = true) by decide)] at H; exact H
     clear H
     have H := H1
     clear H1
     by_cases c24 : (false == (decide (a0 < 1099511627776))) = true
     ·rw [if_pos c24] at H
      have c24b0 : (false == (decide (a0 < 1099511627776))) = true := c24
      (try (have c24b1 : decide (false = (decide (a0 < 1099511627776))) = true := by simpa using c24))
      (try (have c24b2 : (false == (decide (a0 < 1099511627776))) = true := by simpa using c24))
      clear c24
      by_cases c25 : (false == (decide (a1 < 1099511627776))) = true
      ·rw [if_pos c25] at H
       have c25b0 : (false == (decide (a1 < 1099511627776))) = true := c25
       (try (have c25b1 : decide (false = (decide (a1 < 1099511627776))) = true := by simpa using c25))
       (try (have c25b2 : (false == (decide (a1 < 1099511627776))) = true := by simpa using c25))
       clear c25
       obtain rfl := Option.some.inj H
       go_enter Tryz.func11, Tryz.ntmps11
       go_wp2_with (first | ((with_reducible refine gate_callee (f := 38) rfl ?_); refine goesL_ (some 11) rfl rfl Tryz.func38 (by kernel_rfl) rfl #[] rfl argt ?_; (with_reducible refine (turnstonelaw12_awake.calls  true _ A3.out).mono ?_); rintro e w26 ⟨rfl, hb⟩; refine ⟨_, rfl, ?_⟩; replace HB := belb HB hb; (try clear hb); (try clear hb2); (try clear hk); (try clear hi)) | ((with_reducible refine gate_callee (f := 39) rfl ?_); refine goesL_ (some 16) rfl rfl Tryz.func39 (by kernel_rfl) rfl #[.int .u64 a0, .int .u64 a1] rfl argt ?_; (with_reducible refine (clamp_Window.calls a0 a1 t764 true _ A5.out).mono ?_); rintro e w' ⟨rfl, ⟨nd, rfl⟩⟩; refine ⟨_, rfl, ?_⟩) | ((with_reducible refine gate_callee (f := 39) rfl ?_); refine goesL_ (some 27) rfl rfl Tryz.func39 (by kernel_rfl) rfl #[.int .u64 (IntKind.u64.wrap (a0 + 1)), .int .u64 a1] rfl argt ?_; (with_reducible refine (clamp_Window.calls (IntKind.u64.wrap (a0 + 1)) a1 t766 false _ A7.out).mono ?_); rintro e w' ⟨rfl, ⟨nd, rfl⟩⟩; refine ⟨_, rfl, ?_⟩) | ((with_reducible refine gate_callee (f := 39) rfl ?_); refine goesL_ (some 34) rfl rfl Tryz.func39 (by kernel_rfl) rfl #[.int .u64 a0, .int .u64 (IntKind.u64.wrap (a1 + 1))] rfl argt ?_; (with_reducible refine (clamp_Window.calls a0 (IntKind.u64.wrap (a1 + 1)) t768 false _ A8.out).mono ?_); rintro e w' ⟨rfl, ⟨nd, rfl⟩⟩; refine ⟨_, rfl, ?_⟩))
       go_ret
       exact ⟨by first | rfl | (simp [errW_none, errW_some] <;> rfl) | (simp [*, errW_none, errW_some] <;> rfl), belt HB⟩
      ·rw [if_neg c25] at H
       exact absurd H (by simp)
     ·rw [if_neg c24] at H
      exact absurd H (by simp)
  ·replace c6 := Bool.eq_false_iff.mpr c6
   subst c6
   have H1 : (some (t764 == 0)) = some r := by rw [if_neg (show ¬ (false = true) by decide)] at H; exact H
   clear H
   have H := H1
   clear H1
   obtain rfl := Option.some.inj H
   go_enter Tryz.func11, Tryz.ntmps11
   go_wp2_with (first | ((with_reducible refine gate_callee (f := 38) rfl ?_); refine goesL_ (some 11) rfl rfl Tryz.func38 (by kernel_rfl) rfl #[] rfl argt ?_; (with_reducible refine (turnstonelaw12_awake.calls  true _ A3.out).mono ?_); rintro e w27 ⟨rfl, hb⟩; refine ⟨_, rfl, ?_⟩; replace HB := belb HB hb; (try clear hb); (try clear hb2); (try clear hk); (try clear hi)) | ((with_reducible refine gate_callee (f := 39) rfl ?_); refine goesL_ (some 16) rfl rfl Tryz.func39 (by kernel_rfl) rfl #[.int .u64 a0, .int .u64 a1] rfl argt ?_; (with_reducible refine (clamp_Window.calls a0 a1 t764 false _ A5.out).mono ?_); rintro e w' ⟨rfl, ⟨nd, rfl⟩⟩; refine ⟨_, rfl, ?_⟩))
   go_ret
   exact ⟨by first | rfl | (simp [errW_none, errW_some] <;> rfl) | (simp [*, errW_none, errW_some] <;> rfl), belt HB⟩
 ·replace c4 := Bool.eq_false_iff.mpr c4
  subst c4
  have H1 : (none) = some r := by rw [if_neg (show ¬ (false = true) by decide)] at H; exact H
  clear H
  have H := H1
  clear H1
  exact absurd H (by simp)

/-- THE ONE PURE STATEMENT of turnstonelaw12_ClampRises. -/
def turnstonelaw12_ClampRises.Pure : Prop := ∀ (a0 : Int) (a1 : Int), (Lit.int .u64 a0).wf = true → (Lit.int .u64 a1).wf = true → turnstonelaw12_ClampRises.f a0 a1 = some true
theorem turnstonelaw12_ClampRises.walk (P : turnstonelaw12_ClampRises.Pure) (a0 : Int) (a1 : Int) (w : World) (w0 : (Lit.int .u64 a0).wf = true) (w1 : (Lit.int .u64 a1).wf = true) :
  Calls Tryz.prog 11 #[.int .u64 a0, .int .u64 a1] w fun e w' => e = .returned (.bool true) ∧ Below w.heap.size w w' := by
 have h := P a0 a1 w0 w1
 refine (turnstonelaw12_ClampRises.calls a0 a1 true w h).mono ?_
 rintro e w' ⟨rfl, hd⟩
 exact ⟨rfl, hd⟩

end Go.Proofs.YtfbkamgdkdnpoaaGreatDoor.Print
