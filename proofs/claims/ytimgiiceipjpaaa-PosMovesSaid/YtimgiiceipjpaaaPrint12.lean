/- What each Go function that is named below answers, as a Lean function, and that its walk comes to just that: for whatever arguments that function gives an answer for. Written by a program of this session (wip/mkpr.py, pr.sh). -/
import Derived.Test.YtimgiiceipjpaaaPrint0
import Derived.Test.YtimgiiceipjpaaaPrint3
import Derived.Test.YtimgiiceipjpaaaPrint5
import Derived.Test.YtimgiiceipjpaaaPrint7
namespace Go.Proofs.Ytimgiiceipjpaaa.Print
open Go.RowKit Go.Proofs.YtimgiiceipjpaaaW.PrintWords Go.Proofs.YtimgiiceipjpaaaW.PrintLast Go.Proofs.YtimgiiceipjpaaaW.PrintMore
attribute [local go_sem] max2_int min2_int max_two min_two max_three min_three max_four min_four   -- for this text's walks alone
open Go.Proofs.Ytimgiiceipjpaaa.Bits
attribute [local go_sem] add64_run0 sub64_run0 add64_run sub64_run
set_option linter.unusedVariables false
set_option linter.unusedSimpArgs false

/-! ### muldiv_Step: function 34 -/
def muldiv_Step.f (k : Nat) (a0 : Int) (a1 : Int) (a2 : Int) (a3 : Int) : Option (Int × Int × Bool) := if a3 ≥ a2 then (some (0, 0, false)) else ((bits_Mul64.f a0 a1).bind fun bt242 => (if (IntKind.u64.wrap (bt242.1 + (addHi bt242.2 a3 0))) ≥ a2 then (some (0, 0, false)) else ((bits_Div64.f k (IntKind.u64.wrap (bt242.1 + (addHi bt242.2 a3 0))) (addLo bt242.2 a3 0) a2).bind fun bt244 => (some (bt244.1, bt244.2, true)))))
theorem muldiv_Step.mono : ∀ a0 a1 a2 a3 k, LeO (muldiv_Step.f k a0 a1 a2 a3) (muldiv_Step.f (k + 1) a0 a1 a2 a3) := by
 intro a0 a1 a2 a3 k
 unfold muldiv_Step.f
 repeat' first
   | (with_reducible exact bits_Div64.mono _ _ _ _)
   | (with_reducible exact LeO.refl _)
   | (with_reducible exact LeO.none _)
   | (with_reducible refine LeO.ite ?_ ?_)
   | (with_reducible refine LeO.bind ?_ (fun _ => ?_))
   | exact bits_Div64.mono _ _ _ _
   | exact LeO.none _
   | refine LeO.ite ?_ ?_
   | refine LeO.bind ?_ (fun _ => ?_)
set_option maxHeartbeats 8000000 in
set_option maxRecDepth 100000 in
theorem muldiv_Step.calls (k : Nat) (a0 : Int) (a1 : Int) (a2 : Int) (a3 : Int) (r1 : Int) (r2 : Int) (r3 : Bool) (w : World) (h : muldiv_Step.f k a0 a1 a2 a3 = some (r1, r2, r3)) :
  Calls Try.prog 34 #[.int .u64 a0, .int .u64 a1, .int .u64 a2, .int .u64 a3] w fun e w' => e = .returned (.tuple #[.int .u64 r1, .int .u64 r2, .bool r3]) ∧ Drawn0 w w' := by
 have H : (if a3 ≥ a2 then (some (0, 0, false)) else ((bits_Mul64.f a0 a1).bind fun bt242 => (if (IntKind.u64.wrap (bt242.1 + (addHi bt242.2 a3 0))) ≥ a2 then (some (0, 0, false)) else ((bits_Div64.f k (IntKind.u64.wrap (bt242.1 + (addHi bt242.2 a3 0))) (addLo bt242.2 a3 0) a2).bind fun bt244 => (some (bt244.1, bt244.2, true)))))) = some (r1, r2, r3) := h
 clear h
 by_cases c5 : a3 ≥ a2
 ·rw [if_pos c5] at H
  have c5b0 : decide (a2 ≤ a3) = true := decide_eq_true c5
  clear c5
  simp only [Option.some.injEq, Prod.mk.injEq] at H
  obtain ⟨rfl, rfl, rfl⟩ := H
  go_enter Try.func34, Try.ntmps34
  go_wp2
  go_ret3
  exact ⟨by first | rfl | (simp; done) | (simp [*]; done), by repeat (first | exact Drawn0.refl _ | apply Drawn0.step)⟩
 ·rw [if_neg c5] at H
  have c5b0 : decide (a2 ≤ a3) = false := decide_eq_false c5
  clear c5
  replace H := Option.bind_eq_some_iff.mp H
  obtain ⟨⟨t242, t243⟩, A60, H⟩ := H
  replace H : (if (IntKind.u64.wrap (t242 + (addHi t243 a3 0))) ≥ a2 then (some (0, 0, false)) else ((bits_Div64.f k (IntKind.u64.wrap (t242 + (addHi t243 a3 0))) (addLo t243 a3 0) a2).bind fun bt244 => (some (bt244.1, bt244.2, true)))) = some (r1, r2, r3) := H
  have A6 := Aside0.mk A60
  clear A60
  by_cases c7 : (IntKind.u64.wrap (t242 + (addHi t243 a3 0))) ≥ a2
  ·rw [if_pos c7] at H
   have c7b0 : decide (a2 ≤ (IntKind.u64.wrap (t242 + (addHi t243 a3 0)))) = true := decide_eq_true c7
   clear c7
   simp only [Option.some.injEq, Prod.mk.injEq] at H
   obtain ⟨rfl, rfl, rfl⟩ := H
   go_enter Try.func34, Try.ntmps34
   go_wp2_with (first | ((with_reducible refine gate_callee (f := 66) rfl ?_); refine goesL_ (some 20) rfl rfl Try.func66 (by kernel_rfl) rfl #[.int .u64 a0, .int .u64 a1] rfl (by (try simp only [List.map_toArray, List.map_cons, List.map_nil]); first | done | rfl | (simp only [List.length_drop, List.length_take]; rfl)) ?_; (with_reducible refine (bits_Mul64.calls a0 a1 t242 t243 _ A6.out).mono ?_); rintro e w' ⟨rfl, ⟨nd, rfl⟩⟩; refine ⟨_, rfl, ?_⟩))
   go_ret3
   exact ⟨by first | rfl | (simp; done) | (simp [*]; done), by repeat (first | exact Drawn0.refl _ | apply Drawn0.step)⟩
  ·rw [if_neg c7] at H
   have c7b0 : decide (a2 ≤ (IntKind.u64.wrap (t242 + (addHi t243 a3 0)))) = false := decide_eq_false c7
   clear c7
   replace H := Option.bind_eq_some_iff.mp H
   obtain ⟨⟨t244, t245⟩, A80, H⟩ := H
   replace H : (some (t244, t245, true)) = some (r1, r2, r3) := H
   have A8 := Aside0.mk A80
   clear A80
   simp only [Option.some.injEq, Prod.mk.injEq] at H
   obtain ⟨rfl, rfl, rfl⟩ := H
   go_enter Try.func34, Try.ntmps34
   go_wp2_with (first | ((with_reducible refine gate_callee (f := 66) rfl ?_); refine goesL_ (some 20) rfl rfl Try.func66 (by kernel_rfl) rfl #[.int .u64 a0, .int .u64 a1] rfl (by (try simp only [List.map_toArray, List.map_cons, List.map_nil]); first | done | rfl | (simp only [List.length_drop, List.length_take]; rfl)) ?_; (with_reducible refine (bits_Mul64.calls a0 a1 t242 t243 _ A6.out).mono ?_); rintro e w' ⟨rfl, ⟨nd, rfl⟩⟩; refine ⟨_, rfl, ?_⟩) | ((with_reducible refine gate_callee (f := 68) rfl ?_); refine goesL_ (some 39) rfl rfl Try.func68 (by kernel_rfl) rfl #[.int .u64 (IntKind.u64.wrap (t242 + (addHi t243 a3 0))), .int .u64 (addLo t243 a3 0), .int .u64 a2] rfl (by (try simp only [List.map_toArray, List.map_cons, List.map_nil]); first | done | rfl | (simp only [List.length_drop, List.length_take]; rfl)) ?_; (with_reducible refine (bits_Div64.calls k (IntKind.u64.wrap (t242 + (addHi t243 a3 0))) (addLo t243 a3 0) a2 t244 t245 _ A8.out).mono ?_); rintro e w' ⟨rfl, ⟨nd, rfl⟩⟩; refine ⟨_, rfl, ?_⟩))
   go_ret3
   exact ⟨by first | rfl | (simp; done) | (simp [*]; done), by repeat (first | exact Drawn0.refl _ | apply Drawn0.step)⟩

/-! ### muldiv_Steps: function 38 -/
def muldiv_Steps.l0 : Nat → Int → Int → Int → Int → List Int → Int → Int → Option (Int × Int × Bool)
 | 0, _, _, _, _, _, _, _ => none
 | k + 1, x0, x1, x2, x8, x21, x22, x23 => if x23 < x22 then (if 0 ≤ x23 then (if x23 < (x21.length : Int) then ((muldiv_Step.f k (rd x21 x23) x0 x1 x2).bind fun bt247 => (if bt247.2.2 = true then (if (addHi x8 bt247.1 0) = 0 then (muldiv_Steps.l0 k x0 x1 bt247.2.1 (addLo x8 bt247.1 0) x21 x22 (wrap64 (x23 + 1))) else (some (0, 0, false))) else (some (0, 0, false)))) else (none)) else (none)) else (some (x8, x2, true))
def muldiv_Steps.f (k : Nat) (a0 : Int) (a1 : Int) (a2 : Int) (l3 : List Int) : Option (Int × Int × Bool) := if a2 ≥ a1 then (some (0, 0, false)) else (muldiv_Steps.l0 k a0 a1 a2 0 l3 (l3.length : Int) 0)
theorem muldiv_Steps.mono_l : ∀ k, (∀ y0 y1 y2 y3 y4 y5 y6, LeO (muldiv_Steps.l0 k y0 y1 y2 y3 y4 y5 y6) (muldiv_Steps.l0 (k + 1) y0 y1 y2 y3 y4 y5 y6))
 | 0 => fun _ _ _ _ _ _ _ r h => by simp [muldiv_Steps.l0] at h
 | k + 1 => by
  have ih0 := muldiv_Steps.mono_l k
  ·intro y0 y1 y2 y3 y4 y5 y6
   unfold muldiv_Steps.l0
   repeat' first
   | (with_reducible exact ih0 _ _ _ _ _ _ _)
   | (with_reducible exact muldiv_Step.mono _ _ _ _ _)
   | (with_reducible exact LeO.refl _)
   | (with_reducible exact LeO.none _)
   | (with_reducible refine LeO.ite ?_ ?_)
   | (with_reducible refine LeO.bind ?_ (fun _ => ?_))
   | exact ih0 _ _ _ _ _ _ _
   | exact muldiv_Step.mono _ _ _ _ _
   | exact LeO.none _
   | refine LeO.ite ?_ ?_
   | refine LeO.bind ?_ (fun _ => ?_)
theorem muldiv_Steps.mono : ∀ a0 a1 a2 a3 k, LeO (muldiv_Steps.f k a0 a1 a2 a3) (muldiv_Steps.f (k + 1) a0 a1 a2 a3) := by
 intro a0 a1 a2 a3 k
 have ih0 := muldiv_Steps.mono_l k
 unfold muldiv_Steps.f
 repeat' first
   | (with_reducible exact ih0 _ _ _ _ _ _ _)
   | (with_reducible exact muldiv_Step.mono _ _ _ _ _)
   | (with_reducible exact LeO.refl _)
   | (with_reducible exact LeO.none _)
   | (with_reducible refine LeO.ite ?_ ?_)
   | (with_reducible refine LeO.bind ?_ (fun _ => ?_))
   | exact ih0 _ _ _ _ _ _ _
   | exact muldiv_Step.mono _ _ _ _ _
   | exact LeO.none _
   | refine LeO.ite ?_ ?_
   | refine LeO.bind ?_ (fun _ => ?_)
set_option maxHeartbeats 8000000 in
set_option maxRecDepth 100000 in
theorem muldiv_Steps.calls (k : Nat) (a0 : Int) (a1 : Int) (a2 : Int) (A3 : Option Addr) (c3 : Nat) (l3 : List Int) (r1 : Int) (r2 : Int) (r3 : Bool) (w : World) (hr3 : Kd.C (Kd.int .u64) w A3 l3.length l3) (hc3 : l3.length ≤ c3) (h : muldiv_Steps.f k a0 a1 a2 l3 = some (r1, r2, r3)) :
  Calls Try.prog 38 #[.int .u64 a0, .int .u64 a1, .int .u64 a2, .slice A3 l3.length c3] w fun e w' => e = .returned (.tuple #[.int .u64 r1, .int .u64 r2, .bool r3]) ∧ Drawn0 w w' := by
 have HR3 := Aside0.mk hr3
 have HC3 := Aside0.mk hc3
 clear hr3 hc3
 have H : (if a2 ≥ a1 then (some (0, 0, false)) else (muldiv_Steps.l0 k a0 a1 a2 0 l3 (l3.length : Int) 0)) = some (r1, r2, r3) := h
 clear h
 by_cases c5 : a2 ≥ a1
 ·rw [if_pos c5] at H
  have c5b0 : decide (a1 ≤ a2) = true := decide_eq_true c5
  clear c5
  simp only [Option.some.injEq, Prod.mk.injEq] at H
  obtain ⟨rfl, rfl, rfl⟩ := H
  go_enter Try.func38, Try.ntmps38
  go_wp2
  go_ret3
  exact ⟨by first | rfl | (simp; done) | (simp [*]; done), by repeat (first | exact Drawn0.refl _ | apply Drawn0.step)⟩
 ·rw [if_neg c5] at H
  have c5b0 : decide (a1 ≤ a2) = false := decide_eq_false c5
  clear c5
  have H' := Aside0.mk H
  clear H
  go_enter Try.func38, Try.ntmps38
  go_wp2
  (try simp only [Act.put, List.setIfInBounds_toArray, List.set_cons_zero, List.set_cons_succ])
  go_loopg [2, 8, 23] k (fun kq v2 v8 v23 w' => ∃ (x2_1 : Int) (x8_1 : Int) (x23_1 : Int), v2 = .int .u64 x2_1 ∧ v8 = .int .u64 x8_1 ∧ v23 = .int .i64 x23_1 ∧ Aside0 (muldiv_Steps.l0 kq a0 a1 x2_1 x8_1 l3 (l3.length : Int) x23_1 = some (r1, r2, r3)) ∧ Aside0 (kq ≤ k) ∧ Drawn0 w w')
  case atStart => exact ⟨(a2), (0), (0), (by first | rfl | (simp; done) | (simp [*]; done)), (by first | rfl | (simp; done) | (simp [*]; done)), (by first | rfl | (simp; done) | (simp [*]; done)), H', ⟨Nat.le_refl _⟩, by repeat (first | exact Drawn0.refl _ | apply Drawn0.step)⟩
  case round =>
   clear H'
   try clear p2
   try clear c3
   try clear c5
   try clear c5b0
   obtain ⟨x2_1, x8_1, x23_1, rfl, rfl, rfl, HA, HK1, ⟨m1, rfl⟩⟩ := hrel
   cases gk with
   | zero => exact absurd HA.out (by simp [muldiv_Steps.l0])
   | succ k1 =>
    have H := HA.out
    clear HA
    simp only [muldiv_Steps.l0] at H
    by_cases c6 : x23_1 < (l3.length : Int)
    ·rw [if_pos c6] at H
     have c6b0 : decide (x23_1 < (l3.length : Int)) = true := decide_eq_true c6
     clear c6
     by_cases c7 : 0 ≤ x23_1
     ·rw [if_pos c7] at H
      have c7b0 : decide (0 ≤ x23_1) = true := decide_eq_true c7
      clear c7
      by_cases c8 : x23_1 < (l3.length : Int)
      ·rw [if_pos c8] at H
       have c8b0 : decide (x23_1 < (l3.length : Int)) = true := decide_eq_true c8
       clear c8
       replace H := Option.bind_eq_some_iff.mp H
       obtain ⟨⟨t247, t248, t249⟩, A90, H⟩ := H
       replace H : (if t249 = true then (if (addHi x8_1 t247 0) = 0 then (muldiv_Steps.l0 k1 a0 a1 t248 (addLo x8_1 t247 0) l3 (l3.length : Int) (wrap64 (x23_1 + 1))) else (some (0, 0, false))) else (some (0, 0, false))) = some (r1, r2, r3) := H
       have A9 := Aside0.mk A90
       clear A90
       by_cases c10 : t249 = true
       ·subst c10
        have H1 : (if (addHi x8_1 t247 0) = 0 then (muldiv_Steps.l0 k1 a0 a1 t248 (addLo x8_1 t247 0) l3 (l3.length : Int) (wrap64 (x23_1 + 1))) else (some (0, 0, false))) = some (r1, r2, r3) := by rw [if_pos rfl] at H; exact H
        clear H
        have H := H1
        clear H1
        by_cases c11 : (addHi x8_1 t247 0) = 0
        ·rw [if_pos c11] at H
         have c11b0 : ((addHi x8_1 t247 0) == 0) = true := beq_iff_eq.mpr c11
         have c11b1 : ((addHi x8_1 t247 0) != 0) = false := bne_eq_false_iff_eq.mpr c11
         clear c11
         have H' := Aside0.mk H
         clear H
         have p246 : 0 ≤ (x23_1 : Int) := of_decide_eq_true (by first | (with_reducible assumption) | assumption)
         have q246 : x23_1 < (l3.length : Int) := of_decide_eq_true (by first | (with_reducible assumption) | assumption)
         obtain ⟨ad246, e246, hx246_0⟩ := Kd.at_int HR3.out x23_1 p246 q246
         cases e246
         replace p246 := eq_true p246
         replace q246 := eq_true q246
         go_wp2_with (first | ((with_reducible refine gate_callee (f := 34) rfl ?_); refine goesL_ (some 32) rfl rfl Try.func34 (by kernel_rfl) rfl #[.int .u64 (rd l3 x23_1), .int .u64 a0, .int .u64 a1, .int .u64 x2_1] rfl (by (try simp only [List.map_toArray, List.map_cons, List.map_nil]); first | done | rfl | (simp only [List.length_drop, List.length_take]; rfl)) ?_; (with_reducible refine (muldiv_Step.calls k1 (rd l3 x23_1) a0 a1 x2_1 t247 t248 true _ A9.out).mono ?_); rintro e w' ⟨rfl, ⟨nd, rfl⟩⟩; refine ⟨_, rfl, ?_⟩))
         go_roundg k1
         case measure => have := HK1.out; omega
         case rel => exact ⟨(t248), ((addLo x8_1 t247 0)), (wrap64 (x23_1 + 1)), (by first | rfl | (simp; done) | (simp [*]; done)), (by first | rfl | (simp; done) | (simp [*]; done)), (by first | rfl | (simp; done) | (simp [*]; done)), H', ⟨by have := HK1.out; omega⟩, by repeat (first | exact Drawn0.refl _ | apply Drawn0.step)⟩
        ·rw [if_neg c11] at H
         have c11b0 : ((addHi x8_1 t247 0) == 0) = false := beq_eq_false_iff_ne.mpr c11
         have c11b1 : ((addHi x8_1 t247 0) != 0) = true := bne_iff_ne.mpr c11
         simp only [Option.some.injEq, Prod.mk.injEq] at H
         obtain ⟨rfl, rfl, rfl⟩ := H
         have p246 : 0 ≤ (x23_1 : Int) := of_decide_eq_true (by first | (with_reducible assumption) | assumption)
         have q246 : x23_1 < (l3.length : Int) := of_decide_eq_true (by first | (with_reducible assumption) | assumption)
         obtain ⟨ad246, e246, hx246_0⟩ := Kd.at_int HR3.out x23_1 p246 q246
         cases e246
         replace p246 := eq_true p246
         replace q246 := eq_true q246
         go_wp2_with (first | ((with_reducible refine gate_callee (f := 34) rfl ?_); refine goesL_ (some 32) rfl rfl Try.func34 (by kernel_rfl) rfl #[.int .u64 (rd l3 x23_1), .int .u64 a0, .int .u64 a1, .int .u64 x2_1] rfl (by (try simp only [List.map_toArray, List.map_cons, List.map_nil]); first | done | rfl | (simp only [List.length_drop, List.length_take]; rfl)) ?_; (with_reducible refine (muldiv_Step.calls k1 (rd l3 x23_1) a0 a1 x2_1 t247 t248 true _ A9.out).mono ?_); rintro e w' ⟨rfl, ⟨nd, rfl⟩⟩; refine ⟨_, rfl, ?_⟩))
         go_ret3
         exact ⟨by first | rfl | (simp; done) | (simp [*]; done), by repeat (first | exact Drawn0.refl _ | apply Drawn0.step)⟩
       ·replace c10 := Bool.eq_false_iff.mpr c10
        subst c10
        have H1 : (some (0, 0, false)) = some (r1, r2, r3) := by rw [if_neg (show ¬ (false = true) by decide)] at H; exact H
        clear H
        have H := H1
        clear H1
        simp only [Option.some.injEq, Prod.mk.injEq] at H
        obtain ⟨rfl, rfl, rfl⟩ := H
        have p246 : 0 ≤ (x23_1 : Int) := of_decide_eq_true (by first | (with_reducible assumption) | assumption)
        have q246 : x23_1 < (l3.length : Int) := of_decide_eq_true (by first | (with_reducible assumption) | assumption)
        obtain ⟨ad246, e246, hx246_0⟩ := Kd.at_int HR3.out x23_1 p246 q246
        cases e246
        replace p246 := eq_true p246
        replace q246 := eq_true q246
        go_wp2_with (first | ((with_reducible refine gate_callee (f := 34) rfl ?_); refine goesL_ (some 32) rfl rfl Try.func34 (by kernel_rfl) rfl #[.int .u64 (rd l3 x23_1), .int .u64 a0, .int .u64 a1, .int .u64 x2_1] rfl (by (try simp only [List.map_toArray, List.map_cons, List.map_nil]); first | done | rfl | (simp only [List.length_drop, List.length_take]; rfl)) ?_; (with_reducible refine (muldiv_Step.calls k1 (rd l3 x23_1) a0 a1 x2_1 t247 t248 false _ A9.out).mono ?_); rintro e w' ⟨rfl, ⟨nd, rfl⟩⟩; refine ⟨_, rfl, ?_⟩))
        go_ret3
        exact ⟨by first | rfl | (simp; done) | (simp [*]; done), by repeat (first | exact Drawn0.refl _ | apply Drawn0.step)⟩
      ·rw [if_neg c8] at H
       exact absurd H (by simp)
     ·rw [if_neg c7] at H
      exact absurd H (by simp)
    ·rw [if_neg c6] at H
     have c6b0 : decide (x23_1 < (l3.length : Int)) = false := decide_eq_false c6
     clear c6
     simp only [Option.some.injEq, Prod.mk.injEq] at H
     obtain ⟨rfl, rfl, rfl⟩ := H
     go_wp2
     go_ret3
     exact ⟨by first | rfl | (simp; done) | (simp [*]; done), by repeat (first | exact Drawn0.refl _ | apply Drawn0.step)⟩

/-! ### turnstonelaw02_awake: function 33 -/
def turnstonelaw02_awake.f (k : Nat)  : Option (Bool) := (muldiv_Step.f k 3 5 4 1).bind fun bt250 => ((muldiv_Steps.f k 1 3 0 (([1, 1, 1] : List Int))).bind fun bt256 => ((turnstonelaw01_Awake.f k).bind fun t259 => (if t259 = true then (if bt250.2.2 = true then (if bt256.2.2 = true then (if bt250.1 = 4 then (if bt250.2.1 = 0 then (if bt256.1 = 1 then (some (bt256.2.1 == 0)) else (none)) else (none)) else (none)) else (none)) else (none)) else (none))))
theorem turnstonelaw02_awake.mono : ∀ k, LeO (turnstonelaw02_awake.f k ) (turnstonelaw02_awake.f (k + 1) ) := by
 intro  k
 unfold turnstonelaw02_awake.f
 repeat' first
   | (with_reducible exact muldiv_Step.mono _ _ _ _ _)
   | (with_reducible exact muldiv_Steps.mono _ _ _ _ _)
   | (with_reducible exact turnstonelaw01_Awake.mono _)
   | (with_reducible exact LeO.refl _)
   | (with_reducible exact LeO.none _)
   | (with_reducible refine LeO.ite ?_ ?_)
   | (with_reducible refine LeO.bind ?_ (fun _ => ?_))
   | exact muldiv_Step.mono _ _ _ _ _
   | exact muldiv_Steps.mono _ _ _ _ _
   | exact turnstonelaw01_Awake.mono _
   | exact LeO.none _
   | refine LeO.ite ?_ ?_
   | refine LeO.bind ?_ (fun _ => ?_)
set_option maxHeartbeats 8000000 in
set_option maxRecDepth 100000 in
theorem turnstonelaw02_awake.calls (k : Nat)  (r : Bool) (w : World) (h : turnstonelaw02_awake.f k  = some r) :
  Calls Try.prog 33 #[] w fun e w' => e = .returned (.bool r) ∧ Below w.heap.size w w' := by
 have HB := Aside0.mk (Below.refl w.heap.size w)
 have H : ((muldiv_Step.f k 3 5 4 1).bind fun bt250 => ((muldiv_Steps.f k 1 3 0 (([1, 1, 1] : List Int))).bind fun bt256 => ((turnstonelaw01_Awake.f k).bind fun t259 => (if t259 = true then (if bt250.2.2 = true then (if bt256.2.2 = true then (if bt250.1 = 4 then (if bt250.2.1 = 0 then (if bt256.1 = 1 then (some (bt256.2.1 == 0)) else (none)) else (none)) else (none)) else (none)) else (none)) else (none))))) = some r := h
 clear h
 replace H := Option.bind_eq_some_iff.mp H
 obtain ⟨⟨t250, t251, t252⟩, A10, H⟩ := H
 replace H : ((muldiv_Steps.f k 1 3 0 (([1, 1, 1] : List Int))).bind fun bt256 => ((turnstonelaw01_Awake.f k).bind fun t259 => (if t259 = true then (if t252 = true then (if bt256.2.2 = true then (if t250 = 4 then (if t251 = 0 then (if bt256.1 = 1 then (some (bt256.2.1 == 0)) else (none)) else (none)) else (none)) else (none)) else (none)) else (none)))) = some r := H
 have A1 := Aside0.mk A10
 clear A10
 obtain ⟨y253, hy253⟩ : ∃ y_ : List Int, y_ = (([1, 1, 1] : List Int)) := ⟨_, rfl⟩
 replace H : ((muldiv_Steps.f k 1 3 0 y253).bind fun bt256 => ((turnstonelaw01_Awake.f k).bind fun t259 => (if t259 = true then (if t252 = true then (if bt256.2.2 = true then (if t250 = 4 then (if t251 = 0 then (if bt256.1 = 1 then (some (bt256.2.1 == 0)) else (none)) else (none)) else (none)) else (none)) else (none)) else (none)))) = some r := by first | (rw [hy253]; with_reducible exact H) | (have H2_ := (Option.bind_some _ _).symm.trans H; rw [hy253]; with_reducible exact H2_) | (have H2_ := (Option.bind_some _ _).symm.trans H; with_reducible exact H2_) | with_reducible exact H | (rw [hy253]; exact H) | exact H
 have Ny253 := Aside0.mk hy253
 clear hy253
 replace H := Option.bind_eq_some_iff.mp H
 obtain ⟨⟨t256, t257, t258⟩, A20, H⟩ := H
 replace H : ((turnstonelaw01_Awake.f k).bind fun t259 => (if t259 = true then (if t252 = true then (if t258 = true then (if t250 = 4 then (if t251 = 0 then (if t256 = 1 then (some (t257 == 0)) else (none)) else (none)) else (none)) else (none)) else (none)) else (none))) = some r := H
 have A2 := Aside0.mk A20
 clear A20
 replace H := Option.bind_eq_some_iff.mp H
 obtain ⟨t259, A30, H⟩ := H
 replace H : (if t259 = true then (if t252 = true then (if t258 = true then (if t250 = 4 then (if t251 = 0 then (if t256 = 1 then (some (t257 == 0)) else (none)) else (none)) else (none)) else (none)) else (none)) else (none)) = some r := H
 have A3 := Aside0.mk A30
 clear A30
 by_cases c4 : t259 = true
 ·subst c4
  have H1 : (if t252 = true then (if t258 = true then (if t250 = 4 then (if t251 = 0 then (if t256 = 1 then (some (t257 == 0)) else (none)) else (none)) else (none)) else (none)) else (none)) = some r := by rw [if_pos rfl] at H; exact H
  clear H
  have H := H1
  clear H1
  by_cases c5 : t252 = true
  ·subst c5
   have H1 : (if t258 = true then (if t250 = 4 then (if t251 = 0 then (if t256 = 1 then (some (t257 == 0)) else (none)) else (none)) else (none)) else (none)) = some r := by rw [if_pos rfl] at H; exact H
   clear H
   have H := H1
   clear H1
   by_cases c6 : t258 = true
   ·subst c6
    have H1 : (if t250 = 4 then (if t251 = 0 then (if t256 = 1 then (some (t257 == 0)) else (none)) else (none)) else (none)) = some r := by rw [if_pos rfl] at H; exact H
    clear H
    have H := H1
    clear H1
    by_cases c7 : t250 = 4
    ·rw [if_pos c7] at H
     have c7b0 : (t250 == 4) = true := beq_iff_eq.mpr c7
     have c7b1 : (t250 != 4) = false := bne_eq_false_iff_eq.mpr c7
     clear c7
     by_cases c8 : t251 = 0
     ·rw [if_pos c8] at H
      have c8b0 : (t251 == 0) = true := beq_iff_eq.mpr c8
      have c8b1 : (t251 != 0) = false := bne_eq_false_iff_eq.mpr c8
      clear c8
      by_cases c9 : t256 = 1
      ·rw [if_pos c9] at H
       have c9b0 : (t256 == 1) = true := beq_iff_eq.mpr c9
       have c9b1 : (t256 != 1) = false := bne_eq_false_iff_eq.mpr c9
       clear c9
       obtain rfl := Option.some.inj H
       go_enter Try.func33, Try.ntmps33
       go_wp2_with (first | ((with_reducible refine gate_callee (f := 34) rfl ?_); refine goesL_ (some 8) rfl rfl Try.func34 (by kernel_rfl) rfl #[.int .u64 3, .int .u64 5, .int .u64 4, .int .u64 1] rfl (by (try simp only [List.map_toArray, List.map_cons, List.map_nil]); first | done | rfl | (simp only [List.length_drop, List.length_take]; rfl)) ?_; (with_reducible refine (muldiv_Step.calls k 3 5 4 1 t250 t251 true _ A1.out).mono ?_); rintro e w' ⟨rfl, ⟨nd, rfl⟩⟩; refine ⟨_, rfl, ?_⟩) | ((with_reducible refine gate_dst (N := 13) rfl ?_); refine Kd.R_lit (Kd.int .u64) _ 22 ?hg (N := 13) ?hd (xs := ([1, 1, 1] : List Int)) (inner := [.int .u64 1, .int .u64 1, .int .u64 1]) (ok := fun _ => True) (okp := fun _ => True) ?hr ?hp (fun _ hk => hk) trivial (Below.refl _ _) (Nat.le_refl _) (by simp) ?_; (case hd => rfl); (case hg => rfl); (case hr => first | (go_simp; done) | (go_simp; rfl)); (case hp => exact (Reps.one (show Kd.M (Kd.int .u64) _ _ _ 1 [.int .u64 1] from rfl) (Reps.one (show Kd.M (Kd.int .u64) _ _ _ 1 [.int .u64 1] from rfl) (Reps.one (show Kd.M (Kd.int .u64) _ _ _ 1 [.int .u64 1] from rfl) (Reps.none _ _))))); intro v254 w10 ho11 hb hg_ hnew_; clear hg_ hnew_; (first | rw [← Ny253.out] at ho11 | (simp only [Int.reduceToNat] at ho11; rw [← Ny253.out] at ho11)); have n0_ := Aside0.mk (Kd.R_lower ho11 (below_size (by repeat (first | (with_reducible first | exact HB.out | apply below_alloc | apply pw_below_drewN | apply below_drew1) | exact HB.out)))); have n1_ := Aside0.mk (below_step (by repeat (first | (with_reducible first | exact HB.out | apply below_alloc | apply pw_below_drewN | apply below_drew1) | exact HB.out)) hb); clear HB; have HO255 := n0_; have HB := n1_; clear n0_ n1_; clear hb ho11; obtain ⟨Ao12, co12, eo12⟩ := Kd.R_slice HO255.out; subst eo12) | ((with_reducible refine gate_callee (f := 38) rfl ?_); refine goesL_ (some 14) rfl rfl Try.func38 (by kernel_rfl) rfl #[.int .u64 1, .int .u64 3, .int .u64 0, .slice Ao12 y253.length co12] rfl (by (try simp only [List.map_toArray, List.map_cons, List.map_nil]); first | done | rfl | (simp only [List.length_drop, List.length_take]; rfl)) ?_; (with_reducible refine (muldiv_Steps.calls k 1 3 0 _ _ y253 t256 t257 true _ ?side1 ?side2 A2.out).mono ?_); (case side1 => repeat (first | exact (Kd.R_reads' HO255.out).2.2 | (with_reducible refine Kd.C_alloc ?_ _) | (with_reducible refine Kd.C_drewN ?_ _) | (with_reducible refine Kd.C_drew ?_))); (case side2 => exact (Kd.R_reads' HO255.out).2.1); rintro e w' ⟨rfl, ⟨nd, rfl⟩⟩; refine ⟨_, rfl, ?_⟩) | ((with_reducible refine gate_callee (f := 58) rfl ?_); refine goesL_ (some 18) rfl rfl Try.func58 (by kernel_rfl) rfl #[] rfl (by (try simp only [List.map_toArray, List.map_cons, List.map_nil]); first | done | rfl | (simp only [List.length_drop, List.length_take]; rfl)) ?_; (with_reducible refine (turnstonelaw01_Awake.calls k  true _ A3.out).mono ?_); rintro e w13 ⟨rfl, hb⟩; refine ⟨_, rfl, ?_⟩; have n0_ := Aside0.mk (Kd.R_below (by (with_reducible repeat (first | apply Kd.R_alloc | apply Kd.R_drewN | apply Kd.R_drew)); exact HO255.out) hb); have n1_ := Aside0.mk (below_step (by repeat (first | (with_reducible first | exact HB.out | apply below_alloc | apply pw_below_drewN | apply below_drew1) | exact HB.out)) hb); clear HO255; clear HB; have HO255 := n0_; have HB := n1_; clear n0_ n1_; (try clear hb); (try clear hb2); (try clear hk); (try clear hi)))
       go_ret
       exact ⟨by first | rfl | (simp [errW_none, errW_some] <;> rfl) | (simp [*, errW_none, errW_some] <;> rfl), by repeat (first | (with_reducible first | exact HB.out | apply below_alloc | apply pw_below_drewN | apply below_drew1) | exact HB.out)⟩
      ·rw [if_neg c9] at H
       exact absurd H (by simp)
     ·rw [if_neg c8] at H
      exact absurd H (by simp)
    ·rw [if_neg c7] at H
     exact absurd H (by simp)
   ·replace c6 := Bool.eq_false_iff.mpr c6
    subst c6
    have H1 : (none) = some r := by rw [if_neg (show ¬ (false = true) by decide)] at H; exact H
    clear H
    have H := H1
    clear H1
    exact absurd H (by simp)
  ·replace c5 := Bool.eq_false_iff.mpr c5
   subst c5
   have H1 : (none) = some r := by rw [if_neg (show ¬ (false = true) by decide)] at H; exact H
   clear H
   have H := H1
   clear H1
   exact absurd H (by simp)
 ·replace c4 := Bool.eq_false_iff.mpr c4
  subst c4
  have H1 : (none) = some r := by rw [if_neg (show ¬ (false = true) by decide)] at H; exact H
  clear H
  have H := H1
  clear H1
  exact absurd H (by simp)

end Go.Proofs.Ytimgiiceipjpaaa.Print
