/- What each Go function that is named below answers, as a Lean function, and that its walk comes to just that: for whatever arguments that function gives an answer for. Written by a program of this session (wip/mkpr.py, pr.sh). -/
import Derived.Test.YtimgiiceipjpaaaPrint0
import Derived.Test.YtimgiiceipjpaaaPrint3
import Derived.Test.YtimgiiceipjpaaaPrint8
namespace Go.Proofs.Ytimgiiceipjpaaa.Print
open Go.RowKit Go.Proofs.YtimgiiceipjpaaaW.PrintWords Go.Proofs.YtimgiiceipjpaaaW.PrintLast Go.Proofs.YtimgiiceipjpaaaW.PrintMore
attribute [local go_sem] max2_int min2_int max_two min_two max_three min_three max_four min_four   -- for this text's walks alone
open Go.Proofs.Ytimgiiceipjpaaa.Bits Go.Proofs.Ytimgiiceipjpaaa.Short
attribute [local go_sem] add64_run0 sub64_run0 add64_run sub64_run
set_option linter.unusedVariables false
set_option linter.unusedSimpArgs false

/-! ### vtime_Spread: function 28 -/
def vtime_Spread.f (k : Nat) (l0 : List Int) : Option (Int) := if (l0.length : Int) = 0 then (some 0) else (if 0 < (l0.length : Int) then ((vtime_Last.f k (rd l0 0) l0).bind fun t164 => ((vtime_First.f k (rd l0 0) l0).bind fun t166 => ((vtime_Time_Since.f t164 t166).bind fun t167 => (some (IntKind.u64.wrap (t167)))))) else (none))
theorem vtime_Spread.mono : ∀ a0 k, LeO (vtime_Spread.f k a0) (vtime_Spread.f (k + 1) a0) := by
 intro a0 k
 unfold vtime_Spread.f
 repeat' first
   | (with_reducible exact vtime_First.mono _ _ _)
   | (with_reducible exact vtime_Last.mono _ _ _)
   | (with_reducible exact LeO.refl _)
   | (with_reducible exact LeO.none _)
   | (with_reducible refine LeO.ite ?_ ?_)
   | (with_reducible refine LeO.bind ?_ (fun _ => ?_))
   | exact vtime_First.mono _ _ _
   | exact vtime_Last.mono _ _ _
   | exact LeO.none _
   | refine LeO.ite ?_ ?_
   | refine LeO.bind ?_ (fun _ => ?_)
set_option maxHeartbeats 8000000 in
set_option maxRecDepth 100000 in
theorem vtime_Spread.calls (k : Nat) (A0 : Option Addr) (c0 : Nat) (l0 : List Int) (r : Int) (w : World) (hr0 : Kd.C (Kd.int .u64) w A0 l0.length l0) (hc0 : l0.length ≤ c0) (h : vtime_Spread.f k l0 = some r) :
  Calls Try.prog 28 #[.slice A0 l0.length c0] w fun e w' => e = .returned (.int .u64 r) ∧ Drawn0 w w' := by
 have HR0 := Aside0.mk hr0
 have HC0 := Aside0.mk hc0
 clear hr0 hc0
 have H : (if (l0.length : Int) = 0 then (some 0) else (if 0 < (l0.length : Int) then ((vtime_Last.f k (rd l0 0) l0).bind fun t164 => ((vtime_First.f k (rd l0 0) l0).bind fun t166 => ((vtime_Time_Since.f t164 t166).bind fun t167 => (some (IntKind.u64.wrap (t167)))))) else (none))) = some r := h
 clear h
 by_cases c2 : (l0.length : Int) = 0
 ·rw [if_pos c2] at H
  have c2b0 : ((l0.length : Int) == 0) = true := beq_iff_eq.mpr c2
  have c2b1 : ((l0.length : Int) != 0) = false := bne_eq_false_iff_eq.mpr c2
  clear c2
  obtain rfl := Option.some.inj H
  go_enter Try.func28, Try.ntmps28
  go_wp2
  repeat (go_quiet (fail); try go_wp2)
  go_ret
  exact ⟨by first | rfl | (simp; done) | (simp [*]; done), by repeat (first | exact Drawn0.refl _ | apply Drawn0.step)⟩
 ·rw [if_neg c2] at H
  have c2b0 : ((l0.length : Int) == 0) = false := beq_eq_false_iff_ne.mpr c2
  have c2b1 : ((l0.length : Int) != 0) = true := bne_iff_ne.mpr c2
  have c2b2 : ¬ (l0 = []) := fun h_ => c2 (by rw [h_]; rfl)
  by_cases c3 : 0 < (l0.length : Int)
  ·rw [if_pos c3] at H
   have c3b0 : decide (0 < (l0.length : Int)) = true := decide_eq_true c3
   have c3b1 : decide (0 < l0.length) = true := decide_eq_true (by omega)
   clear c3
   replace H := Option.bind_eq_some_iff.mp H
   obtain ⟨t164, A40, H⟩ := H
   replace H : ((vtime_First.f k (rd l0 0) l0).bind fun t166 => ((vtime_Time_Since.f t164 t166).bind fun t167 => (some (IntKind.u64.wrap (t167))))) = some r := H
   have A4 := Aside0.mk A40
   clear A40
   replace H := Option.bind_eq_some_iff.mp H
   obtain ⟨t166, A50, H⟩ := H
   replace H : ((vtime_Time_Since.f t164 t166).bind fun t167 => (some (IntKind.u64.wrap (t167)))) = some r := H
   have A5 := Aside0.mk A50
   clear A50
   replace H := Option.bind_eq_some_iff.mp H
   obtain ⟨t167, A60, H⟩ := H
   replace H : (some (IntKind.u64.wrap (t167))) = some r := H
   have A6 := Aside0.mk A60
   clear A60
   obtain rfl := Option.some.inj H
   have p163 : 0 ≤ (0 : Int) := (by omega)
   have q163 : 0 < (l0.length : Int) := of_decide_eq_true (by first | (with_reducible assumption) | assumption)
   obtain ⟨ad163, e163, hx163_0⟩ := Kd.at_int HR0.out 0 p163 q163
   cases e163
   have qi163 : (0 < l0.length) = True := eq_true (by omega)
   (try rw [show ((0 : Int)).toNat = 0 from rfl] at hx163_0)
   (try rw [Addr.add_zero'] at hx163_0)
   replace p163 := eq_true p163
   replace q163 := eq_true q163
   go_enter Try.func28, Try.ntmps28
   go_wp2_with (first | (go_at_call 31; (with_reducible refine (vtime_Last.calls k (rd l0 0) _ _ l0 t164 _ ?side1 ?side2 A4.out).mono ?_); (case side1 => repeat (first | exact HR0.out | (with_reducible refine Kd.C_alloc ?_ _) | (with_reducible refine Kd.C_drewN ?_ _) | (with_reducible refine Kd.C_drew ?_))); (case side2 => exact HC0.out); rintro e w' ⟨rfl, ⟨nd, rfl⟩⟩; (try first | exact ⟨rfl, _, World.drewN_drewN _ _ _⟩ | exact ⟨rfl, _, Eq.trans (World.drewN_drewN _ _ _) (congrArg (World.drewN _) (Nat.add_assoc _ _ _))⟩); have p165 : 0 ≤ (0 : Int) := (by omega); have q165 : 0 < (l0.length : Int) := of_decide_eq_true (by first | (with_reducible assumption) | assumption); obtain ⟨ad165, e165, hx165_0⟩ := Kd.at_int HR0.out 0 p165 q165; obtain rfl : ad163 = ad165 := (by injection e165); have qi165 : (0 < l0.length) = True := eq_true (by omega); (try rw [show ((0 : Int)).toNat = 0 from rfl] at hx165_0); (try rw [Addr.add_zero'] at hx165_0); replace p165 := eq_true p165; replace q165 := eq_true q165) | (go_at_call 29; (with_reducible refine (vtime_First.calls k (rd l0 0) _ _ l0 t166 _ ?side1 ?side2 A5.out).mono ?_); (case side1 => repeat (first | exact HR0.out | (with_reducible refine Kd.C_alloc ?_ _) | (with_reducible refine Kd.C_drewN ?_ _) | (with_reducible refine Kd.C_drew ?_))); (case side2 => exact HC0.out); rintro e w' ⟨rfl, ⟨nd, rfl⟩⟩; (try first | exact ⟨rfl, _, World.drewN_drewN _ _ _⟩ | exact ⟨rfl, _, Eq.trans (World.drewN_drewN _ _ _) (congrArg (World.drewN _) (Nat.add_assoc _ _ _))⟩)) | (go_at_call 20; (with_reducible refine (vtime_Time_Since.calls t164 t166 t167 _ A6.out).mono ?_); rintro e w' ⟨rfl, ⟨nd, rfl⟩⟩; (try first | exact ⟨rfl, _, World.drewN_drewN _ _ _⟩ | exact ⟨rfl, _, Eq.trans (World.drewN_drewN _ _ _) (congrArg (World.drewN _) (Nat.add_assoc _ _ _))⟩)))
   repeat (go_quiet (first | (go_at_call 31; (with_reducible refine (vtime_Last.calls k (rd l0 0) _ _ l0 t164 _ ?side1 ?side2 A4.out).mono ?_); (case side1 => repeat (first | exact HR0.out | (with_reducible refine Kd.C_alloc ?_ _) | (with_reducible refine Kd.C_drewN ?_ _) | (with_reducible refine Kd.C_drew ?_))); (case side2 => exact HC0.out); rintro e w' ⟨rfl, ⟨nd, rfl⟩⟩; (try first | exact ⟨rfl, _, World.drewN_drewN _ _ _⟩ | exact ⟨rfl, _, Eq.trans (World.drewN_drewN _ _ _) (congrArg (World.drewN _) (Nat.add_assoc _ _ _))⟩); have p165 : 0 ≤ (0 : Int) := (by omega); have q165 : 0 < (l0.length : Int) := of_decide_eq_true (by first | (with_reducible assumption) | assumption); obtain ⟨ad165, e165, hx165_0⟩ := Kd.at_int HR0.out 0 p165 q165; obtain rfl : ad163 = ad165 := (by injection e165); have qi165 : (0 < l0.length) = True := eq_true (by omega); (try rw [show ((0 : Int)).toNat = 0 from rfl] at hx165_0); (try rw [Addr.add_zero'] at hx165_0); replace p165 := eq_true p165; replace q165 := eq_true q165) | (go_at_call 29; (with_reducible refine (vtime_First.calls k (rd l0 0) _ _ l0 t166 _ ?side1 ?side2 A5.out).mono ?_); (case side1 => repeat (first | exact HR0.out | (with_reducible refine Kd.C_alloc ?_ _) | (with_reducible refine Kd.C_drewN ?_ _) | (with_reducible refine Kd.C_drew ?_))); (case side2 => exact HC0.out); rintro e w' ⟨rfl, ⟨nd, rfl⟩⟩; (try first | exact ⟨rfl, _, World.drewN_drewN _ _ _⟩ | exact ⟨rfl, _, Eq.trans (World.drewN_drewN _ _ _) (congrArg (World.drewN _) (Nat.add_assoc _ _ _))⟩)) | (go_at_call 20; (with_reducible refine (vtime_Time_Since.calls t164 t166 t167 _ A6.out).mono ?_); rintro e w' ⟨rfl, ⟨nd, rfl⟩⟩; (try first | exact ⟨rfl, _, World.drewN_drewN _ _ _⟩ | exact ⟨rfl, _, Eq.trans (World.drewN_drewN _ _ _) (congrArg (World.drewN _) (Nat.add_assoc _ _ _))⟩))); try go_wp2_with (first | (go_at_call 31; (with_reducible refine (vtime_Last.calls k (rd l0 0) _ _ l0 t164 _ ?side1 ?side2 A4.out).mono ?_); (case side1 => repeat (first | exact HR0.out | (with_reducible refine Kd.C_alloc ?_ _) | (with_reducible refine Kd.C_drewN ?_ _) | (with_reducible refine Kd.C_drew ?_))); (case side2 => exact HC0.out); rintro e w' ⟨rfl, ⟨nd, rfl⟩⟩; (try first | exact ⟨rfl, _, World.drewN_drewN _ _ _⟩ | exact ⟨rfl, _, Eq.trans (World.drewN_drewN _ _ _) (congrArg (World.drewN _) (Nat.add_assoc _ _ _))⟩); have p165 : 0 ≤ (0 : Int) := (by omega); have q165 : 0 < (l0.length : Int) := of_decide_eq_true (by first | (with_reducible assumption) | assumption); obtain ⟨ad165, e165, hx165_0⟩ := Kd.at_int HR0.out 0 p165 q165; obtain rfl : ad163 = ad165 := (by injection e165); have qi165 : (0 < l0.length) = True := eq_true (by omega); (try rw [show ((0 : Int)).toNat = 0 from rfl] at hx165_0); (try rw [Addr.add_zero'] at hx165_0); replace p165 := eq_true p165; replace q165 := eq_true q165) | (go_at_call 29; (with_reducible refine (vtime_First.calls k (rd l0 0) _ _ l0 t166 _ ?side1 ?side2 A5.out).mono ?_); (case side1 => repeat (first | exact HR0.out | (with_reducible refine Kd.C_alloc ?_ _) | (with_reducible refine Kd.C_drewN ?_ _) | (with_reducible refine Kd.C_drew ?_))); (case side2 => exact HC0.out); rintro e w' ⟨rfl, ⟨nd, rfl⟩⟩; (try first | exact ⟨rfl, _, World.drewN_drewN _ _ _⟩ | exact ⟨rfl, _, Eq.trans (World.drewN_drewN _ _ _) (congrArg (World.drewN _) (Nat.add_assoc _ _ _))⟩)) | (go_at_call 20; (with_reducible refine (vtime_Time_Since.calls t164 t166 t167 _ A6.out).mono ?_); rintro e w' ⟨rfl, ⟨nd, rfl⟩⟩; (try first | exact ⟨rfl, _, World.drewN_drewN _ _ _⟩ | exact ⟨rfl, _, Eq.trans (World.drewN_drewN _ _ _) (congrArg (World.drewN _) (Nat.add_assoc _ _ _))⟩))))
   go_ret
   exact ⟨by first | rfl | (simp; done) | (simp [*]; done), by repeat (first | exact Drawn0.refl _ | apply Drawn0.step)⟩
  ·rw [if_neg c3] at H
   exact absurd H (by simp)

/-! ### turnstonelaw03_VtimeTurns: function 6 -/
def turnstonelaw03_VtimeTurns.f (k : Nat) (a0 : Int) (a1 : Int) (a2 : Int) : Option (Bool) := (turnstonelaw03_awake.f k).bind fun t168 => (if t168 = true then ((vtime_Time_Add.f a0 a1).bind fun t169 => ((vtime_Time_Add.f t169 a2).bind fun t170 => ((vtime_Time_Add.f t170 (wrap64 (-a2))).bind fun t171 => ((vtime_Time_Since.f t169 a0).bind fun t172 => (if t172 = a1 then (if t171 = t169 then ((vtime_Time_Add.f t169 a2).bind fun t173 => ((vtime_Time_Add.f a0 a2).bind fun t174 => ((vtime_Time_Add.f t174 a1).bind fun t175 => (if t173 = t175 then ((vtime_Time_Before.f t169 a0).bind fun t176 => (if (t176 == (decide (a1 < 0))) = true then ((vtime_First.f k a0 ([] : List Int)).bind fun t177 => (if t177 = a0 then ((vtime_Spread.f k (([a0] : List Int))).bind fun t181 => (some (t181 == 0))) else (none))) else (none))) else (none))))) else (none)) else (none)))))) else (none))
theorem turnstonelaw03_VtimeTurns.mono : ∀ a0 a1 a2 k, LeO (turnstonelaw03_VtimeTurns.f k a0 a1 a2) (turnstonelaw03_VtimeTurns.f (k + 1) a0 a1 a2) := by
 intro a0 a1 a2 k
 unfold turnstonelaw03_VtimeTurns.f
 repeat' first
   | (with_reducible exact turnstonelaw03_awake.mono _)
   | (with_reducible exact vtime_First.mono _ _ _)
   | (with_reducible exact vtime_Spread.mono _ _)
   | (with_reducible exact LeO.refl _)
   | (with_reducible exact LeO.none _)
   | (with_reducible refine LeO.ite ?_ ?_)
   | (with_reducible refine LeO.bind ?_ (fun _ => ?_))
   | exact turnstonelaw03_awake.mono _
   | exact vtime_First.mono _ _ _
   | exact vtime_Spread.mono _ _
   | exact LeO.none _
   | refine LeO.ite ?_ ?_
   | refine LeO.bind ?_ (fun _ => ?_)
set_option maxHeartbeats 8000000 in
set_option maxRecDepth 100000 in
theorem turnstonelaw03_VtimeTurns.calls (k : Nat) (a0 : Int) (a1 : Int) (a2 : Int) (r : Bool) (w : World) (h : turnstonelaw03_VtimeTurns.f k a0 a1 a2 = some r) :
  Calls Try.prog 6 #[.int .u64 a0, .int .i64 a1, .int .i64 a2] w fun e w' => e = .returned (.bool r) ∧ Below w.heap.size w w' := by
 have HB := Aside0.mk (Below.refl w.heap.size w)
 have H : ((turnstonelaw03_awake.f k).bind fun t168 => (if t168 = true then ((vtime_Time_Add.f a0 a1).bind fun t169 => ((vtime_Time_Add.f t169 a2).bind fun t170 => ((vtime_Time_Add.f t170 (wrap64 (-a2))).bind fun t171 => ((vtime_Time_Since.f t169 a0).bind fun t172 => (if t172 = a1 then (if t171 = t169 then ((vtime_Time_Add.f t169 a2).bind fun t173 => ((vtime_Time_Add.f a0 a2).bind fun t174 => ((vtime_Time_Add.f t174 a1).bind fun t175 => (if t173 = t175 then ((vtime_Time_Before.f t169 a0).bind fun t176 => (if (t176 == (decide (a1 < 0))) = true then ((vtime_First.f k a0 ([] : List Int)).bind fun t177 => (if t177 = a0 then ((vtime_Spread.f k (([a0] : List Int))).bind fun t181 => (some (t181 == 0))) else (none))) else (none))) else (none))))) else (none)) else (none)))))) else (none))) = some r := h
 clear h
 replace H := Option.bind_eq_some_iff.mp H
 obtain ⟨t168, A40, H⟩ := H
 replace H : (if t168 = true then ((vtime_Time_Add.f a0 a1).bind fun t169 => ((vtime_Time_Add.f t169 a2).bind fun t170 => ((vtime_Time_Add.f t170 (wrap64 (-a2))).bind fun t171 => ((vtime_Time_Since.f t169 a0).bind fun t172 => (if t172 = a1 then (if t171 = t169 then ((vtime_Time_Add.f t169 a2).bind fun t173 => ((vtime_Time_Add.f a0 a2).bind fun t174 => ((vtime_Time_Add.f t174 a1).bind fun t175 => (if t173 = t175 then ((vtime_Time_Before.f t169 a0).bind fun t176 => (if (t176 == (decide (a1 < 0))) = true then ((vtime_First.f k a0 ([] : List Int)).bind fun t177 => (if t177 = a0 then ((vtime_Spread.f k (([a0] : List Int))).bind fun t181 => (some (t181 == 0))) else (none))) else (none))) else (none))))) else (none)) else (none)))))) else (none)) = some r := H
 have A4 := Aside0.mk A40
 clear A40
 by_cases c5 : t168 = true
 ·subst c5
  have H1 : ((vtime_Time_Add.f a0 a1).bind fun t169 => ((vtime_Time_Add.f t169 a2).bind fun t170 => ((vtime_Time_Add.f t170 (wrap64 (-a2))).bind fun t171 => ((vtime_Time_Since.f t169 a0).bind fun t172 => (if t172 = a1 then (if t171 = t169 then ((vtime_Time_Add.f t169 a2).bind fun t173 => ((vtime_Time_Add.f a0 a2).bind fun t174 => ((vtime_Time_Add.f t174 a1).bind fun t175 => (if t173 = t175 then ((vtime_Time_Before.f t169 a0).bind fun t176 => (if (t176 == (decide (a1 < 0))) = true then ((vtime_First.f k a0 ([] : List Int)).bind fun t177 => (if t177 = a0 then ((vtime_Spread.f k (([a0] : List Int))).bind fun t181 => (some (t181 == 0))) else (none))) else (none))) else (none))))) else (none)) else (none)))))) = some r := by rw [if_pos rfl] at H; exact H
  clear H
  have H := H1
  clear H1
  replace H := Option.bind_eq_some_iff.mp H
  obtain ⟨t169, A60, H⟩ := H
  replace H : ((vtime_Time_Add.f t169 a2).bind fun t170 => ((vtime_Time_Add.f t170 (wrap64 (-a2))).bind fun t171 => ((vtime_Time_Since.f t169 a0).bind fun t172 => (if t172 = a1 then (if t171 = t169 then ((vtime_Time_Add.f t169 a2).bind fun t173 => ((vtime_Time_Add.f a0 a2).bind fun t174 => ((vtime_Time_Add.f t174 a1).bind fun t175 => (if t173 = t175 then ((vtime_Time_Before.f t169 a0).bind fun t176 => (if (t176 == (decide (a1 < 0))) = true then ((vtime_First.f k a0 ([] : List Int)).bind fun t177 => (if t177 = a0 then ((vtime_Spread.f k (([a0] : List Int))).bind fun t181 => (some (t181 == 0))) else (none))) else (none))) else (none))))) else (none)) else (none))))) = some r := H
  have A6 := Aside0.mk A60
  clear A60
  replace H := Option.bind_eq_some_iff.mp H
  obtain ⟨t170, A70, H⟩ := H
  replace H : ((vtime_Time_Add.f t170 (wrap64 (-a2))).bind fun t171 => ((vtime_Time_Since.f t169 a0).bind fun t172 => (if t172 = a1 then (if t171 = t169 then ((vtime_Time_Add.f t169 a2).bind fun t173 => ((vtime_Time_Add.f a0 a2).bind fun t174 => ((vtime_Time_Add.f t174 a1).bind fun t175 => (if t173 = t175 then ((vtime_Time_Before.f t169 a0).bind fun t176 => (if (t176 == (decide (a1 < 0))) = true then ((vtime_First.f k a0 ([] : List Int)).bind fun t177 => (if t177 = a0 then ((vtime_Spread.f k (([a0] : List Int))).bind fun t181 => (some (t181 == 0))) else (none))) else (none))) else (none))))) else (none)) else (none)))) = some r := H
  have A7 := Aside0.mk A70
  clear A70
  replace H := Option.bind_eq_some_iff.mp H
  obtain ⟨t171, A80, H⟩ := H
  replace H : ((vtime_Time_Since.f t169 a0).bind fun t172 => (if t172 = a1 then (if t171 = t169 then ((vtime_Time_Add.f t169 a2).bind fun t173 => ((vtime_Time_Add.f a0 a2).bind fun t174 => ((vtime_Time_Add.f t174 a1).bind fun t175 => (if t173 = t175 then ((vtime_Time_Before.f t169 a0).bind fun t176 => (if (t176 == (decide (a1 < 0))) = true then ((vtime_First.f k a0 ([] : List Int)).bind fun t177 => (if t177 = a0 then ((vtime_Spread.f k (([a0] : List Int))).bind fun t181 => (some (t181 == 0))) else (none))) else (none))) else (none))))) else (none)) else (none))) = some r := H
  have A8 := Aside0.mk A80
  clear A80
  replace H := Option.bind_eq_some_iff.mp H
  obtain ⟨t172, A90, H⟩ := H
  replace H : (if t172 = a1 then (if t171 = t169 then ((vtime_Time_Add.f t169 a2).bind fun t173 => ((vtime_Time_Add.f a0 a2).bind fun t174 => ((vtime_Time_Add.f t174 a1).bind fun t175 => (if t173 = t175 then ((vtime_Time_Before.f t169 a0).bind fun t176 => (if (t176 == (decide (a1 < 0))) = true then ((vtime_First.f k a0 ([] : List Int)).bind fun t177 => (if t177 = a0 then ((vtime_Spread.f k (([a0] : List Int))).bind fun t181 => (some (t181 == 0))) else (none))) else (none))) else (none))))) else (none)) else (none)) = some r := H
  have A9 := Aside0.mk A90
  clear A90
  by_cases c10 : t172 = a1
  ·rw [if_pos c10] at H
   have c10b0 : (t172 == a1) = true := beq_iff_eq.mpr c10
   have c10b1 : (t172 != a1) = false := bne_eq_false_iff_eq.mpr c10
   clear c10
   by_cases c11 : t171 = t169
   ·rw [if_pos c11] at H
    have c11b0 : (t171 == t169) = true := beq_iff_eq.mpr c11
    have c11b1 : (t171 != t169) = false := bne_eq_false_iff_eq.mpr c11
    clear c11
    replace H := Option.bind_eq_some_iff.mp H
    obtain ⟨t173, A120, H⟩ := H
    replace H : ((vtime_Time_Add.f a0 a2).bind fun t174 => ((vtime_Time_Add.f t174 a1).bind fun t175 => (if t173 = t175 then ((vtime_Time_Before.f t169 a0).bind fun t176 => (if (t176 == (decide (a1 < 0))) = true then ((vtime_First.f k a0 ([] : List Int)).bind fun t177 => (if t177 = a0 then ((vtime_Spread.f k (([a0] : List Int))).bind fun t181 => (some (t181 == 0))) else (none))) else (none))) else (none)))) = some r := H
    have A12 := Aside0.mk A120
    clear A120
    replace H := Option.bind_eq_some_iff.mp H
    obtain ⟨t174, A130, H⟩ := H
    replace H : ((vtime_Time_Add.f t174 a1).bind fun t175 => (if t173 = t175 then ((vtime_Time_Before.f t169 a0).bind fun t176 => (if (t176 == (decide (a1 < 0))) = true then ((vtime_First.f k a0 ([] : List Int)).bind fun t177 => (if t177 = a0 then ((vtime_Spread.f k (([a0] : List Int))).bind fun t181 => (some (t181 == 0))) else (none))) else (none))) else (none))) = some r := H
    have A13 := Aside0.mk A130
    clear A130
    replace H := Option.bind_eq_some_iff.mp H
    obtain ⟨t175, A140, H⟩ := H
    replace H : (if t173 = t175 then ((vtime_Time_Before.f t169 a0).bind fun t176 => (if (t176 == (decide (a1 < 0))) = true then ((vtime_First.f k a0 ([] : List Int)).bind fun t177 => (if t177 = a0 then ((vtime_Spread.f k (([a0] : List Int))).bind fun t181 => (some (t181 == 0))) else (none))) else (none))) else (none)) = some r := H
    have A14 := Aside0.mk A140
    clear A140
    by_cases c15 : t173 = t175
    ·rw [if_pos c15] at H
     have c15b0 : (t173 == t175) = true := beq_iff_eq.mpr c15
     have c15b1 : (t173 != t175) = false := bne_eq_false_iff_eq.mpr c15
     clear c15
     replace H := Option.bind_eq_some_iff.mp H
     obtain ⟨t176, A160, H⟩ := H
     replace H : (if (t176 == (decide (a1 < 0))) = true then ((vtime_First.f k a0 ([] : List Int)).bind fun t177 => (if t177 = a0 then ((vtime_Spread.f k (([a0] : List Int))).bind fun t181 => (some (t181 == 0))) else (none))) else (none)) = some r := H
     have A16 := Aside0.mk A160
     clear A160
     by_cases c17 : (t176 == (decide (a1 < 0))) = true
     ·rw [if_pos c17] at H
      have c17b0 : (t176 == (decide (a1 < 0))) = true := c17
      (try (have c17b1 : decide (t176 = (decide (a1 < 0))) = true := by simpa using c17))
      (try (have c17b2 : (t176 == (decide (a1 < 0))) = true := by simpa using c17))
      clear c17
      replace H := Option.bind_eq_some_iff.mp H
      obtain ⟨t177, A180, H⟩ := H
      replace H : (if t177 = a0 then ((vtime_Spread.f k (([a0] : List Int))).bind fun t181 => (some (t181 == 0))) else (none)) = some r := H
      have A18 := Aside0.mk A180
      clear A180
      by_cases c19 : t177 = a0
      ·rw [if_pos c19] at H
       have c19b0 : (t177 == a0) = true := beq_iff_eq.mpr c19
       have c19b1 : (t177 != a0) = false := bne_eq_false_iff_eq.mpr c19
       clear c19
       obtain ⟨y178, hy178⟩ : ∃ y_ : List Int, y_ = (([a0] : List Int)) := ⟨_, rfl⟩
       replace H : ((vtime_Spread.f k y178).bind fun t181 => (some (t181 == 0))) = some r := by first | (rw [hy178]; with_reducible exact H) | (have H2_ := (Option.bind_some _ _).symm.trans H; rw [hy178]; with_reducible exact H2_) | (have H2_ := (Option.bind_some _ _).symm.trans H; with_reducible exact H2_) | with_reducible exact H | (rw [hy178]; exact H) | exact H
       have Ny178 := Aside0.mk hy178
       clear hy178
       replace H := Option.bind_eq_some_iff.mp H
       obtain ⟨t181, A200, H⟩ := H
       replace H : (some (t181 == 0)) = some r := H
       have A20 := Aside0.mk A200
       clear A200
       obtain rfl := Option.some.inj H
       go_enter Try.func6, Try.ntmps6
       go_wp2_with (first | ((with_reducible refine gate_callee (f := 17) rfl ?_); refine goesL_ (some 10) rfl rfl Try.func17 (by kernel_rfl) rfl #[] rfl argt ?_; (with_reducible refine (turnstonelaw03_awake.calls k  true _ A4.out).mono ?_); rintro e w21 ⟨rfl, hb⟩; refine ⟨_, rfl, ?_⟩; have n0_ := belb HB hb; clear HB; have HB := n0_; clear n0_; (try clear hb); (try clear hb2); (try clear hk); (try clear hi)) | ((with_reducible refine gate_callee (f := 25) rfl ?_); refine goesL_ (some 15) rfl rfl Try.func25 (by kernel_rfl) rfl #[.int .u64 a0, .int .i64 a1] rfl argt ?_; (with_reducible refine (vtime_Time_Add.calls a0 a1 t169 _ A6.out).mono ?_); rintro e w' ⟨rfl, ⟨nd, rfl⟩⟩; refine ⟨_, rfl, ?_⟩) | ((with_reducible refine gate_callee (f := 25) rfl ?_); refine goesL_ (some 18) rfl rfl Try.func25 (by kernel_rfl) rfl #[.int .u64 t169, .int .i64 a2] rfl argt ?_; (with_reducible refine (vtime_Time_Add.calls t169 a2 t170 _ A7.out).mono ?_); rintro e w' ⟨rfl, ⟨nd, rfl⟩⟩; refine ⟨_, rfl, ?_⟩) | ((with_reducible refine gate_callee (f := 25) rfl ?_); refine goesL_ (some 21) rfl rfl Try.func25 (by kernel_rfl) rfl #[.int .u64 t170, .int .i64 (wrap64 (-a2))] rfl argt ?_; (with_reducible refine (vtime_Time_Add.calls t170 (wrap64 (-a2)) t171 _ A8.out).mono ?_); rintro e w' ⟨rfl, ⟨nd, rfl⟩⟩; refine ⟨_, rfl, ?_⟩) | ((with_reducible refine gate_callee (f := 20) rfl ?_); refine goesL_ (some 24) rfl rfl Try.func20 (by kernel_rfl) rfl #[.int .u64 t169, .int .u64 a0] rfl argt ?_; (with_reducible refine (vtime_Time_Since.calls t169 a0 t172 _ A9.out).mono ?_); rintro e w' ⟨rfl, ⟨nd, rfl⟩⟩; refine ⟨_, rfl, ?_⟩) | (go_at_call 25; (with_reducible refine (vtime_Time_Add.calls t169 a2 t173 _ A12.out).mono ?_); rintro e w' ⟨rfl, ⟨nd, rfl⟩⟩) | (go_at_call 25; (with_reducible refine (vtime_Time_Add.calls a0 a2 t174 _ A13.out).mono ?_); rintro e w' ⟨rfl, ⟨nd, rfl⟩⟩) | (go_at_call 25; (with_reducible refine (vtime_Time_Add.calls t174 a1 t175 _ A14.out).mono ?_); rintro e w' ⟨rfl, ⟨nd, rfl⟩⟩) | (go_at_call 22; (with_reducible refine (vtime_Time_Before.calls t169 a0 t176 _ A16.out).mono ?_); rintro e w' ⟨rfl, ⟨nd, rfl⟩⟩) | (go_at_call 29; (refine (vtime_First.calls k a0 _ _ ([] : List Int) t177 _ ?side1 ?side2 A18.out).mono ?_); (case side1 => exact Kd.C_nil _ _); (case side2 => exact Nat.le_refl _); rintro e w' ⟨rfl, ⟨nd, rfl⟩⟩) | ((with_reducible refine gate_dst (N := 59) rfl ?_); (try (refine gate_guard (by rfl) ?_; dsimp only)); refine Kd.R_lit (Kd.int .u64) _ 24 ?hg (N := 59) ?hd (xs := ([a0] : List Int)) (inner := [.int .u64 a0]) (ok := fun _ => True) (okp := fun _ => True) ?hr ?hp (fun _ hk => hk) trivial (Below.refl _ _) (Nat.le_refl _) (by simp) ?_; (case hd => rfl); (case hg => rfl); (case hr => first | (go_simp; done) | (go_simp; rfl)); (case hp => exact (Reps.one (show Kd.M (Kd.int .u64) _ _ _ a0 [.int .u64 a0] from rfl) (Reps.none _ _))); intro v179 w22 ho23 hb hg_ hnew_; clear hg_ hnew_; (first | rw [← Ny178.out] at ho23 | (simp only [Int.reduceToNat] at ho23; rw [← Ny178.out] at ho23)); have n0_ := Aside0.mk (Kd.R_lower ho23 (below_size (belt HB))); have n1_ := belb HB hb; clear HB; have HO180 := n0_; have HB := n1_; clear n0_ n1_; clear hb ho23; obtain ⟨Ao24, co24, eo24⟩ := Kd.R_slice HO180.out; subst eo24) | (go_at_call 28; (with_reducible refine (vtime_Spread.calls k _ _ y178 t181 _ ?side1 ?side2 A20.out).mono ?_); (case side1 => repeat (first | exact (Kd.R_reads' HO180.out).2.2 | (with_reducible refine Kd.C_alloc ?_ _) | (with_reducible refine Kd.C_drewN ?_ _) | (with_reducible refine Kd.C_drew ?_))); (case side2 => exact (Kd.R_reads' HO180.out).2.1); rintro e w' ⟨rfl, ⟨nd, rfl⟩⟩))
       go_ret
       exact ⟨by first | rfl | (simp [errW_none, errW_some] <;> rfl) | (simp [*, errW_none, errW_some] <;> rfl), by repeat (first | (with_reducible first | exact HB.out | apply below_alloc | apply pw_below_drewN | apply below_drew1) | exact HB.out)⟩
      ·rw [if_neg c19] at H
       exact absurd H (by simp)
     ·rw [if_neg c17] at H
      exact absurd H (by simp)
    ·rw [if_neg c15] at H
     exact absurd H (by simp)
   ·rw [if_neg c11] at H
    exact absurd H (by simp)
  ·rw [if_neg c10] at H
   exact absurd H (by simp)
 ·replace c5 := Bool.eq_false_iff.mpr c5
  subst c5
  have H1 : (none) = some r := by rw [if_neg (show ¬ (false = true) by decide)] at H; exact H
  clear H
  have H := H1
  clear H1
  exact absurd H (by simp)

/-- THE ONE PURE STATEMENT of turnstonelaw03_VtimeTurns. -/
def turnstonelaw03_VtimeTurns.Pure : Prop := ∀ (a0 : Int) (a1 : Int) (a2 : Int), (Lit.int .u64 a0).wf = true → (Lit.int .i64 a1).wf = true → (Lit.int .i64 a2).wf = true → ∃ k, turnstonelaw03_VtimeTurns.f k a0 a1 a2 = some true
theorem turnstonelaw03_VtimeTurns.walk (P : turnstonelaw03_VtimeTurns.Pure) (a0 : Int) (a1 : Int) (a2 : Int) (w : World) (w0 : (Lit.int .u64 a0).wf = true) (w1 : (Lit.int .i64 a1).wf = true) (w2 : (Lit.int .i64 a2).wf = true) :
  Calls Try.prog 6 #[.int .u64 a0, .int .i64 a1, .int .i64 a2] w fun e w' => e = .returned (.bool true) ∧ Below w.heap.size w w' := by
 obtain ⟨k, h⟩ := P a0 a1 a2 w0 w1 w2
 refine (turnstonelaw03_VtimeTurns.calls k a0 a1 a2 true w h).mono ?_
 rintro e w' ⟨rfl, hd⟩
 exact ⟨rfl, hd⟩

end Go.Proofs.Ytimgiiceipjpaaa.Print
