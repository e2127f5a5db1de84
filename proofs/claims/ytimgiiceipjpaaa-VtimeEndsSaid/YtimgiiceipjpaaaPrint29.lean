/- What each Go function that is named below answers, as a Lean function, and that its walk comes to just that: for whatever arguments that function gives an answer for. Written by a program of this session (wip/mkpr.py, pr.sh). -/
import Derived.Test.YtimgiiceipjpaaaPrint0
import Derived.Test.YtimgiiceipjpaaaPrint3
import Derived.Test.YtimgiiceipjpaaaPrint8
import Derived.Test.YtimgiiceipjpaaaPrint24
import Derived.Test.YtimgiiceipjpaaaPrint25
import Derived.Test.YtimgiiceipjpaaaPrint26
import Derived.Test.YtimgiiceipjpaaaPrint27
import Derived.Test.YtimgiiceipjpaaaPrint28
namespace Go.Proofs.Ytimgiiceipjpaaa.Print
open Go.RowKit Go.Proofs.YtimgiiceipjpaaaW.PrintWords Go.Proofs.YtimgiiceipjpaaaW.PrintLast Go.Proofs.YtimgiiceipjpaaaW.PrintMore
attribute [local go_sem] max2_int min2_int max_two min_two max_three min_three max_four min_four   -- for this text's walks alone
open Go.Proofs.Ytimgiiceipjpaaa.Bits Go.Proofs.Ytimgiiceipjpaaa.Short
attribute [local go_sem] add64_run0 sub64_run0 add64_run sub64_run
set_option linter.unusedVariables false
set_option linter.unusedSimpArgs false

/-! ### turnstonelaw03_VtimeTells: function 3 -/
def turnstonelaw03_VtimeTells.f (k : Nat) (a0 : Int) (a1 : Int) (a2 : Int) : Option (Bool) := (turnstonelaw03_awake.f k).bind fun t545 => (if t545 = true then ((vtime_Time_Since.f a0 a1).bind fun t546 => ((turnstoneref01_N.f k t546).bind fun bt547 => ((turnstoneref03_Since.f k a0 a1).bind fun bt551 => ((turnstoneref01_Cmp.f k bt547.1 bt547.2 bt551.1 bt551.2).bind fun t555 => (if t555 = 0 then ((vtime_Time_Before.f a0 a1).bind fun t556 => ((turnstoneref03_Before.f k a0 a1).bind fun t557 => (if (t556 == t557) = true then ((vtime_Time_Add.f a0 a2).bind fun t558 => ((turnstoneref01_U.f k t558).bind fun bt559 => ((turnstoneref01_U.f k a0).bind fun bt563 => ((turnstoneref01_N.f k a2).bind fun bt567 => ((turnstoneref01_Add.f k bt563.1 bt563.2 bt567.1 bt567.2).bind fun bt571 => ((turnstoneref03_Round.f k bt571.1 bt571.2).bind fun bt575 => ((turnstoneref01_Cmp.f k bt559.1 bt559.2 bt575.1 bt575.2).bind fun t579 => (some (t579 == 0))))))))) else (none)))) else (none)))))) else (none))
theorem turnstonelaw03_VtimeTells.mono : ∀ a0 a1 a2 k, LeO (turnstonelaw03_VtimeTells.f k a0 a1 a2) (turnstonelaw03_VtimeTells.f (k + 1) a0 a1 a2) := by
 intro a0 a1 a2 k
 unfold turnstonelaw03_VtimeTells.f
 repeat' first
   | (with_reducible exact turnstonelaw03_awake.mono _)
   | (with_reducible exact turnstoneref01_Add.mono _ _ _ _ _)
   | (with_reducible exact turnstoneref01_Cmp.mono _ _ _ _ _)
   | (with_reducible exact turnstoneref01_N.mono _ _)
   | (with_reducible exact turnstoneref01_U.mono _ _)
   | (with_reducible exact turnstoneref03_Before.mono _ _ _)
   | (with_reducible exact turnstoneref03_Round.mono _ _ _)
   | (with_reducible exact turnstoneref03_Since.mono _ _ _)
   | (with_reducible exact LeO.refl _)
   | (with_reducible exact LeO.none _)
   | (with_reducible refine LeO.ite ?_ ?_)
   | (with_reducible refine LeO.bind ?_ (fun _ => ?_))
   | exact turnstonelaw03_awake.mono _
   | exact turnstoneref01_Add.mono _ _ _ _ _
   | exact turnstoneref01_Cmp.mono _ _ _ _ _
   | exact turnstoneref01_N.mono _ _
   | exact turnstoneref01_U.mono _ _
   | exact turnstoneref03_Before.mono _ _ _
   | exact turnstoneref03_Round.mono _ _ _
   | exact turnstoneref03_Since.mono _ _ _
   | exact LeO.none _
   | refine LeO.ite ?_ ?_
   | refine LeO.bind ?_ (fun _ => ?_)
set_option maxHeartbeats 8000000 in
set_option maxRecDepth 100000 in
theorem turnstonelaw03_VtimeTells.calls (k : Nat) (a0 : Int) (a1 : Int) (a2 : Int) (r : Bool) (w : World) (h : turnstonelaw03_VtimeTells.f k a0 a1 a2 = some r) :
  Calls Try.prog 3 #[.int .u64 a0, .int .u64 a1, .int .i64 a2] w fun e w' => e = .returned (.bool r) ∧ Below w.heap.size w w' := by
 have HB := Aside0.mk (Below.refl w.heap.size w)
 have H : ((turnstonelaw03_awake.f k).bind fun t545 => (if t545 = true then ((vtime_Time_Since.f a0 a1).bind fun t546 => ((turnstoneref01_N.f k t546).bind fun bt547 => ((turnstoneref03_Since.f k a0 a1).bind fun bt551 => ((turnstoneref01_Cmp.f k bt547.1 bt547.2 bt551.1 bt551.2).bind fun t555 => (if t555 = 0 then ((vtime_Time_Before.f a0 a1).bind fun t556 => ((turnstoneref03_Before.f k a0 a1).bind fun t557 => (if (t556 == t557) = true then ((vtime_Time_Add.f a0 a2).bind fun t558 => ((turnstoneref01_U.f k t558).bind fun bt559 => ((turnstoneref01_U.f k a0).bind fun bt563 => ((turnstoneref01_N.f k a2).bind fun bt567 => ((turnstoneref01_Add.f k bt563.1 bt563.2 bt567.1 bt567.2).bind fun bt571 => ((turnstoneref03_Round.f k bt571.1 bt571.2).bind fun bt575 => ((turnstoneref01_Cmp.f k bt559.1 bt559.2 bt575.1 bt575.2).bind fun t579 => (some (t579 == 0))))))))) else (none)))) else (none)))))) else (none))) = some r := h
 clear h
 replace H := Option.bind_eq_some_iff.mp H
 obtain ⟨t545, A40, H⟩ := H
 replace H : (if t545 = true then ((vtime_Time_Since.f a0 a1).bind fun t546 => ((turnstoneref01_N.f k t546).bind fun bt547 => ((turnstoneref03_Since.f k a0 a1).bind fun bt551 => ((turnstoneref01_Cmp.f k bt547.1 bt547.2 bt551.1 bt551.2).bind fun t555 => (if t555 = 0 then ((vtime_Time_Before.f a0 a1).bind fun t556 => ((turnstoneref03_Before.f k a0 a1).bind fun t557 => (if (t556 == t557) = true then ((vtime_Time_Add.f a0 a2).bind fun t558 => ((turnstoneref01_U.f k t558).bind fun bt559 => ((turnstoneref01_U.f k a0).bind fun bt563 => ((turnstoneref01_N.f k a2).bind fun bt567 => ((turnstoneref01_Add.f k bt563.1 bt563.2 bt567.1 bt567.2).bind fun bt571 => ((turnstoneref03_Round.f k bt571.1 bt571.2).bind fun bt575 => ((turnstoneref01_Cmp.f k bt559.1 bt559.2 bt575.1 bt575.2).bind fun t579 => (some (t579 == 0))))))))) else (none)))) else (none)))))) else (none)) = some r := H
 have A4 := Aside0.mk A40
 clear A40
 by_cases c5 : t545 = true
 ·subst c5
  have H1 : ((vtime_Time_Since.f a0 a1).bind fun t546 => ((turnstoneref01_N.f k t546).bind fun bt547 => ((turnstoneref03_Since.f k a0 a1).bind fun bt551 => ((turnstoneref01_Cmp.f k bt547.1 bt547.2 bt551.1 bt551.2).bind fun t555 => (if t555 = 0 then ((vtime_Time_Before.f a0 a1).bind fun t556 => ((turnstoneref03_Before.f k a0 a1).bind fun t557 => (if (t556 == t557) = true then ((vtime_Time_Add.f a0 a2).bind fun t558 => ((turnstoneref01_U.f k t558).bind fun bt559 => ((turnstoneref01_U.f k a0).bind fun bt563 => ((turnstoneref01_N.f k a2).bind fun bt567 => ((turnstoneref01_Add.f k bt563.1 bt563.2 bt567.1 bt567.2).bind fun bt571 => ((turnstoneref03_Round.f k bt571.1 bt571.2).bind fun bt575 => ((turnstoneref01_Cmp.f k bt559.1 bt559.2 bt575.1 bt575.2).bind fun t579 => (some (t579 == 0))))))))) else (none)))) else (none)))))) = some r := by rw [if_pos rfl] at H; exact H
  clear H
  have H := H1
  clear H1
  replace H := Option.bind_eq_some_iff.mp H
  obtain ⟨t546, A60, H⟩ := H
  replace H : ((turnstoneref01_N.f k t546).bind fun bt547 => ((turnstoneref03_Since.f k a0 a1).bind fun bt551 => ((turnstoneref01_Cmp.f k bt547.1 bt547.2 bt551.1 bt551.2).bind fun t555 => (if t555 = 0 then ((vtime_Time_Before.f a0 a1).bind fun t556 => ((turnstoneref03_Before.f k a0 a1).bind fun t557 => (if (t556 == t557) = true then ((vtime_Time_Add.f a0 a2).bind fun t558 => ((turnstoneref01_U.f k t558).bind fun bt559 => ((turnstoneref01_U.f k a0).bind fun bt563 => ((turnstoneref01_N.f k a2).bind fun bt567 => ((turnstoneref01_Add.f k bt563.1 bt563.2 bt567.1 bt567.2).bind fun bt571 => ((turnstoneref03_Round.f k bt571.1 bt571.2).bind fun bt575 => ((turnstoneref01_Cmp.f k bt559.1 bt559.2 bt575.1 bt575.2).bind fun t579 => (some (t579 == 0))))))))) else (none)))) else (none))))) = some r := H
  have A6 := Aside0.mk A60
  clear A60
  replace H := Option.bind_eq_some_iff.mp H
  obtain ⟨⟨t547, t548⟩, A70, H⟩ := H
  replace H : ((turnstoneref03_Since.f k a0 a1).bind fun bt551 => ((turnstoneref01_Cmp.f k t547 t548 bt551.1 bt551.2).bind fun t555 => (if t555 = 0 then ((vtime_Time_Before.f a0 a1).bind fun t556 => ((turnstoneref03_Before.f k a0 a1).bind fun t557 => (if (t556 == t557) = true then ((vtime_Time_Add.f a0 a2).bind fun t558 => ((turnstoneref01_U.f k t558).bind fun bt559 => ((turnstoneref01_U.f k a0).bind fun bt563 => ((turnstoneref01_N.f k a2).bind fun bt567 => ((turnstoneref01_Add.f k bt563.1 bt563.2 bt567.1 bt567.2).bind fun bt571 => ((turnstoneref03_Round.f k bt571.1 bt571.2).bind fun bt575 => ((turnstoneref01_Cmp.f k bt559.1 bt559.2 bt575.1 bt575.2).bind fun t579 => (some (t579 == 0))))))))) else (none)))) else (none)))) = some r := H
  have A7 := Aside0.mk A70
  clear A70
  replace H := Option.bind_eq_some_iff.mp H
  obtain ⟨⟨t551, t552⟩, A80, H⟩ := H
  replace H : ((turnstoneref01_Cmp.f k t547 t548 t551 t552).bind fun t555 => (if t555 = 0 then ((vtime_Time_Before.f a0 a1).bind fun t556 => ((turnstoneref03_Before.f k a0 a1).bind fun t557 => (if (t556 == t557) = true then ((vtime_Time_Add.f a0 a2).bind fun t558 => ((turnstoneref01_U.f k t558).bind fun bt559 => ((turnstoneref01_U.f k a0).bind fun bt563 => ((turnstoneref01_N.f k a2).bind fun bt567 => ((turnstoneref01_Add.f k bt563.1 bt563.2 bt567.1 bt567.2).bind fun bt571 => ((turnstoneref03_Round.f k bt571.1 bt571.2).bind fun bt575 => ((turnstoneref01_Cmp.f k bt559.1 bt559.2 bt575.1 bt575.2).bind fun t579 => (some (t579 == 0))))))))) else (none)))) else (none))) = some r := H
  have A8 := Aside0.mk A80
  clear A80
  replace H := Option.bind_eq_some_iff.mp H
  obtain ⟨t555, A90, H⟩ := H
  replace H : (if t555 = 0 then ((vtime_Time_Before.f a0 a1).bind fun t556 => ((turnstoneref03_Before.f k a0 a1).bind fun t557 => (if (t556 == t557) = true then ((vtime_Time_Add.f a0 a2).bind fun t558 => ((turnstoneref01_U.f k t558).bind fun bt559 => ((turnstoneref01_U.f k a0).bind fun bt563 => ((turnstoneref01_N.f k a2).bind fun bt567 => ((turnstoneref01_Add.f k bt563.1 bt563.2 bt567.1 bt567.2).bind fun bt571 => ((turnstoneref03_Round.f k bt571.1 bt571.2).bind fun bt575 => ((turnstoneref01_Cmp.f k bt559.1 bt559.2 bt575.1 bt575.2).bind fun t579 => (some (t579 == 0))))))))) else (none)))) else (none)) = some r := H
  have A9 := Aside0.mk A90
  clear A90
  by_cases c10 : t555 = 0
  ·rw [if_pos c10] at H
   have c10b0 : (t555 == 0) = true := beq_iff_eq.mpr c10
   have c10b1 : (t555 != 0) = false := bne_eq_false_iff_eq.mpr c10
   clear c10
   replace H := Option.bind_eq_some_iff.mp H
   obtain ⟨t556, A110, H⟩ := H
   replace H : ((turnstoneref03_Before.f k a0 a1).bind fun t557 => (if (t556 == t557) = true then ((vtime_Time_Add.f a0 a2).bind fun t558 => ((turnstoneref01_U.f k t558).bind fun bt559 => ((turnstoneref01_U.f k a0).bind fun bt563 => ((turnstoneref01_N.f k a2).bind fun bt567 => ((turnstoneref01_Add.f k bt563.1 bt563.2 bt567.1 bt567.2).bind fun bt571 => ((turnstoneref03_Round.f k bt571.1 bt571.2).bind fun bt575 => ((turnstoneref01_Cmp.f k bt559.1 bt559.2 bt575.1 bt575.2).bind fun t579 => (some (t579 == 0))))))))) else (none))) = some r := H
   have A11 := Aside0.mk A110
   clear A110
   replace H := Option.bind_eq_some_iff.mp H
   obtain ⟨t557, A120, H⟩ := H
   replace H : (if (t556 == t557) = true then ((vtime_Time_Add.f a0 a2).bind fun t558 => ((turnstoneref01_U.f k t558).bind fun bt559 => ((turnstoneref01_U.f k a0).bind fun bt563 => ((turnstoneref01_N.f k a2).bind fun bt567 => ((turnstoneref01_Add.f k bt563.1 bt563.2 bt567.1 bt567.2).bind fun bt571 => ((turnstoneref03_Round.f k bt571.1 bt571.2).bind fun bt575 => ((turnstoneref01_Cmp.f k bt559.1 bt559.2 bt575.1 bt575.2).bind fun t579 => (some (t579 == 0))))))))) else (none)) = some r := H
   have A12 := Aside0.mk A120
   clear A120
   by_cases c13 : (t556 == t557) = true
   ·rw [if_pos c13] at H
    have c13b0 : (t556 == t557) = true := c13
    (try (have c13b1 : decide (t556 = t557) = true := by simpa using c13))
    (try (have c13b2 : (t556 == t557) = true := by simpa using c13))
    clear c13
    replace H := Option.bind_eq_some_iff.mp H
    obtain ⟨t558, A140, H⟩ := H
    replace H : ((turnstoneref01_U.f k t558).bind fun bt559 => ((turnstoneref01_U.f k a0).bind fun bt563 => ((turnstoneref01_N.f k a2).bind fun bt567 => ((turnstoneref01_Add.f k bt563.1 bt563.2 bt567.1 bt567.2).bind fun bt571 => ((turnstoneref03_Round.f k bt571.1 bt571.2).bind fun bt575 => ((turnstoneref01_Cmp.f k bt559.1 bt559.2 bt575.1 bt575.2).bind fun t579 => (some (t579 == 0)))))))) = some r := H
    have A14 := Aside0.mk A140
    clear A140
    replace H := Option.bind_eq_some_iff.mp H
    obtain ⟨⟨t559, t560⟩, A150, H⟩ := H
    replace H : ((turnstoneref01_U.f k a0).bind fun bt563 => ((turnstoneref01_N.f k a2).bind fun bt567 => ((turnstoneref01_Add.f k bt563.1 bt563.2 bt567.1 bt567.2).bind fun bt571 => ((turnstoneref03_Round.f k bt571.1 bt571.2).bind fun bt575 => ((turnstoneref01_Cmp.f k t559 t560 bt575.1 bt575.2).bind fun t579 => (some (t579 == 0))))))) = some r := H
    have A15 := Aside0.mk A150
    clear A150
    replace H := Option.bind_eq_some_iff.mp H
    obtain ⟨⟨t563, t564⟩, A160, H⟩ := H
    replace H : ((turnstoneref01_N.f k a2).bind fun bt567 => ((turnstoneref01_Add.f k t563 t564 bt567.1 bt567.2).bind fun bt571 => ((turnstoneref03_Round.f k bt571.1 bt571.2).bind fun bt575 => ((turnstoneref01_Cmp.f k t559 t560 bt575.1 bt575.2).bind fun t579 => (some (t579 == 0)))))) = some r := H
    have A16 := Aside0.mk A160
    clear A160
    replace H := Option.bind_eq_some_iff.mp H
    obtain ⟨⟨t567, t568⟩, A170, H⟩ := H
    replace H : ((turnstoneref01_Add.f k t563 t564 t567 t568).bind fun bt571 => ((turnstoneref03_Round.f k bt571.1 bt571.2).bind fun bt575 => ((turnstoneref01_Cmp.f k t559 t560 bt575.1 bt575.2).bind fun t579 => (some (t579 == 0))))) = some r := H
    have A17 := Aside0.mk A170
    clear A170
    replace H := Option.bind_eq_some_iff.mp H
    obtain ⟨⟨t571, t572⟩, A180, H⟩ := H
    replace H : ((turnstoneref03_Round.f k t571 t572).bind fun bt575 => ((turnstoneref01_Cmp.f k t559 t560 bt575.1 bt575.2).bind fun t579 => (some (t579 == 0)))) = some r := H
    have A18 := Aside0.mk A180
    clear A180
    replace H := Option.bind_eq_some_iff.mp H
    obtain ⟨⟨t575, t576⟩, A190, H⟩ := H
    replace H : ((turnstoneref01_Cmp.f k t559 t560 t575 t576).bind fun t579 => (some (t579 == 0))) = some r := H
    have A19 := Aside0.mk A190
    clear A190
    replace H := Option.bind_eq_some_iff.mp H
    obtain ⟨t579, A200, H⟩ := H
    replace H : (some (t579 == 0)) = some r := H
    have A20 := Aside0.mk A200
    clear A200
    obtain rfl := Option.some.inj H
    go_enter Try.func3, Try.ntmps3
    go_wp2_with (first | ((with_reducible refine gate_callee (f := 17) rfl ?_); refine goesL_ (some 9) rfl rfl Try.func17 (by kernel_rfl) rfl #[] rfl argt ?_; (with_reducible refine (turnstonelaw03_awake.calls k  true _ A4.out).mono ?_); rintro e w21 ⟨rfl, hb⟩; refine ⟨_, rfl, ?_⟩; have n0_ := belb HB hb; clear HB; have HB := n0_; clear n0_; (try clear hb); (try clear hb2); (try clear hk); (try clear hi)) | ((with_reducible refine gate_callee (f := 20) rfl ?_); refine goesL_ (some 15) rfl rfl Try.func20 (by kernel_rfl) rfl #[.int .u64 a0, .int .u64 a1] rfl argt ?_; (with_reducible refine (vtime_Time_Since.calls a0 a1 t546 _ A6.out).mono ?_); rintro e w' ⟨rfl, ⟨nd, rfl⟩⟩; refine ⟨_, rfl, ?_⟩) | ((with_reducible refine gate_callee (f := 19) rfl ?_); refine goesL_ (some 16) rfl rfl Try.func19 (by kernel_rfl) rfl #[.int .i64 t546] rfl argt ?_; (with_reducible refine (turnstoneref01_N.calls k t546 t547 t548 _ A7.out).mono ?_); rintro e w22 ⟨v549, rfl, ho0, hb⟩; refine ⟨_, rfl, ?_⟩; have n0_ := Aside0.mk (Kd.R_lower ho0 (below_size (belt HB))); have n1_ := belb HB hb; clear HB; have HO550 := n0_; have HB := n1_; clear n0_ n1_; (try clear hb); (try clear hb2); (try clear hk); (try clear hi); (try clear ho0)) | ((with_reducible refine gate_callee (f := 21) rfl ?_); refine goesL_ (some 19) rfl rfl Try.func21 (by kernel_rfl) rfl #[.int .u64 a0, .int .u64 a1] rfl argt ?_; (with_reducible refine (turnstoneref03_Since.calls k a0 a1 t551 t552 _ A8.out).mono ?_); rintro e w23 ⟨v553, rfl, ho0, hb⟩; refine ⟨_, rfl, ?_⟩; have n0_ := rb HO550 hb; have n1_ := Aside0.mk (Kd.V_lower (Kd.V_mono (ok' := fun k_ => some k_ ≠ (v549 : Value).ownBlock) ho0 (fun k_ hk_ => (Kd.fresh' (Kd.R_lt (rt HO550)) k_ hk_))) (below_size (belt HB))); have n2_ := belb HB hb; clear HO550; clear HB; have HO550 := n0_; have HO554 := n1_; have HB := n2_; clear n0_ n1_ n2_; (try clear hb); (try clear hb2); (try clear hk); (try clear hi); (try clear ho0); obtain ⟨Ao24, co24, eo24⟩ := Kd.R_slice HO550.out; subst eo24; obtain ⟨Ao25, co25, eo25⟩ := Kd.V_slice HO554.out; subst eo25) | ((with_reducible refine gate_callee (f := 18) rfl ?_); refine goesL_ (some 20) rfl rfl Try.func18 (by kernel_rfl) rfl #[.agg #[.bool t547, .slice Ao24 t548.length co24], .agg #[.bool t551, .slice Ao25 t552.length co25]] rfl argt ?_; (with_reducible refine (turnstoneref01_Cmp.calls k t547 _ _ t548 t551 _ _ t552 t555 _ ?side1 ?side2 ?side3 ?side4 A9.out).mono ?_); (case side1 => repeat (first | exact (Kd.R_reads' HO550.out).2.2 | (with_reducible refine Kd.C_alloc ?_ _) | (with_reducible refine Kd.C_drewN ?_ _) | (with_reducible refine Kd.C_drew ?_))); (case side2 => exact (Kd.R_reads' HO550.out).2.1); (case side3 => repeat (first | exact (Kd.V_reads' HO554.out).2.2 | (with_reducible refine Kd.C_alloc ?_ _) | (with_reducible refine Kd.C_drewN ?_ _) | (with_reducible refine Kd.C_drew ?_))); (case side4 => exact (Kd.V_reads' HO554.out).2.1); rintro e w26 ⟨rfl, hb⟩; refine ⟨_, rfl, ?_⟩; have n0_ := rb HO550 hb; have n1_ := vb HO554 hb; have n2_ := belb HB hb; clear HO550; clear HO554; clear HB; have HO550 := n0_; have HO554 := n1_; have HB := n2_; clear n0_ n1_ n2_; (try clear hb); (try clear hb2); (try clear hk); (try clear hi)) | (go_at_call 22; (with_reducible refine (vtime_Time_Before.calls a0 a1 t556 _ A11.out).mono ?_); rintro e w' ⟨rfl, ⟨nd, rfl⟩⟩) | (go_at_call 23; (with_reducible refine (turnstoneref03_Before.calls k a0 a1 t557 _ A12.out).mono ?_); rintro e w27 ⟨rfl, hb⟩; have n0_ := rb HO550 hb; have n1_ := vb HO554 hb; have n2_ := belb HB hb; clear HO550; clear HO554; clear HB; have HO550 := n0_; have HO554 := n1_; have HB := n2_; clear n0_ n1_ n2_; (try clear hb); (try clear hb2); (try clear hk); (try clear hi)) | (go_at_call 25; (with_reducible refine (vtime_Time_Add.calls a0 a2 t558 _ A14.out).mono ?_); rintro e w' ⟨rfl, ⟨nd, rfl⟩⟩) | (go_at_call 24; (with_reducible refine (turnstoneref01_U.calls k t558 t559 t560 _ A15.out).mono ?_); rintro e w28 ⟨v561, rfl, ho0, hb⟩; have n0_ := Aside0.mk (Kd.R_elder' (rt HO550) (Kd.R_base ho0) hb); have n1_ := Aside0.mk (Kd.V_elder' (vt HO554) (Kd.R_base ho0) hb); have n2_ := Aside0.mk (Kd.R_lower (Kd.R_new' ho0 (Kd.R_lt (rt HO550))) (below_size (belt HB))); have n3_ := belb HB hb; clear HO550; clear HO554; clear HB; have HO550 := n0_; have HO554 := n1_; have HO562 := n2_; have HB := n3_; clear n0_ n1_ n2_ n3_; (try clear hb); (try clear hb2); (try clear hk); (try clear hi); (try clear ho0)) | (go_at_call 24; (with_reducible refine (turnstoneref01_U.calls k a0 t563 t564 _ A16.out).mono ?_); rintro e w29 ⟨v565, rfl, ho0, hb⟩; have n0_ := Aside0.mk (Kd.R_elder' (rt HO550) (Kd.R_base ho0) hb); have n1_ := Aside0.mk (Kd.V_elder' (vt HO554) (Kd.R_base ho0) hb); have n2_ := Aside0.mk (Kd.R_elder' (rt HO562) (Kd.R_base ho0) hb); have n3_ := Aside0.mk (Kd.R_lower (Kd.R_new' (Kd.R_new' ho0 (Kd.R_lt (rt HO550))) (Kd.R_lt (rt HO562))) (below_size (belt HB))); have n4_ := belb HB hb; clear HO550; clear HO554; clear HO562; clear HB; have HO550 := n0_; have HO554 := n1_; have HO562 := n2_; have HO566 := n3_; have HB := n4_; clear n0_ n1_ n2_ n3_ n4_; (try clear hb); (try clear hb2); (try clear hk); (try clear hi); (try clear ho0)) | (go_at_call 19; (with_reducible refine (turnstoneref01_N.calls k a2 t567 t568 _ A17.out).mono ?_); rintro e w30 ⟨v569, rfl, ho0, hb⟩; have n0_ := Aside0.mk (Kd.R_elder' (rt HO550) (Kd.R_base ho0) hb); have n1_ := Aside0.mk (Kd.V_elder' (vt HO554) (Kd.R_base ho0) hb); have n2_ := Aside0.mk (Kd.R_elder' (rt HO562) (Kd.R_base ho0) hb); have n3_ := Aside0.mk (Kd.R_elder' (rt HO566) (Kd.R_base ho0) hb); have n4_ := Aside0.mk (Kd.R_lower (Kd.R_new' (Kd.R_new' (Kd.R_new' ho0 (Kd.R_lt (rt HO550))) (Kd.R_lt (rt HO562))) (Kd.R_lt (rt HO566))) (below_size (belt HB))); have n5_ := belb HB hb; clear HO550; clear HO554; clear HO562; clear HO566; clear HB; have HO550 := n0_; have HO554 := n1_; have HO562 := n2_; have HO566 := n3_; have HO570 := n4_; have HB := n5_; clear n0_ n1_ n2_ n3_ n4_ n5_; (try clear hb); (try clear hb2); (try clear hk); (try clear hi); (try clear ho0); obtain ⟨Ao31, co31, eo31⟩ := Kd.R_slice HO566.out; subst eo31; obtain ⟨Ao32, co32, eo32⟩ := Kd.R_slice HO570.out; subst eo32) | (go_at_call 27; (with_reducible refine (turnstoneref01_Add.calls k t563 _ _ t564 t567 _ _ t568 t571 t572 _ ?side1 ?side2 ?side3 ?side4 A18.out).mono ?_); (case side1 => repeat (first | exact (Kd.R_reads' HO566.out).2.2 | (with_reducible refine Kd.C_alloc ?_ _) | (with_reducible refine Kd.C_drewN ?_ _) | (with_reducible refine Kd.C_drew ?_))); (case side2 => exact (Kd.R_reads' HO566.out).2.1); (case side3 => repeat (first | exact (Kd.R_reads' HO570.out).2.2 | (with_reducible refine Kd.C_alloc ?_ _) | (with_reducible refine Kd.C_drewN ?_ _) | (with_reducible refine Kd.C_drew ?_))); (case side4 => exact (Kd.R_reads' HO570.out).2.1); rintro e w33 ⟨v573, rfl, ho0, hb⟩; have n0_ := rb HO550 hb; have n1_ := vb HO554 hb; have n2_ := rb HO562 hb; have n3_ := rb HO566 hb; have n4_ := rb HO570 hb; have n5_ := Aside0.mk (Kd.V_lower (Kd.V_mono (ok' := fun k_ => some k_ ≠ (.slice Ao24 t548.length co24 : Value).ownBlock ∧ some k_ ≠ (v561 : Value).ownBlock ∧ some k_ ≠ (.slice Ao31 t564.length co31 : Value).ownBlock ∧ some k_ ≠ (.slice Ao32 t568.length co32 : Value).ownBlock) ho0 (fun k_ hk_ => ⟨(Kd.fresh' (Kd.R_lt (rt HO550)) k_ hk_), (Kd.fresh' (Kd.R_lt (rt HO562)) k_ hk_), (Kd.fresh' (Kd.R_lt (rt HO566)) k_ hk_), (Kd.fresh' (Kd.R_lt (rt HO570)) k_ hk_)⟩)) (below_size (belt HB))); have n6_ := belb HB hb; clear HO550; clear HO554; clear HO562; clear HO566; clear HO570; clear HB; have HO550 := n0_; have HO554 := n1_; have HO562 := n2_; have HO566 := n3_; have HO570 := n4_; have HO574 := n5_; have HB := n6_; clear n0_ n1_ n2_ n3_ n4_ n5_ n6_; (try clear hb); (try clear hb2); (try clear hk); (try clear hi); (try clear ho0); obtain ⟨Ao34, co34, eo34⟩ := Kd.V_slice HO574.out; subst eo34) | (go_at_call 26; (with_reducible refine (turnstoneref03_Round.calls k t571 (fun k_ => (some k_ ≠ (.slice Ao24 t548.length co24 : Value).ownBlock ∧ (some k_ ≠ (v561 : Value).ownBlock ∧ (some k_ ≠ (.slice Ao31 t564.length co31 : Value).ownBlock ∧ some k_ ≠ (.slice Ao32 t568.length co32 : Value).ownBlock)))) _ _ t572 t575 t576 _ ?side1 A19.out).mono ?_); (case side1 => exact HO574.out); rintro e w35 ⟨v577, rfl, ho0, hb⟩; have n0_ := rb HO550 hb; have n1_ := vb HO554 hb; have n2_ := rb HO562 hb; have n3_ := rb HO566 hb; have n4_ := rb HO570 hb; have n5_ := vb HO574 hb; have n6_ := Aside0.mk (Kd.V_lower (Kd.V_mono (ok' := fun k_ => some k_ ≠ (.slice Ao24 t548.length co24 : Value).ownBlock ∧ some k_ ≠ (v561 : Value).ownBlock ∧ some k_ ≠ (.slice Ao31 t564.length co31 : Value).ownBlock ∧ some k_ ≠ (.slice Ao32 t568.length co32 : Value).ownBlock) ho0 (fun k_ hk_ => ⟨Or.elim hk_ (fun hs_ => hs_.1) (fun hn_ => (Kd.fresh' (Kd.R_lt (rt HO550)) k_ hn_)), Or.elim hk_ (fun hs_ => hs_.2.1) (fun hn_ => (Kd.fresh' (Kd.R_lt (rt HO562)) k_ hn_)), Or.elim hk_ (fun hs_ => hs_.2.2.1) (fun hn_ => (Kd.fresh' (Kd.R_lt (rt HO566)) k_ hn_)), Or.elim hk_ (fun hs_ => hs_.2.2.2) (fun hn_ => (Kd.fresh' (Kd.R_lt (rt HO570)) k_ hn_))⟩)) (below_size (belt HB))); have n7_ := belb HB hb; clear HO550; clear HO554; clear HO562; clear HO566; clear HO570; clear HO574; clear HB; have HO550 := n0_; have HO554 := n1_; have HO562 := n2_; have HO566 := n3_; have HO570 := n4_; have HO574 := n5_; have HO578 := n6_; have HB := n7_; clear n0_ n1_ n2_ n3_ n4_ n5_ n6_ n7_; (try clear hb); (try clear hb2); (try clear hk); (try clear hi); (try clear ho0); obtain ⟨Ao36, co36, eo36⟩ := Kd.R_slice HO562.out; subst eo36; obtain ⟨Ao37, co37, eo37⟩ := Kd.V_slice HO578.out; subst eo37) | (go_at_call 18; (with_reducible refine (turnstoneref01_Cmp.calls k t559 _ _ t560 t575 _ _ t576 t579 _ ?side1 ?side2 ?side3 ?side4 A20.out).mono ?_); (case side1 => repeat (first | exact (Kd.R_reads' HO562.out).2.2 | (with_reducible refine Kd.C_alloc ?_ _) | (with_reducible refine Kd.C_drewN ?_ _) | (with_reducible refine Kd.C_drew ?_))); (case side2 => exact (Kd.R_reads' HO562.out).2.1); (case side3 => repeat (first | exact (Kd.V_reads' HO578.out).2.2 | (with_reducible refine Kd.C_alloc ?_ _) | (with_reducible refine Kd.C_drewN ?_ _) | (with_reducible refine Kd.C_drew ?_))); (case side4 => exact (Kd.V_reads' HO578.out).2.1); rintro e w38 ⟨rfl, hb⟩; have n0_ := rb HO550 hb; have n1_ := vb HO554 hb; have n2_ := rb HO562 hb; have n3_ := rb HO566 hb; have n4_ := rb HO570 hb; have n5_ := vb HO574 hb; have n6_ := vb HO578 hb; have n7_ := belb HB hb; clear HO550; clear HO554; clear HO562; clear HO566; clear HO570; clear HO574; clear HO578; clear HB; have HO550 := n0_; have HO554 := n1_; have HO562 := n2_; have HO566 := n3_; have HO570 := n4_; have HO574 := n5_; have HO578 := n6_; have HB := n7_; clear n0_ n1_ n2_ n3_ n4_ n5_ n6_ n7_; (try clear hb); (try clear hb2); (try clear hk); (try clear hi)))
    go_ret
    exact ⟨by first | rfl | (simp [errW_none, errW_some] <;> rfl) | (simp [*, errW_none, errW_some] <;> rfl), by repeat (first | (with_reducible first | exact HB.out | apply below_alloc | apply pw_below_drewN | apply below_drew1) | exact HB.out)⟩
   ·rw [if_neg c13] at H
    exact absurd H (by simp)
  ·rw [if_neg c10] at H
   exact absurd H (by simp)
 ·replace c5 := Bool.eq_false_iff.mpr c5
  subst c5
  have H1 : (none) = some r := by rw [if_neg (show ¬ (false = true) by decide)] at H; exact H
  clear H
  have H := H1
  clear H1
  exact absurd H (by simp)

/-- THE ONE PURE STATEMENT of turnstonelaw03_VtimeTells. -/
def turnstonelaw03_VtimeTells.Pure : Prop := ∀ (a0 : Int) (a1 : Int) (a2 : Int), (Lit.int .u64 a0).wf = true → (Lit.int .u64 a1).wf = true → (Lit.int .i64 a2).wf = true → ∃ k, turnstonelaw03_VtimeTells.f k a0 a1 a2 = some true
theorem turnstonelaw03_VtimeTells.walk (P : turnstonelaw03_VtimeTells.Pure) (a0 : Int) (a1 : Int) (a2 : Int) (w : World) (w0 : (Lit.int .u64 a0).wf = true) (w1 : (Lit.int .u64 a1).wf = true) (w2 : (Lit.int .i64 a2).wf = true) :
  Calls Try.prog 3 #[.int .u64 a0, .int .u64 a1, .int .i64 a2] w fun e w' => e = .returned (.bool true) ∧ Below w.heap.size w w' := by
 obtain ⟨k, h⟩ := P a0 a1 a2 w0 w1 w2
 refine (turnstonelaw03_VtimeTells.calls k a0 a1 a2 true w h).mono ?_
 rintro e w' ⟨rfl, hd⟩
 exact ⟨rfl, hd⟩

/-! ### turnstoneref03_First: function 30 -/
def turnstoneref03_First.l0 : Nat → Int → List Int → Int → Int → Option (Int)
 | 0, _, _, _, _ => none
 | k + 1, x3, x9, x10, x11 => if x11 < x10 then (if 0 ≤ x11 then (if x11 < (x9.length : Int) then ((turnstoneref03_Before.f k (rd x9 x11) x3).bind fun t582 => (if t582 = true then (turnstoneref03_First.l0 k (rd x9 x11) x9 x10 (wrap64 (x11 + 1))) else (turnstoneref03_First.l0 k x3 x9 x10 (wrap64 (x11 + 1))))) else (none)) else (none)) else (some x3)
def turnstoneref03_First.f (k : Nat) (l0 : List Int) : Option (Int) := if 0 < (l0.length : Int) then (turnstoneref03_First.l0 k (rd l0 0) l0 (l0.length : Int) 0) else (none)
theorem turnstoneref03_First.mono_l : ∀ k, (∀ y0 y1 y2 y3, LeO (turnstoneref03_First.l0 k y0 y1 y2 y3) (turnstoneref03_First.l0 (k + 1) y0 y1 y2 y3))
 | 0 => fun _ _ _ _ r h => by simp [turnstoneref03_First.l0] at h
 | k + 1 => by
  have ih0 := turnstoneref03_First.mono_l k
  ·intro y0 y1 y2 y3
   unfold turnstoneref03_First.l0
   repeat' first
   | (with_reducible exact ih0 _ _ _ _)
   | (with_reducible exact turnstoneref03_Before.mono _ _ _)
   | (with_reducible exact LeO.refl _)
   | (with_reducible exact LeO.none _)
   | (with_reducible refine LeO.ite ?_ ?_)
   | (with_reducible refine LeO.bind ?_ (fun _ => ?_))
   | exact ih0 _ _ _ _
   | exact turnstoneref03_Before.mono _ _ _
   | exact LeO.none _
   | refine LeO.ite ?_ ?_
   | refine LeO.bind ?_ (fun _ => ?_)
theorem turnstoneref03_First.mono : ∀ a0 k, LeO (turnstoneref03_First.f k a0) (turnstoneref03_First.f (k + 1) a0) := by
 intro a0 k
 have ih0 := turnstoneref03_First.mono_l k
 unfold turnstoneref03_First.f
 repeat' first
   | (with_reducible exact ih0 _ _ _ _)
   | (with_reducible exact turnstoneref03_Before.mono _ _ _)
   | (with_reducible exact LeO.refl _)
   | (with_reducible exact LeO.none _)
   | (with_reducible refine LeO.ite ?_ ?_)
   | (with_reducible refine LeO.bind ?_ (fun _ => ?_))
   | exact ih0 _ _ _ _
   | exact turnstoneref03_Before.mono _ _ _
   | exact LeO.none _
   | refine LeO.ite ?_ ?_
   | refine LeO.bind ?_ (fun _ => ?_)
set_option maxHeartbeats 8000000 in
set_option maxRecDepth 100000 in
theorem turnstoneref03_First.calls (k : Nat) (A0 : Option Addr) (c0 : Nat) (l0 : List Int) (r : Int) (w : World) (hr0 : Kd.C (Kd.int .u64) w A0 l0.length l0) (hc0 : l0.length ≤ c0) (h : turnstoneref03_First.f k l0 = some r) :
  Calls Try.prog 30 #[.slice A0 l0.length c0] w fun e w' => e = .returned (.int .u64 r) ∧ Below w.heap.size w w' := by
 have HR0 := Aside0.mk hr0
 have HC0 := Aside0.mk hc0
 clear hr0 hc0
 have HB := Aside0.mk (Below.refl w.heap.size w)
 have H : (if 0 < (l0.length : Int) then (turnstoneref03_First.l0 k (rd l0 0) l0 (l0.length : Int) 0) else (none)) = some r := h
 clear h
 by_cases c2 : 0 < (l0.length : Int)
 ·rw [if_pos c2] at H
  have c2b0 : decide (0 < (l0.length : Int)) = true := decide_eq_true c2
  have c2b1 : decide (0 < l0.length) = true := decide_eq_true (by omega)
  clear c2
  have H' := Aside0.mk H
  clear H
  have p580 : 0 ≤ (0 : Int) := (by omega)
  have q580 : 0 < (l0.length : Int) := of_decide_eq_true (by first | (with_reducible assumption) | assumption)
  obtain ⟨ad580, e580, hx580_0⟩ := Kd.at_int HR0.out 0 p580 q580
  cases e580
  have qi580 : (0 < l0.length) = True := eq_true (by omega)
  (try rw [show ((0 : Int)).toNat = 0 from rfl] at hx580_0)
  (try rw [Addr.add_zero'] at hx580_0)
  replace p580 := eq_true p580
  replace q580 := eq_true q580
  go_enter Try.func30, Try.ntmps30
  go_wp2
  (try simp only [Act.put, List.setIfInBounds_toArray, List.set_cons_zero, List.set_cons_succ])
  go_loopg [3, 11] k (fun kq v3 v11 w' => ∃ (x3_1 : Int) (x11_1 : Int), v3 = .int .u64 x3_1 ∧ v11 = .int .i64 x11_1 ∧ Aside0 (turnstoneref03_First.l0 kq x3_1 l0 (l0.length : Int) x11_1 = some r) ∧ Aside0 (kq ≤ k) ∧ Aside0 (Below w.heap.size w w'))
  case atStart => exact ⟨(rd l0 0), (0), (by first | rfl | (simp; done) | (simp [*]; done)), (by first | rfl | (simp; done) | (simp [*]; done)), H', ⟨Nat.le_refl _⟩, ⟨by repeat (first | (with_reducible first | exact HB.out | apply below_alloc | apply pw_below_drewN | apply below_drew1) | exact HB.out)⟩⟩
  case round =>
   clear H'
   try clear c2
   try clear c2b0
   try clear c2b1
   try clear p2
   try clear hx580_0
   try clear p580
   try clear q580
   obtain ⟨x3_1, x11_1, rfl, rfl, HA, HK1, HB⟩ := hrel
   cases gk with
   | zero => exact absurd HA.out (by simp [turnstoneref03_First.l0])
   | succ k1 =>
    have H := HA.out
    clear HA
    simp only [turnstoneref03_First.l0] at H
    by_cases c3 : x11_1 < (l0.length : Int)
    ·rw [if_pos c3] at H
     have c3b0 : decide (x11_1 < (l0.length : Int)) = true := decide_eq_true c3
     clear c3
     by_cases c4 : 0 ≤ x11_1
     ·rw [if_pos c4] at H
      have c4b0 : decide (0 ≤ x11_1) = true := decide_eq_true c4
      clear c4
      by_cases c5 : x11_1 < (l0.length : Int)
      ·rw [if_pos c5] at H
       have c5b0 : decide (x11_1 < (l0.length : Int)) = true := decide_eq_true c5
       clear c5
       replace H := Option.bind_eq_some_iff.mp H
       obtain ⟨t582, A60, H⟩ := H
       replace H : (if t582 = true then (turnstoneref03_First.l0 k1 (rd l0 x11_1) l0 (l0.length : Int) (wrap64 (x11_1 + 1))) else (turnstoneref03_First.l0 k1 x3_1 l0 (l0.length : Int) (wrap64 (x11_1 + 1)))) = some r := H
       have A6 := Aside0.mk A60
       clear A60
       by_cases c7 : t582 = true
       ·subst c7
        have H1 : (turnstoneref03_First.l0 k1 (rd l0 x11_1) l0 (l0.length : Int) (wrap64 (x11_1 + 1))) = some r := by rw [if_pos rfl] at H; exact H
        clear H
        have H := H1
        clear H1
        have H' := Aside0.mk H
        clear H
        have p581 : 0 ≤ (x11_1 : Int) := of_decide_eq_true (by first | (with_reducible assumption) | assumption)
        have q581 : x11_1 < (l0.length : Int) := of_decide_eq_true (by first | (with_reducible assumption) | assumption)
        obtain ⟨ad581, e581, hx581_0⟩ := Kd.at_int HR0.out x11_1 p581 q581
        obtain rfl : ad580 = ad581 := (by injection e581)
        replace hx581_0 := (HB.out.cell (World.block_lt_of_cell? w _ hx581_0)).trans hx581_0
        replace p581 := eq_true p581
        replace q581 := eq_true q581
        go_wp2_with (first | ((with_reducible refine gate_callee (f := 23) rfl ?_); refine goesL_ (some 17) rfl rfl Try.func23 (by kernel_rfl) rfl #[.int .u64 (rd l0 x11_1), .int .u64 x3_1] rfl argt ?_; (with_reducible refine (turnstoneref03_Before.calls k1 (rd l0 x11_1) x3_1 true _ A6.out).mono ?_); rintro e w8 ⟨rfl, hb⟩; refine ⟨_, rfl, ?_⟩; have n0_ := belb HB hb; clear HB; have HB := n0_; clear n0_; (try clear hb); (try clear hb2); (try clear hk); (try clear hi)))
        go_roundg k1
        case measure => have := HK1.out; omega
        case rel => exact ⟨(rd l0 x11_1), (wrap64 (x11_1 + 1)), (by first | rfl | (simp; done) | (simp [*]; done)), (by first | rfl | (simp; done) | (simp [*]; done)), H', ⟨by have := HK1.out; omega⟩, ⟨by repeat (first | (with_reducible first | exact HB.out | apply below_alloc | apply pw_below_drewN | apply below_drew1) | exact HB.out)⟩⟩
       ·replace c7 := Bool.eq_false_iff.mpr c7
        subst c7
        have H1 : (turnstoneref03_First.l0 k1 x3_1 l0 (l0.length : Int) (wrap64 (x11_1 + 1))) = some r := by rw [if_neg (show ¬ (false = true) by decide)] at H; exact H
        clear H
        have H := H1
        clear H1
        have H' := Aside0.mk H
        clear H
        have p581 : 0 ≤ (x11_1 : Int) := of_decide_eq_true (by first | (with_reducible assumption) | assumption)
        have q581 : x11_1 < (l0.length : Int) := of_decide_eq_true (by first | (with_reducible assumption) | assumption)
        obtain ⟨ad581, e581, hx581_0⟩ := Kd.at_int HR0.out x11_1 p581 q581
        obtain rfl : ad580 = ad581 := (by injection e581)
        replace hx581_0 := (HB.out.cell (World.block_lt_of_cell? w _ hx581_0)).trans hx581_0
        replace p581 := eq_true p581
        replace q581 := eq_true q581
        go_wp2_with (first | ((with_reducible refine gate_callee (f := 23) rfl ?_); refine goesL_ (some 17) rfl rfl Try.func23 (by kernel_rfl) rfl #[.int .u64 (rd l0 x11_1), .int .u64 x3_1] rfl argt ?_; (with_reducible refine (turnstoneref03_Before.calls k1 (rd l0 x11_1) x3_1 false _ A6.out).mono ?_); rintro e w9 ⟨rfl, hb⟩; refine ⟨_, rfl, ?_⟩; have n0_ := belb HB hb; clear HB; have HB := n0_; clear n0_; (try clear hb); (try clear hb2); (try clear hk); (try clear hi)))
        go_roundg k1
        case measure => have := HK1.out; omega
        case rel => exact ⟨(x3_1), (wrap64 (x11_1 + 1)), (by first | rfl | (simp; done) | (simp [*]; done)), (by first | rfl | (simp; done) | (simp [*]; done)), H', ⟨by have := HK1.out; omega⟩, ⟨by repeat (first | (with_reducible first | exact HB.out | apply below_alloc | apply pw_below_drewN | apply below_drew1) | exact HB.out)⟩⟩
      ·rw [if_neg c5] at H
       exact absurd H (by simp)
     ·rw [if_neg c4] at H
      exact absurd H (by simp)
    ·rw [if_neg c3] at H
     have c3b0 : decide (x11_1 < (l0.length : Int)) = false := decide_eq_false c3
     clear c3
     obtain rfl := Option.some.inj H
     go_wp2
     go_ret
     exact ⟨by first | rfl | (simp [errW_none, errW_some] <;> rfl) | (simp [*, errW_none, errW_some] <;> rfl), by repeat (first | (with_reducible first | exact HB.out | apply below_alloc | apply pw_below_drewN | apply below_drew1) | exact HB.out)⟩
 ·rw [if_neg c2] at H
  exact absurd H (by simp)

end Go.Proofs.Ytimgiiceipjpaaa.Print
