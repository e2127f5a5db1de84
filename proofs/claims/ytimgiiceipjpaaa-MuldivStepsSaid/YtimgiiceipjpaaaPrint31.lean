/- What each Go function that is named below answers, as a Lean function, and that its walk comes to just that: for whatever arguments that function gives an answer for. Written by a program of this session (wip/mkpr.py, pr.sh). -/
import Derived.Test.YtimgiiceipjpaaaPrint0
import Derived.Test.YtimgiiceipjpaaaPrint2
import Derived.Test.YtimgiiceipjpaaaPrint9
import Derived.Test.YtimgiiceipjpaaaPrint10
import Derived.Test.YtimgiiceipjpaaaPrint30
namespace Go.Proofs.Ytimgiiceipjpaaa.Print
open Go.RowKit Go.Proofs.YtimgiiceipjpaaaW.PrintWords Go.Proofs.YtimgiiceipjpaaaW.PrintLast Go.Proofs.YtimgiiceipjpaaaW.PrintMore
attribute [local go_sem] max2_int min2_int max_two min_two max_three min_three max_four min_four   -- for this text's walks alone
open Go.Proofs.Ytimgiiceipjpaaa.Bits Go.Proofs.Ytimgiiceipjpaaa.Short
attribute [local go_sem] add64_run0 sub64_run0 add64_run sub64_run
set_option linter.unusedVariables false
set_option linter.unusedSimpArgs false

attribute [local go_sem high] eqA67
/-! ### turnstonelaw02_Awake: function 73 -/
def turnstonelaw02_Awake.f (k : Nat)  : Option (Bool) := (turnstonelaw02_awake.f k).bind fun t531 => (some t531)
theorem turnstonelaw02_Awake.mono : ∀ k, LeO (turnstonelaw02_Awake.f k ) (turnstonelaw02_Awake.f (k + 1) ) := by
 intro  k
 unfold turnstonelaw02_Awake.f
 repeat' first
   | (with_reducible exact turnstonelaw02_awake.mono _)
   | (with_reducible exact LeO.refl _)
   | (with_reducible exact LeO.none _)
   | (with_reducible refine LeO.ite ?_ ?_)
   | (with_reducible refine LeO.bind ?_ (fun _ => ?_))
   | exact turnstonelaw02_awake.mono _
   | exact LeO.none _
   | refine LeO.ite ?_ ?_
   | refine LeO.bind ?_ (fun _ => ?_)
set_option maxHeartbeats 8000000 in
set_option maxRecDepth 100000 in
theorem turnstonelaw02_Awake.calls (k : Nat)  (r : Bool) (w : World) (h : turnstonelaw02_Awake.f k  = some r) :
  Calls Try.prog 73 #[] w fun e w' => e = .returned (.bool r) ∧ Below w.heap.size w w' := by
 have HB := Aside0.mk (Below.refl w.heap.size w)
 have H : ((turnstonelaw02_awake.f k).bind fun t531 => (some t531)) = some r := h
 clear h
 replace H := Option.bind_eq_some_iff.mp H
 obtain ⟨t531, A10, H⟩ := H
 replace H : (some t531) = some r := H
 have A1 := Aside0.mk A10
 clear A10
 obtain rfl := Option.some.inj H
 go_enter Try.func73, Try.ntmps73
 go_wp2_with (first | ((with_reducible refine gate_callee (f := 33) rfl ?_); refine goesL_ (some 1) rfl rfl Try.func33 (by kernel_rfl) rfl #[] rfl argt ?_; (with_reducible refine (turnstonelaw02_awake.calls k  t531 _ A1.out).mono ?_); rintro e w2 ⟨rfl, hb⟩; refine ⟨_, rfl, ?_⟩; have n0_ := belb HB hb; clear HB; have HB := n0_; clear n0_; (try clear hb); (try clear hb2); (try clear hk); (try clear hi)))
 go_ret
 exact ⟨by first | rfl | (simp [errW_none, errW_some] <;> rfl) | (simp [*, errW_none, errW_some] <;> rfl), by repeat (first | (with_reducible first | exact HB.out | apply below_alloc | apply pw_below_drewN | apply below_drew1) | exact HB.out)⟩

/-! ### vtime_Time_Since: function 20 -/
def vtime_Time_Since.f (a0 : Int) (a1 : Int) : Option (Int) := some (wrap64 (IntKind.u64.wrap (a0 - a1)))
set_option maxHeartbeats 8000000 in
set_option maxRecDepth 100000 in
theorem vtime_Time_Since.calls (a0 : Int) (a1 : Int) (r : Int) (w : World) (h : vtime_Time_Since.f a0 a1 = some r) :
  Calls Try.prog 20 #[.int .u64 a0, .int .u64 a1] w fun e w' => e = .returned (.int .i64 r) ∧ Drawn0 w w' := by
 have H : (some (wrap64 (IntKind.u64.wrap (a0 - a1)))) = some r := h
 clear h
 obtain rfl := Option.some.inj H
 go_enter Try.func20, Try.ntmps20
 go_wp2
 go_ret
 exact ⟨by first | rfl | (simp; done) | (simp [*]; done), by repeat (first | exact Drawn0.refl _ | apply Drawn0.step)⟩

/-! ### turnstonelaw03_awake: function 17 -/
def turnstonelaw03_awake.f (k : Nat)  : Option (Bool) := (turnstonelaw01_Awake.f k).bind fun t532 => (if t532 = true then ((vtime_Time_Since.f 2 18446744073709551615).bind fun t533 => (some (t533 == 3))) else (none))
theorem turnstonelaw03_awake.mono : ∀ k, LeO (turnstonelaw03_awake.f k ) (turnstonelaw03_awake.f (k + 1) ) := by
 intro  k
 unfold turnstonelaw03_awake.f
 repeat' first
   | (with_reducible exact turnstonelaw01_Awake.mono _)
   | (with_reducible exact LeO.refl _)
   | (with_reducible exact LeO.none _)
   | (with_reducible refine LeO.ite ?_ ?_)
   | (with_reducible refine LeO.bind ?_ (fun _ => ?_))
   | exact turnstonelaw01_Awake.mono _
   | exact LeO.none _
   | refine LeO.ite ?_ ?_
   | refine LeO.bind ?_ (fun _ => ?_)
set_option maxHeartbeats 8000000 in
set_option maxRecDepth 100000 in
theorem turnstonelaw03_awake.calls (k : Nat)  (r : Bool) (w : World) (h : turnstonelaw03_awake.f k  = some r) :
  Calls Try.prog 17 #[] w fun e w' => e = .returned (.bool r) ∧ Below w.heap.size w w' := by
 have HB := Aside0.mk (Below.refl w.heap.size w)
 have H : ((turnstonelaw01_Awake.f k).bind fun t532 => (if t532 = true then ((vtime_Time_Since.f 2 18446744073709551615).bind fun t533 => (some (t533 == 3))) else (none))) = some r := h
 clear h
 replace H := Option.bind_eq_some_iff.mp H
 obtain ⟨t532, A10, H⟩ := H
 replace H : (if t532 = true then ((vtime_Time_Since.f 2 18446744073709551615).bind fun t533 => (some (t533 == 3))) else (none)) = some r := H
 have A1 := Aside0.mk A10
 clear A10
 by_cases c2 : t532 = true
 ·subst c2
  have H1 : ((vtime_Time_Since.f 2 18446744073709551615).bind fun t533 => (some (t533 == 3))) = some r := by rw [if_pos rfl] at H; exact H
  clear H
  have H := H1
  clear H1
  replace H := Option.bind_eq_some_iff.mp H
  obtain ⟨t533, A30, H⟩ := H
  replace H : (some (t533 == 3)) = some r := H
  have A3 := Aside0.mk A30
  clear A30
  obtain rfl := Option.some.inj H
  go_enter Try.func17, Try.ntmps17
  go_wp2_with (first | ((with_reducible refine gate_callee (f := 58) rfl ?_); refine goesL_ (some 1) rfl rfl Try.func58 (by kernel_rfl) rfl #[] rfl argt ?_; (with_reducible refine (turnstonelaw01_Awake.calls k  true _ A1.out).mono ?_); rintro e w4 ⟨rfl, hb⟩; refine ⟨_, rfl, ?_⟩; have n0_ := belb HB hb; clear HB; have HB := n0_; clear n0_; (try clear hb); (try clear hb2); (try clear hk); (try clear hi)) | (go_at_call 20; (with_reducible refine (vtime_Time_Since.calls 2 18446744073709551615 t533 _ A3.out).mono ?_); rintro e w' ⟨rfl, ⟨nd, rfl⟩⟩))
  go_ret
  exact ⟨by first | rfl | (simp [errW_none, errW_some] <;> rfl) | (simp [*, errW_none, errW_some] <;> rfl), by repeat (first | (with_reducible first | exact HB.out | apply below_alloc | apply pw_below_drewN | apply below_drew1) | exact HB.out)⟩
 ·replace c2 := Bool.eq_false_iff.mpr c2
  subst c2
  have H1 : (none) = some r := by rw [if_neg (show ¬ (false = true) by decide)] at H; exact H
  clear H
  have H := H1
  clear H1
  exact absurd H (by simp)

/-! ### turnstonelaw03_Awake: function 74 -/
def turnstonelaw03_Awake.f (k : Nat)  : Option (Bool) := (turnstonelaw03_awake.f k).bind fun t534 => (some t534)
theorem turnstonelaw03_Awake.mono : ∀ k, LeO (turnstonelaw03_Awake.f k ) (turnstonelaw03_Awake.f (k + 1) ) := by
 intro  k
 unfold turnstonelaw03_Awake.f
 repeat' first
   | (with_reducible exact turnstonelaw03_awake.mono _)
   | (with_reducible exact LeO.refl _)
   | (with_reducible exact LeO.none _)
   | (with_reducible refine LeO.ite ?_ ?_)
   | (with_reducible refine LeO.bind ?_ (fun _ => ?_))
   | exact turnstonelaw03_awake.mono _
   | exact LeO.none _
   | refine LeO.ite ?_ ?_
   | refine LeO.bind ?_ (fun _ => ?_)
set_option maxHeartbeats 8000000 in
set_option maxRecDepth 100000 in
theorem turnstonelaw03_Awake.calls (k : Nat)  (r : Bool) (w : World) (h : turnstonelaw03_Awake.f k  = some r) :
  Calls Try.prog 74 #[] w fun e w' => e = .returned (.bool r) ∧ Below w.heap.size w w' := by
 have HB := Aside0.mk (Below.refl w.heap.size w)
 have H : ((turnstonelaw03_awake.f k).bind fun t534 => (some t534)) = some r := h
 clear h
 replace H := Option.bind_eq_some_iff.mp H
 obtain ⟨t534, A10, H⟩ := H
 replace H : (some t534) = some r := H
 have A1 := Aside0.mk A10
 clear A10
 obtain rfl := Option.some.inj H
 go_enter Try.func74, Try.ntmps74
 go_wp2_with (first | ((with_reducible refine gate_callee (f := 17) rfl ?_); refine goesL_ (some 1) rfl rfl Try.func17 (by kernel_rfl) rfl #[] rfl argt ?_; (with_reducible refine (turnstonelaw03_awake.calls k  t534 _ A1.out).mono ?_); rintro e w2 ⟨rfl, hb⟩; refine ⟨_, rfl, ?_⟩; have n0_ := belb HB hb; clear HB; have HB := n0_; clear n0_; (try clear hb); (try clear hb2); (try clear hk); (try clear hi)))
 go_ret
 exact ⟨by first | rfl | (simp [errW_none, errW_some] <;> rfl) | (simp [*, errW_none, errW_some] <;> rfl), by repeat (first | (with_reducible first | exact HB.out | apply below_alloc | apply pw_below_drewN | apply below_drew1) | exact HB.out)⟩

/-! ### turnstonelaw04_awake: function 44 -/
def turnstonelaw04_awake.f (k : Nat)  : Option (Bool) := (pos_Pos_Move.f k 5 0 3 7).bind fun bt535 => ((turnstonelaw02_Awake.f k).bind fun t540 => (if t540 = true then ((turnstonelaw03_Awake.f k).bind fun t541 => (if t541 = true then (if bt535.2.2.2 = true then (some (bt535.1 == 7 && (bt535.2.1 == 1 && (bt535.2.2.1 == 3)))) else (none)) else (none))) else (none)))
theorem turnstonelaw04_awake.mono : ∀ k, LeO (turnstonelaw04_awake.f k ) (turnstonelaw04_awake.f (k + 1) ) := by
 intro  k
 unfold turnstonelaw04_awake.f
 repeat' first
   | (with_reducible exact pos_Pos_Move.mono _ _ _ _ _)
   | (with_reducible exact turnstonelaw02_Awake.mono _)
   | (with_reducible exact turnstonelaw03_Awake.mono _)
   | (with_reducible exact LeO.refl _)
   | (with_reducible exact LeO.none _)
   | (with_reducible refine LeO.ite ?_ ?_)
   | (with_reducible refine LeO.bind ?_ (fun _ => ?_))
   | exact pos_Pos_Move.mono _ _ _ _ _
   | exact turnstonelaw02_Awake.mono _
   | exact turnstonelaw03_Awake.mono _
   | exact LeO.none _
   | refine LeO.ite ?_ ?_
   | refine LeO.bind ?_ (fun _ => ?_)
set_option maxHeartbeats 8000000 in
set_option maxRecDepth 100000 in
theorem turnstonelaw04_awake.calls (k : Nat)  (r : Bool) (w : World) (h : turnstonelaw04_awake.f k  = some r) :
  Calls Try.prog 44 #[] w fun e w' => e = .returned (.bool r) ∧ Below w.heap.size w w' := by
 have hu67 := Try.underlying67
 have HB := Aside0.mk (Below.refl w.heap.size w)
 have H : ((pos_Pos_Move.f k 5 0 3 7).bind fun bt535 => ((turnstonelaw02_Awake.f k).bind fun t540 => (if t540 = true then ((turnstonelaw03_Awake.f k).bind fun t541 => (if t541 = true then (if bt535.2.2.2 = true then (some (bt535.1 == 7 && (bt535.2.1 == 1 && (bt535.2.2.1 == 3)))) else (none)) else (none))) else (none)))) = some r := h
 clear h
 replace H := Option.bind_eq_some_iff.mp H
 obtain ⟨⟨t535, t536, t537, t538⟩, A10, H⟩ := H
 replace H : ((turnstonelaw02_Awake.f k).bind fun t540 => (if t540 = true then ((turnstonelaw03_Awake.f k).bind fun t541 => (if t541 = true then (if t538 = true then (some (t535 == 7 && (t536 == 1 && (t537 == 3)))) else (none)) else (none))) else (none))) = some r := H
 have A1 := Aside0.mk A10
 clear A10
 replace H := Option.bind_eq_some_iff.mp H
 obtain ⟨t540, A20, H⟩ := H
 replace H : (if t540 = true then ((turnstonelaw03_Awake.f k).bind fun t541 => (if t541 = true then (if t538 = true then (some (t535 == 7 && (t536 == 1 && (t537 == 3)))) else (none)) else (none))) else (none)) = some r := H
 have A2 := Aside0.mk A20
 clear A20
 by_cases c3 : t540 = true
 ·subst c3
  have H1 : ((turnstonelaw03_Awake.f k).bind fun t541 => (if t541 = true then (if t538 = true then (some (t535 == 7 && (t536 == 1 && (t537 == 3)))) else (none)) else (none))) = some r := by rw [if_pos rfl] at H; exact H
  clear H
  have H := H1
  clear H1
  replace H := Option.bind_eq_some_iff.mp H
  obtain ⟨t541, A40, H⟩ := H
  replace H : (if t541 = true then (if t538 = true then (some (t535 == 7 && (t536 == 1 && (t537 == 3)))) else (none)) else (none)) = some r := H
  have A4 := Aside0.mk A40
  clear A40
  by_cases c5 : t541 = true
  ·subst c5
   have H1 : (if t538 = true then (some (t535 == 7 && (t536 == 1 && (t537 == 3)))) else (none)) = some r := by rw [if_pos rfl] at H; exact H
   clear H
   have H := H1
   clear H1
   by_cases c6 : t538 = true
   ·subst c6
    have H1 : (some (t535 == 7 && (t536 == 1 && (t537 == 3)))) = some r := by rw [if_pos rfl] at H; exact H
    clear H
    have H := H1
    clear H1
    obtain rfl := Option.some.inj H
    go_enter Try.func44, Try.ntmps44
    go_wp2_with (first | ((with_reducible refine gate_callee (f := 47) rfl ?_); refine goesL_ (some 5) rfl rfl Try.func47 (by kernel_rfl) rfl #[.agg #[.int .u64 5, .int .u32 0, .int .u32 3], .int .u64 7] rfl argt ?_; (with_reducible refine (pos_Pos_Move.calls k 5 0 3 7 t535 t536 t537 true _ A1.out).mono ?_); rintro e w7 ⟨rfl, hb⟩; refine ⟨_, rfl, ?_⟩; have n0_ := belb HB hb; clear HB; have HB := n0_; clear n0_; (try clear hb); (try clear hb2); (try clear hk); (try clear hi)) | ((with_reducible refine gate_dst (N := 1) rfl ?_); refine box_event ?hg (N := 1) ?hd (cs := #[.int .u64 0, .int .u32 0, .int .u32 0]) (t := 67) ?hr ?_; (case hd => rfl); (case hg => rfl); (case hr => first | (go_simp; done) | (go_simp; rfl)); intro gb539 hg w8 hbox hb; have n0_ := belb HB hb; have n1_ := Aside0.mk (hbox); have n2_ := bels HB hg; have n3_ := bels HB hg; clear HB; have HB := n0_; have BK539 := n1_; have GW539 := n2_; have GE539 := n3_; clear n0_ n1_ n2_ n3_; clear hb hbox hg; have hcz9_0 : w8.cell? ⟨gb539, 0, none⟩ = some (.int .u64 0) := (blk_cell BK539.out 0).trans rfl; have hcz9_1 : w8.cell? ⟨gb539, 1, none⟩ = some (.int .u32 0) := (blk_cell BK539.out 1).trans rfl; have hcz9_2 : w8.cell? ⟨gb539, 2, none⟩ = some (.int .u32 0) := (blk_cell BK539.out 2).trans rfl; have hfz9_0 := blk_frozen BK539.out 0; have hfz9_1 := blk_frozen BK539.out 1; have hfz9_2 := blk_frozen BK539.out 2) | ((with_reducible refine gate_callee (f := 73) rfl ?_); refine goesL_ (some 8) rfl rfl Try.func73 (by kernel_rfl) rfl #[] rfl argt ?_; (with_reducible refine (turnstonelaw02_Awake.calls k  true _ A2.out).mono ?_); rintro e w10 ⟨rfl, hb⟩; refine ⟨_, rfl, ?_⟩; have n0_ := Aside0.mk (blk_below (g := gb539) (o := .cells #[.int .u64 t535, .int .u32 t536, .int .u32 t537] 67 (0, 0)) (by (with_reducible repeat (first | refine blk_drewN ?_ _ | refine blk_drew ?_ | refine blk_alloc ?_ _)); refine blk_put (cs := #[.int .u64 t535, .int .u32 t536, .int .u32 0]) ?_ 2 _ rfl; (with_reducible repeat (first | refine blk_drewN ?_ _ | refine blk_drew ?_ | refine blk_alloc ?_ _)); refine blk_put (cs := #[.int .u64 t535, .int .u32 0, .int .u32 0]) ?_ 1 _ rfl; (with_reducible repeat (first | refine blk_drewN ?_ _ | refine blk_drew ?_ | refine blk_alloc ?_ _)); refine blk_put (cs := #[.int .u64 0, .int .u32 0, .int .u32 0]) ?_ 0 _ rfl; (with_reducible repeat (first | refine blk_drewN ?_ _ | refine blk_drew ?_ | refine blk_alloc ?_ _)); exact BK539.out) hb); have n1_ := belb HB hb; clear BK539; clear HB; have BK539 := n0_; have HB := n1_; clear n0_ n1_; (try clear hb); (try clear hb2); (try clear hk); (try clear hi)) | (go_at_call 74; (with_reducible refine (turnstonelaw03_Awake.calls k  true _ A4.out).mono ?_); rintro e w11 ⟨rfl, hb⟩; have n0_ := blkb BK539 hb; have n1_ := belb HB hb; clear BK539; clear HB; have BK539 := n0_; have HB := n1_; clear n0_ n1_; (try clear hb); (try clear hb2); (try clear hk); (try clear hi); have hcz12_0 : w11.cell? ⟨gb539, 0, none⟩ = some (.int .u64 t535) := (blk_cell BK539.out 0).trans rfl; have hcz12_1 : w11.cell? ⟨gb539, 1, none⟩ = some (.int .u32 t536) := (blk_cell BK539.out 1).trans rfl; have hcz12_2 : w11.cell? ⟨gb539, 2, none⟩ = some (.int .u32 t537) := (blk_cell BK539.out 2).trans rfl; have hfz12_0 := blk_frozen BK539.out 0; have hfz12_1 := blk_frozen BK539.out 1; have hfz12_2 := blk_frozen BK539.out 2))
    go_ret
    exact ⟨by first | rfl | (simp [errW_none, errW_some] <;> rfl) | (simp [*, errW_none, errW_some] <;> rfl), by repeat (first | (with_reducible first | exact HB.out | apply below_alloc | apply pw_below_drewN | apply below_drew1 | refine below_set ?_ GE539.out) | exact HB.out)⟩
   ·replace c6 := Bool.eq_false_iff.mpr c6
    subst c6
    have H1 : (none) = some r := by rw [if_neg (show ¬ (false = true) by decide)] at H; exact H
    clear H
    have H := H1
    clear H1
    exact absurd H (by simp)
  ·replace c5 := Bool.eq_false_iff.mpr c5
   subst c5
   have H1 : (none) = some r := by rw [if_neg (show ¬ (false = true) by decide)] at H; exact H
   clear H
   have H := H1
   clear H1
   exact absurd H (by simp)
 ·replace c3 := Bool.eq_false_iff.mpr c3
  subst c3
  have H1 : (none) = some r := by rw [if_neg (show ¬ (false = true) by decide)] at H; exact H
  clear H
  have H := H1
  clear H1
  exact absurd H (by simp)

end Go.Proofs.Ytimgiiceipjpaaa.Print
