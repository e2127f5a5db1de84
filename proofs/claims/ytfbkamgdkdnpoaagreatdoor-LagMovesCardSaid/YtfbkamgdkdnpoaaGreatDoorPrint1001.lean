/- What each Go function that is named below answers, as a Lean function, and that its walk comes to just that: for whatever arguments that function gives an answer for. Written by a program of this session (wip/mkpr.py, pr.sh). -/
import Derived.Test.YtfbkamgdkdnpoaaGreatDoorPrint1000
namespace Go.Proofs.YtfbkamgdkdnpoaaGreatDoor.Print
open Go.RowKit Go.Proofs.YtfbkamgdkdnpoaaGreatDoorW.PrintWords Go.Proofs.YtfbkamgdkdnpoaaGreatDoorW.PrintLast Go.Proofs.YtfbkamgdkdnpoaaGreatDoorW.PrintMore
attribute [local go_sem] max2_int min2_int max_two min_two max_three min_three max_four min_four   -- for this text's walks alone
open Go.Proofs.YtfbkamgdkdnpoaaGreatDoor.Bits Go.Proofs.YtfbkamgdkdnpoaaGreatDoor.Short
attribute [local go_sem] add64_run0 sub64_run0 add64_run sub64_run
set_option linter.unusedVariables false
set_option linter.unusedSimpArgs false

/-! ### pos_weight: function 51 -/
def pos_weight.f (a0 : Int) : Option (Bool) := if a0 ≥ 1 then (some (decide (a0 ≤ 1048576))) else (some false)
set_option maxHeartbeats 8000000 in
set_option maxRecDepth 100000 in
theorem pos_weight.calls (a0 : Int) (r : Bool) (w : World) (h : pos_weight.f a0 = some r) :
  Calls Tryz.prog 51 #[.int .u32 a0] w fun e w' => e = .returned (.bool r) ∧ Drawn0 w w' := by
 have H : (if a0 ≥ 1 then (some (decide (a0 ≤ 1048576))) else (some false)) = some r := h
 clear h
 by_cases c2 : a0 ≥ 1
 ·rw [if_pos c2] at H
  have c2b0 : decide (1 ≤ a0) = true := decide_eq_true c2
  clear c2
  obtain rfl := Option.some.inj H
  go_enter Tryz.func51, Tryz.ntmps51
  go_wp2
  go_ret
  exact ⟨by first | rfl | (simp; done) | (simp [*]; done), by repeat (first | exact Drawn0.refl _ | apply Drawn0.step)⟩
 rw [if_neg c2] at H
 have c2b0 : decide (1 ≤ a0) = false := decide_eq_false c2
 clear c2
 obtain rfl := Option.some.inj H
 go_enter Tryz.func51, Tryz.ntmps51
 go_wp2
 go_ret
 exact ⟨by first | rfl | (simp; done) | (simp [*]; done), by repeat (first | exact Drawn0.refl _ | apply Drawn0.step)⟩


/-! ### pos_Pos_Right: function 17 -/
def pos_Pos_Right.f (a0_0 : Int) (a0_1 : Int) (a0_2 : Int) : Option (Bool) := (pos_weight.f a0_2).bind fun t102 => (if t102 = true then (some (decide (a0_1 < a0_2))) else (some false))
set_option maxHeartbeats 8000000 in
set_option maxRecDepth 100000 in
theorem pos_Pos_Right.calls (a0_0 : Int) (a0_1 : Int) (a0_2 : Int) (r : Bool) (w : World) (h : pos_Pos_Right.f a0_0 a0_1 a0_2 = some r) :
  Calls Tryz.prog 17 #[.agg #[.int .u64 a0_0, .int .u32 a0_1, .int .u32 a0_2]] w fun e w' => e = .returned (.bool r) ∧ Below w.heap.size w w' := by
 have hu28 := Tryz.underlying28
 have HB := Aside0.mk (Below.refl w.heap.size w)
 have H : ((pos_weight.f a0_2).bind fun t102 => (if t102 = true then (some (decide (a0_1 < a0_2))) else (some false))) = some r := h
 clear h
 replace H := Option.bind_eq_some_iff.mp H
 obtain ⟨t102, A20, H⟩ := H
 replace H : (if t102 = true then (some (decide (a0_1 < a0_2))) else (some false)) = some r := H
 have A2 := Aside0.mk A20
 clear A20
 by_cases c3 : t102 = true
 ·subst c3
  have H1 : (some (decide (a0_1 < a0_2))) = some r := by rw [if_pos rfl] at H; exact H
  clear H
  have H := H1
  clear H1
  obtain rfl := Option.some.inj H
  go_enter Tryz.func17, Tryz.ntmps17
  go_wp2_with (first | ((with_reducible refine gate_dst (N := 1) rfl ?_); refine box_event ?hg (N := 1) ?hd (cs := #[.int .u64 a0_0, .int .u32 a0_1, .int .u32 a0_2]) (t := 28) ?hr ?_; (case hd => rfl); (case hg => rfl); (case hr => first | (go_simp; done) | (go_simp; rfl)); intro gb101 hg w4 hbox hb; have BK101 := Aside0.mk (hbox); have GW101 := bels HB hg; have GE101 := bels HB hg; replace HB := belb HB hb; clear hb hbox hg; have hcz5_0 : w4.cell? ⟨gb101, 0, none⟩ = some (.int .u64 a0_0) := bc BK101 0; have hcz5_1 : w4.cell? ⟨gb101, 1, none⟩ = some (.int .u32 a0_1) := bc BK101 1; have hcz5_2 : w4.cell? ⟨gb101, 2, none⟩ = some (.int .u32 a0_2) := bc BK101 2; have hfz5_0 := blk_frozen BK101.out 0; have hfz5_1 := blk_frozen BK101.out 1; have hfz5_2 := blk_frozen BK101.out 2) | ((with_reducible refine gate_callee (f := 51) rfl ?_); refine goesL_ (some 5) rfl rfl Tryz.func51 (by kernel_rfl) rfl #[.int .u32 a0_2] rfl argt ?_; (with_reducible refine (pos_weight.calls a0_2 true _ A2.out).mono ?_); rintro e w' ⟨rfl, ⟨nd, rfl⟩⟩; refine ⟨_, rfl, ?_⟩))
  go_ret
  exact ⟨by first | rfl | (simp [errW_none, errW_some] <;> rfl) | (simp [*, errW_none, errW_some] <;> rfl), belt HB⟩
 replace c3 := Bool.eq_false_iff.mpr c3
 subst c3
 have H1 : (some false) = some r := by rw [if_neg (show ¬ (false = true) by decide)] at H; exact H
 clear H
 have H := H1
 clear H1
 obtain rfl := Option.some.inj H
 go_enter Tryz.func17, Tryz.ntmps17
 go_wp2_with (first | ((with_reducible refine gate_dst (N := 1) rfl ?_); refine box_event ?hg (N := 1) ?hd (cs := #[.int .u64 a0_0, .int .u32 a0_1, .int .u32 a0_2]) (t := 28) ?hr ?_; (case hd => rfl); (case hg => rfl); (case hr => first | (go_simp; done) | (go_simp; rfl)); intro gb101 hg w6 hbox hb; have BK101 := Aside0.mk (hbox); have GW101 := bels HB hg; have GE101 := bels HB hg; replace HB := belb HB hb; clear hb hbox hg; have hcz7_0 : w6.cell? ⟨gb101, 0, none⟩ = some (.int .u64 a0_0) := bc BK101 0; have hcz7_1 : w6.cell? ⟨gb101, 1, none⟩ = some (.int .u32 a0_1) := bc BK101 1; have hcz7_2 : w6.cell? ⟨gb101, 2, none⟩ = some (.int .u32 a0_2) := bc BK101 2; have hfz7_0 := blk_frozen BK101.out 0; have hfz7_1 := blk_frozen BK101.out 1; have hfz7_2 := blk_frozen BK101.out 2) | ((with_reducible refine gate_callee (f := 51) rfl ?_); refine goesL_ (some 5) rfl rfl Tryz.func51 (by kernel_rfl) rfl #[.int .u32 a0_2] rfl argt ?_; (with_reducible refine (pos_weight.calls a0_2 false _ A2.out).mono ?_); rintro e w' ⟨rfl, ⟨nd, rfl⟩⟩; refine ⟨_, rfl, ?_⟩))
 go_ret
 exact ⟨by first | rfl | (simp [errW_none, errW_some] <;> rfl) | (simp [*, errW_none, errW_some] <;> rfl), belt HB⟩


attribute [local go_sem high] eqA31
/-! ### mean_Mean_Right: function 52 -/
def mean_Mean_Right.f (a0_0 : Int) (a0_1 : Int) (a0_2 : Int) (a0_3 : Int) (a0_4 : Int) : Option (Bool) := if a0_4 = 0 then (if a0_3 = 0 then (some (a0_1 == 0 && (a0_2 == 0))) else (some false)) else (if a0_4 > 0 then (if a0_4 ≤ 32 then (if a0_3 ≥ (IntKind.u64.wrap (a0_4)) then (some (decide (a0_3 ≤ (IntKind.u64.wrap ((IntKind.u64.wrap (a0_4)) * 1048576))))) else (some false)) else (some false)) else (some false))
set_option maxHeartbeats 8000000 in
set_option maxRecDepth 100000 in
theorem mean_Mean_Right.calls (a0_0 : Int) (a0_1 : Int) (a0_2 : Int) (a0_3 : Int) (a0_4 : Int) (r : Bool) (w : World) (h : mean_Mean_Right.f a0_0 a0_1 a0_2 a0_3 a0_4 = some r) :
  Calls Tryz.prog 52 #[.agg #[.int .u64 a0_0, .int .i64 a0_1, .int .u64 a0_2, .int .u64 a0_3, .int .i64 a0_4]] w fun e w' => e = .returned (.bool r) ∧ Below w.heap.size w w' := by
 have hu33 := Tryz.underlying33
 have hu31 := Tryz.underlying31
 have HB := Aside0.mk (Below.refl w.heap.size w)
 have H : (if a0_4 = 0 then (if a0_3 = 0 then (some (a0_1 == 0 && (a0_2 == 0))) else (some false)) else (if a0_4 > 0 then (if a0_4 ≤ 32 then (if a0_3 ≥ (IntKind.u64.wrap (a0_4)) then (some (decide (a0_3 ≤ (IntKind.u64.wrap ((IntKind.u64.wrap (a0_4)) * 1048576))))) else (some false)) else (some false)) else (some false))) = some r := h
 clear h
 by_cases c2 : a0_4 = 0
 ·rw [if_pos c2] at H
  have c2b0 : (a0_4 == 0) = true := beq_iff_eq.mpr c2
  have c2b1 : (a0_4 != 0) = false := bne_eq_false_iff_eq.mpr c2
  clear c2
  by_cases c3 : a0_3 = 0
  ·rw [if_pos c3] at H
   have c3b0 : (a0_3 == 0) = true := beq_iff_eq.mpr c3
   have c3b1 : (a0_3 != 0) = false := bne_eq_false_iff_eq.mpr c3
   clear c3
   obtain rfl := Option.some.inj H
   go_enter Tryz.func52, Tryz.ntmps52
   go_wp2_with (first | ((with_reducible refine gate_dst (N := 1) rfl ?_); refine box_event ?hg (N := 1) ?hd (cs := #[.int .u64 a0_0, .int .i64 a0_1, .int .u64 a0_2, .int .u64 a0_3, .int .i64 a0_4]) (t := 33) ?hr ?_; (case hd => rfl); (case hg => rfl); (case hr => first | (go_simp; done) | (go_simp; rfl)); intro gb103 hg w4 hbox hb; have BK103 := Aside0.mk (hbox); have GW103 := bels HB hg; have GE103 := bels HB hg; replace HB := belb HB hb; clear hb hbox hg; have hcz5_0 : w4.cell? ⟨gb103, 0, none⟩ = some (.int .u64 a0_0) := bc BK103 0; have hcz5_1 : w4.cell? ⟨gb103, 1, none⟩ = some (.int .i64 a0_1) := bc BK103 1; have hcz5_2 : w4.cell? ⟨gb103, 2, none⟩ = some (.int .u64 a0_2) := bc BK103 2; have hcz5_3 : w4.cell? ⟨gb103, 3, none⟩ = some (.int .u64 a0_3) := bc BK103 3; have hcz5_4 : w4.cell? ⟨gb103, 4, none⟩ = some (.int .i64 a0_4) := bc BK103 4; have hfz5_0 := blk_frozen BK103.out 0; have hfz5_1 := blk_frozen BK103.out 1; have hfz5_2 := blk_frozen BK103.out 2; have hfz5_3 := blk_frozen BK103.out 3; have hfz5_4 := blk_frozen BK103.out 4))
   go_ret
   exact ⟨by first | rfl | (simp [errW_none, errW_some] <;> rfl) | (simp [*, errW_none, errW_some] <;> rfl), belt HB⟩
  rw [if_neg c3] at H
  have c3b0 : (a0_3 == 0) = false := beq_eq_false_iff_ne.mpr c3
  have c3b1 : (a0_3 != 0) = true := bne_iff_ne.mpr c3
  obtain rfl := Option.some.inj H
  go_enter Tryz.func52, Tryz.ntmps52
  go_wp2_with (first | ((with_reducible refine gate_dst (N := 1) rfl ?_); refine box_event ?hg (N := 1) ?hd (cs := #[.int .u64 a0_0, .int .i64 a0_1, .int .u64 a0_2, .int .u64 a0_3, .int .i64 a0_4]) (t := 33) ?hr ?_; (case hd => rfl); (case hg => rfl); (case hr => first | (go_simp; done) | (go_simp; rfl)); intro gb103 hg w6 hbox hb; have BK103 := Aside0.mk (hbox); have GW103 := bels HB hg; have GE103 := bels HB hg; replace HB := belb HB hb; clear hb hbox hg; have hcz7_0 : w6.cell? ⟨gb103, 0, none⟩ = some (.int .u64 a0_0) := bc BK103 0; have hcz7_1 : w6.cell? ⟨gb103, 1, none⟩ = some (.int .i64 a0_1) := bc BK103 1; have hcz7_2 : w6.cell? ⟨gb103, 2, none⟩ = some (.int .u64 a0_2) := bc BK103 2; have hcz7_3 : w6.cell? ⟨gb103, 3, none⟩ = some (.int .u64 a0_3) := bc BK103 3; have hcz7_4 : w6.cell? ⟨gb103, 4, none⟩ = some (.int .i64 a0_4) := bc BK103 4; have hfz7_0 := blk_frozen BK103.out 0; have hfz7_1 := blk_frozen BK103.out 1; have hfz7_2 := blk_frozen BK103.out 2; have hfz7_3 := blk_frozen BK103.out 3; have hfz7_4 := blk_frozen BK103.out 4))
  go_ret
  exact ⟨by first | rfl | (simp [errW_none, errW_some] <;> rfl) | (simp [*, errW_none, errW_some] <;> rfl), belt HB⟩
 rw [if_neg c2] at H
 have c2b0 : (a0_4 == 0) = false := beq_eq_false_iff_ne.mpr c2
 have c2b1 : (a0_4 != 0) = true := bne_iff_ne.mpr c2
 by_cases c8 : a0_4 > 0
 ·rw [if_pos c8] at H
  have c8b0 : decide (0 < a0_4) = true := decide_eq_true c8
  clear c8
  by_cases c9 : a0_4 ≤ 32
  ·rw [if_pos c9] at H
   have c9b0 : decide (a0_4 ≤ 32) = true := decide_eq_true c9
   clear c9
   by_cases c10 : a0_3 ≥ (IntKind.u64.wrap (a0_4))
   ·rw [if_pos c10] at H
    have c10b0 : decide ((IntKind.u64.wrap (a0_4)) ≤ a0_3) = true := decide_eq_true c10
    clear c10
    obtain rfl := Option.some.inj H
    go_enter Tryz.func52, Tryz.ntmps52
    go_wp2_with (first | ((with_reducible refine gate_dst (N := 1) rfl ?_); refine box_event ?hg (N := 1) ?hd (cs := #[.int .u64 a0_0, .int .i64 a0_1, .int .u64 a0_2, .int .u64 a0_3, .int .i64 a0_4]) (t := 33) ?hr ?_; (case hd => rfl); (case hg => rfl); (case hr => first | (go_simp; done) | (go_simp; rfl)); intro gb103 hg w11 hbox hb; have BK103 := Aside0.mk (hbox); have GW103 := bels HB hg; have GE103 := bels HB hg; replace HB := belb HB hb; clear hb hbox hg; have hcz12_0 : w11.cell? ⟨gb103, 0, none⟩ = some (.int .u64 a0_0) := bc BK103 0; have hcz12_1 : w11.cell? ⟨gb103, 1, none⟩ = some (.int .i64 a0_1) := bc BK103 1; have hcz12_2 : w11.cell? ⟨gb103, 2, none⟩ = some (.int .u64 a0_2) := bc BK103 2; have hcz12_3 : w11.cell? ⟨gb103, 3, none⟩ = some (.int .u64 a0_3) := bc BK103 3; have hcz12_4 : w11.cell? ⟨gb103, 4, none⟩ = some (.int .i64 a0_4) := bc BK103 4; have hfz12_0 := blk_frozen BK103.out 0; have hfz12_1 := blk_frozen BK103.out 1; have hfz12_2 := blk_frozen BK103.out 2; have hfz12_3 := blk_frozen BK103.out 3; have hfz12_4 := blk_frozen BK103.out 4))
    go_ret
    exact ⟨by first | rfl | (simp [errW_none, errW_some] <;> rfl) | (simp [*, errW_none, errW_some] <;> rfl), belt HB⟩
   rw [if_neg c10] at H
   have c10b0 : decide ((IntKind.u64.wrap (a0_4)) ≤ a0_3) = false := decide_eq_false c10
   clear c10
   obtain rfl := Option.some.inj H
   go_enter Tryz.func52, Tryz.ntmps52
   go_wp2_with (first | ((with_reducible refine gate_dst (N := 1) rfl ?_); refine box_event ?hg (N := 1) ?hd (cs := #[.int .u64 a0_0, .int .i64 a0_1, .int .u64 a0_2, .int .u64 a0_3, .int .i64 a0_4]) (t := 33) ?hr ?_; (case hd => rfl); (case hg => rfl); (case hr => first | (go_simp; done) | (go_simp; rfl)); intro gb103 hg w13 hbox hb; have BK103 := Aside0.mk (hbox); have GW103 := bels HB hg; have GE103 := bels HB hg; replace HB := belb HB hb; clear hb hbox hg; have hcz14_0 : w13.cell? ⟨gb103, 0, none⟩ = some (.int .u64 a0_0) := bc BK103 0; have hcz14_1 : w13.cell? ⟨gb103, 1, none⟩ = some (.int .i64 a0_1) := bc BK103 1; have hcz14_2 : w13.cell? ⟨gb103, 2, none⟩ = some (.int .u64 a0_2) := bc BK103 2; have hcz14_3 : w13.cell? ⟨gb103, 3, none⟩ = some (.int .u64 a0_3) := bc BK103 3; have hcz14_4 : w13.cell? ⟨gb103, 4, none⟩ = some (.int .i64 a0_4) := bc BK103 4; have hfz14_0 := blk_frozen BK103.out 0; have hfz14_1 := blk_frozen BK103.out 1; have hfz14_2 := blk_frozen BK103.out 2; have hfz14_3 := blk_frozen BK103.out 3; have hfz14_4 := blk_frozen BK103.out 4))
   go_ret
   exact ⟨by first | rfl | (simp [errW_none, errW_some] <;> rfl) | (simp [*, errW_none, errW_some] <;> rfl), belt HB⟩
  rw [if_neg c9] at H
  have c9b0 : decide (a0_4 ≤ 32) = false := decide_eq_false c9
  clear c9
  obtain rfl := Option.some.inj H
  go_enter Tryz.func52, Tryz.ntmps52
  go_wp2_with (first | ((with_reducible refine gate_dst (N := 1) rfl ?_); refine box_event ?hg (N := 1) ?hd (cs := #[.int .u64 a0_0, .int .i64 a0_1, .int .u64 a0_2, .int .u64 a0_3, .int .i64 a0_4]) (t := 33) ?hr ?_; (case hd => rfl); (case hg => rfl); (case hr => first | (go_simp; done) | (go_simp; rfl)); intro gb103 hg w15 hbox hb; have BK103 := Aside0.mk (hbox); have GW103 := bels HB hg; have GE103 := bels HB hg; replace HB := belb HB hb; clear hb hbox hg; have hcz16_0 : w15.cell? ⟨gb103, 0, none⟩ = some (.int .u64 a0_0) := bc BK103 0; have hcz16_1 : w15.cell? ⟨gb103, 1, none⟩ = some (.int .i64 a0_1) := bc BK103 1; have hcz16_2 : w15.cell? ⟨gb103, 2, none⟩ = some (.int .u64 a0_2) := bc BK103 2; have hcz16_3 : w15.cell? ⟨gb103, 3, none⟩ = some (.int .u64 a0_3) := bc BK103 3; have hcz16_4 : w15.cell? ⟨gb103, 4, none⟩ = some (.int .i64 a0_4) := bc BK103 4; have hfz16_0 := blk_frozen BK103.out 0; have hfz16_1 := blk_frozen BK103.out 1; have hfz16_2 := blk_frozen BK103.out 2; have hfz16_3 := blk_frozen BK103.out 3; have hfz16_4 := blk_frozen BK103.out 4))
  go_ret
  exact ⟨by first | rfl | (simp [errW_none, errW_some] <;> rfl) | (simp [*, errW_none, errW_some] <;> rfl), belt HB⟩
 rw [if_neg c8] at H
 have c8b0 : decide (0 < a0_4) = false := decide_eq_false c8
 clear c8
 obtain rfl := Option.some.inj H
 go_enter Tryz.func52, Tryz.ntmps52
 go_wp2_with (first | ((with_reducible refine gate_dst (N := 1) rfl ?_); refine box_event ?hg (N := 1) ?hd (cs := #[.int .u64 a0_0, .int .i64 a0_1, .int .u64 a0_2, .int .u64 a0_3, .int .i64 a0_4]) (t := 33) ?hr ?_; (case hd => rfl); (case hg => rfl); (case hr => first | (go_simp; done) | (go_simp; rfl)); intro gb103 hg w17 hbox hb; have BK103 := Aside0.mk (hbox); have GW103 := bels HB hg; have GE103 := bels HB hg; replace HB := belb HB hb; clear hb hbox hg; have hcz18_0 : w17.cell? ⟨gb103, 0, none⟩ = some (.int .u64 a0_0) := bc BK103 0; have hcz18_1 : w17.cell? ⟨gb103, 1, none⟩ = some (.int .i64 a0_1) := bc BK103 1; have hcz18_2 : w17.cell? ⟨gb103, 2, none⟩ = some (.int .u64 a0_2) := bc BK103 2; have hcz18_3 : w17.cell? ⟨gb103, 3, none⟩ = some (.int .u64 a0_3) := bc BK103 3; have hcz18_4 : w17.cell? ⟨gb103, 4, none⟩ = some (.int .i64 a0_4) := bc BK103 4; have hfz18_0 := blk_frozen BK103.out 0; have hfz18_1 := blk_frozen BK103.out 1; have hfz18_2 := blk_frozen BK103.out 2; have hfz18_3 := blk_frozen BK103.out 3; have hfz18_4 := blk_frozen BK103.out 4))
 go_ret
 exact ⟨by first | rfl | (simp [errW_none, errW_some] <;> rfl) | (simp [*, errW_none, errW_some] <;> rfl), belt HB⟩


/-! ### wide_OfU: function 53 -/
def wide_OfU.f (a0 : Int) : Option (Int × Int) := some (0, a0)
set_option maxHeartbeats 8000000 in
set_option maxRecDepth 100000 in
theorem wide_OfU.calls (a0 : Int) (r1 : Int) (r2 : Int) (w : World) (h : wide_OfU.f a0 = some (r1, r2)) :
  Calls Tryz.prog 53 #[.int .u64 a0] w fun e w' => e = .returned (.agg #[.int .i64 r1, .int .u64 r2]) ∧ Below w.heap.size w w' := by
 have hu31 := Tryz.underlying31
 have HB := Aside0.mk (Below.refl w.heap.size w)
 have H : (some (0, a0)) = some (r1, r2) := h
 clear h
 simp only [Option.some.injEq, Prod.mk.injEq] at H
 obtain ⟨rfl, rfl⟩ := H
 go_enter Tryz.func53, Tryz.ntmps53
 go_wp2_with (first | ((with_reducible refine gate_dst (N := 2) rfl ?_); refine box_event ?hg (N := 2) ?hd (cs := #[.int .i64 0, .int .u64 0]) (t := 31) ?hr ?_; (case hd => rfl); (case hg => rfl); (case hr => first | (go_simp; done) | (go_simp; rfl)); intro gb108 hg w2 hbox hb; have BK108 := Aside0.mk (hbox); have GW108 := bels HB hg; have GE108 := bels HB hg; replace HB := belb HB hb; clear hb hbox hg; have hcz3_0 : w2.cell? ⟨gb108, 0, none⟩ = some (.int .i64 0) := bc BK108 0; have hcz3_1 : w2.cell? ⟨gb108, 1, none⟩ = some (.int .u64 0) := bc BK108 1; have hfz3_0 := blk_frozen BK108.out 0; have hfz3_1 := blk_frozen BK108.out 1))
 refine bodyPost_ret (results_cell_row rfl _ _ gb108 31 #[.int .i64 0, .int .u64 a0] (0, 0) _ rfl (by (with_reducible repeat (first | refine blk_drewN ?_ _ | refine blk_drew ?_ | refine blk_alloc ?_ _)); refine blk_put (cs := #[.int .i64 0, .int .u64 0]) ?_ 1 _ rfl; (with_reducible repeat (first | refine blk_drewN ?_ _ | refine blk_drew ?_ | refine blk_alloc ?_ _)); refine blk_put (cs := #[.int .i64 0, .int .u64 0]) ?_ 0 _ rfl; exact blkt BK108) Tryz.underlying31 rfl (by kernel_rfl)) rfl ?_
 exact ⟨by first | rfl | (simp [errW_none, errW_some] <;> rfl) | (simp [*, errW_none, errW_some] <;> rfl), belt HB⟩


/-! ### wide_Int_size: function 78 -/
def wide_Int_size.f (a0_0 : Int) (a0_1 : Int) : Option (Int × Int) := if a0_0 < 0 then ((wide_Int_flip.f a0_0 a0_1).bind fun bt114 => (some (IntKind.u64.wrap (bt114.1), bt114.2))) else (some (IntKind.u64.wrap (a0_0), a0_1))
set_option maxHeartbeats 8000000 in
set_option maxRecDepth 100000 in
theorem wide_Int_size.calls (a0_0 : Int) (a0_1 : Int) (r1 : Int) (r2 : Int) (w : World) (h : wide_Int_size.f a0_0 a0_1 = some (r1, r2)) :
  Calls Tryz.prog 78 #[.agg #[.int .i64 a0_0, .int .u64 a0_1]] w fun e w' => e = .returned (.tuple #[.int .u64 r1, .int .u64 r2]) ∧ Below w.heap.size w w' := by
 have hu31 := Tryz.underlying31
 have HB := Aside0.mk (Below.refl w.heap.size w)
 have H : (if a0_0 < 0 then ((wide_Int_flip.f a0_0 a0_1).bind fun bt114 => (some (IntKind.u64.wrap (bt114.1), bt114.2))) else (some (IntKind.u64.wrap (a0_0), a0_1))) = some (r1, r2) := h
 clear h
 by_cases c2 : a0_0 < 0
 ·rw [if_pos c2] at H
  have c2b0 : decide (a0_0 < 0) = true := decide_eq_true c2
  clear c2
  replace H := Option.bind_eq_some_iff.mp H
  obtain ⟨⟨t114, t115⟩, A30, H⟩ := H
  replace H : (some (IntKind.u64.wrap (t114), t115)) = some (r1, r2) := H
  have A3 := Aside0.mk A30
  clear A30
  simp only [Option.some.injEq, Prod.mk.injEq] at H
  obtain ⟨rfl, rfl⟩ := H
  go_enter Tryz.func78, Tryz.ntmps78
  go_wp2_with (first | ((with_reducible refine gate_dst (N := 1) rfl ?_); refine box_event ?hg (N := 1) ?hd (cs := #[.int .i64 a0_0, .int .u64 a0_1]) (t := 31) ?hr ?_; (case hd => rfl); (case hg => rfl); (case hr => first | (go_simp; done) | (go_simp; rfl)); intro gb113 hg w4 hbox hb; have BK113 := Aside0.mk (hbox); have GW113 := bels HB hg; have GE113 := bels HB hg; replace HB := belb HB hb; clear hb hbox hg; have hcz5_0 : w4.cell? ⟨gb113, 0, none⟩ = some (.int .i64 a0_0) := bc BK113 0; have hcz5_1 : w4.cell? ⟨gb113, 1, none⟩ = some (.int .u64 a0_1) := bc BK113 1; have hfz5_0 := blk_frozen BK113.out 0; have hfz5_1 := blk_frozen BK113.out 1) | (go_at_call 83; (with_reducible refine (wide_Int_flip.calls a0_0 a0_1 t114 t115 _ A3.out).mono ?_); rintro e w6 ⟨rfl, hb⟩; replace BK113 := blkb BK113 hb; replace HB := belb HB hb; (try clear hb); (try clear hb2); (try clear hk); (try clear hi); have hcz7_0 : w6.cell? ⟨gb113, 0, none⟩ = some (.int .i64 a0_0) := bc BK113 0; have hcz7_1 : w6.cell? ⟨gb113, 1, none⟩ = some (.int .u64 a0_1) := bc BK113 1; have hfz7_0 := blk_frozen BK113.out 0; have hfz7_1 := blk_frozen BK113.out 1))
  repeat (go_quiet (first | ((with_reducible refine gate_dst (N := 1) rfl ?_); refine box_event ?hg (N := 1) ?hd (cs := #[.int .i64 a0_0, .int .u64 a0_1]) (t := 31) ?hr ?_; (case hd => rfl); (case hg => rfl); (case hr => first | (go_simp; done) | (go_simp; rfl)); intro gb113 hg w4 hbox hb; have BK113 := Aside0.mk (hbox); have GW113 := bels HB hg; have GE113 := bels HB hg; replace HB := belb HB hb; clear hb hbox hg; have hcz5_0 : w4.cell? ⟨gb113, 0, none⟩ = some (.int .i64 a0_0) := bc BK113 0; have hcz5_1 : w4.cell? ⟨gb113, 1, none⟩ = some (.int .u64 a0_1) := bc BK113 1; have hfz5_0 := blk_frozen BK113.out 0; have hfz5_1 := blk_frozen BK113.out 1) | (go_at_call 83; (with_reducible refine (wide_Int_flip.calls a0_0 a0_1 t114 t115 _ A3.out).mono ?_); rintro e w6 ⟨rfl, hb⟩; replace BK113 := blkb BK113 hb; replace HB := belb HB hb; (try clear hb); (try clear hb2); (try clear hk); (try clear hi); have hcz7_0 : w6.cell? ⟨gb113, 0, none⟩ = some (.int .i64 a0_0) := bc BK113 0; have hcz7_1 : w6.cell? ⟨gb113, 1, none⟩ = some (.int .u64 a0_1) := bc BK113 1; have hfz7_0 := blk_frozen BK113.out 0; have hfz7_1 := blk_frozen BK113.out 1)); try go_wp2_with (first | ((with_reducible refine gate_dst (N := 1) rfl ?_); refine box_event ?hg (N := 1) ?hd (cs := #[.int .i64 a0_0, .int .u64 a0_1]) (t := 31) ?hr ?_; (case hd => rfl); (case hg => rfl); (case hr => first | (go_simp; done) | (go_simp; rfl)); intro gb113 hg w4 hbox hb; have BK113 := Aside0.mk (hbox); have GW113 := bels HB hg; have GE113 := bels HB hg; replace HB := belb HB hb; clear hb hbox hg; have hcz5_0 : w4.cell? ⟨gb113, 0, none⟩ = some (.int .i64 a0_0) := bc BK113 0; have hcz5_1 : w4.cell? ⟨gb113, 1, none⟩ = some (.int .u64 a0_1) := bc BK113 1; have hfz5_0 := blk_frozen BK113.out 0; have hfz5_1 := blk_frozen BK113.out 1) | (go_at_call 83; (with_reducible refine (wide_Int_flip.calls a0_0 a0_1 t114 t115 _ A3.out).mono ?_); rintro e w6 ⟨rfl, hb⟩; replace BK113 := blkb BK113 hb; replace HB := belb HB hb; (try clear hb); (try clear hb2); (try clear hk); (try clear hi); have hcz7_0 : w6.cell? ⟨gb113, 0, none⟩ = some (.int .i64 a0_0) := bc BK113 0; have hcz7_1 : w6.cell? ⟨gb113, 1, none⟩ = some (.int .u64 a0_1) := bc BK113 1; have hfz7_0 := blk_frozen BK113.out 0; have hfz7_1 := blk_frozen BK113.out 1)))
  go_ret2
  exact ⟨by first | rfl | (simp [errW_none, errW_some] <;> rfl) | (simp [*, errW_none, errW_some] <;> rfl), belt HB⟩
 rw [if_neg c2] at H
 have c2b0 : decide (a0_0 < 0) = false := decide_eq_false c2
 clear c2
 simp only [Option.some.injEq, Prod.mk.injEq] at H
 obtain ⟨rfl, rfl⟩ := H
 go_enter Tryz.func78, Tryz.ntmps78
 go_wp2_with (first | ((with_reducible refine gate_dst (N := 1) rfl ?_); refine box_event ?hg (N := 1) ?hd (cs := #[.int .i64 a0_0, .int .u64 a0_1]) (t := 31) ?hr ?_; (case hd => rfl); (case hg => rfl); (case hr => first | (go_simp; done) | (go_simp; rfl)); intro gb113 hg w8 hbox hb; have BK113 := Aside0.mk (hbox); have GW113 := bels HB hg; have GE113 := bels HB hg; replace HB := belb HB hb; clear hb hbox hg; have hcz9_0 : w8.cell? ⟨gb113, 0, none⟩ = some (.int .i64 a0_0) := bc BK113 0; have hcz9_1 : w8.cell? ⟨gb113, 1, none⟩ = some (.int .u64 a0_1) := bc BK113 1; have hfz9_0 := blk_frozen BK113.out 0; have hfz9_1 := blk_frozen BK113.out 1))
 repeat (go_quiet (first | ((with_reducible refine gate_dst (N := 1) rfl ?_); refine box_event ?hg (N := 1) ?hd (cs := #[.int .i64 a0_0, .int .u64 a0_1]) (t := 31) ?hr ?_; (case hd => rfl); (case hg => rfl); (case hr => first | (go_simp; done) | (go_simp; rfl)); intro gb113 hg w8 hbox hb; have BK113 := Aside0.mk (hbox); have GW113 := bels HB hg; have GE113 := bels HB hg; replace HB := belb HB hb; clear hb hbox hg; have hcz9_0 : w8.cell? ⟨gb113, 0, none⟩ = some (.int .i64 a0_0) := bc BK113 0; have hcz9_1 : w8.cell? ⟨gb113, 1, none⟩ = some (.int .u64 a0_1) := bc BK113 1; have hfz9_0 := blk_frozen BK113.out 0; have hfz9_1 := blk_frozen BK113.out 1)); try go_wp2_with (first | ((with_reducible refine gate_dst (N := 1) rfl ?_); refine box_event ?hg (N := 1) ?hd (cs := #[.int .i64 a0_0, .int .u64 a0_1]) (t := 31) ?hr ?_; (case hd => rfl); (case hg => rfl); (case hr => first | (go_simp; done) | (go_simp; rfl)); intro gb113 hg w8 hbox hb; have BK113 := Aside0.mk (hbox); have GW113 := bels HB hg; have GE113 := bels HB hg; replace HB := belb HB hb; clear hb hbox hg; have hcz9_0 : w8.cell? ⟨gb113, 0, none⟩ = some (.int .i64 a0_0) := bc BK113 0; have hcz9_1 : w8.cell? ⟨gb113, 1, none⟩ = some (.int .u64 a0_1) := bc BK113 1; have hfz9_0 := blk_frozen BK113.out 0; have hfz9_1 := blk_frozen BK113.out 1)))
 go_ret2
 exact ⟨by first | rfl | (simp [errW_none, errW_some] <;> rfl) | (simp [*, errW_none, errW_some] <;> rfl), belt HB⟩


/-! ### bits_Mul64: function 79 -/
def bits_Mul64.f (a0 : Int) (a1 : Int) : Option (Int × Int) := some (IntKind.u64.wrap ((IntKind.u64.wrap ((IntKind.u64.wrap ((a0 / 4294967296) * (a1 / 4294967296))) + ((IntKind.u64.wrap ((IntKind.u64.wrap ((a0 / 4294967296) * (Go.bits .and .u64 a1 4294967295))) + ((IntKind.u64.wrap ((Go.bits .and .u64 a0 4294967295) * (Go.bits .and .u64 a1 4294967295))) / 4294967296))) / 4294967296))) + ((IntKind.u64.wrap ((Go.bits .and .u64 (IntKind.u64.wrap ((IntKind.u64.wrap ((a0 / 4294967296) * (Go.bits .and .u64 a1 4294967295))) + ((IntKind.u64.wrap ((Go.bits .and .u64 a0 4294967295) * (Go.bits .and .u64 a1 4294967295))) / 4294967296))) 4294967295) + (IntKind.u64.wrap ((Go.bits .and .u64 a0 4294967295) * (a1 / 4294967296))))) / 4294967296)), IntKind.u64.wrap (a0 * a1))
set_option maxHeartbeats 8000000 in
set_option maxRecDepth 100000 in
theorem bits_Mul64.calls (a0 : Int) (a1 : Int) (r1 : Int) (r2 : Int) (w : World) (h : bits_Mul64.f a0 a1 = some (r1, r2)) :
  Calls Tryz.prog 79 #[.int .u64 a0, .int .u64 a1] w fun e w' => e = .returned (.tuple #[.int .u64 r1, .int .u64 r2]) ∧ Drawn0 w w' := by
 have H : (some (IntKind.u64.wrap ((IntKind.u64.wrap ((IntKind.u64.wrap ((a0 / 4294967296) * (a1 / 4294967296))) + ((IntKind.u64.wrap ((IntKind.u64.wrap ((a0 / 4294967296) * (Go.bits .and .u64 a1 4294967295))) + ((IntKind.u64.wrap ((Go.bits .and .u64 a0 4294967295) * (Go.bits .and .u64 a1 4294967295))) / 4294967296))) / 4294967296))) + ((IntKind.u64.wrap ((Go.bits .and .u64 (IntKind.u64.wrap ((IntKind.u64.wrap ((a0 / 4294967296) * (Go.bits .and .u64 a1 4294967295))) + ((IntKind.u64.wrap ((Go.bits .and .u64 a0 4294967295) * (Go.bits .and .u64 a1 4294967295))) / 4294967296))) 4294967295) + (IntKind.u64.wrap ((Go.bits .and .u64 a0 4294967295) * (a1 / 4294967296))))) / 4294967296)), IntKind.u64.wrap (a0 * a1))) = some (r1, r2) := h
 clear h
 simp only [Option.some.injEq, Prod.mk.injEq] at H
 obtain ⟨rfl, rfl⟩ := H
 go_enter Tryz.func79, Tryz.ntmps79
 go_wp2
 go_ret2
 exact ⟨by first | rfl | (simp; done) | (simp [*]; done), by repeat (first | exact Drawn0.refl _ | apply Drawn0.step)⟩


/-! ### wide_signed: function 81 -/
def wide_signed.j0 : Nat → Int → Bool → Bool → Int → Int → Option (Int × Int × Bool)
 | 0, _, _, _, _, _ => none
 | k + 1, x0, x2, x13, x118000, x118001 => if x13 = true then ((wide_Int_flip.f x118000 x118001).bind fun bt118 => (some (bt118.1, bt118.2, true))) else (if x2 = true then (some (0, 0, false)) else (if x0 < 9223372036854775808 then (some (x118000, x118001, true)) else (some (0, 0, false))))
def wide_signed.f (k : Nat) (a0 : Int) (a1 : Int) (a2 : Bool) : Option (Int × Int × Bool) := if a2 = true then (if a0 < 9223372036854775808 then (wide_signed.j0 k a0 a2 true (wrap64 (a0)) a1) else (if a0 = 9223372036854775808 then (wide_signed.j0 k a0 a2 (a1 == 0) (wrap64 (a0)) a1) else (wide_signed.j0 k a0 a2 false (wrap64 (a0)) a1))) else (wide_signed.j0 k a0 a2 false (wrap64 (a0)) a1)
theorem wide_signed.mono_l : ∀ k, (∀ y0 y1 y2 y3 y4, LeO (wide_signed.j0 k y0 y1 y2 y3 y4) (wide_signed.j0 (k + 1) y0 y1 y2 y3 y4))
 | 0 => fun _ _ _ _ _ r h => by simp [wide_signed.j0] at h
 | k + 1 => by
  have ih0 := wide_signed.mono_l k
  ·intro y0 y1 y2 y3 y4
   unfold wide_signed.j0
   repeat' first
   | (with_reducible exact ih0 _ _ _ _ _)
   | (with_reducible exact LeO.refl _)
   | (with_reducible exact LeO.none _)
   | (with_reducible refine LeO.ite ?_ ?_)
   | (with_reducible refine LeO.bind ?_ (fun _ => ?_))
   | exact ih0 _ _ _ _ _
   | exact LeO.none _
   | refine LeO.ite ?_ ?_
   | refine LeO.bind ?_ (fun _ => ?_)
theorem wide_signed.mono : ∀ a0 a1 a2 k, LeO (wide_signed.f k a0 a1 a2) (wide_signed.f (k + 1) a0 a1 a2) := by
 intro a0 a1 a2 k
 have ih0 := wide_signed.mono_l k
 unfold wide_signed.f
 repeat' first
   | (with_reducible exact ih0 _ _ _ _ _)
   | (with_reducible exact LeO.refl _)
   | (with_reducible exact LeO.none _)
   | (with_reducible refine LeO.ite ?_ ?_)
   | (with_reducible refine LeO.bind ?_ (fun _ => ?_))
   | exact ih0 _ _ _ _ _
   | exact LeO.none _
   | refine LeO.ite ?_ ?_
   | refine LeO.bind ?_ (fun _ => ?_)
set_option maxHeartbeats 8000000 in
set_option maxRecDepth 100000 in
theorem wide_signed.calls (k : Nat) (a0 : Int) (a1 : Int) (a2 : Bool) (r1 : Int) (r2 : Int) (r3 : Bool) (w : World) (h : wide_signed.f k a0 a1 a2 = some (r1, r2, r3)) :
  Calls Tryz.prog 81 #[.int .u64 a0, .int .u64 a1, .bool a2] w fun e w' => e = .returned (.tuple #[.agg #[.int .i64 r1, .int .u64 r2], .bool r3]) ∧ Below w.heap.size w w' := by
 have hu31 := Tryz.underlying31
 have HB := Aside0.mk (Below.refl w.heap.size w)
 have H : (if a2 = true then (if a0 < 9223372036854775808 then (wide_signed.j0 k a0 a2 true (wrap64 (a0)) a1) else (if a0 = 9223372036854775808 then (wide_signed.j0 k a0 a2 (a1 == 0) (wrap64 (a0)) a1) else (wide_signed.j0 k a0 a2 false (wrap64 (a0)) a1))) else (wide_signed.j0 k a0 a2 false (wrap64 (a0)) a1)) = some (r1, r2, r3) := h
 clear h
 have HC4 := Aside0.mk H
 clear H
 go_enter Tryz.func81, Tryz.ntmps81
 go_upto_region 2 with (first | ((with_reducible refine gate_dst (N := 6) rfl ?_); refine box_event ?hg (N := 6) ?hd (cs := #[.int .i64 0, .int .u64 0]) (t := 31) ?hr ?_; (case hd => rfl); (case hg => rfl); (case hr => first | (go_simp; done) | (go_simp; rfl)); intro gb116 hg w5 hbox hb; have BK116 := Aside0.mk (hbox); have GW116 := bels HB hg; have GE116 := bels HB hg; replace HB := belb HB hb; clear hb hbox hg) | ((with_reducible refine gate_dst (N := 8) rfl ?_); refine box_event ?hg (N := 8) ?hd (cs := #[.int .i64 0, .int .u64 0]) (t := 31) ?hr ?_; (case hd => rfl); (case hg => rfl); (case hr => first | (go_simp; done) | (go_simp; rfl)); intro gb117 hg w6 hbox hb; have BK117 := Aside0.mk (hbox); have GW117 := bels HB hg; have GE117 := bels HB hg; have NB116_117 := blkl BK116 hg; have NB117_116 := blkg BK116 hg; replace BK116 := blkb BK116 hb; replace HB := belb HB hb; clear hb hbox hg; have hnb7 := NB117_116.out; have hnc7 := NB116_117.out; have hcz8_0 : w6.cell? ⟨gb117, 0, none⟩ = some (.int .i64 0) := bc BK117 0; have hcz8_1 : w6.cell? ⟨gb117, 1, none⟩ = some (.int .u64 0) := bc BK117 1; have hfz8_0 := blk_frozen BK117.out 0; have hfz8_1 := blk_frozen BK117.out 1))
 (try simp only [Act.put, List.setIfInBounds_toArray, List.set_cons_zero, List.set_cons_succ])
 go_cut [13] (fun v13 wc => ∃ (kq : Nat) (x13_3 : Bool), v13 = .bool x13_3 ∧ Aside0 (wide_signed.j0 kq a0 a2 x13_3 (wrap64 (a0)) a1 = some (r1, r2, r3)) ∧ Aside0 (kq ≤ k) ∧ Aside0 (wc.heap[gb116]? = some (.cells #[.int .i64 0, .int .u64 0] 31 (0, 0))) ∧ Aside0 (wc.heap[gb117]? = some (.cells #[.int .i64 (wrap64 (a0)), .int .u64 a1] 31 (0, 0))) ∧ Aside0 (Below w.heap.size w wc))
 case first =>
  have H := HC4.out
  clear HC4
  by_cases c9 : a2 = true
  ·subst c9
   have H1 : (if a0 < 9223372036854775808 then (wide_signed.j0 k a0 true true (wrap64 (a0)) a1) else (if a0 = 9223372036854775808 then (wide_signed.j0 k a0 true (a1 == 0) (wrap64 (a0)) a1) else (wide_signed.j0 k a0 true false (wrap64 (a0)) a1))) = some (r1, r2, r3) := by rw [if_pos rfl] at H; exact H
   clear H
   have H := H1
   clear H1
   by_cases c10 : a0 < 9223372036854775808
   ·rw [if_pos c10] at H
    have c10b0 : decide (a0 < 9223372036854775808) = true := decide_eq_true c10
    clear c10
    (first | rw [c10b0] | (simp only [i64_w, i32_w]; rw [c10b0]) | skip)
    have H' := Aside0.mk H
    clear H
    go_wp2
    go_meet
    case rel => exact ⟨_, (true), (by first | rfl | (simp; done) | (simp [*]; done)), H', ⟨by first | omega | exact Nat.le_refl _⟩, ⟨by (with_reducible repeat (first | refine blk_drewN ?_ _ | refine blk_drew ?_ | refine blk_alloc ?_ _)); refine blk_far ?_ NB116_117.out _; (with_reducible repeat (first | refine blk_drewN ?_ _ | refine blk_drew ?_ | refine blk_alloc ?_ _)); refine blk_far ?_ NB116_117.out _; exact blkt BK116⟩, ⟨by (with_reducible repeat (first | refine blk_drewN ?_ _ | refine blk_drew ?_ | refine blk_alloc ?_ _)); refine blk_put (cs := #[.int .i64 (wrap64 (a0)), .int .u64 0]) ?_ 1 _ rfl; (with_reducible repeat (first | refine blk_drewN ?_ _ | refine blk_drew ?_ | refine blk_alloc ?_ _)); refine blk_put (cs := #[.int .i64 0, .int .u64 0]) ?_ 0 _ rfl; exact blkt BK117⟩, ⟨belt HB⟩⟩
   rw [if_neg c10] at H
   have c10b0 : decide (a0 < 9223372036854775808) = false := decide_eq_false c10
   clear c10
   (first | rw [c10b0] | (simp only [i64_w, i32_w]; rw [c10b0]) | skip)
   by_cases c11 : a0 = 9223372036854775808
   ·rw [if_pos c11] at H
    have c11b0 : (a0 == 9223372036854775808) = true := beq_iff_eq.mpr c11
    have c11b1 : (a0 != 9223372036854775808) = false := bne_eq_false_iff_eq.mpr c11
    clear c11
    have H' := Aside0.mk H
    clear H
    go_wp2
    go_meet
    case rel => exact ⟨_, ((a1 == 0)), (by first | rfl | (simp; done) | (simp [*]; done)), H', ⟨by first | omega | exact Nat.le_refl _⟩, ⟨by (with_reducible repeat (first | refine blk_drewN ?_ _ | refine blk_drew ?_ | refine blk_alloc ?_ _)); refine blk_far ?_ NB116_117.out _; (with_reducible repeat (first | refine blk_drewN ?_ _ | refine blk_drew ?_ | refine blk_alloc ?_ _)); refine blk_far ?_ NB116_117.out _; exact blkt BK116⟩, ⟨by (with_reducible repeat (first | refine blk_drewN ?_ _ | refine blk_drew ?_ | refine blk_alloc ?_ _)); refine blk_put (cs := #[.int .i64 (wrap64 (a0)), .int .u64 0]) ?_ 1 _ rfl; (with_reducible repeat (first | refine blk_drewN ?_ _ | refine blk_drew ?_ | refine blk_alloc ?_ _)); refine blk_put (cs := #[.int .i64 0, .int .u64 0]) ?_ 0 _ rfl; exact blkt BK117⟩, ⟨belt HB⟩⟩
   rw [if_neg c11] at H
   have c11b0 : (a0 == 9223372036854775808) = false := beq_eq_false_iff_ne.mpr c11
   have c11b1 : (a0 != 9223372036854775808) = true := bne_iff_ne.mpr c11
   have H' := Aside0.mk H
   clear H
   go_wp2
   go_meet
   case rel => exact ⟨_, (false), (by first | rfl | (simp; done) | (simp [*]; done)), H', ⟨by first | omega | exact Nat.le_refl _⟩, ⟨by (with_reducible repeat (first | refine blk_drewN ?_ _ | refine blk_drew ?_ | refine blk_alloc ?_ _)); refine blk_far ?_ NB116_117.out _; (with_reducible repeat (first | refine blk_drewN ?_ _ | refine blk_drew ?_ | refine blk_alloc ?_ _)); refine blk_far ?_ NB116_117.out _; exact blkt BK116⟩, ⟨by (with_reducible repeat (first | refine blk_drewN ?_ _ | refine blk_drew ?_ | refine blk_alloc ?_ _)); refine blk_put (cs := #[.int .i64 (wrap64 (a0)), .int .u64 0]) ?_ 1 _ rfl; (with_reducible repeat (first | refine blk_drewN ?_ _ | refine blk_drew ?_ | refine blk_alloc ?_ _)); refine blk_put (cs := #[.int .i64 0, .int .u64 0]) ?_ 0 _ rfl; exact blkt BK117⟩, ⟨belt HB⟩⟩
  replace c9 := Bool.eq_false_iff.mpr c9
  subst c9
  have H1 : (wide_signed.j0 k a0 false false (wrap64 (a0)) a1) = some (r1, r2, r3) := by rw [if_neg (show ¬ (false = true) by decide)] at H; exact H
  clear H
  have H := H1
  clear H1
  have H' := Aside0.mk H
  clear H
  go_wp2
  go_meet
  case rel => exact ⟨_, (false), (by first | rfl | (simp; done) | (simp [*]; done)), H', ⟨by first | omega | exact Nat.le_refl _⟩, ⟨by (with_reducible repeat (first | refine blk_drewN ?_ _ | refine blk_drew ?_ | refine blk_alloc ?_ _)); refine blk_far ?_ NB116_117.out _; (with_reducible repeat (first | refine blk_drewN ?_ _ | refine blk_drew ?_ | refine blk_alloc ?_ _)); refine blk_far ?_ NB116_117.out _; exact blkt BK116⟩, ⟨by (with_reducible repeat (first | refine blk_drewN ?_ _ | refine blk_drew ?_ | refine blk_alloc ?_ _)); refine blk_put (cs := #[.int .i64 (wrap64 (a0)), .int .u64 0]) ?_ 1 _ rfl; (with_reducible repeat (first | refine blk_drewN ?_ _ | refine blk_drew ?_ | refine blk_alloc ?_ _)); refine blk_put (cs := #[.int .i64 0, .int .u64 0]) ?_ 0 _ rfl; exact blkt BK117⟩, ⟨belt HB⟩⟩
 case rest =>
  clear HC4
  try clear c1
  try clear p2
  try clear p6
  try clear c7
  try clear c8
  try clear c9
  try clear c10
  try clear c10b0
  try clear c11
  try clear c11b0
  try clear c11b1
  try clear hcz8_0
  try clear hcz8_1
  try clear hfz8_0
  try clear hfz8_1
  obtain ⟨kq, x13_3, rfl, HA, HJ3, BK116, BK117, HB⟩ := hcut
  cases kq with
  | zero => exact absurd HA.out (by simp [wide_signed.j0])
  | succ kj3 =>
   have H := HA.out
   clear HA
   simp only [wide_signed.j0] at H
   by_cases c12 : x13_3 = true
   ·subst c12
    have H1 : ((wide_Int_flip.f (wrap64 (a0)) a1).bind fun bt118 => (some (bt118.1, bt118.2, true))) = some (r1, r2, r3) := by rw [if_pos rfl] at H; exact H
    clear H
    have H := H1
    clear H1
    replace H := Option.bind_eq_some_iff.mp H
    obtain ⟨⟨t118, t119⟩, A130, H⟩ := H
    replace H : (some (t118, t119, true)) = some (r1, r2, r3) := H
    have A13 := Aside0.mk A130
    clear A130
    simp only [Option.some.injEq, Prod.mk.injEq] at H
    obtain ⟨rfl, rfl, rfl⟩ := H
    have hnb14 := NB117_116.out
    have hnc14 := NB116_117.out
    have hcz15_0 : wc.cell? ⟨gb117, 0, none⟩ = some (.int .i64 (wrap64 (a0))) := bc BK117 0
    have hcz15_1 : wc.cell? ⟨gb117, 1, none⟩ = some (.int .u64 a1) := bc BK117 1
    have hfz15_0 := blk_frozen BK117.out 0
    have hfz15_1 := blk_frozen BK117.out 1
    go_wp2_with (first | ((with_reducible refine gate_callee (f := 83) rfl ?_); refine goesL_ (some 28) rfl rfl Tryz.func83 (by kernel_rfl) rfl #[.agg #[.int .i64 (wrap64 (a0)), .int .u64 a1]] rfl argt ?_; (with_reducible refine (wide_Int_flip.calls (wrap64 (a0)) a1 t118 t119 _ A13.out).mono ?_); rintro e w16 ⟨rfl, hb⟩; refine ⟨_, rfl, ?_⟩; replace BK116 := blkb BK116 hb; replace BK117 := blkb BK117 hb; replace HB := belb HB hb; (try clear hb); (try clear hb2); (try clear hk); (try clear hi); have hcz17_0 : w16.cell? ⟨gb116, 0, none⟩ = some (.int .i64 0) := bc BK116 0; have hcz17_1 : w16.cell? ⟨gb116, 1, none⟩ = some (.int .u64 0) := bc BK116 1; have hfz17_0 := blk_frozen BK116.out 0; have hfz17_1 := blk_frozen BK116.out 1))
    refine bodyPost_ret (results_ct rfl _ _ gb116 31 #[.int .i64 t118, .int .u64 t119] (0, 0) _ rfl (by (with_reducible repeat (first | refine blk_drewN ?_ _ | refine blk_drew ?_ | refine blk_alloc ?_ _)); refine blk_put (cs := #[.int .i64 t118, .int .u64 0]) ?_ 1 _ rfl; (with_reducible repeat (first | refine blk_drewN ?_ _ | refine blk_drew ?_ | refine blk_alloc ?_ _)); refine blk_put (cs := #[.int .i64 0, .int .u64 0]) ?_ 0 _ rfl; exact blkt BK116) Tryz.underlying31 rfl (by kernel_rfl)) rfl ?_
    exact ⟨by first | rfl | (simp [errW_none, errW_some] <;> rfl) | (simp [*, errW_none, errW_some] <;> rfl), belt HB⟩
   replace c12 := Bool.eq_false_iff.mpr c12
   subst c12
   have H1 : (if a2 = true then (some (0, 0, false)) else (if a0 < 9223372036854775808 then (some ((wrap64 (a0)), a1, true)) else (some (0, 0, false)))) = some (r1, r2, r3) := by rw [if_neg (show ¬ (false = true) by decide)] at H; exact H
   clear H
   have H := H1
   clear H1
   by_cases c18 : a2 = true
   ·subst c18
    have H1 : (some (0, 0, false)) = some (r1, r2, r3) := by rw [if_pos rfl] at H; exact H
    clear H
    have H := H1
    clear H1
    simp only [Option.some.injEq, Prod.mk.injEq] at H
    obtain ⟨rfl, rfl, rfl⟩ := H
    have hnb19 := NB116_117.out
    have hnc19 := NB117_116.out
    have hcz20_0 : wc.cell? ⟨gb116, 0, none⟩ = some (.int .i64 0) := bc BK116 0
    have hcz20_1 : wc.cell? ⟨gb116, 1, none⟩ = some (.int .u64 0) := bc BK116 1
    have hfz20_0 := blk_frozen BK116.out 0
    have hfz20_1 := blk_frozen BK116.out 1
    go_wp2
    refine bodyPost_ret (results_ct rfl _ _ gb116 31 #[.int .i64 0, .int .u64 0] (0, 0) _ rfl (by (with_reducible repeat (first | refine blk_drewN ?_ _ | refine blk_drew ?_ | refine blk_alloc ?_ _)); refine blk_put (cs := #[.int .i64 0, .int .u64 0]) ?_ 1 _ rfl; (with_reducible repeat (first | refine blk_drewN ?_ _ | refine blk_drew ?_ | refine blk_alloc ?_ _)); refine blk_put (cs := #[.int .i64 0, .int .u64 0]) ?_ 0 _ rfl; exact blkt BK116) Tryz.underlying31 rfl (by kernel_rfl)) rfl ?_
    exact ⟨by first | rfl | (simp [errW_none, errW_some] <;> rfl) | (simp [*, errW_none, errW_some] <;> rfl), belt HB⟩
   replace c18 := Bool.eq_false_iff.mpr c18
   subst c18
   have H1 : (if a0 < 9223372036854775808 then (some ((wrap64 (a0)), a1, true)) else (some (0, 0, false))) = some (r1, r2, r3) := by rw [if_neg (show ¬ (false = true) by decide)] at H; exact H
   clear H
   have H := H1
   clear H1
   by_cases c21 : a0 < 9223372036854775808
   ·rw [if_pos c21] at H
    have c21b0 : decide (a0 < 9223372036854775808) = true := decide_eq_true c21
    clear c21
    simp only [Option.some.injEq, Prod.mk.injEq] at H
    obtain ⟨rfl, rfl, rfl⟩ := H
    have hnb22 := NB117_116.out
    have hnc22 := NB116_117.out
    have hcz23_0 : wc.cell? ⟨gb117, 0, none⟩ = some (.int .i64 (wrap64 (a0))) := bc BK117 0
    have hcz23_1 : wc.cell? ⟨gb117, 1, none⟩ = some (.int .u64 a1) := bc BK117 1
    have hfz23_0 := blk_frozen BK117.out 0
    have hfz23_1 := blk_frozen BK117.out 1
    have hcz24_0 : wc.cell? ⟨gb116, 0, none⟩ = some (.int .i64 0) := bc BK116 0
    have hcz24_1 : wc.cell? ⟨gb116, 1, none⟩ = some (.int .u64 0) := bc BK116 1
    have hfz24_0 := blk_frozen BK116.out 0
    have hfz24_1 := blk_frozen BK116.out 1
    go_wp2
    refine bodyPost_ret (results_ct rfl _ _ gb116 31 #[.int .i64 (wrap64 (a0)), .int .u64 a1] (0, 0) _ rfl (by (with_reducible repeat (first | refine blk_drewN ?_ _ | refine blk_drew ?_ | refine blk_alloc ?_ _)); refine blk_put (cs := #[.int .i64 (wrap64 (a0)), .int .u64 0]) ?_ 1 _ rfl; (with_reducible repeat (first | refine blk_drewN ?_ _ | refine blk_drew ?_ | refine blk_alloc ?_ _)); refine blk_put (cs := #[.int .i64 0, .int .u64 0]) ?_ 0 _ rfl; exact blkt BK116) Tryz.underlying31 rfl (by kernel_rfl)) rfl ?_
    exact ⟨by first | rfl | (simp [errW_none, errW_some] <;> rfl) | (simp [*, errW_none, errW_some] <;> rfl), belt HB⟩
   rw [if_neg c21] at H
   have c21b0 : decide (a0 < 9223372036854775808) = false := decide_eq_false c21
   clear c21
   simp only [Option.some.injEq, Prod.mk.injEq] at H
   obtain ⟨rfl, rfl, rfl⟩ := H
   have hnb25 := NB116_117.out
   have hnc25 := NB117_116.out
   have hcz26_0 : wc.cell? ⟨gb116, 0, none⟩ = some (.int .i64 0) := bc BK116 0
   have hcz26_1 : wc.cell? ⟨gb116, 1, none⟩ = some (.int .u64 0) := bc BK116 1
   have hfz26_0 := blk_frozen BK116.out 0
   have hfz26_1 := blk_frozen BK116.out 1
   go_wp2
   refine bodyPost_ret (results_ct rfl _ _ gb116 31 #[.int .i64 0, .int .u64 0] (0, 0) _ rfl (by (with_reducible repeat (first | refine blk_drewN ?_ _ | refine blk_drew ?_ | refine blk_alloc ?_ _)); refine blk_put (cs := #[.int .i64 0, .int .u64 0]) ?_ 1 _ rfl; (with_reducible repeat (first | refine blk_drewN ?_ _ | refine blk_drew ?_ | refine blk_alloc ?_ _)); refine blk_put (cs := #[.int .i64 0, .int .u64 0]) ?_ 0 _ rfl; exact blkt BK116) Tryz.underlying31 rfl (by kernel_rfl)) rfl ?_
   exact ⟨by first | rfl | (simp [errW_none, errW_some] <;> rfl) | (simp [*, errW_none, errW_some] <;> rfl), belt HB⟩


/-! ### wide_Int_Mul: function 54 -/
def wide_Int_Mul.f (k : Nat) (a0_0 : Int) (a0_1 : Int) (a1 : Int) : Option (Int × Int × Bool) := (wide_Int_size.f a0_0 a0_1).bind fun bt122 => ((wide_Of.f a1).bind fun bt124 => ((wide_Int_size.f bt124.1 bt124.2).bind fun bt126 => ((bits_Mul64.f bt122.1 bt126.2).bind fun bt128 => ((bits_Mul64.f bt122.2 bt126.2).bind fun bt130 => (if bt128.1 = 0 then (if (addHi bt128.2 bt130.1 0) = 0 then ((wide_signed.f k (addLo bt128.2 bt130.1 0) bt130.2 ((decide (a0_0 < 0)) != (decide (a1 < 0)))).bind fun bt132 => (some (bt132.1, bt132.2.1, bt132.2.2))) else (some (0, 0, false))) else (some (0, 0, false)))))))
theorem wide_Int_Mul.mono : ∀ a0 a1 a2 k, LeO (wide_Int_Mul.f k a0 a1 a2) (wide_Int_Mul.f (k + 1) a0 a1 a2) := by
 intro a0 a1 a2 k
 unfold wide_Int_Mul.f
 repeat' first
   | (with_reducible exact wide_signed.mono _ _ _ _)
   | (with_reducible exact LeO.refl _)
   | (with_reducible exact LeO.none _)
   | (with_reducible refine LeO.ite ?_ ?_)
   | (with_reducible refine LeO.bind ?_ (fun _ => ?_))
   | exact wide_signed.mono _ _ _ _
   | exact LeO.none _
   | refine LeO.ite ?_ ?_
   | refine LeO.bind ?_ (fun _ => ?_)
set_option maxHeartbeats 8000000 in
set_option maxRecDepth 100000 in
theorem wide_Int_Mul.calls (k : Nat) (a0_0 : Int) (a0_1 : Int) (a1 : Int) (r1 : Int) (r2 : Int) (r3 : Bool) (w : World) (h : wide_Int_Mul.f k a0_0 a0_1 a1 = some (r1, r2, r3)) :
  Calls Tryz.prog 54 #[.agg #[.int .i64 a0_0, .int .u64 a0_1], .int .i64 a1] w fun e w' => e = .returned (.tuple #[.agg #[.int .i64 r1, .int .u64 r2], .bool r3]) ∧ Below w.heap.size w w' := by
 have hu31 := Tryz.underlying31
 have HB := Aside0.mk (Below.refl w.heap.size w)
 have H : ((wide_Int_size.f a0_0 a0_1).bind fun bt122 => ((wide_Of.f a1).bind fun bt124 => ((wide_Int_size.f bt124.1 bt124.2).bind fun bt126 => ((bits_Mul64.f bt122.1 bt126.2).bind fun bt128 => ((bits_Mul64.f bt122.2 bt126.2).bind fun bt130 => (if bt128.1 = 0 then (if (addHi bt128.2 bt130.1 0) = 0 then ((wide_signed.f k (addLo bt128.2 bt130.1 0) bt130.2 ((decide (a0_0 < 0)) != (decide (a1 < 0)))).bind fun bt132 => (some (bt132.1, bt132.2.1, bt132.2.2))) else (some (0, 0, false))) else (some (0, 0, false)))))))) = some (r1, r2, r3) := h
 clear h
 replace H := Option.bind_eq_some_iff.mp H
 obtain ⟨⟨t122, t123⟩, A30, H⟩ := H
 replace H : ((wide_Of.f a1).bind fun bt124 => ((wide_Int_size.f bt124.1 bt124.2).bind fun bt126 => ((bits_Mul64.f t122 bt126.2).bind fun bt128 => ((bits_Mul64.f t123 bt126.2).bind fun bt130 => (if bt128.1 = 0 then (if (addHi bt128.2 bt130.1 0) = 0 then ((wide_signed.f k (addLo bt128.2 bt130.1 0) bt130.2 ((decide (a0_0 < 0)) != (decide (a1 < 0)))).bind fun bt132 => (some (bt132.1, bt132.2.1, bt132.2.2))) else (some (0, 0, false))) else (some (0, 0, false))))))) = some (r1, r2, r3) := H
 have A3 := Aside0.mk A30
 clear A30
 replace H := Option.bind_eq_some_iff.mp H
 obtain ⟨⟨t124, t125⟩, A40, H⟩ := H
 replace H : ((wide_Int_size.f t124 t125).bind fun bt126 => ((bits_Mul64.f t122 bt126.2).bind fun bt128 => ((bits_Mul64.f t123 bt126.2).bind fun bt130 => (if bt128.1 = 0 then (if (addHi bt128.2 bt130.1 0) = 0 then ((wide_signed.f k (addLo bt128.2 bt130.1 0) bt130.2 ((decide (a0_0 < 0)) != (decide (a1 < 0)))).bind fun bt132 => (some (bt132.1, bt132.2.1, bt132.2.2))) else (some (0, 0, false))) else (some (0, 0, false)))))) = some (r1, r2, r3) := H
 have A4 := Aside0.mk A40
 clear A40
 replace H := Option.bind_eq_some_iff.mp H
 obtain ⟨⟨t126, t127⟩, A50, H⟩ := H
 replace H : ((bits_Mul64.f t122 t127).bind fun bt128 => ((bits_Mul64.f t123 t127).bind fun bt130 => (if bt128.1 = 0 then (if (addHi bt128.2 bt130.1 0) = 0 then ((wide_signed.f k (addLo bt128.2 bt130.1 0) bt130.2 ((decide (a0_0 < 0)) != (decide (a1 < 0)))).bind fun bt132 => (some (bt132.1, bt132.2.1, bt132.2.2))) else (some (0, 0, false))) else (some (0, 0, false))))) = some (r1, r2, r3) := H
 have A5 := Aside0.mk A50
 clear A50
 replace H := Option.bind_eq_some_iff.mp H
 obtain ⟨⟨t128, t129⟩, A60, H⟩ := H
 replace H : ((bits_Mul64.f t123 t127).bind fun bt130 => (if t128 = 0 then (if (addHi t129 bt130.1 0) = 0 then ((wide_signed.f k (addLo t129 bt130.1 0) bt130.2 ((decide (a0_0 < 0)) != (decide (a1 < 0)))).bind fun bt132 => (some (bt132.1, bt132.2.1, bt132.2.2))) else (some (0, 0, false))) else (some (0, 0, false)))) = some (r1, r2, r3) := H
 have A6 := Aside0.mk A60
 clear A60
 replace H := Option.bind_eq_some_iff.mp H
 obtain ⟨⟨t130, t131⟩, A70, H⟩ := H
 replace H : (if t128 = 0 then (if (addHi t129 t130 0) = 0 then ((wide_signed.f k (addLo t129 t130 0) t131 ((decide (a0_0 < 0)) != (decide (a1 < 0)))).bind fun bt132 => (some (bt132.1, bt132.2.1, bt132.2.2))) else (some (0, 0, false))) else (some (0, 0, false))) = some (r1, r2, r3) := H
 have A7 := Aside0.mk A70
 clear A70
 by_cases c8 : t128 = 0
 ·rw [if_pos c8] at H
  have c8b0 : (t128 == 0) = true := beq_iff_eq.mpr c8
  have c8b1 : (t128 != 0) = false := bne_eq_false_iff_eq.mpr c8
  clear c8
  by_cases c9 : (addHi t129 t130 0) = 0
  ·rw [if_pos c9] at H
   have c9b0 : ((addHi t129 t130 0) == 0) = true := beq_iff_eq.mpr c9
   have c9b1 : ((addHi t129 t130 0) != 0) = false := bne_eq_false_iff_eq.mpr c9
   clear c9
   replace H := Option.bind_eq_some_iff.mp H
   obtain ⟨⟨t132, t133, t134⟩, A100, H⟩ := H
   replace H : (some (t132, t133, t134)) = some (r1, r2, r3) := H
   have A10 := Aside0.mk A100
   clear A100
   simp only [Option.some.injEq, Prod.mk.injEq] at H
   obtain ⟨rfl, rfl, rfl⟩ := H
   go_enter Tryz.func54, Tryz.ntmps54
   go_wp2_with (first | ((with_reducible refine gate_dst (N := 2) rfl ?_); refine box_event ?hg (N := 2) ?hd (cs := #[.int .i64 a0_0, .int .u64 a0_1]) (t := 31) ?hr ?_; (case hd => rfl); (case hg => rfl); (case hr => first | (go_simp; done) | (go_simp; rfl)); intro gb120 hg w11 hbox hb; have BK120 := Aside0.mk (hbox); have GW120 := bels HB hg; have GE120 := bels HB hg; replace HB := belb HB hb; clear hb hbox hg) | ((with_reducible refine gate_dst (N := 4) rfl ?_); refine box_event ?hg (N := 4) ?hd (cs := #[.int .i64 0, .int .u64 0]) (t := 31) ?hr ?_; (case hd => rfl); (case hg => rfl); (case hr => first | (go_simp; done) | (go_simp; rfl)); intro gb121 hg w12 hbox hb; have BK121 := Aside0.mk (hbox); have GW121 := bels HB hg; have GE121 := bels HB hg; have NB120_121 := blkl BK120 hg; have NB121_120 := blkg BK120 hg; replace BK120 := blkb BK120 hb; replace HB := belb HB hb; clear hb hbox hg; have hnb13 := NB120_121.out; have hnc13 := NB121_120.out; have hcz14_0 : w12.cell? ⟨gb120, 0, none⟩ = some (.int .i64 a0_0) := bc BK120 0; have hcz14_1 : w12.cell? ⟨gb120, 1, none⟩ = some (.int .u64 a0_1) := bc BK120 1; have hfz14_0 := blk_frozen BK120.out 0; have hfz14_1 := blk_frozen BK120.out 1) | ((with_reducible refine gate_callee (f := 78) rfl ?_); refine goesL_ (some 17) rfl rfl Tryz.func78 (by kernel_rfl) rfl #[.agg #[.int .i64 a0_0, .int .u64 a0_1]] rfl argt ?_; (with_reducible refine (wide_Int_size.calls a0_0 a0_1 t122 t123 _ A3.out).mono ?_); rintro e w15 ⟨rfl, hb⟩; refine ⟨_, rfl, ?_⟩; replace BK120 := blkb BK120 hb; replace BK121 := blkb BK121 hb; replace HB := belb HB hb; (try clear hb); (try clear hb2); (try clear hk); (try clear hi)) | ((with_reducible refine gate_callee (f := 31) rfl ?_); refine goesL_ (some 22) rfl rfl Tryz.func31 (by kernel_rfl) rfl #[.int .i64 a1] rfl argt ?_; (with_reducible refine (wide_Of.calls a1 t124 t125 _ A4.out).mono ?_); rintro e w16 ⟨rfl, hb⟩; refine ⟨_, rfl, ?_⟩; replace BK120 := blkb BK120 hb; replace BK121 := blkb BK121 hb; replace HB := belb HB hb; (try clear hb); (try clear hb2); (try clear hk); (try clear hi)) | ((with_reducible refine gate_callee (f := 78) rfl ?_); refine goesL_ (some 23) rfl rfl Tryz.func78 (by kernel_rfl) rfl #[.agg #[.int .i64 t124, .int .u64 t125]] rfl argt ?_; (with_reducible refine (wide_Int_size.calls t124 t125 t126 t127 _ A5.out).mono ?_); rintro e w17 ⟨rfl, hb⟩; refine ⟨_, rfl, ?_⟩; replace BK120 := blkb BK120 hb; replace BK121 := blkb BK121 hb; replace HB := belb HB hb; (try clear hb); (try clear hb2); (try clear hk); (try clear hi)) | ((with_reducible refine gate_callee (f := 79) rfl ?_); refine goesL_ (some 29) rfl rfl Tryz.func79 (by kernel_rfl) rfl #[.int .u64 t122, .int .u64 t127] rfl argt ?_; (with_reducible refine (bits_Mul64.calls t122 t127 t128 t129 _ A6.out).mono ?_); rintro e w' ⟨rfl, ⟨nd, rfl⟩⟩; refine ⟨_, rfl, ?_⟩; (try (rw [drewN_self w17]; generalize hq_ : World.drewN w17 _ = w17; replace BK120 : Aside0 (w17.heap[gb120]? = some (.cells #[.int .i64 a0_0, .int .u64 a0_1] 31 (0, 0))) := ⟨by rw [← hq_]; exact (blkt BK120)⟩; replace BK121 : Aside0 (w17.heap[gb121]? = some (.cells #[.int .i64 0, .int .u64 0] 31 (0, 0))) := ⟨by rw [← hq_]; exact (blkt BK121)⟩; replace HB : Aside0 (Below w.heap.size w w17) := ⟨by rw [← hq_]; exact (belt HB)⟩; clear hq_))) | ((with_reducible refine gate_callee (f := 79) rfl ?_); refine goesL_ (some 35) rfl rfl Tryz.func79 (by kernel_rfl) rfl #[.int .u64 t123, .int .u64 t127] rfl argt ?_; (with_reducible refine (bits_Mul64.calls t123 t127 t130 t131 _ A7.out).mono ?_); rintro e w' ⟨rfl, ⟨nd, rfl⟩⟩; refine ⟨_, rfl, ?_⟩; (try (rw [drewN_self w17]; generalize hq_ : World.drewN w17 _ = w17; replace BK120 : Aside0 (w17.heap[gb120]? = some (.cells #[.int .i64 a0_0, .int .u64 a0_1] 31 (0, 0))) := ⟨by rw [← hq_]; exact (blkt BK120)⟩; replace BK121 : Aside0 (w17.heap[gb121]? = some (.cells #[.int .i64 0, .int .u64 0] 31 (0, 0))) := ⟨by rw [← hq_]; exact (blkt BK121)⟩; replace HB : Aside0 (Below w.heap.size w w17) := ⟨by rw [← hq_]; exact (belt HB)⟩; clear hq_)); have hcz18_0 : w17.cell? ⟨gb120, 0, none⟩ = some (.int .i64 a0_0) := bc BK120 0; have hcz18_1 : w17.cell? ⟨gb120, 1, none⟩ = some (.int .u64 a0_1) := bc BK120 1; have hfz18_0 := blk_frozen BK120.out 0; have hfz18_1 := blk_frozen BK120.out 1) | ((with_reducible refine gate_callee (f := 81) rfl ?_); refine goesL_ (some 59) rfl rfl Tryz.func81 (by kernel_rfl) rfl #[.int .u64 (addLo t129 t130 0), .int .u64 t131, .bool ((decide (a0_0 < 0)) != (decide (a1 < 0)))] rfl argt ?_; (with_reducible refine (wide_signed.calls k (addLo t129 t130 0) t131 ((decide (a0_0 < 0)) != (decide (a1 < 0))) t132 t133 t134 _ A10.out).mono ?_); rintro e w19 ⟨rfl, hb⟩; refine ⟨_, rfl, ?_⟩; replace BK120 := blkb BK120 hb; replace BK121 := blkb BK121 hb; replace HB := belb HB hb; (try clear hb); (try clear hb2); (try clear hk); (try clear hi); have hcz20_0 : w19.cell? ⟨gb121, 0, none⟩ = some (.int .i64 0) := bc BK121 0; have hcz20_1 : w19.cell? ⟨gb121, 1, none⟩ = some (.int .u64 0) := bc BK121 1; have hfz20_0 := blk_frozen BK121.out 0; have hfz20_1 := blk_frozen BK121.out 1))
   refine bodyPost_ret (results_ct rfl _ _ gb121 31 #[.int .i64 t132, .int .u64 t133] (0, 0) _ rfl (by (with_reducible repeat (first | refine blk_drewN ?_ _ | refine blk_drew ?_ | refine blk_alloc ?_ _)); refine blk_put (cs := #[.int .i64 t132, .int .u64 0]) ?_ 1 _ rfl; (with_reducible repeat (first | refine blk_drewN ?_ _ | refine blk_drew ?_ | refine blk_alloc ?_ _)); refine blk_put (cs := #[.int .i64 0, .int .u64 0]) ?_ 0 _ rfl; exact blkt BK121) Tryz.underlying31 rfl (by kernel_rfl)) rfl ?_
   exact ⟨by first | rfl | (simp [errW_none, errW_some] <;> rfl) | (simp [*, errW_none, errW_some] <;> rfl), belt HB⟩
  rw [if_neg c9] at H
  have c9b0 : ((addHi t129 t130 0) == 0) = false := beq_eq_false_iff_ne.mpr c9
  have c9b1 : ((addHi t129 t130 0) != 0) = true := bne_iff_ne.mpr c9
  simp only [Option.some.injEq, Prod.mk.injEq] at H
  obtain ⟨rfl, rfl, rfl⟩ := H
  go_enter Tryz.func54, Tryz.ntmps54
  go_wp2_with (first | ((with_reducible refine gate_dst (N := 2) rfl ?_); refine box_event ?hg (N := 2) ?hd (cs := #[.int .i64 a0_0, .int .u64 a0_1]) (t := 31) ?hr ?_; (case hd => rfl); (case hg => rfl); (case hr => first | (go_simp; done) | (go_simp; rfl)); intro gb120 hg w21 hbox hb; have BK120 := Aside0.mk (hbox); have GW120 := bels HB hg; have GE120 := bels HB hg; replace HB := belb HB hb; clear hb hbox hg) | ((with_reducible refine gate_dst (N := 4) rfl ?_); refine box_event ?hg (N := 4) ?hd (cs := #[.int .i64 0, .int .u64 0]) (t := 31) ?hr ?_; (case hd => rfl); (case hg => rfl); (case hr => first | (go_simp; done) | (go_simp; rfl)); intro gb121 hg w22 hbox hb; have BK121 := Aside0.mk (hbox); have GW121 := bels HB hg; have GE121 := bels HB hg; have NB120_121 := blkl BK120 hg; have NB121_120 := blkg BK120 hg; replace BK120 := blkb BK120 hb; replace HB := belb HB hb; clear hb hbox hg; have hnb23 := NB120_121.out; have hnc23 := NB121_120.out; have hcz24_0 : w22.cell? ⟨gb120, 0, none⟩ = some (.int .i64 a0_0) := bc BK120 0; have hcz24_1 : w22.cell? ⟨gb120, 1, none⟩ = some (.int .u64 a0_1) := bc BK120 1; have hfz24_0 := blk_frozen BK120.out 0; have hfz24_1 := blk_frozen BK120.out 1) | ((with_reducible refine gate_callee (f := 78) rfl ?_); refine goesL_ (some 17) rfl rfl Tryz.func78 (by kernel_rfl) rfl #[.agg #[.int .i64 a0_0, .int .u64 a0_1]] rfl argt ?_; (with_reducible refine (wide_Int_size.calls a0_0 a0_1 t122 t123 _ A3.out).mono ?_); rintro e w25 ⟨rfl, hb⟩; refine ⟨_, rfl, ?_⟩; replace BK120 := blkb BK120 hb; replace BK121 := blkb BK121 hb; replace HB := belb HB hb; (try clear hb); (try clear hb2); (try clear hk); (try clear hi)) | ((with_reducible refine gate_callee (f := 31) rfl ?_); refine goesL_ (some 22) rfl rfl Tryz.func31 (by kernel_rfl) rfl #[.int .i64 a1] rfl argt ?_; (with_reducible refine (wide_Of.calls a1 t124 t125 _ A4.out).mono ?_); rintro e w26 ⟨rfl, hb⟩; refine ⟨_, rfl, ?_⟩; replace BK120 := blkb BK120 hb; replace BK121 := blkb BK121 hb; replace HB := belb HB hb; (try clear hb); (try clear hb2); (try clear hk); (try clear hi)) | ((with_reducible refine gate_callee (f := 78) rfl ?_); refine goesL_ (some 23) rfl rfl Tryz.func78 (by kernel_rfl) rfl #[.agg #[.int .i64 t124, .int .u64 t125]] rfl argt ?_; (with_reducible refine (wide_Int_size.calls t124 t125 t126 t127 _ A5.out).mono ?_); rintro e w27 ⟨rfl, hb⟩; refine ⟨_, rfl, ?_⟩; replace BK120 := blkb BK120 hb; replace BK121 := blkb BK121 hb; replace HB := belb HB hb; (try clear hb); (try clear hb2); (try clear hk); (try clear hi)) | ((with_reducible refine gate_callee (f := 79) rfl ?_); refine goesL_ (some 29) rfl rfl Tryz.func79 (by kernel_rfl) rfl #[.int .u64 t122, .int .u64 t127] rfl argt ?_; (with_reducible refine (bits_Mul64.calls t122 t127 t128 t129 _ A6.out).mono ?_); rintro e w' ⟨rfl, ⟨nd, rfl⟩⟩; refine ⟨_, rfl, ?_⟩; (try (rw [drewN_self w27]; generalize hq_ : World.drewN w27 _ = w27; replace BK120 : Aside0 (w27.heap[gb120]? = some (.cells #[.int .i64 a0_0, .int .u64 a0_1] 31 (0, 0))) := ⟨by rw [← hq_]; exact (blkt BK120)⟩; replace BK121 : Aside0 (w27.heap[gb121]? = some (.cells #[.int .i64 0, .int .u64 0] 31 (0, 0))) := ⟨by rw [← hq_]; exact (blkt BK121)⟩; replace HB : Aside0 (Below w.heap.size w w27) := ⟨by rw [← hq_]; exact (belt HB)⟩; clear hq_))) | ((with_reducible refine gate_callee (f := 79) rfl ?_); refine goesL_ (some 35) rfl rfl Tryz.func79 (by kernel_rfl) rfl #[.int .u64 t123, .int .u64 t127] rfl argt ?_; (with_reducible refine (bits_Mul64.calls t123 t127 t130 t131 _ A7.out).mono ?_); rintro e w' ⟨rfl, ⟨nd, rfl⟩⟩; refine ⟨_, rfl, ?_⟩; (try (rw [drewN_self w27]; generalize hq_ : World.drewN w27 _ = w27; replace BK120 : Aside0 (w27.heap[gb120]? = some (.cells #[.int .i64 a0_0, .int .u64 a0_1] 31 (0, 0))) := ⟨by rw [← hq_]; exact (blkt BK120)⟩; replace BK121 : Aside0 (w27.heap[gb121]? = some (.cells #[.int .i64 0, .int .u64 0] 31 (0, 0))) := ⟨by rw [← hq_]; exact (blkt BK121)⟩; replace HB : Aside0 (Below w.heap.size w w27) := ⟨by rw [← hq_]; exact (belt HB)⟩; clear hq_)); have hcz28_0 : w27.cell? ⟨gb121, 0, none⟩ = some (.int .i64 0) := bc BK121 0; have hcz28_1 : w27.cell? ⟨gb121, 1, none⟩ = some (.int .u64 0) := bc BK121 1; have hfz28_0 := blk_frozen BK121.out 0; have hfz28_1 := blk_frozen BK121.out 1))
  refine bodyPost_ret (results_ct rfl _ _ gb121 31 #[.int .i64 0, .int .u64 0] (0, 0) _ rfl (by (with_reducible repeat (first | refine blk_drewN ?_ _ | refine blk_drew ?_ | refine blk_alloc ?_ _)); refine blk_put (cs := #[.int .i64 0, .int .u64 0]) ?_ 1 _ rfl; (with_reducible repeat (first | refine blk_drewN ?_ _ | refine blk_drew ?_ | refine blk_alloc ?_ _)); refine blk_put (cs := #[.int .i64 0, .int .u64 0]) ?_ 0 _ rfl; exact blkt BK121) Tryz.underlying31 rfl (by kernel_rfl)) rfl ?_
  exact ⟨by first | rfl | (simp [errW_none, errW_some] <;> rfl) | (simp [*, errW_none, errW_some] <;> rfl), belt HB⟩
 rw [if_neg c8] at H
 have c8b0 : (t128 == 0) = false := beq_eq_false_iff_ne.mpr c8
 have c8b1 : (t128 != 0) = true := bne_iff_ne.mpr c8
 simp only [Option.some.injEq, Prod.mk.injEq] at H
 obtain ⟨rfl, rfl, rfl⟩ := H
 go_enter Tryz.func54, Tryz.ntmps54
 go_wp2_with (first | ((with_reducible refine gate_dst (N := 2) rfl ?_); refine box_event ?hg (N := 2) ?hd (cs := #[.int .i64 a0_0, .int .u64 a0_1]) (t := 31) ?hr ?_; (case hd => rfl); (case hg => rfl); (case hr => first | (go_simp; done) | (go_simp; rfl)); intro gb120 hg w29 hbox hb; have BK120 := Aside0.mk (hbox); have GW120 := bels HB hg; have GE120 := bels HB hg; replace HB := belb HB hb; clear hb hbox hg) | ((with_reducible refine gate_dst (N := 4) rfl ?_); refine box_event ?hg (N := 4) ?hd (cs := #[.int .i64 0, .int .u64 0]) (t := 31) ?hr ?_; (case hd => rfl); (case hg => rfl); (case hr => first | (go_simp; done) | (go_simp; rfl)); intro gb121 hg w30 hbox hb; have BK121 := Aside0.mk (hbox); have GW121 := bels HB hg; have GE121 := bels HB hg; have NB120_121 := blkl BK120 hg; have NB121_120 := blkg BK120 hg; replace BK120 := blkb BK120 hb; replace HB := belb HB hb; clear hb hbox hg; have hnb31 := NB120_121.out; have hnc31 := NB121_120.out; have hcz32_0 : w30.cell? ⟨gb120, 0, none⟩ = some (.int .i64 a0_0) := bc BK120 0; have hcz32_1 : w30.cell? ⟨gb120, 1, none⟩ = some (.int .u64 a0_1) := bc BK120 1; have hfz32_0 := blk_frozen BK120.out 0; have hfz32_1 := blk_frozen BK120.out 1) | ((with_reducible refine gate_callee (f := 78) rfl ?_); refine goesL_ (some 17) rfl rfl Tryz.func78 (by kernel_rfl) rfl #[.agg #[.int .i64 a0_0, .int .u64 a0_1]] rfl argt ?_; (with_reducible refine (wide_Int_size.calls a0_0 a0_1 t122 t123 _ A3.out).mono ?_); rintro e w33 ⟨rfl, hb⟩; refine ⟨_, rfl, ?_⟩; replace BK120 := blkb BK120 hb; replace BK121 := blkb BK121 hb; replace HB := belb HB hb; (try clear hb); (try clear hb2); (try clear hk); (try clear hi)) | ((with_reducible refine gate_callee (f := 31) rfl ?_); refine goesL_ (some 22) rfl rfl Tryz.func31 (by kernel_rfl) rfl #[.int .i64 a1] rfl argt ?_; (with_reducible refine (wide_Of.calls a1 t124 t125 _ A4.out).mono ?_); rintro e w34 ⟨rfl, hb⟩; refine ⟨_, rfl, ?_⟩; replace BK120 := blkb BK120 hb; replace BK121 := blkb BK121 hb; replace HB := belb HB hb; (try clear hb); (try clear hb2); (try clear hk); (try clear hi)) | ((with_reducible refine gate_callee (f := 78) rfl ?_); refine goesL_ (some 23) rfl rfl Tryz.func78 (by kernel_rfl) rfl #[.agg #[.int .i64 t124, .int .u64 t125]] rfl argt ?_; (with_reducible refine (wide_Int_size.calls t124 t125 t126 t127 _ A5.out).mono ?_); rintro e w35 ⟨rfl, hb⟩; refine ⟨_, rfl, ?_⟩; replace BK120 := blkb BK120 hb; replace BK121 := blkb BK121 hb; replace HB := belb HB hb; (try clear hb); (try clear hb2); (try clear hk); (try clear hi)) | ((with_reducible refine gate_callee (f := 79) rfl ?_); refine goesL_ (some 29) rfl rfl Tryz.func79 (by kernel_rfl) rfl #[.int .u64 t122, .int .u64 t127] rfl argt ?_; (with_reducible refine (bits_Mul64.calls t122 t127 t128 t129 _ A6.out).mono ?_); rintro e w' ⟨rfl, ⟨nd, rfl⟩⟩; refine ⟨_, rfl, ?_⟩; (try (rw [drewN_self w35]; generalize hq_ : World.drewN w35 _ = w35; replace BK120 : Aside0 (w35.heap[gb120]? = some (.cells #[.int .i64 a0_0, .int .u64 a0_1] 31 (0, 0))) := ⟨by rw [← hq_]; exact (blkt BK120)⟩; replace BK121 : Aside0 (w35.heap[gb121]? = some (.cells #[.int .i64 0, .int .u64 0] 31 (0, 0))) := ⟨by rw [← hq_]; exact (blkt BK121)⟩; replace HB : Aside0 (Below w.heap.size w w35) := ⟨by rw [← hq_]; exact (belt HB)⟩; clear hq_))) | ((with_reducible refine gate_callee (f := 79) rfl ?_); refine goesL_ (some 35) rfl rfl Tryz.func79 (by kernel_rfl) rfl #[.int .u64 t123, .int .u64 t127] rfl argt ?_; (with_reducible refine (bits_Mul64.calls t123 t127 t130 t131 _ A7.out).mono ?_); rintro e w' ⟨rfl, ⟨nd, rfl⟩⟩; refine ⟨_, rfl, ?_⟩; (try (rw [drewN_self w35]; generalize hq_ : World.drewN w35 _ = w35; replace BK120 : Aside0 (w35.heap[gb120]? = some (.cells #[.int .i64 a0_0, .int .u64 a0_1] 31 (0, 0))) := ⟨by rw [← hq_]; exact (blkt BK120)⟩; replace BK121 : Aside0 (w35.heap[gb121]? = some (.cells #[.int .i64 0, .int .u64 0] 31 (0, 0))) := ⟨by rw [← hq_]; exact (blkt BK121)⟩; replace HB : Aside0 (Below w.heap.size w w35) := ⟨by rw [← hq_]; exact (belt HB)⟩; clear hq_)); have hcz36_0 : w35.cell? ⟨gb121, 0, none⟩ = some (.int .i64 0) := bc BK121 0; have hcz36_1 : w35.cell? ⟨gb121, 1, none⟩ = some (.int .u64 0) := bc BK121 1; have hfz36_0 := blk_frozen BK121.out 0; have hfz36_1 := blk_frozen BK121.out 1))
 refine bodyPost_ret (results_ct rfl _ _ gb121 31 #[.int .i64 0, .int .u64 0] (0, 0) _ rfl (by (with_reducible repeat (first | refine blk_drewN ?_ _ | refine blk_drew ?_ | refine blk_alloc ?_ _)); refine blk_put (cs := #[.int .i64 0, .int .u64 0]) ?_ 1 _ rfl; (with_reducible repeat (first | refine blk_drewN ?_ _ | refine blk_drew ?_ | refine blk_alloc ?_ _)); refine blk_put (cs := #[.int .i64 0, .int .u64 0]) ?_ 0 _ rfl; exact blkt BK121) Tryz.underlying31 rfl (by kernel_rfl)) rfl ?_
 exact ⟨by first | rfl | (simp [errW_none, errW_some] <;> rfl) | (simp [*, errW_none, errW_some] <;> rfl), belt HB⟩


/-! ### vtime_Time_Since: function 16 -/
def vtime_Time_Since.f (a0 : Int) (a1 : Int) : Option (Int) := some (wrap64 (IntKind.u64.wrap (a0 - a1)))
set_option maxHeartbeats 8000000 in
set_option maxRecDepth 100000 in
theorem vtime_Time_Since.calls (a0 : Int) (a1 : Int) (r : Int) (w : World) (h : vtime_Time_Since.f a0 a1 = some r) :
  Calls Tryz.prog 16 #[.int .u64 a0, .int .u64 a1] w fun e w' => e = .returned (.int .i64 r) ∧ Drawn0 w w' := by
 have H : (some (wrap64 (IntKind.u64.wrap (a0 - a1)))) = some r := h
 clear h
 obtain rfl := Option.some.inj H
 go_enter Tryz.func16, Tryz.ntmps16
 go_wp2
 go_ret
 exact ⟨by first | rfl | (simp; done) | (simp [*]; done), by repeat (first | exact Drawn0.refl _ | apply Drawn0.step)⟩


/-! ### pos_Pos_Distance: function 59 -/
def pos_Pos_Distance.f (k : Nat) (a0_0 : Int) (a0_1 : Int) (a0_2 : Int) (a1 : Int) : Option (Int × Int) := (wide_OfU.f (IntKind.u64.wrap (a0_2))).bind fun bt137 => ((vtime_Time_Since.f a0_0 a1).bind fun t139 => ((wide_Int_Mul.f k bt137.1 bt137.2 t139).bind fun bt140 => ((wide_OfU.f (IntKind.u64.wrap (a0_1))).bind fun bt144 => ((wide_Int_Add.f bt140.1 bt140.2.1 bt144.1 bt144.2).bind fun bt146 => (some (bt146.1, bt146.2.1))))))
theorem pos_Pos_Distance.mono : ∀ a0 a1 a2 a3 k, LeO (pos_Pos_Distance.f k a0 a1 a2 a3) (pos_Pos_Distance.f (k + 1) a0 a1 a2 a3) := by
 intro a0 a1 a2 a3 k
 unfold pos_Pos_Distance.f
 repeat' first
   | (with_reducible exact wide_Int_Mul.mono _ _ _ _)
   | (with_reducible exact LeO.refl _)
   | (with_reducible exact LeO.none _)
   | (with_reducible refine LeO.ite ?_ ?_)
   | (with_reducible refine LeO.bind ?_ (fun _ => ?_))
   | exact wide_Int_Mul.mono _ _ _ _
   | exact LeO.none _
   | refine LeO.ite ?_ ?_
   | refine LeO.bind ?_ (fun _ => ?_)
def pos_Pos_Distance.T1 : Bool × List (List Nat × List Nat) := (true, [([], []), ([0], [0]), ([1], [1]), ([2], [2]), ([], []), ([4], [4]), ([], []), ([5, 6, 3], [5, 6]), ([3, 7, 7], [3, 7]), ([8], [8]), ([9], [9]), ([9], [9]), ([], []), ([12, 10, 8, 0, 1, 2, 3, 4, 5, 6, 7, 8, 9, 10, 12], [10, 12]), ([11, 13, 0, 1, 2, 3, 4, 5, 6, 7, 8, 9, 10, 11, 12, 13], [11])])
def pos_Pos_Distance.B1 : List Nat := [0, 1, 3, 7, 0, 16, 0, 127, 255, 511, 1023, 1023, 0, 6143, 16383]
theorem pos_Pos_Distance.tab1 : rtab .any (opsOf Tryz.f59 1) = pos_Pos_Distance.T1 := by kernel_rfl
theorem pos_Pos_Distance.bits1 : waitsOk pos_Pos_Distance.T1.2 pos_Pos_Distance.B1 = true := by kernel_rfl
def pos_Pos_Distance.T2 : Bool × List (List Nat × List Nat) := (true, [([], []), ([], []), ([1], [1]), ([2], [2]), ([3], [3]), ([0, 4, 4], [0, 4]), ([5], [5]), ([6], [6]), ([6], [6]), ([7, 5, 0, 1, 2, 3, 4, 5, 6, 7], [7])])
def pos_Pos_Distance.B2 : List Nat := [0, 0, 2, 6, 14, 31, 63, 127, 127, 255]
theorem pos_Pos_Distance.tab2 : rtab .any (opsOf Tryz.f59 2) = pos_Pos_Distance.T2 := by kernel_rfl
theorem pos_Pos_Distance.bits2 : waitsOk pos_Pos_Distance.T2.2 pos_Pos_Distance.B2 = true := by kernel_rfl
set_option maxHeartbeats 8000000 in
set_option maxRecDepth 100000 in
theorem pos_Pos_Distance.calls (k : Nat) (a0_0 : Int) (a0_1 : Int) (a0_2 : Int) (a1 : Int) (r1 : Int) (r2 : Int) (w : World) (h : pos_Pos_Distance.f k a0_0 a0_1 a0_2 a1 = some (r1, r2)) :
  Calls Tryz.prog 59 #[.agg #[.int .u64 a0_0, .int .u32 a0_1, .int .u32 a0_2], .int .u64 a1] w fun e w' => e = .returned (.agg #[.int .i64 r1, .int .u64 r2]) ∧ Below w.heap.size w w' := by
 have hu28 := Tryz.underlying28
 have hu31 := Tryz.underlying31
 have HB := Aside0.mk (Below.refl w.heap.size w)
 have H : ((wide_OfU.f (IntKind.u64.wrap (a0_2))).bind fun bt137 => ((vtime_Time_Since.f a0_0 a1).bind fun t139 => ((wide_Int_Mul.f k bt137.1 bt137.2 t139).bind fun bt140 => ((wide_OfU.f (IntKind.u64.wrap (a0_1))).bind fun bt144 => ((wide_Int_Add.f bt140.1 bt140.2.1 bt144.1 bt144.2).bind fun bt146 => (some (bt146.1, bt146.2.1))))))) = some (r1, r2) := h
 clear h
 replace H := Option.bind_eq_some_iff.mp H
 obtain ⟨⟨t137, t138⟩, A30, H⟩ := H
 replace H : ((vtime_Time_Since.f a0_0 a1).bind fun t139 => ((wide_Int_Mul.f k t137 t138 t139).bind fun bt140 => ((wide_OfU.f (IntKind.u64.wrap (a0_1))).bind fun bt144 => ((wide_Int_Add.f bt140.1 bt140.2.1 bt144.1 bt144.2).bind fun bt146 => (some (bt146.1, bt146.2.1)))))) = some (r1, r2) := H
 have A3 := Aside0.mk A30
 clear A30
 replace H := Option.bind_eq_some_iff.mp H
 obtain ⟨t139, A40, H⟩ := H
 replace H : ((wide_Int_Mul.f k t137 t138 t139).bind fun bt140 => ((wide_OfU.f (IntKind.u64.wrap (a0_1))).bind fun bt144 => ((wide_Int_Add.f bt140.1 bt140.2.1 bt144.1 bt144.2).bind fun bt146 => (some (bt146.1, bt146.2.1))))) = some (r1, r2) := H
 have A4 := Aside0.mk A40
 clear A40
 replace H := Option.bind_eq_some_iff.mp H
 obtain ⟨⟨t140, t141, t142⟩, A50, H⟩ := H
 replace H : ((wide_OfU.f (IntKind.u64.wrap (a0_1))).bind fun bt144 => ((wide_Int_Add.f t140 t141 bt144.1 bt144.2).bind fun bt146 => (some (bt146.1, bt146.2.1)))) = some (r1, r2) := H
 have A5 := Aside0.mk A50
 clear A50
 replace H := Option.bind_eq_some_iff.mp H
 obtain ⟨⟨t144, t145⟩, A60, H⟩ := H
 replace H : ((wide_Int_Add.f t140 t141 t144 t145).bind fun bt146 => (some (bt146.1, bt146.2.1))) = some (r1, r2) := H
 have A6 := Aside0.mk A60
 clear A60
 replace H := Option.bind_eq_some_iff.mp H
 obtain ⟨⟨t146, t147, t148⟩, A70, H⟩ := H
 replace H : (some (t146, t147)) = some (r1, r2) := H
 have A7 := Aside0.mk A70
 clear A70
 simp only [Option.some.injEq, Prod.mk.injEq] at H
 obtain ⟨rfl, rfl⟩ := H
 go_enter Tryz.func59, Tryz.ntmps59
 try go_wp2_with (first | ((with_reducible refine gate_dst (N := 2) rfl ?_); refine box_event ?hg (N := 2) ?hd (cs := #[.int .u64 a0_0, .int .u32 a0_1, .int .u32 a0_2]) (t := 28) ?hr ?_; (case hd => rfl); (case hg => rfl); (case hr => first | (go_simp; done) | (go_simp; rfl)); intro gb135 hg w8 hbox hb; have BK135 := Aside0.mk (hbox); have GW135 := bels HB hg; have GE135 := bels HB hg; replace HB := belb HB hb; clear hb hbox hg) | ((with_reducible refine gate_dst (N := 4) rfl ?_); refine box_event ?hg (N := 4) ?hd (cs := #[.int .i64 0, .int .u64 0]) (t := 31) ?hr ?_; (case hd => rfl); (case hg => rfl); (case hr => first | (go_simp; done) | (go_simp; rfl)); intro gb136 hg w9 hbox hb; have BK136 := Aside0.mk (hbox); have GW136 := bels HB hg; have GE136 := bels HB hg; have NB135_136 := blkl BK135 hg; have NB136_135 := blkg BK135 hg; replace BK135 := blkb BK135 hb; replace HB := belb HB hb; clear hb hbox hg))
 replace BK135 := Aside0.mk (blk_drew BK135.out)
 replace BK136 := Aside0.mk (blk_drew BK136.out)
 replace HB := Aside0.mk (below_drew1 HB.out)
 refine start_ (n := 15) (S := fun w' => w'.cell? ⟨gb135, 0, none⟩ = some (.int .u64 a0_0) ∧ w'.cell? ⟨gb135, 1, none⟩ = some (.int .u32 a0_1) ∧ w'.cell? ⟨gb135, 2, none⟩ = some (.int .u32 a0_2)) (ds := []) #[false, false, false, false, false, false, false, false, false, false, false, false, false, false, false] (by kernel_rfl) rfl rfl ⟨bc BK135 0, bc BK135 1, bc BK135 2⟩ (fun hHeld => ?_); refine with_tabW pos_Pos_Distance.tab1 pos_Pos_Distance.bits1 (fun HT_ HW_ => ?_)
 generalize w9.drew = w10 at BK135 BK136 HB hHeld ⊢
 refine pure_ (i := 0) (N := some 8) (v := ?_) (a' := ?_) #[true, false, false, false, false, false, false, false, false, false, false, false, false, false, false] rfl rfl (any_of HT_.out (by kernel_rfl)) (fun _ _ _ h => h) (Or.inl ⟨by rfl, ?_⟩) ?_ ?_
 rotate_left
 ·intro w'
  go_simp
  with_reducible rfl
 rotate_left
 ·simp only [Act.put, List.setIfInBounds_toArray, List.set_cons_zero, List.set_cons_succ, i64_w, i32_w]
  rfl
 refine pure_ (i := 4) (N := some 12) (v := ?_) (a' := ?_) #[true, false, false, false, true, false, false, false, false, false, false, false, false, false, false] rfl rfl (any_of HT_.out (by kernel_rfl)) (fun _ _ _ h => h) (Or.inl ⟨by rfl, ?_⟩) ?_ ?_
 rotate_left
 ·intro w'
  go_simp
  with_reducible rfl
 rotate_left
 ·simp only [Act.put, List.setIfInBounds_toArray, List.set_cons_zero, List.set_cons_succ, i64_w, i32_w]
  rfl
 refine pure_ (i := 6) (N := some 14) (v := ?_) (a' := ?_) #[true, false, false, false, true, false, true, false, false, false, false, false, false, false, false] rfl rfl (any_of HT_.out (by kernel_rfl)) (fun _ _ _ h => h) (Or.inl ⟨by rfl, ?_⟩) ?_ ?_
 rotate_left
 ·intro w'
  go_simp
  with_reducible rfl
 rotate_left
 ·simp only [Act.put, List.setIfInBounds_toArray, List.set_cons_zero, List.set_cons_succ, i64_w, i32_w]
  rfl
 refine take_ (i := 1) (N := some 9) (v := ?_) (a' := ?_) #[true, true, false, false, true, false, true, false, false, false, false, false, false, false, false] rfl rfl (take_ofW HT_.out HW_.out (by kernel_rfl)) (fun _ _ _ h => h) (Or.inl ⟨by rfl, ?_⟩) hHeld ?_ ?_
 rotate_left
 ·rintro w' ⟨s0, s1, s2⟩
  go_simp
  with_reducible rfl
 rotate_left
 ·simp only [Act.put, List.setIfInBounds_toArray, List.set_cons_zero, List.set_cons_succ, i64_w, i32_w]
  rfl
 refine pure_ (i := 2) (N := some 10) (v := ?_) (a' := ?_) #[true, true, true, false, true, false, true, false, false, false, false, false, false, false, false] rfl rfl (any_of HT_.out (by kernel_rfl)) (fun _ _ _ h => h) (Or.inl ⟨by rfl, ?_⟩) ?_ ?_
 rotate_left
 ·intro w'
  go_simp
  with_reducible rfl
 rotate_left
 ·simp only [Act.put, List.setIfInBounds_toArray, List.set_cons_zero, List.set_cons_succ, i64_w, i32_w]
  rfl
 refine take_ (i := 5) (N := some 13) (v := ?_) (a' := ?_) #[true, true, true, false, true, true, true, false, false, false, false, false, false, false, false] rfl rfl (take_ofW HT_.out HW_.out (by kernel_rfl)) (fun _ _ _ h => h) (Or.inl ⟨by rfl, ?_⟩) hHeld ?_ ?_
 rotate_left
 ·rintro w' ⟨s0, s1, s2⟩
  go_simp
  with_reducible rfl
 rotate_left
 ·simp only [Act.put, List.setIfInBounds_toArray, List.set_cons_zero, List.set_cons_succ, i64_w, i32_w]
  rfl
 refine join_ (σ := Nat) 2 #[true, true, true, true, true, true, true, true, true, true, true, true, true, false, false] (fun s_ => [(11, .agg #[.int .i64 t137, .int .u64 t138]), (15, .int .i64 t139), (16, .tuple #[.agg #[.int .i64 t140, .int .u64 t141], .bool t142]), (5, .pointer (some ⟨s_, 0, none⟩)), (7, .tuple #[.agg #[.int .i64 t140, .int .u64 t141], .bool t142]), (17, .agg #[.int .i64 t140, .int .u64 t141]), (18, .bool t142)]) (fun s_ w' => (w'.cell? ⟨gb135, 0, none⟩ = some (.int .u64 a0_0) ∧ w'.cell? ⟨gb135, 1, none⟩ = some (.int .u32 a0_1) ∧ w'.cell? ⟨gb135, 2, none⟩ = some (.int .u32 a0_2)) ∧ (w'.heap[gb135]? = some (.cells #[.int .u64 a0_0, .int .u32 a0_1, .int .u32 a0_2] 28 (0, 0))) ∧ (w'.heap[gb136]? = some (.cells #[.int .i64 0, .int .u64 0] 31 (0, 0))) ∧ (w'.heap[s_]? = some (.cells #[.int .i64 0, .int .u64 0] 31 (0, 0))) ∧ (w.heap.size ≤ s_) ∧ (w.heap.size ≤ s_) ∧ (gb135 ≠ s_) ∧ (s_ ≠ gb135) ∧ (gb136 ≠ s_) ∧ (s_ ≠ gb136) ∧ (Below w.heap.size w w')) ?_ ?_
 rotate_left
 ·intro hCont
  refine two_ (i := 3) (j := 12) (Ni := some 11) (Nj := some 5) #[true, true, true, true, true, true, true, false, false, false, false, false, false, false, false] #[true, true, true, false, true, true, true, false, false, false, false, false, true, false, false] rfl rfl rfl rfl (two_of HT_.out (by kernel_rfl)) (by decide) (by decide) (fun K hK => ?_) (fun K hK => ?_)
  ·skip
   refine goes_ Tryz.func53 (by kernel_rfl) rfl #[.int .u64 (IntKind.u64.wrap (a0_2))] (by rfl) rfl rfl argt ?_
   with_reducible refine (wide_OfU.calls (IntKind.u64.wrap (a0_2)) t137 t138 _ A3.out).mono ?_
   rintro e w11 ⟨rfl, hb⟩
   refine ⟨_, rfl, ?_⟩
   replace BK135 := blkb BK135 hb
   replace BK136 := blkb BK136 hb
   replace HB := belb HB hb
   (try clear hb)
   (try clear hb2)
   (try clear hk)
   (try clear hi)
   refine hK.out _ _ ⟨bc BK135 0, bc BK135 1, bc BK135 2⟩ (fun hHeld => ?_)
   clear hK K
   refine norm_ (a' := ?_) ?_ ?_
   rotate_left
   ·show Act.put _ (some 11) _ = _
    simp only [Act.put, List.setIfInBounds_toArray, List.set_cons_zero, List.set_cons_succ, i64_w, i32_w]
    rfl
   refine two_ (i := 7) (j := 12) (Ni := some 15) (Nj := some 5) #[true, true, true, true, true, true, true, true, false, false, false, false, false, false, false] #[true, true, true, true, true, true, true, false, false, false, false, false, true, false, false] rfl rfl rfl rfl (two_of HT_.out (by kernel_rfl)) (by decide) (by decide) (fun K hK => ?_) (fun K hK => ?_)
   ·skip
    refine goes_ Tryz.func16 (by kernel_rfl) rfl #[.int .u64 a0_0, .int .u64 a1] (by rfl) rfl rfl argt ?_
    with_reducible refine (vtime_Time_Since.calls a0_0 a1 t139 _ A4.out).mono ?_
    rintro e w' ⟨rfl, ⟨nd, rfl⟩⟩
    refine ⟨_, rfl, ?_⟩
    refine hK.out _ _ ⟨bc BK135 0, bc BK135 1, bc BK135 2⟩ (fun hHeld => ?_)
    clear hK K
    refine norm_ (a' := ?_) ?_ ?_
    rotate_left
    ·show Act.put _ (some 15) _ = _
     simp only [Act.put, List.setIfInBounds_toArray, List.set_cons_zero, List.set_cons_succ, i64_w, i32_w]
     rfl
    refine two_ (i := 8) (j := 12) (Ni := some 16) (Nj := some 5) #[true, true, true, true, true, true, true, true, true, false, false, false, false, false, false] #[true, true, true, true, true, true, true, true, false, false, false, false, true, false, false] rfl rfl rfl rfl (two_of HT_.out (by kernel_rfl)) (by decide) (by decide) (fun K hK => ?_) (fun K hK => ?_)
    ·skip
     refine goes_ Tryz.func54 (by kernel_rfl) rfl #[.agg #[.int .i64 t137, .int .u64 t138], .int .i64 t139] (by rfl) rfl rfl argt ?_
     with_reducible refine (wide_Int_Mul.calls k t137 t138 t139 t140 t141 t142 _ A5.out).mono ?_
     rintro e w12 ⟨rfl, hb⟩
     refine ⟨_, rfl, ?_⟩
     replace BK135 := blkb BK135 hb
     replace BK136 := blkb BK136 hb
     replace HB := belb HB hb
     (try clear hb)
     (try clear hb2)
     (try clear hk)
     (try clear hi)
     refine hK.out _ _ ⟨bc BK135 0, bc BK135 1, bc BK135 2⟩ (fun hHeld => ?_)
     clear hK K
     refine norm_ (a' := ?_) ?_ ?_
     rotate_left
     ·show Act.put _ (some 16) _ = _
      simp only [Act.put, List.setIfInBounds_toArray, List.set_cons_zero, List.set_cons_succ, i64_w, i32_w]
      rfl
     refine pure_ (i := 9) (N := some 7) (v := ?_) (a' := ?_) #[true, true, true, true, true, true, true, true, true, true, false, false, false, false, false] rfl rfl (any_of HT_.out (by kernel_rfl)) (fun _ _ _ h => h) (Or.inl ⟨by rfl, ?_⟩) ?_ ?_
     rotate_left
     ·intro w'
      go_simp
      with_reducible rfl
     rotate_left
     ·simp only [Act.put, List.setIfInBounds_toArray, List.set_cons_zero, List.set_cons_succ, i64_w, i32_w]
      rfl
     refine pure_ (i := 10) (N := some 17) (v := ?_) (a' := ?_) #[true, true, true, true, true, true, true, true, true, true, true, false, false, false, false] rfl rfl (any_of HT_.out (by kernel_rfl)) (fun _ _ _ h => h) (Or.inl ⟨by rfl, ?_⟩) ?_ ?_
     rotate_left
     ·intro w'
      go_simp
      with_reducible rfl
     rotate_left
     ·simp only [Act.put, List.setIfInBounds_toArray, List.set_cons_zero, List.set_cons_succ, i64_w, i32_w]
      rfl
     refine pure_ (i := 11) (N := some 18) (v := ?_) (a' := ?_) #[true, true, true, true, true, true, true, true, true, true, true, true, false, false, false] rfl rfl (any_of HT_.out (by kernel_rfl)) (fun _ _ _ h => h) (Or.inl ⟨by rfl, ?_⟩) ?_ ?_
     rotate_left
     ·intro w'
      go_simp
      with_reducible rfl
     rotate_left
     ·simp only [Act.put, List.setIfInBounds_toArray, List.set_cons_zero, List.set_cons_succ, i64_w, i32_w]
      rfl
     refine one_ (i := 12) (N := some 5) #[true, true, true, true, true, true, true, true, true, true, true, true, true, false, false] rfl rfl (one_of HT_.out (by kernel_rfl)) (by decide) (fun K hK => ?_)
     refine box_step ?hg (N := 5) ?hd (cs := #[.int .i64 0, .int .u64 0]) (t := 31) ?hr ?_; (case hd => rfl); (case hg => rfl); (case hr => first | (go_simp; done) | (go_simp; rfl))
     intro gb143 hg w13 hbox hb
     have BK143 := Aside0.mk (hbox)
     have GW143 := bels HB hg
     have GE143 := bels HB hg
     have NB135_143 := blkl BK135 hg
     have NB143_135 := blkg BK135 hg
     have NB136_143 := blkl BK136 hg
     have NB143_136 := blkg BK136 hg
     replace BK135 := blkb BK135 hb
     replace BK136 := blkb BK136 hb
     replace HB := belb HB hb
     clear hb hbox hg
     refine hK.out _ _ ⟨bc BK135 0, bc BK135 1, bc BK135 2⟩ (fun hHeld => ?_)
     clear hK K
     refine norm_ (a' := ?_) ?_ ?_
     rotate_left
     ·show Act.put _ (some 5) _ = _
      simp only [Act.put, List.setIfInBounds_toArray, List.set_cons_zero, List.set_cons_succ, i64_w, i32_w]
      rfl
     exact norm_ (by simp only [putAll, Act.put, List.setIfInBounds_toArray, List.set_cons_zero, List.set_cons_succ]) (hCont (gb143) _ ⟨hHeld, (blkt BK135), (blkt BK136), (blkt BK143), GW143.out, GE143.out, NB135_143.out, NB143_135.out, NB136_143.out, NB143_136.out, (belt HB)⟩)
    skip
    refine box_step ?hg (N := 5) ?hd (cs := #[.int .i64 0, .int .u64 0]) (t := 31) ?hr ?_; (case hd => rfl); (case hg => rfl); (case hr => first | (go_simp; done) | (go_simp; rfl))
    intro gb143 hg w12 hbox hb
    have BK143 := Aside0.mk (hbox)
    have GW143 := bels HB hg
    have GE143 := bels HB hg
    have NB135_143 := blkl BK135 hg
    have NB143_135 := blkg BK135 hg
    have NB136_143 := blkl BK136 hg
    have NB143_136 := blkg BK136 hg
    replace BK135 := blkb BK135 hb
    replace BK136 := blkb BK136 hb
    replace HB := belb HB hb
    clear hb hbox hg
    refine hK.out _ _ ⟨bc BK135 0, bc BK135 1, bc BK135 2⟩ (fun hHeld => ?_)
    clear hK K
    refine norm_ (a' := ?_) ?_ ?_
    rotate_left
    ·show Act.put _ (some 5) _ = _
     simp only [Act.put, List.setIfInBounds_toArray, List.set_cons_zero, List.set_cons_succ, i64_w, i32_w]
     rfl
    refine one_ (i := 8) (N := some 16) #[true, true, true, true, true, true, true, true, true, false, false, false, true, false, false] rfl rfl (one_of HT_.out (by kernel_rfl)) (by decide) (fun K hK => ?_)
    refine goes_ Tryz.func54 (by kernel_rfl) rfl #[.agg #[.int .i64 t137, .int .u64 t138], .int .i64 t139] (by rfl) rfl rfl argt ?_
    with_reducible refine (wide_Int_Mul.calls k t137 t138 t139 t140 t141 t142 _ A5.out).mono ?_
    rintro e w13 ⟨rfl, hb⟩
    refine ⟨_, rfl, ?_⟩
    replace BK135 := blkb BK135 hb
    replace BK136 := blkb BK136 hb
    replace BK143 := blkb BK143 hb
    replace HB := belb HB hb
    (try clear hb)
    (try clear hb2)
    (try clear hk)
    (try clear hi)
    refine hK.out _ _ ⟨bc BK135 0, bc BK135 1, bc BK135 2⟩ (fun hHeld => ?_)
    clear hK K
    refine norm_ (a' := ?_) ?_ ?_
    rotate_left
    ·show Act.put _ (some 16) _ = _
     simp only [Act.put, List.setIfInBounds_toArray, List.set_cons_zero, List.set_cons_succ, i64_w, i32_w]
     rfl
    refine pure_ (i := 9) (N := some 7) (v := ?_) (a' := ?_) #[true, true, true, true, true, true, true, true, true, true, false, false, true, false, false] rfl rfl (any_of HT_.out (by kernel_rfl)) (fun _ _ _ h => h) (Or.inl ⟨by rfl, ?_⟩) ?_ ?_
    rotate_left
    ·intro w'
     go_simp
     with_reducible rfl
    rotate_left
    ·simp only [Act.put, List.setIfInBounds_toArray, List.set_cons_zero, List.set_cons_succ, i64_w, i32_w]
     rfl
    refine pure_ (i := 10) (N := some 17) (v := ?_) (a' := ?_) #[true, true, true, true, true, true, true, true, true, true, true, false, true, false, false] rfl rfl (any_of HT_.out (by kernel_rfl)) (fun _ _ _ h => h) (Or.inl ⟨by rfl, ?_⟩) ?_ ?_
    rotate_left
    ·intro w'
     go_simp
     with_reducible rfl
    rotate_left
    ·simp only [Act.put, List.setIfInBounds_toArray, List.set_cons_zero, List.set_cons_succ, i64_w, i32_w]
     rfl
    refine pure_ (i := 11) (N := some 18) (v := ?_) (a' := ?_) #[true, true, true, true, true, true, true, true, true, true, true, true, true, false, false] rfl rfl (any_of HT_.out (by kernel_rfl)) (fun _ _ _ h => h) (Or.inl ⟨by rfl, ?_⟩) ?_ ?_
    rotate_left
    ·intro w'
     go_simp
     with_reducible rfl
    rotate_left
    ·simp only [Act.put, List.setIfInBounds_toArray, List.set_cons_zero, List.set_cons_succ, i64_w, i32_w]
     rfl
    exact norm_ (by simp only [putAll, Act.put, List.setIfInBounds_toArray, List.set_cons_zero, List.set_cons_succ]) (hCont (gb143) _ ⟨hHeld, (blkt BK135), (blkt BK136), (blkt BK143), GW143.out, GE143.out, NB135_143.out, NB143_135.out, NB136_143.out, NB143_136.out, (belt HB)⟩)
   skip
   refine box_step ?hg (N := 5) ?hd (cs := #[.int .i64 0, .int .u64 0]) (t := 31) ?hr ?_; (case hd => rfl); (case hg => rfl); (case hr => first | (go_simp; done) | (go_simp; rfl))
   intro gb143 hg w12 hbox hb
   have BK143 := Aside0.mk (hbox)
   have GW143 := bels HB hg
   have GE143 := bels HB hg
   have NB135_143 := blkl BK135 hg
   have NB143_135 := blkg BK135 hg
   have NB136_143 := blkl BK136 hg
   have NB143_136 := blkg BK136 hg
   replace BK135 := blkb BK135 hb
   replace BK136 := blkb BK136 hb
   replace HB := belb HB hb
   clear hb hbox hg
   refine hK.out _ _ ⟨bc BK135 0, bc BK135 1, bc BK135 2⟩ (fun hHeld => ?_)
   clear hK K
   refine norm_ (a' := ?_) ?_ ?_
   rotate_left
   ·show Act.put _ (some 5) _ = _
    simp only [Act.put, List.setIfInBounds_toArray, List.set_cons_zero, List.set_cons_succ, i64_w, i32_w]
    rfl
   refine one_ (i := 7) (N := some 15) #[true, true, true, true, true, true, true, true, false, false, false, false, true, false, false] rfl rfl (one_of HT_.out (by kernel_rfl)) (by decide) (fun K hK => ?_)
   refine goes_ Tryz.func16 (by kernel_rfl) rfl #[.int .u64 a0_0, .int .u64 a1] (by rfl) rfl rfl argt ?_
   with_reducible refine (vtime_Time_Since.calls a0_0 a1 t139 _ A4.out).mono ?_
   rintro e w' ⟨rfl, ⟨nd, rfl⟩⟩
   refine ⟨_, rfl, ?_⟩
   refine hK.out _ _ ⟨bc BK135 0, bc BK135 1, bc BK135 2⟩ (fun hHeld => ?_)
   clear hK K
   refine norm_ (a' := ?_) ?_ ?_
   rotate_left
   ·show Act.put _ (some 15) _ = _
    simp only [Act.put, List.setIfInBounds_toArray, List.set_cons_zero, List.set_cons_succ, i64_w, i32_w]
    rfl
   refine one_ (i := 8) (N := some 16) #[true, true, true, true, true, true, true, true, true, false, false, false, true, false, false] rfl rfl (one_of HT_.out (by kernel_rfl)) (by decide) (fun K hK => ?_)
   refine goes_ Tryz.func54 (by kernel_rfl) rfl #[.agg #[.int .i64 t137, .int .u64 t138], .int .i64 t139] (by rfl) rfl rfl argt ?_
   with_reducible refine (wide_Int_Mul.calls k t137 t138 t139 t140 t141 t142 _ A5.out).mono ?_
   rintro e w13 ⟨rfl, hb⟩
   refine ⟨_, rfl, ?_⟩
   replace BK135 := blkb BK135 hb
   replace BK136 := blkb BK136 hb
   replace BK143 := blkb BK143 hb
   replace HB := belb HB hb
   (try clear hb)
   (try clear hb2)
   (try clear hk)
   (try clear hi)
   refine hK.out _ _ ⟨bc BK135 0, bc BK135 1, bc BK135 2⟩ (fun hHeld => ?_)
   clear hK K
   refine norm_ (a' := ?_) ?_ ?_
   rotate_left
   ·show Act.put _ (some 16) _ = _
    simp only [Act.put, List.setIfInBounds_toArray, List.set_cons_zero, List.set_cons_succ, i64_w, i32_w]
    rfl
   refine pure_ (i := 9) (N := some 7) (v := ?_) (a' := ?_) #[true, true, true, true, true, true, true, true, true, true, false, false, true, false, false] rfl rfl (any_of HT_.out (by kernel_rfl)) (fun _ _ _ h => h) (Or.inl ⟨by rfl, ?_⟩) ?_ ?_
   rotate_left
   ·intro w'
    go_simp
    with_reducible rfl
   rotate_left
   ·simp only [Act.put, List.setIfInBounds_toArray, List.set_cons_zero, List.set_cons_succ, i64_w, i32_w]
    rfl
   refine pure_ (i := 10) (N := some 17) (v := ?_) (a' := ?_) #[true, true, true, true, true, true, true, true, true, true, true, false, true, false, false] rfl rfl (any_of HT_.out (by kernel_rfl)) (fun _ _ _ h => h) (Or.inl ⟨by rfl, ?_⟩) ?_ ?_
   rotate_left
   ·intro w'
    go_simp
    with_reducible rfl
   rotate_left
   ·simp only [Act.put, List.setIfInBounds_toArray, List.set_cons_zero, List.set_cons_succ, i64_w, i32_w]
    rfl
   refine pure_ (i := 11) (N := some 18) (v := ?_) (a' := ?_) #[true, true, true, true, true, true, true, true, true, true, true, true, true, false, false] rfl rfl (any_of HT_.out (by kernel_rfl)) (fun _ _ _ h => h) (Or.inl ⟨by rfl, ?_⟩) ?_ ?_
   rotate_left
   ·intro w'
    go_simp
    with_reducible rfl
   rotate_left
   ·simp only [Act.put, List.setIfInBounds_toArray, List.set_cons_zero, List.set_cons_succ, i64_w, i32_w]
    rfl
   exact norm_ (by simp only [putAll, Act.put, List.setIfInBounds_toArray, List.set_cons_zero, List.set_cons_succ]) (hCont (gb143) _ ⟨hHeld, (blkt BK135), (blkt BK136), (blkt BK143), GW143.out, GE143.out, NB135_143.out, NB143_135.out, NB136_143.out, NB143_136.out, (belt HB)⟩)
  skip
  refine box_step ?hg (N := 5) ?hd (cs := #[.int .i64 0, .int .u64 0]) (t := 31) ?hr ?_; (case hd => rfl); (case hg => rfl); (case hr => first | (go_simp; done) | (go_simp; rfl))
  intro gb143 hg w11 hbox hb
  have BK143 := Aside0.mk (hbox)
  have GW143 := bels HB hg
  have GE143 := bels HB hg
  have NB135_143 := blkl BK135 hg
  have NB143_135 := blkg BK135 hg
  have NB136_143 := blkl BK136 hg
  have NB143_136 := blkg BK136 hg
  replace BK135 := blkb BK135 hb
  replace BK136 := blkb BK136 hb
  replace HB := belb HB hb
  clear hb hbox hg
  refine hK.out _ _ ⟨bc BK135 0, bc BK135 1, bc BK135 2⟩ (fun hHeld => ?_)
  clear hK K
  refine norm_ (a' := ?_) ?_ ?_
  rotate_left
  ·show Act.put _ (some 5) _ = _
   simp only [Act.put, List.setIfInBounds_toArray, List.set_cons_zero, List.set_cons_succ, i64_w, i32_w]
   rfl
  refine one_ (i := 3) (N := some 11) #[true, true, true, true, true, true, true, false, false, false, false, false, true, false, false] rfl rfl (one_of HT_.out (by kernel_rfl)) (by decide) (fun K hK => ?_)
  refine goes_ Tryz.func53 (by kernel_rfl) rfl #[.int .u64 (IntKind.u64.wrap (a0_2))] (by rfl) rfl rfl argt ?_
  with_reducible refine (wide_OfU.calls (IntKind.u64.wrap (a0_2)) t137 t138 _ A3.out).mono ?_
  rintro e w12 ⟨rfl, hb⟩
  refine ⟨_, rfl, ?_⟩
  replace BK135 := blkb BK135 hb
  replace BK136 := blkb BK136 hb
  replace BK143 := blkb BK143 hb
  replace HB := belb HB hb
  (try clear hb)
  (try clear hb2)
  (try clear hk)
  (try clear hi)
  refine hK.out _ _ ⟨bc BK135 0, bc BK135 1, bc BK135 2⟩ (fun hHeld => ?_)
  clear hK K
  refine norm_ (a' := ?_) ?_ ?_
  rotate_left
  ·show Act.put _ (some 11) _ = _
   simp only [Act.put, List.setIfInBounds_toArray, List.set_cons_zero, List.set_cons_succ, i64_w, i32_w]
   rfl
  refine one_ (i := 7) (N := some 15) #[true, true, true, true, true, true, true, true, false, false, false, false, true, false, false] rfl rfl (one_of HT_.out (by kernel_rfl)) (by decide) (fun K hK => ?_)
  refine goes_ Tryz.func16 (by kernel_rfl) rfl #[.int .u64 a0_0, .int .u64 a1] (by rfl) rfl rfl argt ?_
  with_reducible refine (vtime_Time_Since.calls a0_0 a1 t139 _ A4.out).mono ?_
  rintro e w' ⟨rfl, ⟨nd, rfl⟩⟩
  refine ⟨_, rfl, ?_⟩
  refine hK.out _ _ ⟨bc BK135 0, bc BK135 1, bc BK135 2⟩ (fun hHeld => ?_)
  clear hK K
  refine norm_ (a' := ?_) ?_ ?_
  rotate_left
  ·show Act.put _ (some 15) _ = _
   simp only [Act.put, List.setIfInBounds_toArray, List.set_cons_zero, List.set_cons_succ, i64_w, i32_w]
   rfl
  refine one_ (i := 8) (N := some 16) #[true, true, true, true, true, true, true, true, true, false, false, false, true, false, false] rfl rfl (one_of HT_.out (by kernel_rfl)) (by decide) (fun K hK => ?_)
  refine goes_ Tryz.func54 (by kernel_rfl) rfl #[.agg #[.int .i64 t137, .int .u64 t138], .int .i64 t139] (by rfl) rfl rfl argt ?_
  with_reducible refine (wide_Int_Mul.calls k t137 t138 t139 t140 t141 t142 _ A5.out).mono ?_
  rintro e w13 ⟨rfl, hb⟩
  refine ⟨_, rfl, ?_⟩
  replace BK135 := blkb BK135 hb
  replace BK136 := blkb BK136 hb
  replace BK143 := blkb BK143 hb
  replace HB := belb HB hb
  (try clear hb)
  (try clear hb2)
  (try clear hk)
  (try clear hi)
  refine hK.out _ _ ⟨bc BK135 0, bc BK135 1, bc BK135 2⟩ (fun hHeld => ?_)
  clear hK K
  refine norm_ (a' := ?_) ?_ ?_
  rotate_left
  ·show Act.put _ (some 16) _ = _
   simp only [Act.put, List.setIfInBounds_toArray, List.set_cons_zero, List.set_cons_succ, i64_w, i32_w]
   rfl
  refine pure_ (i := 9) (N := some 7) (v := ?_) (a' := ?_) #[true, true, true, true, true, true, true, true, true, true, false, false, true, false, false] rfl rfl (any_of HT_.out (by kernel_rfl)) (fun _ _ _ h => h) (Or.inl ⟨by rfl, ?_⟩) ?_ ?_
  rotate_left
  ·intro w'
   go_simp
   with_reducible rfl
  rotate_left
  ·simp only [Act.put, List.setIfInBounds_toArray, List.set_cons_zero, List.set_cons_succ, i64_w, i32_w]
   rfl
  refine pure_ (i := 10) (N := some 17) (v := ?_) (a' := ?_) #[true, true, true, true, true, true, true, true, true, true, true, false, true, false, false] rfl rfl (any_of HT_.out (by kernel_rfl)) (fun _ _ _ h => h) (Or.inl ⟨by rfl, ?_⟩) ?_ ?_
  rotate_left
  ·intro w'
   go_simp
   with_reducible rfl
  rotate_left
  ·simp only [Act.put, List.setIfInBounds_toArray, List.set_cons_zero, List.set_cons_succ, i64_w, i32_w]
   rfl
  refine pure_ (i := 11) (N := some 18) (v := ?_) (a' := ?_) #[true, true, true, true, true, true, true, true, true, true, true, true, true, false, false] rfl rfl (any_of HT_.out (by kernel_rfl)) (fun _ _ _ h => h) (Or.inl ⟨by rfl, ?_⟩) ?_ ?_
  rotate_left
  ·intro w'
   go_simp
   with_reducible rfl
  rotate_left
  ·simp only [Act.put, List.setIfInBounds_toArray, List.set_cons_zero, List.set_cons_succ, i64_w, i32_w]
   rfl
  exact norm_ (by simp only [putAll, Act.put, List.setIfInBounds_toArray, List.set_cons_zero, List.set_cons_succ]) (hCont (gb143) _ ⟨hHeld, (blkt BK135), (blkt BK136), (blkt BK143), GW143.out, GE143.out, NB135_143.out, NB143_135.out, NB136_143.out, NB143_136.out, (belt HB)⟩)
 rintro gb143 w14 ⟨hS_, h0_, h1_, h2_, h3_, h4_, h5_, h6_, h7_, h8_, h9_⟩
 replace BK135 : Aside0 (w14.heap[gb135]? = some (.cells #[.int .u64 a0_0, .int .u32 a0_1, .int .u32 a0_2] 28 (0, 0))) := ⟨h0_⟩
 replace BK136 : Aside0 (w14.heap[gb136]? = some (.cells #[.int .i64 0, .int .u64 0] 31 (0, 0))) := ⟨h1_⟩
 have BK143 : Aside0 (w14.heap[gb143]? = some (.cells #[.int .i64 0, .int .u64 0] 31 (0, 0))) := ⟨h2_⟩
 have GW143 : Aside0 (w.heap.size ≤ gb143) := ⟨h3_⟩
 have GE143 : Aside0 (w.heap.size ≤ gb143) := ⟨h4_⟩
 have NB135_143 : Aside0 (gb135 ≠ gb143) := ⟨h5_⟩
 have NB143_135 : Aside0 (gb143 ≠ gb135) := ⟨h6_⟩
 have NB136_143 : Aside0 (gb136 ≠ gb143) := ⟨h7_⟩
 have NB143_136 : Aside0 (gb143 ≠ gb136) := ⟨h8_⟩
 replace HB : Aside0 (Below w.heap.size w w14) := ⟨h9_⟩
 clear h0_ h1_ h2_ h3_ h4_ h5_ h6_ h7_ h8_ h9_
 have hHeld : w14.cell? ⟨gb135, 0, none⟩ = some (.int .u64 a0_0) ∧ w14.cell? ⟨gb135, 1, none⟩ = some (.int .u32 a0_1) ∧ w14.cell? ⟨gb135, 2, none⟩ = some (.int .u32 a0_2) := hS_
 refine norm_ (a' := ?_) ?_ ?_
 rotate_left
 ·simp only [putAll, Act.put, List.setIfInBounds_toArray, List.set_cons_zero, List.set_cons_succ]
  rfl
 refine one_ (i := 13) (N := none) #[true, true, true, true, true, true, true, true, true, true, true, true, true, true, false] rfl rfl (one_of HT_.out (by kernel_rfl)) (by decide) (fun K hK => ?_)
 have hs15 : w14.cell? ⟨gb143, 0, none⟩ = some (.int .i64 0) := bc BK143 0
 have hfs15 := blk_frozen BK143.out 0
 have hns15_0 := NB135_143.out
 have hns15_1 := NB136_143.out
 have hms15_0 := NB143_135.out
 have hms15_1 := NB143_136.out
 have hs16 : w14.cell? ⟨gb143, 1, none⟩ = some (.int .u64 0) := bc BK143 1
 have hfs16 := blk_frozen BK143.out 1
 have hns16_0 := NB135_143.out
 have hns16_1 := NB136_143.out
 have hms16_0 := NB143_135.out
 have hms16_1 := NB143_136.out
 refine skip_ (w1 := ?_) (by rfl) rfl ?_ ?_
 rotate_left
 ·go_simp
  rfl
 refine hK.out _ _ ⟨((cell_far (p := ⟨gb143, _, none⟩) NB135_143.out _).trans (((cell_far (p := ⟨gb143, _, none⟩) NB135_143.out _).trans (hHeld.1)))), ((cell_far (p := ⟨gb143, _, none⟩) NB135_143.out _).trans (((cell_far (p := ⟨gb143, _, none⟩) NB135_143.out _).trans (hHeld.2.1)))), ((cell_far (p := ⟨gb143, _, none⟩) NB135_143.out _).trans (((cell_far (p := ⟨gb143, _, none⟩) NB135_143.out _).trans (hHeld.2.2))))⟩ (fun hHeld => ?_)
 clear hK K
 refine pure_ (i := 14) (N := some 6) (v := ?_) (a' := ?_) #[true, true, true, true, true, true, true, true, true, true, true, true, true, true, true] rfl rfl (any_of HT_.out (by kernel_rfl)) (fun _ _ _ h => h) (Or.inl ⟨by rfl, ?_⟩) ?_ ?_
 rotate_left
 ·intro w'
  go_simp
  with_reducible rfl
 rotate_left
 ·simp only [Act.put, List.setIfInBounds_toArray, List.set_cons_zero, List.set_cons_succ, i64_w, i32_w]
  rfl
 refine done_ (done_of HT_.out (by kernel_rfl)) ?_
 try go_wp2
 have n0_ : Aside0 (((w14.setCell ⟨gb143, 0, none⟩ (.int .i64 t140)).setCell ⟨gb143, 1, none⟩ (.int .u64 t141)).heap[gb135]? = some (.cells #[.int .u64 a0_0, .int .u32 a0_1, .int .u32 a0_2] 28 (0, 0))) := ⟨by (with_reducible repeat (first | refine blk_drewN ?_ _ | refine blk_drew ?_ | refine blk_alloc ?_ _)); refine blk_far ?_ NB135_143.out _; (with_reducible repeat (first | refine blk_drewN ?_ _ | refine blk_drew ?_ | refine blk_alloc ?_ _)); refine blk_far ?_ NB135_143.out _; exact blkt BK135⟩
 have n1_ : Aside0 (((w14.setCell ⟨gb143, 0, none⟩ (.int .i64 t140)).setCell ⟨gb143, 1, none⟩ (.int .u64 t141)).heap[gb136]? = some (.cells #[.int .i64 0, .int .u64 0] 31 (0, 0))) := ⟨by (with_reducible repeat (first | refine blk_drewN ?_ _ | refine blk_drew ?_ | refine blk_alloc ?_ _)); refine blk_far ?_ NB136_143.out _; (with_reducible repeat (first | refine blk_drewN ?_ _ | refine blk_drew ?_ | refine blk_alloc ?_ _)); refine blk_far ?_ NB136_143.out _; exact blkt BK136⟩
 have n2_ : Aside0 (((w14.setCell ⟨gb143, 0, none⟩ (.int .i64 t140)).setCell ⟨gb143, 1, none⟩ (.int .u64 t141)).heap[gb143]? = some (.cells #[.int .i64 t140, .int .u64 t141] 31 (0, 0))) := ⟨by (with_reducible repeat (first | refine blk_drewN ?_ _ | refine blk_drew ?_ | refine blk_alloc ?_ _)); refine blk_put (cs := #[.int .i64 t140, .int .u64 0]) ?_ 1 _ rfl; (with_reducible repeat (first | refine blk_drewN ?_ _ | refine blk_drew ?_ | refine blk_alloc ?_ _)); refine blk_put (cs := #[.int .i64 0, .int .u64 0]) ?_ 0 _ rfl; exact blkt BK143⟩
 have n3_ : Aside0 (Below w.heap.size w ((w14.setCell ⟨gb143, 0, none⟩ (.int .i64 t140)).setCell ⟨gb143, 1, none⟩ (.int .u64 t141))) := ⟨belt HB⟩
 (try clear BK135)
 (try clear BK136)
 (try clear BK143)
 (try clear HB)
 generalize ((w14.setCell ⟨gb143, 0, none⟩ (.int .i64 t140)).setCell ⟨gb143, 1, none⟩ (.int .u64 t141)) = w17 at n0_ n1_ n2_ n3_ ⊢
 have BK135 := n0_
 have BK136 := n1_
 have BK143 := n2_
 have HB := n3_
 clear n0_ n1_ n2_ n3_
 replace BK135 := Aside0.mk (blk_drew BK135.out)
 replace BK136 := Aside0.mk (blk_drew BK136.out)
 replace BK143 := Aside0.mk (blk_drew BK143.out)
 replace HB := Aside0.mk (below_drew1 HB.out)
 refine start_ (n := 10) (S := fun w' => w'.cell? ⟨gb143, 0, none⟩ = some (.int .i64 t140) ∧ w'.cell? ⟨gb143, 1, none⟩ = some (.int .u64 t141) ∧ w'.cell? ⟨gb135, 0, none⟩ = some (.int .u64 a0_0) ∧ w'.cell? ⟨gb135, 1, none⟩ = some (.int .u32 a0_1) ∧ w'.cell? ⟨gb135, 2, none⟩ = some (.int .u32 a0_2)) (ds := [9]) #[false, false, false, false, false, false, false, false, false, false] (by kernel_rfl) rfl rfl ⟨bc BK143 0, bc BK143 1, bc BK135 0, bc BK135 1, bc BK135 2⟩ (fun hHeld => ?_); refine with_tabW pos_Pos_Distance.tab2 pos_Pos_Distance.bits2 (fun HT_ HW_ => ?_)
 generalize w17.drew = w18 at BK135 BK136 BK143 HB hHeld ⊢
 refine pure_ (i := 1) (N := some 21) (v := ?_) (a' := ?_) #[false, true, false, false, false, false, false, false, false, false] rfl rfl (any_of HT_.out (by kernel_rfl)) (fun _ _ _ h => h) (Or.inl ⟨by rfl, ?_⟩) ?_ ?_
 rotate_left
 ·intro w'
  go_simp
  with_reducible rfl
 rotate_left
 ·simp only [Act.put, List.setIfInBounds_toArray, List.set_cons_zero, List.set_cons_succ, i64_w, i32_w]
  rfl
 refine take_ (i := 0) (N := some 20) (v := ?_) (a' := ?_) #[true, true, false, false, false, false, false, false, false, false] rfl rfl (take_ofW HT_.out HW_.out (by kernel_rfl)) (fun _ _ _ h => h) (Or.inl ⟨by rfl, ?_⟩) hHeld ?_ ?_
 rotate_left
 ·rintro w' ⟨s0, s1, s2, s3, s4⟩
  go_simp
  with_reducible rfl
 rotate_left
 ·simp only [Act.put, List.setIfInBounds_toArray, List.set_cons_zero, List.set_cons_succ, i64_w, i32_w]
  rfl
 refine take_ (i := 2) (N := some 22) (v := ?_) (a' := ?_) #[true, true, true, false, false, false, false, false, false, false] rfl rfl (take_ofW HT_.out HW_.out (by kernel_rfl)) (fun _ _ _ h => h) (Or.inl ⟨by rfl, ?_⟩) hHeld ?_ ?_
 rotate_left
 ·rintro w' ⟨s0, s1, s2, s3, s4⟩
  go_simp
  with_reducible rfl
 rotate_left
 ·simp only [Act.put, List.setIfInBounds_toArray, List.set_cons_zero, List.set_cons_succ, i64_w, i32_w]
  rfl
 refine pure_ (i := 3) (N := some 23) (v := ?_) (a' := ?_) #[true, true, true, true, false, false, false, false, false, false] rfl rfl (any_of HT_.out (by kernel_rfl)) (fun _ _ _ h => h) (Or.inl ⟨by rfl, ?_⟩) ?_ ?_
 rotate_left
 ·intro w'
  go_simp
  with_reducible rfl
 rotate_left
 ·simp only [Act.put, List.setIfInBounds_toArray, List.set_cons_zero, List.set_cons_succ, i64_w, i32_w]
  rfl
 refine one_ (i := 4) (N := some 24) #[true, true, true, true, true, false, false, false, false, false] rfl rfl (one_of HT_.out (by kernel_rfl)) (by decide) (fun K hK => ?_)
 refine goes_ Tryz.func53 (by kernel_rfl) rfl #[.int .u64 (IntKind.u64.wrap (a0_1))] (by rfl) rfl rfl argt ?_
 with_reducible refine (wide_OfU.calls (IntKind.u64.wrap (a0_1)) t144 t145 _ A6.out).mono ?_
 rintro e w19 ⟨rfl, hb⟩
 refine ⟨_, rfl, ?_⟩
 replace BK135 := blkb BK135 hb
 replace BK136 := blkb BK136 hb
 replace BK143 := blkb BK143 hb
 replace HB := belb HB hb
 (try clear hb)
 (try clear hb2)
 (try clear hk)
 (try clear hi)
 refine hK.out _ _ ⟨bc BK143 0, bc BK143 1, bc BK135 0, bc BK135 1, bc BK135 2⟩ (fun hHeld => ?_)
 clear hK K
 refine norm_ (a' := ?_) ?_ ?_
 rotate_left
 ·show Act.put _ (some 24) _ = _
  simp only [Act.put, List.setIfInBounds_toArray, List.set_cons_zero, List.set_cons_succ, i64_w, i32_w]
  rfl
 refine one_ (i := 5) (N := some 25) #[true, true, true, true, true, true, false, false, false, false] rfl rfl (one_of HT_.out (by kernel_rfl)) (by decide) (fun K hK => ?_)
 refine goes_ Tryz.func57 (by kernel_rfl) rfl #[.agg #[.int .i64 t140, .int .u64 t141], .agg #[.int .i64 t144, .int .u64 t145]] (by rfl) rfl rfl argt ?_
 with_reducible refine (wide_Int_Add.calls t140 t141 t144 t145 t146 t147 t148 _ A7.out).mono ?_
 rintro e w20 ⟨rfl, hb⟩
 refine ⟨_, rfl, ?_⟩
 replace BK135 := blkb BK135 hb
 replace BK136 := blkb BK136 hb
 replace BK143 := blkb BK143 hb
 replace HB := belb HB hb
 (try clear hb)
 (try clear hb2)
 (try clear hk)
 (try clear hi)
 refine hK.out _ _ ⟨bc BK143 0, bc BK143 1, bc BK135 0, bc BK135 1, bc BK135 2⟩ (fun hHeld => ?_)
 clear hK K
 refine norm_ (a' := ?_) ?_ ?_
 rotate_left
 ·show Act.put _ (some 25) _ = _
  simp only [Act.put, List.setIfInBounds_toArray, List.set_cons_zero, List.set_cons_succ, i64_w, i32_w]
  rfl
 refine pure_ (i := 6) (N := some 19) (v := ?_) (a' := ?_) #[true, true, true, true, true, true, true, false, false, false] rfl rfl (any_of HT_.out (by kernel_rfl)) (fun _ _ _ h => h) (Or.inl ⟨by rfl, ?_⟩) ?_ ?_
 rotate_left
 ·intro w'
  go_simp
  with_reducible rfl
 rotate_left
 ·simp only [Act.put, List.setIfInBounds_toArray, List.set_cons_zero, List.set_cons_succ, i64_w, i32_w]
  rfl
 refine pure_ (i := 7) (N := some 26) (v := ?_) (a' := ?_) #[true, true, true, true, true, true, true, true, false, false] rfl rfl (any_of HT_.out (by kernel_rfl)) (fun _ _ _ h => h) (Or.inl ⟨by rfl, ?_⟩) ?_ ?_
 rotate_left
 ·intro w'
  go_simp
  with_reducible rfl
 rotate_left
 ·simp only [Act.put, List.setIfInBounds_toArray, List.set_cons_zero, List.set_cons_succ, i64_w, i32_w]
  rfl
 refine pure_ (i := 8) (N := some 27) (v := ?_) (a' := ?_) #[true, true, true, true, true, true, true, true, true, false] rfl rfl (any_of HT_.out (by kernel_rfl)) (fun _ _ _ h => h) (Or.inl ⟨by rfl, ?_⟩) ?_ ?_
 rotate_left
 ·intro w'
  go_simp
  with_reducible rfl
 rotate_left
 ·simp only [Act.put, List.setIfInBounds_toArray, List.set_cons_zero, List.set_cons_succ, i64_w, i32_w]
  rfl
 refine last_ (i := 9) (N := none) #[true, true, true, true, true, true, true, true, true, true] rfl rfl (one_of HT_.out (by kernel_rfl)) (by decide) (fun K hK => ?_)
 have hs21 : w20.cell? ⟨gb143, 0, none⟩ = some (.int .i64 t140) := bc BK143 0
 have hfs21 := blk_frozen BK143.out 0
 have hns21_0 := NB135_143.out
 have hns21_1 := NB136_143.out
 have hms21_0 := NB143_135.out
 have hms21_1 := NB143_136.out
 have hs22 : w20.cell? ⟨gb143, 1, none⟩ = some (.int .u64 t141) := bc BK143 1
 have hfs22 := blk_frozen BK143.out 1
 have hns22_0 := NB135_143.out
 have hns22_1 := NB136_143.out
 have hms22_0 := NB143_135.out
 have hms22_1 := NB143_136.out
 refine skip_ (w1 := ?_) (by rfl) rfl ?_ ?_
 rotate_left
 ·go_simp
  rfl
 refine hK.out _ _ ?_
 clear hK K
 refine done_ (done_of HT_.out (by kernel_rfl)) ?_
 have hnb23 := NB143_135.out
 have hnc23 := NB135_143.out
 have hnb24 := NB143_136.out
 have hnc24 := NB136_143.out
 have hcz25_0 : w20.cell? ⟨gb143, 0, none⟩ = some (.int .i64 t140) := bc BK143 0
 have hcz25_1 : w20.cell? ⟨gb143, 1, none⟩ = some (.int .u64 t141) := bc BK143 1
 have hfz25_0 := blk_frozen BK143.out 0
 have hfz25_1 := blk_frozen BK143.out 1
 have hnb26 := NB136_135.out
 have hnc26 := NB135_136.out
 have hcz27_0 : w20.cell? ⟨gb136, 0, none⟩ = some (.int .i64 0) := bc BK136 0
 have hcz27_1 : w20.cell? ⟨gb136, 1, none⟩ = some (.int .u64 0) := bc BK136 1
 have hfz27_0 := blk_frozen BK136.out 0
 have hfz27_1 := blk_frozen BK136.out 1
 try go_wp2
 refine bodyPost_ret (results_cell_row rfl _ _ gb136 31 #[.int .i64 t146, .int .u64 t147] (0, 0) _ rfl (by (with_reducible repeat (first | refine blk_drewN ?_ _ | refine blk_drew ?_ | refine blk_alloc ?_ _)); refine blk_put (cs := #[.int .i64 t146, .int .u64 0]) ?_ 1 _ rfl; (with_reducible repeat (first | refine blk_drewN ?_ _ | refine blk_drew ?_ | refine blk_alloc ?_ _)); refine blk_put (cs := #[.int .i64 0, .int .u64 0]) ?_ 0 _ rfl; (with_reducible repeat (first | refine blk_drewN ?_ _ | refine blk_drew ?_ | refine blk_alloc ?_ _)); refine blk_far ?_ NB136_143.out _; (with_reducible repeat (first | refine blk_drewN ?_ _ | refine blk_drew ?_ | refine blk_alloc ?_ _)); refine blk_far ?_ NB136_143.out _; exact blkt BK136) Tryz.underlying31 rfl (by kernel_rfl)) rfl ?_
 exact ⟨by first | rfl | (simp [errW_none, errW_some] <;> rfl) | (simp [*, errW_none, errW_some] <;> rfl), belt HB⟩


/-! ### mean_Mean_Add: function 25 -/
def mean_Mean_Add.j0 : Nat → Bool → Int → Int → Int → Int → Int → Int → Int → Int → Option (Int × Int × Int × Int × Int × Bool)
 | 0, _, _, _, _, _, _, _, _, _ => none
 | k + 1, x20, x150000, x150001, x150002, x150003, x150004, x151000, x151001, x151002 => if x20 = true then (some (0, 0, 0, 0, 0, false)) else ((pos_Pos_Distance.f k x151000 x151001 x151002 x150000).bind fun bt154 => ((wide_Int_Add.f x150001 x150002 bt154.1 bt154.2).bind fun bt156 => (if bt156.2.2 = true then (some (x150000, bt156.1, bt156.2.1, IntKind.u64.wrap (x150003 + (IntKind.u64.wrap (x151002))), wrap64 (x150004 + 1), true)) else (some (0, 0, 0, 0, 0, false)))))
def mean_Mean_Add.f (k : Nat) (a0_0 : Int) (a0_1 : Int) (a0_2 : Int) (a0_3 : Int) (a0_4 : Int) (a1_0 : Int) (a1_1 : Int) (a1_2 : Int) : Option (Int × Int × Int × Int × Int × Bool) := (mean_Mean_Right.f a0_0 a0_1 a0_2 a0_3 a0_4).bind fun t152 => (if t152 = true then ((pos_Pos_Right.f a1_0 a1_1 a1_2).bind fun t153 => (if t153 = true then (mean_Mean_Add.j0 k (a0_4 == 32) a0_0 a0_1 a0_2 a0_3 a0_4 a1_0 a1_1 a1_2) else (mean_Mean_Add.j0 k true a0_0 a0_1 a0_2 a0_3 a0_4 a1_0 a1_1 a1_2))) else (mean_Mean_Add.j0 k true a0_0 a0_1 a0_2 a0_3 a0_4 a1_0 a1_1 a1_2))
theorem mean_Mean_Add.mono_l : ∀ k, (∀ y0 y1 y2 y3 y4 y5 y6 y7 y8, LeO (mean_Mean_Add.j0 k y0 y1 y2 y3 y4 y5 y6 y7 y8) (mean_Mean_Add.j0 (k + 1) y0 y1 y2 y3 y4 y5 y6 y7 y8))
 | 0 => fun _ _ _ _ _ _ _ _ _ r h => by simp [mean_Mean_Add.j0] at h
 | k + 1 => by
  have ih0 := mean_Mean_Add.mono_l k
  ·intro y0 y1 y2 y3 y4 y5 y6 y7 y8
   unfold mean_Mean_Add.j0
   repeat' first
   | (with_reducible exact ih0 _ _ _ _ _ _ _ _ _)
   | (with_reducible exact pos_Pos_Distance.mono _ _ _ _ _)
   | (with_reducible exact LeO.refl _)
   | (with_reducible exact LeO.none _)
   | (with_reducible refine LeO.ite ?_ ?_)
   | (with_reducible refine LeO.bind ?_ (fun _ => ?_))
   | exact ih0 _ _ _ _ _ _ _ _ _
   | exact pos_Pos_Distance.mono _ _ _ _ _
   | exact LeO.none _
   | refine LeO.ite ?_ ?_
   | refine LeO.bind ?_ (fun _ => ?_)
theorem mean_Mean_Add.mono : ∀ a0 a1 a2 a3 a4 a5 a6 a7 k, LeO (mean_Mean_Add.f k a0 a1 a2 a3 a4 a5 a6 a7) (mean_Mean_Add.f (k + 1) a0 a1 a2 a3 a4 a5 a6 a7) := by
 intro a0 a1 a2 a3 a4 a5 a6 a7 k
 have ih0 := mean_Mean_Add.mono_l k
 unfold mean_Mean_Add.f
 repeat' first
   | (with_reducible exact ih0 _ _ _ _ _ _ _ _ _)
   | (with_reducible exact pos_Pos_Distance.mono _ _ _ _ _)
   | (with_reducible exact LeO.refl _)
   | (with_reducible exact LeO.none _)
   | (with_reducible refine LeO.ite ?_ ?_)
   | (with_reducible refine LeO.bind ?_ (fun _ => ?_))
   | exact ih0 _ _ _ _ _ _ _ _ _
   | exact pos_Pos_Distance.mono _ _ _ _ _
   | exact LeO.none _
   | refine LeO.ite ?_ ?_
   | refine LeO.bind ?_ (fun _ => ?_)
def mean_Mean_Add.T3 : Bool × List (List Nat × List Nat) := (true, [([], []), ([0], [0]), ([], []), ([], []), ([3], [3]), ([2, 4], [2, 4]), ([1, 5, 5], [1, 5]), ([6], [6]), ([7], [7]), ([7], [7]), ([], []), ([10, 8, 6, 0, 1, 2, 3, 4, 5, 6, 7, 8, 10], [8, 10]), ([9, 11, 0, 1, 2, 3, 4, 5, 6, 7, 8, 9, 10, 11], [9])])
def mean_Mean_Add.B3 : List Nat := [0, 1, 0, 0, 8, 28, 63, 127, 255, 255, 0, 1535, 4095]
theorem mean_Mean_Add.tab3 : rtab .any (opsOf Tryz.f25 3) = mean_Mean_Add.T3 := by kernel_rfl
theorem mean_Mean_Add.bits3 : waitsOk mean_Mean_Add.T3.2 mean_Mean_Add.B3 = true := by kernel_rfl
set_option maxHeartbeats 8000000 in
set_option maxRecDepth 100000 in
theorem mean_Mean_Add.calls (k : Nat) (a0_0 : Int) (a0_1 : Int) (a0_2 : Int) (a0_3 : Int) (a0_4 : Int) (a1_0 : Int) (a1_1 : Int) (a1_2 : Int) (r1 : Int) (r2 : Int) (r3 : Int) (r4 : Int) (r5 : Int) (r6 : Bool) (w : World) (h : mean_Mean_Add.f k a0_0 a0_1 a0_2 a0_3 a0_4 a1_0 a1_1 a1_2 = some (r1, r2, r3, r4, r5, r6)) :
  Calls Tryz.prog 25 #[.agg #[.int .u64 a0_0, .int .i64 a0_1, .int .u64 a0_2, .int .u64 a0_3, .int .i64 a0_4], .agg #[.int .u64 a1_0, .int .u32 a1_1, .int .u32 a1_2]] w fun e w' => e = .returned (.tuple #[.agg #[.int .u64 r1, .int .i64 r2, .int .u64 r3, .int .u64 r4, .int .i64 r5], .bool r6]) ∧ Below w.heap.size w w' := by
 have hu33 := Tryz.underlying33
 have hu28 := Tryz.underlying28
 have hu31 := Tryz.underlying31
 have HB := Aside0.mk (Below.refl w.heap.size w)
 have H : ((mean_Mean_Right.f a0_0 a0_1 a0_2 a0_3 a0_4).bind fun t152 => (if t152 = true then ((pos_Pos_Right.f a1_0 a1_1 a1_2).bind fun t153 => (if t153 = true then (mean_Mean_Add.j0 k (a0_4 == 32) a0_0 a0_1 a0_2 a0_3 a0_4 a1_0 a1_1 a1_2) else (mean_Mean_Add.j0 k true a0_0 a0_1 a0_2 a0_3 a0_4 a1_0 a1_1 a1_2))) else (mean_Mean_Add.j0 k true a0_0 a0_1 a0_2 a0_3 a0_4 a1_0 a1_1 a1_2))) = some (r1, r2, r3, r4, r5, r6) := h
 clear h
 have HC3 := Aside0.mk H
 clear H
 go_enter Tryz.func25, Tryz.ntmps25
 go_upto_region 1 with (first | ((with_reducible refine gate_dst (N := 2) rfl ?_); refine box_event ?hg (N := 2) ?hd (cs := #[.int .u64 a0_0, .int .i64 a0_1, .int .u64 a0_2, .int .u64 a0_3, .int .i64 a0_4]) (t := 33) ?hr ?_; (case hd => rfl); (case hg => rfl); (case hr => first | (go_simp; done) | (go_simp; rfl)); intro gb149 hg w4 hbox hb; have BK149 := Aside0.mk (hbox); have GW149 := bels HB hg; have GE149 := bels HB hg; replace HB := belb HB hb; clear hb hbox hg) | ((with_reducible refine gate_dst (N := 3) rfl ?_); refine box_event ?hg (N := 3) ?hd (cs := #[.int .u64 a1_0, .int .u32 a1_1, .int .u32 a1_2]) (t := 28) ?hr ?_; (case hd => rfl); (case hg => rfl); (case hr => first | (go_simp; done) | (go_simp; rfl)); intro gb150 hg w5 hbox hb; have BK150 := Aside0.mk (hbox); have GW150 := bels HB hg; have GE150 := bels HB hg; have NB149_150 := blkl BK149 hg; have NB150_149 := blkg BK149 hg; replace BK149 := blkb BK149 hb; replace HB := belb HB hb; clear hb hbox hg) | ((with_reducible refine gate_dst (N := 4) rfl ?_); refine box_event ?hg (N := 4) ?hd (cs := #[.int .u64 0, .int .i64 0, .int .u64 0, .int .u64 0, .int .i64 0]) (t := 33) ?hr ?_; (case hd => rfl); (case hg => rfl); (case hr => first | (go_simp; done) | (go_simp; rfl)); intro gb151 hg w6 hbox hb; have BK151 := Aside0.mk (hbox); have GW151 := bels HB hg; have GE151 := bels HB hg; have NB149_151 := blkl BK149 hg; have NB151_149 := blkg BK149 hg; have NB150_151 := blkl BK150 hg; have NB151_150 := blkg BK150 hg; replace BK149 := blkb BK149 hb; replace BK150 := blkb BK150 hb; replace HB := belb HB hb; clear hb hbox hg))
 (try simp only [Act.put, List.setIfInBounds_toArray, List.set_cons_zero, List.set_cons_succ])
 go_cut [20] (fun v20 wc => ∃ (kq : Nat) (x20_2 : Bool), v20 = .bool x20_2 ∧ Aside0 (mean_Mean_Add.j0 kq x20_2 a0_0 a0_1 a0_2 a0_3 a0_4 a1_0 a1_1 a1_2 = some (r1, r2, r3, r4, r5, r6)) ∧ Aside0 (kq ≤ k) ∧ Aside0 (wc.heap[gb149]? = some (.cells #[.int .u64 a0_0, .int .i64 a0_1, .int .u64 a0_2, .int .u64 a0_3, .int .i64 a0_4] 33 (0, 0))) ∧ Aside0 (wc.heap[gb150]? = some (.cells #[.int .u64 a1_0, .int .u32 a1_1, .int .u32 a1_2] 28 (0, 0))) ∧ Aside0 (wc.heap[gb151]? = some (.cells #[.int .u64 0, .int .i64 0, .int .u64 0, .int .u64 0, .int .i64 0] 33 (0, 0))) ∧ Aside0 (Below w.heap.size w wc))
 case first =>
  have H := HC3.out
  clear HC3
  replace H := Option.bind_eq_some_iff.mp H
  obtain ⟨t152, A70, H⟩ := H
  replace H : (if t152 = true then ((pos_Pos_Right.f a1_0 a1_1 a1_2).bind fun t153 => (if t153 = true then (mean_Mean_Add.j0 k (a0_4 == 32) a0_0 a0_1 a0_2 a0_3 a0_4 a1_0 a1_1 a1_2) else (mean_Mean_Add.j0 k true a0_0 a0_1 a0_2 a0_3 a0_4 a1_0 a1_1 a1_2))) else (mean_Mean_Add.j0 k true a0_0 a0_1 a0_2 a0_3 a0_4 a1_0 a1_1 a1_2)) = some (r1, r2, r3, r4, r5, r6) := H
  have A7 := Aside0.mk A70
  clear A70
  by_cases c8 : t152 = true
  ·subst c8
   have H1 : ((pos_Pos_Right.f a1_0 a1_1 a1_2).bind fun t153 => (if t153 = true then (mean_Mean_Add.j0 k (a0_4 == 32) a0_0 a0_1 a0_2 a0_3 a0_4 a1_0 a1_1 a1_2) else (mean_Mean_Add.j0 k true a0_0 a0_1 a0_2 a0_3 a0_4 a1_0 a1_1 a1_2))) = some (r1, r2, r3, r4, r5, r6) := by rw [if_pos rfl] at H; exact H
   clear H
   have H := H1
   clear H1
   replace H := Option.bind_eq_some_iff.mp H
   obtain ⟨t153, A90, H⟩ := H
   replace H : (if t153 = true then (mean_Mean_Add.j0 k (a0_4 == 32) a0_0 a0_1 a0_2 a0_3 a0_4 a1_0 a1_1 a1_2) else (mean_Mean_Add.j0 k true a0_0 a0_1 a0_2 a0_3 a0_4 a1_0 a1_1 a1_2)) = some (r1, r2, r3, r4, r5, r6) := H
   have A9 := Aside0.mk A90
   clear A90
   by_cases c10 : t153 = true
   ·subst c10
    have H1 : (mean_Mean_Add.j0 k (a0_4 == 32) a0_0 a0_1 a0_2 a0_3 a0_4 a1_0 a1_1 a1_2) = some (r1, r2, r3, r4, r5, r6) := by rw [if_pos rfl] at H; exact H
    clear H
    have H := H1
    clear H1
    have H' := Aside0.mk H
    clear H
    have hnb11 := NB149_150.out
    have hnc11 := NB150_149.out
    have hnb12 := NB149_151.out
    have hnc12 := NB151_149.out
    have hcz13_0 : w6.cell? ⟨gb149, 0, none⟩ = some (.int .u64 a0_0) := bc BK149 0
    have hcz13_1 : w6.cell? ⟨gb149, 1, none⟩ = some (.int .i64 a0_1) := bc BK149 1
    have hcz13_2 : w6.cell? ⟨gb149, 2, none⟩ = some (.int .u64 a0_2) := bc BK149 2
    have hcz13_3 : w6.cell? ⟨gb149, 3, none⟩ = some (.int .u64 a0_3) := bc BK149 3
    have hcz13_4 : w6.cell? ⟨gb149, 4, none⟩ = some (.int .i64 a0_4) := bc BK149 4
    have hfz13_0 := blk_frozen BK149.out 0
    have hfz13_1 := blk_frozen BK149.out 1
    have hfz13_2 := blk_frozen BK149.out 2
    have hfz13_3 := blk_frozen BK149.out 3
    have hfz13_4 := blk_frozen BK149.out 4
    go_wp2_with (first | ((with_reducible refine gate_callee (f := 52) rfl ?_); refine goesL_ (some 9) rfl rfl Tryz.func52 (by kernel_rfl) rfl #[.agg #[.int .u64 a0_0, .int .i64 a0_1, .int .u64 a0_2, .int .u64 a0_3, .int .i64 a0_4]] rfl argt ?_; (with_reducible refine (mean_Mean_Right.calls a0_0 a0_1 a0_2 a0_3 a0_4 true _ A7.out).mono ?_); rintro e w14 ⟨rfl, hb⟩; refine ⟨_, rfl, ?_⟩; replace BK149 := blkb BK149 hb; replace BK150 := blkb BK150 hb; replace BK151 := blkb BK151 hb; replace HB := belb HB hb; (try clear hb); (try clear hb2); (try clear hk); (try clear hi); have hnb15 := NB150_151.out; have hnc15 := NB151_150.out; have hcz16_0 : w14.cell? ⟨gb150, 0, none⟩ = some (.int .u64 a1_0) := bc BK150 0; have hcz16_1 : w14.cell? ⟨gb150, 1, none⟩ = some (.int .u32 a1_1) := bc BK150 1; have hcz16_2 : w14.cell? ⟨gb150, 2, none⟩ = some (.int .u32 a1_2) := bc BK150 2; have hfz16_0 := blk_frozen BK150.out 0; have hfz16_1 := blk_frozen BK150.out 1; have hfz16_2 := blk_frozen BK150.out 2) | (go_at_call 17; (with_reducible refine (pos_Pos_Right.calls a1_0 a1_1 a1_2 true _ A9.out).mono ?_); rintro e w17 ⟨rfl, hb⟩; replace BK149 := blkb BK149 hb; replace BK150 := blkb BK150 hb; replace BK151 := blkb BK151 hb; replace HB := belb HB hb; (try clear hb); (try clear hb2); (try clear hk); (try clear hi); have hcz18_0 : w17.cell? ⟨gb149, 0, none⟩ = some (.int .u64 a0_0) := bc BK149 0; have hcz18_1 : w17.cell? ⟨gb149, 1, none⟩ = some (.int .i64 a0_1) := bc BK149 1; have hcz18_2 : w17.cell? ⟨gb149, 2, none⟩ = some (.int .u64 a0_2) := bc BK149 2; have hcz18_3 : w17.cell? ⟨gb149, 3, none⟩ = some (.int .u64 a0_3) := bc BK149 3; have hcz18_4 : w17.cell? ⟨gb149, 4, none⟩ = some (.int .i64 a0_4) := bc BK149 4; have hfz18_0 := blk_frozen BK149.out 0; have hfz18_1 := blk_frozen BK149.out 1; have hfz18_2 := blk_frozen BK149.out 2; have hfz18_3 := blk_frozen BK149.out 3; have hfz18_4 := blk_frozen BK149.out 4))
    go_meet
    case rel => exact ⟨_, ((a0_4 == 32)), (by first | rfl | (simp; done) | (simp [*]; done)), H', ⟨by first | omega | exact Nat.le_refl _⟩, ⟨blkt BK149⟩, ⟨blkt BK150⟩, ⟨blkt BK151⟩, ⟨belt HB⟩⟩
   replace c10 := Bool.eq_false_iff.mpr c10
   subst c10
   have H1 : (mean_Mean_Add.j0 k true a0_0 a0_1 a0_2 a0_3 a0_4 a1_0 a1_1 a1_2) = some (r1, r2, r3, r4, r5, r6) := by rw [if_neg (show ¬ (false = true) by decide)] at H; exact H
   clear H
   have H := H1
   clear H1
   have H' := Aside0.mk H
   clear H
   have hnb19 := NB149_150.out
   have hnc19 := NB150_149.out
   have hnb20 := NB149_151.out
   have hnc20 := NB151_149.out
   have hcz21_0 : w6.cell? ⟨gb149, 0, none⟩ = some (.int .u64 a0_0) := bc BK149 0
   have hcz21_1 : w6.cell? ⟨gb149, 1, none⟩ = some (.int .i64 a0_1) := bc BK149 1
   have hcz21_2 : w6.cell? ⟨gb149, 2, none⟩ = some (.int .u64 a0_2) := bc BK149 2
   have hcz21_3 : w6.cell? ⟨gb149, 3, none⟩ = some (.int .u64 a0_3) := bc BK149 3
   have hcz21_4 : w6.cell? ⟨gb149, 4, none⟩ = some (.int .i64 a0_4) := bc BK149 4
   have hfz21_0 := blk_frozen BK149.out 0
   have hfz21_1 := blk_frozen BK149.out 1
   have hfz21_2 := blk_frozen BK149.out 2
   have hfz21_3 := blk_frozen BK149.out 3
   have hfz21_4 := blk_frozen BK149.out 4
   go_wp2_with (first | ((with_reducible refine gate_callee (f := 52) rfl ?_); refine goesL_ (some 9) rfl rfl Tryz.func52 (by kernel_rfl) rfl #[.agg #[.int .u64 a0_0, .int .i64 a0_1, .int .u64 a0_2, .int .u64 a0_3, .int .i64 a0_4]] rfl argt ?_; (with_reducible refine (mean_Mean_Right.calls a0_0 a0_1 a0_2 a0_3 a0_4 true _ A7.out).mono ?_); rintro e w22 ⟨rfl, hb⟩; refine ⟨_, rfl, ?_⟩; replace BK149 := blkb BK149 hb; replace BK150 := blkb BK150 hb; replace BK151 := blkb BK151 hb; replace HB := belb HB hb; (try clear hb); (try clear hb2); (try clear hk); (try clear hi); have hnb23 := NB150_151.out; have hnc23 := NB151_150.out; have hcz24_0 : w22.cell? ⟨gb150, 0, none⟩ = some (.int .u64 a1_0) := bc BK150 0; have hcz24_1 : w22.cell? ⟨gb150, 1, none⟩ = some (.int .u32 a1_1) := bc BK150 1; have hcz24_2 : w22.cell? ⟨gb150, 2, none⟩ = some (.int .u32 a1_2) := bc BK150 2; have hfz24_0 := blk_frozen BK150.out 0; have hfz24_1 := blk_frozen BK150.out 1; have hfz24_2 := blk_frozen BK150.out 2) | (go_at_call 17; (with_reducible refine (pos_Pos_Right.calls a1_0 a1_1 a1_2 false _ A9.out).mono ?_); rintro e w25 ⟨rfl, hb⟩; replace BK149 := blkb BK149 hb; replace BK150 := blkb BK150 hb; replace BK151 := blkb BK151 hb; replace HB := belb HB hb; (try clear hb); (try clear hb2); (try clear hk); (try clear hi)))
   go_meet
   case rel => exact ⟨_, (true), (by first | rfl | (simp; done) | (simp [*]; done)), H', ⟨by first | omega | exact Nat.le_refl _⟩, ⟨blkt BK149⟩, ⟨blkt BK150⟩, ⟨blkt BK151⟩, ⟨belt HB⟩⟩
  replace c8 := Bool.eq_false_iff.mpr c8
  subst c8
  have H1 : (mean_Mean_Add.j0 k true a0_0 a0_1 a0_2 a0_3 a0_4 a1_0 a1_1 a1_2) = some (r1, r2, r3, r4, r5, r6) := by rw [if_neg (show ¬ (false = true) by decide)] at H; exact H
  clear H
  have H := H1
  clear H1
  have H' := Aside0.mk H
  clear H
  have hnb26 := NB149_150.out
  have hnc26 := NB150_149.out
  have hnb27 := NB149_151.out
  have hnc27 := NB151_149.out
  have hcz28_0 : w6.cell? ⟨gb149, 0, none⟩ = some (.int .u64 a0_0) := bc BK149 0
  have hcz28_1 : w6.cell? ⟨gb149, 1, none⟩ = some (.int .i64 a0_1) := bc BK149 1
  have hcz28_2 : w6.cell? ⟨gb149, 2, none⟩ = some (.int .u64 a0_2) := bc BK149 2
  have hcz28_3 : w6.cell? ⟨gb149, 3, none⟩ = some (.int .u64 a0_3) := bc BK149 3
  have hcz28_4 : w6.cell? ⟨gb149, 4, none⟩ = some (.int .i64 a0_4) := bc BK149 4
  have hfz28_0 := blk_frozen BK149.out 0
  have hfz28_1 := blk_frozen BK149.out 1
  have hfz28_2 := blk_frozen BK149.out 2
  have hfz28_3 := blk_frozen BK149.out 3
  have hfz28_4 := blk_frozen BK149.out 4
  go_wp2_with (first | ((with_reducible refine gate_callee (f := 52) rfl ?_); refine goesL_ (some 9) rfl rfl Tryz.func52 (by kernel_rfl) rfl #[.agg #[.int .u64 a0_0, .int .i64 a0_1, .int .u64 a0_2, .int .u64 a0_3, .int .i64 a0_4]] rfl argt ?_; (with_reducible refine (mean_Mean_Right.calls a0_0 a0_1 a0_2 a0_3 a0_4 false _ A7.out).mono ?_); rintro e w29 ⟨rfl, hb⟩; refine ⟨_, rfl, ?_⟩; replace BK149 := blkb BK149 hb; replace BK150 := blkb BK150 hb; replace BK151 := blkb BK151 hb; replace HB := belb HB hb; (try clear hb); (try clear hb2); (try clear hk); (try clear hi)))
  go_meet
  case rel => exact ⟨_, (true), (by first | rfl | (simp; done) | (simp [*]; done)), H', ⟨by first | omega | exact Nat.le_refl _⟩, ⟨blkt BK149⟩, ⟨blkt BK150⟩, ⟨blkt BK151⟩, ⟨belt HB⟩⟩
 case rest =>
  clear HC3
  try clear c1
  try clear c2
  try clear p2
  try clear c5
  try clear c8
  try clear c10
  try clear c11
  try clear c12
  try clear c15
  try clear c19
  try clear c20
  try clear c23
  try clear c25
  try clear c26
  try clear c27
  try clear hcz13_0
  try clear hcz13_1
  try clear hcz13_2
  try clear hcz13_3
  try clear hcz13_4
  try clear hcz16_0
  try clear hcz16_1
  try clear hcz16_2
  try clear hcz18_0
  try clear hcz18_1
  try clear hcz18_2
  try clear hcz18_3
  try clear hcz18_4
  try clear hcz21_0
  try clear hcz21_1
  try clear hcz21_2
  try clear hcz21_3
  try clear hcz21_4
  try clear hcz24_0
  try clear hcz24_1
  try clear hcz24_2
  try clear hcz28_0
  try clear hcz28_1
  try clear hcz28_2
  try clear hcz28_3
  try clear hcz28_4
  try clear hfz13_0
  try clear hfz13_1
  try clear hfz13_2
  try clear hfz13_3
  try clear hfz13_4
  try clear hfz16_0
  try clear hfz16_1
  try clear hfz16_2
  try clear hfz18_0
  try clear hfz18_1
  try clear hfz18_2
  try clear hfz18_3
  try clear hfz18_4
  try clear hfz21_0
  try clear hfz21_1
  try clear hfz21_2
  try clear hfz21_3
  try clear hfz21_4
  try clear hfz24_0
  try clear hfz24_1
  try clear hfz24_2
  try clear hfz28_0
  try clear hfz28_1
  try clear hfz28_2
  try clear hfz28_3
  try clear hfz28_4
  obtain ⟨kq, x20_2, rfl, HA, HJ2, BK149, BK150, BK151, HB⟩ := hcut
  cases kq with
  | zero => exact absurd HA.out (by simp [mean_Mean_Add.j0])
  | succ kj2 =>
   have H := HA.out
   clear HA
   simp only [mean_Mean_Add.j0] at H
   by_cases c30 : x20_2 = true
   ·subst c30
    have H1 : (some (0, 0, 0, 0, 0, false)) = some (r1, r2, r3, r4, r5, r6) := by rw [if_pos rfl] at H; exact H
    clear H
    have H := H1
    clear H1
    simp only [Option.some.injEq, Prod.mk.injEq] at H
    obtain ⟨rfl, rfl, rfl, rfl, rfl, rfl⟩ := H
    have hnb31 := NB151_149.out
    have hnc31 := NB149_151.out
    have hnb32 := NB151_150.out
    have hnc32 := NB150_151.out
    have hcz33_0 : wc.cell? ⟨gb151, 0, none⟩ = some (.int .u64 0) := bc BK151 0
    have hcz33_1 : wc.cell? ⟨gb151, 1, none⟩ = some (.int .i64 0) := bc BK151 1
    have hcz33_2 : wc.cell? ⟨gb151, 2, none⟩ = some (.int .u64 0) := bc BK151 2
    have hcz33_3 : wc.cell? ⟨gb151, 3, none⟩ = some (.int .u64 0) := bc BK151 3
    have hcz33_4 : wc.cell? ⟨gb151, 4, none⟩ = some (.int .i64 0) := bc BK151 4
    have hfz33_0 := blk_frozen BK151.out 0
    have hfz33_1 := blk_frozen BK151.out 1
    have hfz33_2 := blk_frozen BK151.out 2
    have hfz33_3 := blk_frozen BK151.out 3
    have hfz33_4 := blk_frozen BK151.out 4
    go_wp2
    refine bodyPost_ret (results_ct rfl _ _ gb151 33 #[.int .u64 0, .int .i64 0, .int .u64 0, .int .u64 0, .int .i64 0] (0, 0) _ rfl (by (with_reducible repeat (first | refine blk_drewN ?_ _ | refine blk_drew ?_ | refine blk_alloc ?_ _)); refine blk_put (cs := #[.int .u64 0, .int .i64 0, .int .u64 0, .int .u64 0, .int .i64 0]) ?_ 4 _ rfl; (with_reducible repeat (first | refine blk_drewN ?_ _ | refine blk_drew ?_ | refine blk_alloc ?_ _)); refine blk_put (cs := #[.int .u64 0, .int .i64 0, .int .u64 0, .int .u64 0, .int .i64 0]) ?_ 3 _ rfl; (with_reducible repeat (first | refine blk_drewN ?_ _ | refine blk_drew ?_ | refine blk_alloc ?_ _)); refine blk_put (cs := #[.int .u64 0, .int .i64 0, .int .u64 0, .int .u64 0, .int .i64 0]) ?_ 2 _ rfl; (with_reducible repeat (first | refine blk_drewN ?_ _ | refine blk_drew ?_ | refine blk_alloc ?_ _)); refine blk_put (cs := #[.int .u64 0, .int .i64 0, .int .u64 0, .int .u64 0, .int .i64 0]) ?_ 1 _ rfl; (with_reducible repeat (first | refine blk_drewN ?_ _ | refine blk_drew ?_ | refine blk_alloc ?_ _)); refine blk_put (cs := #[.int .u64 0, .int .i64 0, .int .u64 0, .int .u64 0, .int .i64 0]) ?_ 0 _ rfl; exact blkt BK151) Tryz.underlying33 rfl (by kernel_rfl)) rfl ?_
    exact ⟨by first | rfl | (simp [errW_none, errW_some] <;> rfl) | (simp [*, errW_none, errW_some] <;> rfl), belt HB⟩
   replace c30 := Bool.eq_false_iff.mpr c30
   subst c30
   have H1 : ((pos_Pos_Distance.f kj2 a1_0 a1_1 a1_2 a0_0).bind fun bt154 => ((wide_Int_Add.f a0_1 a0_2 bt154.1 bt154.2).bind fun bt156 => (if bt156.2.2 = true then (some (a0_0, bt156.1, bt156.2.1, IntKind.u64.wrap (a0_3 + (IntKind.u64.wrap (a1_2))), wrap64 (a0_4 + 1), true)) else (some (0, 0, 0, 0, 0, false))))) = some (r1, r2, r3, r4, r5, r6) := by rw [if_neg (show ¬ (false = true) by decide)] at H; exact H
   clear H
   have H := H1
   clear H1
   replace H := Option.bind_eq_some_iff.mp H
   obtain ⟨⟨t154, t155⟩, A340, H⟩ := H
   replace H : ((wide_Int_Add.f a0_1 a0_2 t154 t155).bind fun bt156 => (if bt156.2.2 = true then (some (a0_0, bt156.1, bt156.2.1, IntKind.u64.wrap (a0_3 + (IntKind.u64.wrap (a1_2))), wrap64 (a0_4 + 1), true)) else (some (0, 0, 0, 0, 0, false)))) = some (r1, r2, r3, r4, r5, r6) := H
   have A34 := Aside0.mk A340
   clear A340
   replace H := Option.bind_eq_some_iff.mp H
   obtain ⟨⟨t156, t157, t158⟩, A350, H⟩ := H
   replace H : (if t158 = true then (some (a0_0, t156, t157, IntKind.u64.wrap (a0_3 + (IntKind.u64.wrap (a1_2))), wrap64 (a0_4 + 1), true)) else (some (0, 0, 0, 0, 0, false))) = some (r1, r2, r3, r4, r5, r6) := H
   have A35 := Aside0.mk A350
   clear A350
   by_cases c36 : t158 = true
   ·subst c36
    have H1 : (some (a0_0, t156, t157, IntKind.u64.wrap (a0_3 + (IntKind.u64.wrap (a1_2))), wrap64 (a0_4 + 1), true)) = some (r1, r2, r3, r4, r5, r6) := by rw [if_pos rfl] at H; exact H
    clear H
    have H := H1
    clear H1
    simp only [Option.some.injEq, Prod.mk.injEq] at H
    obtain ⟨rfl, rfl, rfl, rfl, rfl, rfl⟩ := H
    try go_wp2
    replace BK149 := Aside0.mk (blk_drew BK149.out)
    replace BK150 := Aside0.mk (blk_drew BK150.out)
    replace BK151 := Aside0.mk (blk_drew BK151.out)
    replace HB := Aside0.mk (below_drew1 HB.out)
    refine start_ (n := 13) (S := fun w' => w'.cell? ⟨gb149, 0, none⟩ = some (.int .u64 a0_0) ∧ w'.cell? ⟨gb149, 1, none⟩ = some (.int .i64 a0_1) ∧ w'.cell? ⟨gb149, 2, none⟩ = some (.int .u64 a0_2) ∧ w'.cell? ⟨gb149, 3, none⟩ = some (.int .u64 a0_3) ∧ w'.cell? ⟨gb149, 4, none⟩ = some (.int .i64 a0_4) ∧ w'.cell? ⟨gb150, 0, none⟩ = some (.int .u64 a1_0) ∧ w'.cell? ⟨gb150, 1, none⟩ = some (.int .u32 a1_1) ∧ w'.cell? ⟨gb150, 2, none⟩ = some (.int .u32 a1_2)) (ds := []) #[false, false, false, false, false, false, false, false, false, false, false, false, false] (by kernel_rfl) rfl rfl ⟨bc BK149 0, bc BK149 1, bc BK149 2, bc BK149 3, bc BK149 4, bc BK150 0, bc BK150 1, bc BK150 2⟩ (fun hHeld => ?_); refine with_tabW mean_Mean_Add.tab3 mean_Mean_Add.bits3 (fun HT_ HW_ => ?_)
    generalize wc.drew = w37 at BK149 BK150 BK151 HB hHeld ⊢
    refine pure_ (i := 0) (N := some 23) (v := ?_) (a' := ?_) #[true, false, false, false, false, false, false, false, false, false, false, false, false] rfl rfl (any_of HT_.out (by kernel_rfl)) (fun _ _ _ h => h) (Or.inl ⟨by rfl, ?_⟩) ?_ ?_
    rotate_left
    ·intro w'
     go_simp
     with_reducible rfl
    rotate_left
    ·simp only [Act.put, List.setIfInBounds_toArray, List.set_cons_zero, List.set_cons_succ, i64_w, i32_w]
     rfl
    refine pure_ (i := 3) (N := some 26) (v := ?_) (a' := ?_) #[true, false, false, true, false, false, false, false, false, false, false, false, false] rfl rfl (any_of HT_.out (by kernel_rfl)) (fun _ _ _ h => h) (Or.inl ⟨by rfl, ?_⟩) ?_ ?_
    rotate_left
    ·intro w'
     go_simp
     with_reducible rfl
    rotate_left
    ·simp only [Act.put, List.setIfInBounds_toArray, List.set_cons_zero, List.set_cons_succ, i64_w, i32_w]
     rfl
    refine take_ (i := 1) (N := some 24) (v := ?_) (a' := ?_) #[true, true, false, true, false, false, false, false, false, false, false, false, false] rfl rfl (take_ofW HT_.out HW_.out (by kernel_rfl)) (fun _ _ _ h => h) (Or.inl ⟨by rfl, ?_⟩) hHeld ?_ ?_
    rotate_left
    ·rintro w' ⟨s0, s1, s2, s3, s4, s5, s6, s7⟩
     go_simp
     with_reducible rfl
    rotate_left
    ·simp only [Act.put, List.setIfInBounds_toArray, List.set_cons_zero, List.set_cons_succ, i64_w, i32_w]
     rfl
    refine take_ (i := 2) (N := some 25) (v := ?_) (a' := ?_) #[true, true, true, true, false, false, false, false, false, false, false, false, false] rfl rfl (take_ofW HT_.out HW_.out (by kernel_rfl)) (fun _ _ _ h => h) (Or.inl ⟨by rfl, ?_⟩) hHeld ?_ ?_
    rotate_left
    ·rintro w' ⟨s0, s1, s2, s3, s4, s5, s6, s7⟩
     go_simp
     with_reducible rfl
    rotate_left
    ·simp only [Act.put, List.setIfInBounds_toArray, List.set_cons_zero, List.set_cons_succ, i64_w, i32_w]
     rfl
    refine take_ (i := 4) (N := some 27) (v := ?_) (a' := ?_) #[true, true, true, true, true, false, false, false, false, false, false, false, false] rfl rfl (take_ofW HT_.out HW_.out (by kernel_rfl)) (fun _ _ _ h => h) (Or.inl ⟨by rfl, ?_⟩) hHeld ?_ ?_
    rotate_left
    ·rintro w' ⟨s0, s1, s2, s3, s4, s5, s6, s7⟩
     go_simp
     with_reducible rfl
    rotate_left
    ·simp only [Act.put, List.setIfInBounds_toArray, List.set_cons_zero, List.set_cons_succ, i64_w, i32_w]
     rfl
    refine join_ (σ := Nat) 2 #[true, true, true, true, true, true, true, true, true, true, true, false, false] (fun s_ => [(28, .agg #[.int .i64 t154, .int .u64 t155]), (29, .tuple #[.agg #[.int .i64 t156, .int .u64 t157], .bool true]), (6, .pointer (some ⟨s_, 0, none⟩)), (22, .tuple #[.agg #[.int .i64 t156, .int .u64 t157], .bool true]), (30, .agg #[.int .i64 t156, .int .u64 t157]), (31, .bool true)]) (fun s_ w' => (w'.cell? ⟨gb149, 0, none⟩ = some (.int .u64 a0_0) ∧ w'.cell? ⟨gb149, 1, none⟩ = some (.int .i64 a0_1) ∧ w'.cell? ⟨gb149, 2, none⟩ = some (.int .u64 a0_2) ∧ w'.cell? ⟨gb149, 3, none⟩ = some (.int .u64 a0_3) ∧ w'.cell? ⟨gb149, 4, none⟩ = some (.int .i64 a0_4) ∧ w'.cell? ⟨gb150, 0, none⟩ = some (.int .u64 a1_0) ∧ w'.cell? ⟨gb150, 1, none⟩ = some (.int .u32 a1_1) ∧ w'.cell? ⟨gb150, 2, none⟩ = some (.int .u32 a1_2)) ∧ (w'.heap[gb149]? = some (.cells #[.int .u64 a0_0, .int .i64 a0_1, .int .u64 a0_2, .int .u64 a0_3, .int .i64 a0_4] 33 (0, 0))) ∧ (w'.heap[gb150]? = some (.cells #[.int .u64 a1_0, .int .u32 a1_1, .int .u32 a1_2] 28 (0, 0))) ∧ (w'.heap[gb151]? = some (.cells #[.int .u64 0, .int .i64 0, .int .u64 0, .int .u64 0, .int .i64 0] 33 (0, 0))) ∧ (w'.heap[s_]? = some (.cells #[.int .i64 0, .int .u64 0] 31 (0, 0))) ∧ (w.heap.size ≤ s_) ∧ (w.heap.size ≤ s_) ∧ (gb149 ≠ s_) ∧ (s_ ≠ gb149) ∧ (gb150 ≠ s_) ∧ (s_ ≠ gb150) ∧ (gb151 ≠ s_) ∧ (s_ ≠ gb151) ∧ (Below w.heap.size w w')) ?_ ?_
    rotate_left
    ·intro hCont
     refine two_ (i := 5) (j := 10) (Ni := some 28) (Nj := some 6) #[true, true, true, true, true, true, false, false, false, false, false, false, false] #[true, true, true, true, true, false, false, false, false, false, true, false, false] rfl rfl rfl rfl (two_of HT_.out (by kernel_rfl)) (by decide) (by decide) (fun K hK => ?_) (fun K hK => ?_)
     ·skip
      refine goes_ Tryz.func59 (by kernel_rfl) rfl #[.agg #[.int .u64 a1_0, .int .u32 a1_1, .int .u32 a1_2], .int .u64 a0_0] (by rfl) rfl rfl argt ?_
      with_reducible refine (pos_Pos_Distance.calls kj2 a1_0 a1_1 a1_2 a0_0 t154 t155 _ A34.out).mono ?_
      rintro e w38 ⟨rfl, hb⟩
      refine ⟨_, rfl, ?_⟩
      replace BK149 := blkb BK149 hb
      replace BK150 := blkb BK150 hb
      replace BK151 := blkb BK151 hb
      replace HB := belb HB hb
      (try clear hb)
      (try clear hb2)
      (try clear hk)
      (try clear hi)
      refine hK.out _ _ ⟨bc BK149 0, bc BK149 1, bc BK149 2, bc BK149 3, bc BK149 4, bc BK150 0, bc BK150 1, bc BK150 2⟩ (fun hHeld => ?_)
      clear hK K
      refine norm_ (a' := ?_) ?_ ?_
      rotate_left
      ·show Act.put _ (some 28) _ = _
       simp only [Act.put, List.setIfInBounds_toArray, List.set_cons_zero, List.set_cons_succ, i64_w, i32_w]
       rfl
      refine two_ (i := 6) (j := 10) (Ni := some 29) (Nj := some 6) #[true, true, true, true, true, true, true, false, false, false, false, false, false] #[true, true, true, true, true, true, false, false, false, false, true, false, false] rfl rfl rfl rfl (two_of HT_.out (by kernel_rfl)) (by decide) (by decide) (fun K hK => ?_) (fun K hK => ?_)
      ·skip
       refine goes_ Tryz.func57 (by kernel_rfl) rfl #[.agg #[.int .i64 a0_1, .int .u64 a0_2], .agg #[.int .i64 t154, .int .u64 t155]] (by rfl) rfl rfl argt ?_
       with_reducible refine (wide_Int_Add.calls a0_1 a0_2 t154 t155 t156 t157 true _ A35.out).mono ?_
       rintro e w39 ⟨rfl, hb⟩
       refine ⟨_, rfl, ?_⟩
       replace BK149 := blkb BK149 hb
       replace BK150 := blkb BK150 hb
       replace BK151 := blkb BK151 hb
       replace HB := belb HB hb
       (try clear hb)
       (try clear hb2)
       (try clear hk)
       (try clear hi)
       refine hK.out _ _ ⟨bc BK149 0, bc BK149 1, bc BK149 2, bc BK149 3, bc BK149 4, bc BK150 0, bc BK150 1, bc BK150 2⟩ (fun hHeld => ?_)
       clear hK K
       refine norm_ (a' := ?_) ?_ ?_
       rotate_left
       ·show Act.put _ (some 29) _ = _
        simp only [Act.put, List.setIfInBounds_toArray, List.set_cons_zero, List.set_cons_succ, i64_w, i32_w]
        rfl
       refine pure_ (i := 7) (N := some 22) (v := ?_) (a' := ?_) #[true, true, true, true, true, true, true, true, false, false, false, false, false] rfl rfl (any_of HT_.out (by kernel_rfl)) (fun _ _ _ h => h) (Or.inl ⟨by rfl, ?_⟩) ?_ ?_
       rotate_left
       ·intro w'
        go_simp
        with_reducible rfl
       rotate_left
       ·simp only [Act.put, List.setIfInBounds_toArray, List.set_cons_zero, List.set_cons_succ, i64_w, i32_w]
        rfl
       refine pure_ (i := 8) (N := some 30) (v := ?_) (a' := ?_) #[true, true, true, true, true, true, true, true, true, false, false, false, false] rfl rfl (any_of HT_.out (by kernel_rfl)) (fun _ _ _ h => h) (Or.inl ⟨by rfl, ?_⟩) ?_ ?_
       rotate_left
       ·intro w'
        go_simp
        with_reducible rfl
       rotate_left
       ·simp only [Act.put, List.setIfInBounds_toArray, List.set_cons_zero, List.set_cons_succ, i64_w, i32_w]
        rfl
       refine pure_ (i := 9) (N := some 31) (v := ?_) (a' := ?_) #[true, true, true, true, true, true, true, true, true, true, false, false, false] rfl rfl (any_of HT_.out (by kernel_rfl)) (fun _ _ _ h => h) (Or.inl ⟨by rfl, ?_⟩) ?_ ?_
       rotate_left
       ·intro w'
        go_simp
        with_reducible rfl
       rotate_left
       ·simp only [Act.put, List.setIfInBounds_toArray, List.set_cons_zero, List.set_cons_succ, i64_w, i32_w]
        rfl
       refine one_ (i := 10) (N := some 6) #[true, true, true, true, true, true, true, true, true, true, true, false, false] rfl rfl (one_of HT_.out (by kernel_rfl)) (by decide) (fun K hK => ?_)
       refine box_step ?hg (N := 6) ?hd (cs := #[.int .i64 0, .int .u64 0]) (t := 31) ?hr ?_; (case hd => rfl); (case hg => rfl); (case hr => first | (go_simp; done) | (go_simp; rfl))
       intro gb159 hg w40 hbox hb
       have BK159 := Aside0.mk (hbox)
       have GW159 := bels HB hg
       have GE159 := bels HB hg
       have NB149_159 := blkl BK149 hg
       have NB159_149 := blkg BK149 hg
       have NB150_159 := blkl BK150 hg
       have NB159_150 := blkg BK150 hg
       have NB151_159 := blkl BK151 hg
       have NB159_151 := blkg BK151 hg
       replace BK149 := blkb BK149 hb
       replace BK150 := blkb BK150 hb
       replace BK151 := blkb BK151 hb
       replace HB := belb HB hb
       clear hb hbox hg
       refine hK.out _ _ ⟨bc BK149 0, bc BK149 1, bc BK149 2, bc BK149 3, bc BK149 4, bc BK150 0, bc BK150 1, bc BK150 2⟩ (fun hHeld => ?_)
       clear hK K
       refine norm_ (a' := ?_) ?_ ?_
       rotate_left
       ·show Act.put _ (some 6) _ = _
        simp only [Act.put, List.setIfInBounds_toArray, List.set_cons_zero, List.set_cons_succ, i64_w, i32_w]
        rfl
       exact norm_ (by simp only [putAll, Act.put, List.setIfInBounds_toArray, List.set_cons_zero, List.set_cons_succ]) (hCont (gb159) _ ⟨hHeld, (blkt BK149), (blkt BK150), (blkt BK151), (blkt BK159), GW159.out, GE159.out, NB149_159.out, NB159_149.out, NB150_159.out, NB159_150.out, NB151_159.out, NB159_151.out, (belt HB)⟩)
      skip
      refine box_step ?hg (N := 6) ?hd (cs := #[.int .i64 0, .int .u64 0]) (t := 31) ?hr ?_; (case hd => rfl); (case hg => rfl); (case hr => first | (go_simp; done) | (go_simp; rfl))
      intro gb159 hg w39 hbox hb
      have BK159 := Aside0.mk (hbox)
      have GW159 := bels HB hg
      have GE159 := bels HB hg
      have NB149_159 := blkl BK149 hg
      have NB159_149 := blkg BK149 hg
      have NB150_159 := blkl BK150 hg
      have NB159_150 := blkg BK150 hg
      have NB151_159 := blkl BK151 hg
      have NB159_151 := blkg BK151 hg
      replace BK149 := blkb BK149 hb
      replace BK150 := blkb BK150 hb
      replace BK151 := blkb BK151 hb
      replace HB := belb HB hb
      clear hb hbox hg
      refine hK.out _ _ ⟨bc BK149 0, bc BK149 1, bc BK149 2, bc BK149 3, bc BK149 4, bc BK150 0, bc BK150 1, bc BK150 2⟩ (fun hHeld => ?_)
      clear hK K
      refine norm_ (a' := ?_) ?_ ?_
      rotate_left
      ·show Act.put _ (some 6) _ = _
       simp only [Act.put, List.setIfInBounds_toArray, List.set_cons_zero, List.set_cons_succ, i64_w, i32_w]
       rfl
      refine one_ (i := 6) (N := some 29) #[true, true, true, true, true, true, true, false, false, false, true, false, false] rfl rfl (one_of HT_.out (by kernel_rfl)) (by decide) (fun K hK => ?_)
      refine goes_ Tryz.func57 (by kernel_rfl) rfl #[.agg #[.int .i64 a0_1, .int .u64 a0_2], .agg #[.int .i64 t154, .int .u64 t155]] (by rfl) rfl rfl argt ?_
      with_reducible refine (wide_Int_Add.calls a0_1 a0_2 t154 t155 t156 t157 true _ A35.out).mono ?_
      rintro e w40 ⟨rfl, hb⟩
      refine ⟨_, rfl, ?_⟩
      replace BK149 := blkb BK149 hb
      replace BK150 := blkb BK150 hb
      replace BK151 := blkb BK151 hb
      replace BK159 := blkb BK159 hb
      replace HB := belb HB hb
      (try clear hb)
      (try clear hb2)
      (try clear hk)
      (try clear hi)
      refine hK.out _ _ ⟨bc BK149 0, bc BK149 1, bc BK149 2, bc BK149 3, bc BK149 4, bc BK150 0, bc BK150 1, bc BK150 2⟩ (fun hHeld => ?_)
      clear hK K
      refine norm_ (a' := ?_) ?_ ?_
      rotate_left
      ·show Act.put _ (some 29) _ = _
       simp only [Act.put, List.setIfInBounds_toArray, List.set_cons_zero, List.set_cons_succ, i64_w, i32_w]
       rfl
      refine pure_ (i := 7) (N := some 22) (v := ?_) (a' := ?_) #[true, true, true, true, true, true, true, true, false, false, true, false, false] rfl rfl (any_of HT_.out (by kernel_rfl)) (fun _ _ _ h => h) (Or.inl ⟨by rfl, ?_⟩) ?_ ?_
      rotate_left
      ·intro w'
       go_simp
       with_reducible rfl
      rotate_left
      ·simp only [Act.put, List.setIfInBounds_toArray, List.set_cons_zero, List.set_cons_succ, i64_w, i32_w]
       rfl
      refine pure_ (i := 8) (N := some 30) (v := ?_) (a' := ?_) #[true, true, true, true, true, true, true, true, true, false, true, false, false] rfl rfl (any_of HT_.out (by kernel_rfl)) (fun _ _ _ h => h) (Or.inl ⟨by rfl, ?_⟩) ?_ ?_
      rotate_left
      ·intro w'
       go_simp
       with_reducible rfl
      rotate_left
      ·simp only [Act.put, List.setIfInBounds_toArray, List.set_cons_zero, List.set_cons_succ, i64_w, i32_w]
       rfl
      refine pure_ (i := 9) (N := some 31) (v := ?_) (a' := ?_) #[true, true, true, true, true, true, true, true, true, true, true, false, false] rfl rfl (any_of HT_.out (by kernel_rfl)) (fun _ _ _ h => h) (Or.inl ⟨by rfl, ?_⟩) ?_ ?_
      rotate_left
      ·intro w'
       go_simp
       with_reducible rfl
      rotate_left
      ·simp only [Act.put, List.setIfInBounds_toArray, List.set_cons_zero, List.set_cons_succ, i64_w, i32_w]
       rfl
      exact norm_ (by simp only [putAll, Act.put, List.setIfInBounds_toArray, List.set_cons_zero, List.set_cons_succ]) (hCont (gb159) _ ⟨hHeld, (blkt BK149), (blkt BK150), (blkt BK151), (blkt BK159), GW159.out, GE159.out, NB149_159.out, NB159_149.out, NB150_159.out, NB159_150.out, NB151_159.out, NB159_151.out, (belt HB)⟩)
     skip
     refine box_step ?hg (N := 6) ?hd (cs := #[.int .i64 0, .int .u64 0]) (t := 31) ?hr ?_; (case hd => rfl); (case hg => rfl); (case hr => first | (go_simp; done) | (go_simp; rfl))
     intro gb159 hg w38 hbox hb
     have BK159 := Aside0.mk (hbox)
     have GW159 := bels HB hg
     have GE159 := bels HB hg
     have NB149_159 := blkl BK149 hg
     have NB159_149 := blkg BK149 hg
     have NB150_159 := blkl BK150 hg
     have NB159_150 := blkg BK150 hg
     have NB151_159 := blkl BK151 hg
     have NB159_151 := blkg BK151 hg
     replace BK149 := blkb BK149 hb
     replace BK150 := blkb BK150 hb
     replace BK151 := blkb BK151 hb
     replace HB := belb HB hb
     clear hb hbox hg
     refine hK.out _ _ ⟨bc BK149 0, bc BK149 1, bc BK149 2, bc BK149 3, bc BK149 4, bc BK150 0, bc BK150 1, bc BK150 2⟩ (fun hHeld => ?_)
     clear hK K
     refine norm_ (a' := ?_) ?_ ?_
     rotate_left
     ·show Act.put _ (some 6) _ = _
      simp only [Act.put, List.setIfInBounds_toArray, List.set_cons_zero, List.set_cons_succ, i64_w, i32_w]
      rfl
     refine one_ (i := 5) (N := some 28) #[true, true, true, true, true, true, false, false, false, false, true, false, false] rfl rfl (one_of HT_.out (by kernel_rfl)) (by decide) (fun K hK => ?_)
     refine goes_ Tryz.func59 (by kernel_rfl) rfl #[.agg #[.int .u64 a1_0, .int .u32 a1_1, .int .u32 a1_2], .int .u64 a0_0] (by rfl) rfl rfl argt ?_
     with_reducible refine (pos_Pos_Distance.calls kj2 a1_0 a1_1 a1_2 a0_0 t154 t155 _ A34.out).mono ?_
     rintro e w39 ⟨rfl, hb⟩
     refine ⟨_, rfl, ?_⟩
     replace BK149 := blkb BK149 hb
     replace BK150 := blkb BK150 hb
     replace BK151 := blkb BK151 hb
     replace BK159 := blkb BK159 hb
     replace HB := belb HB hb
     (try clear hb)
     (try clear hb2)
     (try clear hk)
     (try clear hi)
     refine hK.out _ _ ⟨bc BK149 0, bc BK149 1, bc BK149 2, bc BK149 3, bc BK149 4, bc BK150 0, bc BK150 1, bc BK150 2⟩ (fun hHeld => ?_)
     clear hK K
     refine norm_ (a' := ?_) ?_ ?_
     rotate_left
     ·show Act.put _ (some 28) _ = _
      simp only [Act.put, List.setIfInBounds_toArray, List.set_cons_zero, List.set_cons_succ, i64_w, i32_w]
      rfl
     refine one_ (i := 6) (N := some 29) #[true, true, true, true, true, true, true, false, false, false, true, false, false] rfl rfl (one_of HT_.out (by kernel_rfl)) (by decide) (fun K hK => ?_)
     refine goes_ Tryz.func57 (by kernel_rfl) rfl #[.agg #[.int .i64 a0_1, .int .u64 a0_2], .agg #[.int .i64 t154, .int .u64 t155]] (by rfl) rfl rfl argt ?_
     with_reducible refine (wide_Int_Add.calls a0_1 a0_2 t154 t155 t156 t157 true _ A35.out).mono ?_
     rintro e w40 ⟨rfl, hb⟩
     refine ⟨_, rfl, ?_⟩
     replace BK149 := blkb BK149 hb
     replace BK150 := blkb BK150 hb
     replace BK151 := blkb BK151 hb
     replace BK159 := blkb BK159 hb
     replace HB := belb HB hb
     (try clear hb)
     (try clear hb2)
     (try clear hk)
     (try clear hi)
     refine hK.out _ _ ⟨bc BK149 0, bc BK149 1, bc BK149 2, bc BK149 3, bc BK149 4, bc BK150 0, bc BK150 1, bc BK150 2⟩ (fun hHeld => ?_)
     clear hK K
     refine norm_ (a' := ?_) ?_ ?_
     rotate_left
     ·show Act.put _ (some 29) _ = _
      simp only [Act.put, List.setIfInBounds_toArray, List.set_cons_zero, List.set_cons_succ, i64_w, i32_w]
      rfl
     refine pure_ (i := 7) (N := some 22) (v := ?_) (a' := ?_) #[true, true, true, true, true, true, true, true, false, false, true, false, false] rfl rfl (any_of HT_.out (by kernel_rfl)) (fun _ _ _ h => h) (Or.inl ⟨by rfl, ?_⟩) ?_ ?_
     rotate_left
     ·intro w'
      go_simp
      with_reducible rfl
     rotate_left
     ·simp only [Act.put, List.setIfInBounds_toArray, List.set_cons_zero, List.set_cons_succ, i64_w, i32_w]
      rfl
     refine pure_ (i := 8) (N := some 30) (v := ?_) (a' := ?_) #[true, true, true, true, true, true, true, true, true, false, true, false, false] rfl rfl (any_of HT_.out (by kernel_rfl)) (fun _ _ _ h => h) (Or.inl ⟨by rfl, ?_⟩) ?_ ?_
     rotate_left
     ·intro w'
      go_simp
      with_reducible rfl
     rotate_left
     ·simp only [Act.put, List.setIfInBounds_toArray, List.set_cons_zero, List.set_cons_succ, i64_w, i32_w]
      rfl
     refine pure_ (i := 9) (N := some 31) (v := ?_) (a' := ?_) #[true, true, true, true, true, true, true, true, true, true, true, false, false] rfl rfl (any_of HT_.out (by kernel_rfl)) (fun _ _ _ h => h) (Or.inl ⟨by rfl, ?_⟩) ?_ ?_
     rotate_left
     ·intro w'
      go_simp
      with_reducible rfl
     rotate_left
     ·simp only [Act.put, List.setIfInBounds_toArray, List.set_cons_zero, List.set_cons_succ, i64_w, i32_w]
      rfl
     exact norm_ (by simp only [putAll, Act.put, List.setIfInBounds_toArray, List.set_cons_zero, List.set_cons_succ]) (hCont (gb159) _ ⟨hHeld, (blkt BK149), (blkt BK150), (blkt BK151), (blkt BK159), GW159.out, GE159.out, NB149_159.out, NB159_149.out, NB150_159.out, NB159_150.out, NB151_159.out, NB159_151.out, (belt HB)⟩)
    rintro gb159 w41 ⟨hS_, h0_, h1_, h2_, h3_, h4_, h5_, h6_, h7_, h8_, h9_, h10_, h11_, h12_⟩
    replace BK149 : Aside0 (w41.heap[gb149]? = some (.cells #[.int .u64 a0_0, .int .i64 a0_1, .int .u64 a0_2, .int .u64 a0_3, .int .i64 a0_4] 33 (0, 0))) := ⟨h0_⟩
    replace BK150 : Aside0 (w41.heap[gb150]? = some (.cells #[.int .u64 a1_0, .int .u32 a1_1, .int .u32 a1_2] 28 (0, 0))) := ⟨h1_⟩
    replace BK151 : Aside0 (w41.heap[gb151]? = some (.cells #[.int .u64 0, .int .i64 0, .int .u64 0, .int .u64 0, .int .i64 0] 33 (0, 0))) := ⟨h2_⟩
    have BK159 : Aside0 (w41.heap[gb159]? = some (.cells #[.int .i64 0, .int .u64 0] 31 (0, 0))) := ⟨h3_⟩
    have GW159 : Aside0 (w.heap.size ≤ gb159) := ⟨h4_⟩
    have GE159 : Aside0 (w.heap.size ≤ gb159) := ⟨h5_⟩
    have NB149_159 : Aside0 (gb149 ≠ gb159) := ⟨h6_⟩
    have NB159_149 : Aside0 (gb159 ≠ gb149) := ⟨h7_⟩
    have NB150_159 : Aside0 (gb150 ≠ gb159) := ⟨h8_⟩
    have NB159_150 : Aside0 (gb159 ≠ gb150) := ⟨h9_⟩
    have NB151_159 : Aside0 (gb151 ≠ gb159) := ⟨h10_⟩
    have NB159_151 : Aside0 (gb159 ≠ gb151) := ⟨h11_⟩
    replace HB : Aside0 (Below w.heap.size w w41) := ⟨h12_⟩
    clear h0_ h1_ h2_ h3_ h4_ h5_ h6_ h7_ h8_ h9_ h10_ h11_ h12_
    have hHeld : w41.cell? ⟨gb149, 0, none⟩ = some (.int .u64 a0_0) ∧ w41.cell? ⟨gb149, 1, none⟩ = some (.int .i64 a0_1) ∧ w41.cell? ⟨gb149, 2, none⟩ = some (.int .u64 a0_2) ∧ w41.cell? ⟨gb149, 3, none⟩ = some (.int .u64 a0_3) ∧ w41.cell? ⟨gb149, 4, none⟩ = some (.int .i64 a0_4) ∧ w41.cell? ⟨gb150, 0, none⟩ = some (.int .u64 a1_0) ∧ w41.cell? ⟨gb150, 1, none⟩ = some (.int .u32 a1_1) ∧ w41.cell? ⟨gb150, 2, none⟩ = some (.int .u32 a1_2) := hS_
    refine norm_ (a' := ?_) ?_ ?_
    rotate_left
    ·simp only [putAll, Act.put, List.setIfInBounds_toArray, List.set_cons_zero, List.set_cons_succ]
     rfl
    refine one_ (i := 11) (N := none) #[true, true, true, true, true, true, true, true, true, true, true, true, false] rfl rfl (one_of HT_.out (by kernel_rfl)) (by decide) (fun K hK => ?_)
    have hs42 : w41.cell? ⟨gb159, 0, none⟩ = some (.int .i64 0) := bc BK159 0
    have hfs42 := blk_frozen BK159.out 0
    have hns42_0 := NB149_159.out
    have hns42_1 := NB150_159.out
    have hns42_2 := NB151_159.out
    have hms42_0 := NB159_149.out
    have hms42_1 := NB159_150.out
    have hms42_2 := NB159_151.out
    have hs43 : w41.cell? ⟨gb159, 1, none⟩ = some (.int .u64 0) := bc BK159 1
    have hfs43 := blk_frozen BK159.out 1
    have hns43_0 := NB149_159.out
    have hns43_1 := NB150_159.out
    have hns43_2 := NB151_159.out
    have hms43_0 := NB159_149.out
    have hms43_1 := NB159_150.out
    have hms43_2 := NB159_151.out
    refine skip_ (w1 := ?_) (by rfl) rfl ?_ ?_
    rotate_left
    ·go_simp
     rfl
    refine hK.out _ _ ⟨((cell_far (p := ⟨gb159, _, none⟩) NB149_159.out _).trans (((cell_far (p := ⟨gb159, _, none⟩) NB149_159.out _).trans (hHeld.1)))), ((cell_far (p := ⟨gb159, _, none⟩) NB149_159.out _).trans (((cell_far (p := ⟨gb159, _, none⟩) NB149_159.out _).trans (hHeld.2.1)))), ((cell_far (p := ⟨gb159, _, none⟩) NB149_159.out _).trans (((cell_far (p := ⟨gb159, _, none⟩) NB149_159.out _).trans (hHeld.2.2.1)))), ((cell_far (p := ⟨gb159, _, none⟩) NB149_159.out _).trans (((cell_far (p := ⟨gb159, _, none⟩) NB149_159.out _).trans (hHeld.2.2.2.1)))), ((cell_far (p := ⟨gb159, _, none⟩) NB149_159.out _).trans (((cell_far (p := ⟨gb159, _, none⟩) NB149_159.out _).trans (hHeld.2.2.2.2.1)))), ((cell_far (p := ⟨gb159, _, none⟩) NB150_159.out _).trans (((cell_far (p := ⟨gb159, _, none⟩) NB150_159.out _).trans (hHeld.2.2.2.2.2.1)))), ((cell_far (p := ⟨gb159, _, none⟩) NB150_159.out _).trans (((cell_far (p := ⟨gb159, _, none⟩) NB150_159.out _).trans (hHeld.2.2.2.2.2.2.1)))), ((cell_far (p := ⟨gb159, _, none⟩) NB150_159.out _).trans (((cell_far (p := ⟨gb159, _, none⟩) NB150_159.out _).trans (hHeld.2.2.2.2.2.2.2))))⟩ (fun hHeld => ?_)
    clear hK K
    refine pure_ (i := 12) (N := some 7) (v := ?_) (a' := ?_) #[true, true, true, true, true, true, true, true, true, true, true, true, true] rfl rfl (any_of HT_.out (by kernel_rfl)) (fun _ _ _ h => h) (Or.inl ⟨by rfl, ?_⟩) ?_ ?_
    rotate_left
    ·intro w'
     go_simp
     with_reducible rfl
    rotate_left
    ·simp only [Act.put, List.setIfInBounds_toArray, List.set_cons_zero, List.set_cons_succ, i64_w, i32_w]
     rfl
    refine done_ (done_of HT_.out (by kernel_rfl)) ?_
    have hnb44 := NB149_150.out
    have hnc44 := NB150_149.out
    have hnb45 := NB149_151.out
    have hnc45 := NB151_149.out
    have hnb46 := NB149_159.out
    have hnc46 := NB159_149.out
    have hcz47_0 : w41.cell? ⟨gb149, 0, none⟩ = some (.int .u64 a0_0) := bc BK149 0
    have hcz47_1 : w41.cell? ⟨gb149, 1, none⟩ = some (.int .i64 a0_1) := bc BK149 1
    have hcz47_2 : w41.cell? ⟨gb149, 2, none⟩ = some (.int .u64 a0_2) := bc BK149 2
    have hcz47_3 : w41.cell? ⟨gb149, 3, none⟩ = some (.int .u64 a0_3) := bc BK149 3
    have hcz47_4 : w41.cell? ⟨gb149, 4, none⟩ = some (.int .i64 a0_4) := bc BK149 4
    have hfz47_0 := blk_frozen BK149.out 0
    have hfz47_1 := blk_frozen BK149.out 1
    have hfz47_2 := blk_frozen BK149.out 2
    have hfz47_3 := blk_frozen BK149.out 3
    have hfz47_4 := blk_frozen BK149.out 4
    have hnb48 := NB159_150.out
    have hnc48 := NB150_159.out
    have hnb49 := NB159_151.out
    have hnc49 := NB151_159.out
    have hcz50_0 : w41.cell? ⟨gb159, 0, none⟩ = some (.int .i64 0) := bc BK159 0
    have hcz50_1 : w41.cell? ⟨gb159, 1, none⟩ = some (.int .u64 0) := bc BK159 1
    have hfz50_0 := blk_frozen BK159.out 0
    have hfz50_1 := blk_frozen BK159.out 1
    have hnb51 := NB150_151.out
    have hnc51 := NB151_150.out
    have hcz52_0 : w41.cell? ⟨gb150, 0, none⟩ = some (.int .u64 a1_0) := bc BK150 0
    have hcz52_1 : w41.cell? ⟨gb150, 1, none⟩ = some (.int .u32 a1_1) := bc BK150 1
    have hcz52_2 : w41.cell? ⟨gb150, 2, none⟩ = some (.int .u32 a1_2) := bc BK150 2
    have hfz52_0 := blk_frozen BK150.out 0
    have hfz52_1 := blk_frozen BK150.out 1
    have hfz52_2 := blk_frozen BK150.out 2
    have hcz53_0 : w41.cell? ⟨gb151, 0, none⟩ = some (.int .u64 0) := bc BK151 0
    have hcz53_1 : w41.cell? ⟨gb151, 1, none⟩ = some (.int .i64 0) := bc BK151 1
    have hcz53_2 : w41.cell? ⟨gb151, 2, none⟩ = some (.int .u64 0) := bc BK151 2
    have hcz53_3 : w41.cell? ⟨gb151, 3, none⟩ = some (.int .u64 0) := bc BK151 3
    have hcz53_4 : w41.cell? ⟨gb151, 4, none⟩ = some (.int .i64 0) := bc BK151 4
    have hfz53_0 := blk_frozen BK151.out 0
    have hfz53_1 := blk_frozen BK151.out 1
    have hfz53_2 := blk_frozen BK151.out 2
    have hfz53_3 := blk_frozen BK151.out 3
    have hfz53_4 := blk_frozen BK151.out 4
    try go_wp2
    refine bodyPost_ret (results_ct rfl _ _ gb151 33 #[.int .u64 a0_0, .int .i64 t156, .int .u64 t157, .int .u64 (IntKind.u64.wrap (a0_3 + (IntKind.u64.wrap (a1_2)))), .int .i64 (wrap64 (a0_4 + 1))] (0, 0) _ rfl (by (with_reducible repeat (first | refine blk_drewN ?_ _ | refine blk_drew ?_ | refine blk_alloc ?_ _)); refine blk_put (cs := #[.int .u64 a0_0, .int .i64 t156, .int .u64 t157, .int .u64 (IntKind.u64.wrap (a0_3 + (IntKind.u64.wrap (a1_2)))), .int .i64 0]) ?_ 4 _ rfl; (with_reducible repeat (first | refine blk_drewN ?_ _ | refine blk_drew ?_ | refine blk_alloc ?_ _)); refine blk_put (cs := #[.int .u64 a0_0, .int .i64 t156, .int .u64 t157, .int .u64 0, .int .i64 0]) ?_ 3 _ rfl; (with_reducible repeat (first | refine blk_drewN ?_ _ | refine blk_drew ?_ | refine blk_alloc ?_ _)); refine blk_put (cs := #[.int .u64 a0_0, .int .i64 t156, .int .u64 0, .int .u64 0, .int .i64 0]) ?_ 2 _ rfl; (with_reducible repeat (first | refine blk_drewN ?_ _ | refine blk_drew ?_ | refine blk_alloc ?_ _)); refine blk_put (cs := #[.int .u64 a0_0, .int .i64 0, .int .u64 0, .int .u64 0, .int .i64 0]) ?_ 1 _ rfl; (with_reducible repeat (first | refine blk_drewN ?_ _ | refine blk_drew ?_ | refine blk_alloc ?_ _)); refine blk_put (cs := #[.int .u64 0, .int .i64 0, .int .u64 0, .int .u64 0, .int .i64 0]) ?_ 0 _ rfl; (with_reducible repeat (first | refine blk_drewN ?_ _ | refine blk_drew ?_ | refine blk_alloc ?_ _)); refine blk_far ?_ NB151_159.out _; (with_reducible repeat (first | refine blk_drewN ?_ _ | refine blk_drew ?_ | refine blk_alloc ?_ _)); refine blk_far ?_ NB151_159.out _; exact blkt BK151) Tryz.underlying33 rfl (by kernel_rfl)) rfl ?_
    exact ⟨by first | rfl | (simp [errW_none, errW_some] <;> rfl) | (simp [*, errW_none, errW_some] <;> rfl), belt HB⟩
   replace c36 := Bool.eq_false_iff.mpr c36
   subst c36
   have H1 : (some (0, 0, 0, 0, 0, false)) = some (r1, r2, r3, r4, r5, r6) := by rw [if_neg (show ¬ (false = true) by decide)] at H; exact H
   clear H
   have H := H1
   clear H1
   simp only [Option.some.injEq, Prod.mk.injEq] at H
   obtain ⟨rfl, rfl, rfl, rfl, rfl, rfl⟩ := H
   try go_wp2
   replace BK149 := Aside0.mk (blk_drew BK149.out)
   replace BK150 := Aside0.mk (blk_drew BK150.out)
   replace BK151 := Aside0.mk (blk_drew BK151.out)
   replace HB := Aside0.mk (below_drew1 HB.out)
   refine start_ (n := 13) (S := fun w' => w'.cell? ⟨gb149, 0, none⟩ = some (.int .u64 a0_0) ∧ w'.cell? ⟨gb149, 1, none⟩ = some (.int .i64 a0_1) ∧ w'.cell? ⟨gb149, 2, none⟩ = some (.int .u64 a0_2) ∧ w'.cell? ⟨gb149, 3, none⟩ = some (.int .u64 a0_3) ∧ w'.cell? ⟨gb149, 4, none⟩ = some (.int .i64 a0_4) ∧ w'.cell? ⟨gb150, 0, none⟩ = some (.int .u64 a1_0) ∧ w'.cell? ⟨gb150, 1, none⟩ = some (.int .u32 a1_1) ∧ w'.cell? ⟨gb150, 2, none⟩ = some (.int .u32 a1_2)) (ds := []) #[false, false, false, false, false, false, false, false, false, false, false, false, false] (by kernel_rfl) rfl rfl ⟨bc BK149 0, bc BK149 1, bc BK149 2, bc BK149 3, bc BK149 4, bc BK150 0, bc BK150 1, bc BK150 2⟩ (fun hHeld => ?_); refine with_tabW mean_Mean_Add.tab3 mean_Mean_Add.bits3 (fun HT_ HW_ => ?_)
   generalize wc.drew = w54 at BK149 BK150 BK151 HB hHeld ⊢
   refine pure_ (i := 0) (N := some 23) (v := ?_) (a' := ?_) #[true, false, false, false, false, false, false, false, false, false, false, false, false] rfl rfl (any_of HT_.out (by kernel_rfl)) (fun _ _ _ h => h) (Or.inl ⟨by rfl, ?_⟩) ?_ ?_
   rotate_left
   ·intro w'
    go_simp
    with_reducible rfl
   rotate_left
   ·simp only [Act.put, List.setIfInBounds_toArray, List.set_cons_zero, List.set_cons_succ, i64_w, i32_w]
    rfl
   refine pure_ (i := 3) (N := some 26) (v := ?_) (a' := ?_) #[true, false, false, true, false, false, false, false, false, false, false, false, false] rfl rfl (any_of HT_.out (by kernel_rfl)) (fun _ _ _ h => h) (Or.inl ⟨by rfl, ?_⟩) ?_ ?_
   rotate_left
   ·intro w'
    go_simp
    with_reducible rfl
   rotate_left
   ·simp only [Act.put, List.setIfInBounds_toArray, List.set_cons_zero, List.set_cons_succ, i64_w, i32_w]
    rfl
   refine take_ (i := 1) (N := some 24) (v := ?_) (a' := ?_) #[true, true, false, true, false, false, false, false, false, false, false, false, false] rfl rfl (take_ofW HT_.out HW_.out (by kernel_rfl)) (fun _ _ _ h => h) (Or.inl ⟨by rfl, ?_⟩) hHeld ?_ ?_
   rotate_left
   ·rintro w' ⟨s0, s1, s2, s3, s4, s5, s6, s7⟩
    go_simp
    with_reducible rfl
   rotate_left
   ·simp only [Act.put, List.setIfInBounds_toArray, List.set_cons_zero, List.set_cons_succ, i64_w, i32_w]
    rfl
   refine take_ (i := 2) (N := some 25) (v := ?_) (a' := ?_) #[true, true, true, true, false, false, false, false, false, false, false, false, false] rfl rfl (take_ofW HT_.out HW_.out (by kernel_rfl)) (fun _ _ _ h => h) (Or.inl ⟨by rfl, ?_⟩) hHeld ?_ ?_
   rotate_left
   ·rintro w' ⟨s0, s1, s2, s3, s4, s5, s6, s7⟩
    go_simp
    with_reducible rfl
   rotate_left
   ·simp only [Act.put, List.setIfInBounds_toArray, List.set_cons_zero, List.set_cons_succ, i64_w, i32_w]
    rfl
   refine take_ (i := 4) (N := some 27) (v := ?_) (a' := ?_) #[true, true, true, true, true, false, false, false, false, false, false, false, false] rfl rfl (take_ofW HT_.out HW_.out (by kernel_rfl)) (fun _ _ _ h => h) (Or.inl ⟨by rfl, ?_⟩) hHeld ?_ ?_
   rotate_left
   ·rintro w' ⟨s0, s1, s2, s3, s4, s5, s6, s7⟩
    go_simp
    with_reducible rfl
   rotate_left
   ·simp only [Act.put, List.setIfInBounds_toArray, List.set_cons_zero, List.set_cons_succ, i64_w, i32_w]
    rfl
   refine join_ (σ := Nat) 2 #[true, true, true, true, true, true, true, true, true, true, true, false, false] (fun s_ => [(28, .agg #[.int .i64 t154, .int .u64 t155]), (29, .tuple #[.agg #[.int .i64 t156, .int .u64 t157], .bool false]), (6, .pointer (some ⟨s_, 0, none⟩)), (22, .tuple #[.agg #[.int .i64 t156, .int .u64 t157], .bool false]), (30, .agg #[.int .i64 t156, .int .u64 t157]), (31, .bool false)]) (fun s_ w' => (w'.cell? ⟨gb149, 0, none⟩ = some (.int .u64 a0_0) ∧ w'.cell? ⟨gb149, 1, none⟩ = some (.int .i64 a0_1) ∧ w'.cell? ⟨gb149, 2, none⟩ = some (.int .u64 a0_2) ∧ w'.cell? ⟨gb149, 3, none⟩ = some (.int .u64 a0_3) ∧ w'.cell? ⟨gb149, 4, none⟩ = some (.int .i64 a0_4) ∧ w'.cell? ⟨gb150, 0, none⟩ = some (.int .u64 a1_0) ∧ w'.cell? ⟨gb150, 1, none⟩ = some (.int .u32 a1_1) ∧ w'.cell? ⟨gb150, 2, none⟩ = some (.int .u32 a1_2)) ∧ (w'.heap[gb149]? = some (.cells #[.int .u64 a0_0, .int .i64 a0_1, .int .u64 a0_2, .int .u64 a0_3, .int .i64 a0_4] 33 (0, 0))) ∧ (w'.heap[gb150]? = some (.cells #[.int .u64 a1_0, .int .u32 a1_1, .int .u32 a1_2] 28 (0, 0))) ∧ (w'.heap[gb151]? = some (.cells #[.int .u64 0, .int .i64 0, .int .u64 0, .int .u64 0, .int .i64 0] 33 (0, 0))) ∧ (w'.heap[s_]? = some (.cells #[.int .i64 0, .int .u64 0] 31 (0, 0))) ∧ (w.heap.size ≤ s_) ∧ (w.heap.size ≤ s_) ∧ (gb149 ≠ s_) ∧ (s_ ≠ gb149) ∧ (gb150 ≠ s_) ∧ (s_ ≠ gb150) ∧ (gb151 ≠ s_) ∧ (s_ ≠ gb151) ∧ (Below w.heap.size w w')) ?_ ?_
   rotate_left
   ·intro hCont
    refine two_ (i := 5) (j := 10) (Ni := some 28) (Nj := some 6) #[true, true, true, true, true, true, false, false, false, false, false, false, false] #[true, true, true, true, true, false, false, false, false, false, true, false, false] rfl rfl rfl rfl (two_of HT_.out (by kernel_rfl)) (by decide) (by decide) (fun K hK => ?_) (fun K hK => ?_)
    ·skip
     refine goes_ Tryz.func59 (by kernel_rfl) rfl #[.agg #[.int .u64 a1_0, .int .u32 a1_1, .int .u32 a1_2], .int .u64 a0_0] (by rfl) rfl rfl argt ?_
     with_reducible refine (pos_Pos_Distance.calls kj2 a1_0 a1_1 a1_2 a0_0 t154 t155 _ A34.out).mono ?_
     rintro e w55 ⟨rfl, hb⟩
     refine ⟨_, rfl, ?_⟩
     replace BK149 := blkb BK149 hb
     replace BK150 := blkb BK150 hb
     replace BK151 := blkb BK151 hb
     replace HB := belb HB hb
     (try clear hb)
     (try clear hb2)
     (try clear hk)
     (try clear hi)
     refine hK.out _ _ ⟨bc BK149 0, bc BK149 1, bc BK149 2, bc BK149 3, bc BK149 4, bc BK150 0, bc BK150 1, bc BK150 2⟩ (fun hHeld => ?_)
     clear hK K
     refine norm_ (a' := ?_) ?_ ?_
     rotate_left
     ·show Act.put _ (some 28) _ = _
      simp only [Act.put, List.setIfInBounds_toArray, List.set_cons_zero, List.set_cons_succ, i64_w, i32_w]
      rfl
     refine two_ (i := 6) (j := 10) (Ni := some 29) (Nj := some 6) #[true, true, true, true, true, true, true, false, false, false, false, false, false] #[true, true, true, true, true, true, false, false, false, false, true, false, false] rfl rfl rfl rfl (two_of HT_.out (by kernel_rfl)) (by decide) (by decide) (fun K hK => ?_) (fun K hK => ?_)
     ·skip
      refine goes_ Tryz.func57 (by kernel_rfl) rfl #[.agg #[.int .i64 a0_1, .int .u64 a0_2], .agg #[.int .i64 t154, .int .u64 t155]] (by rfl) rfl rfl argt ?_
      with_reducible refine (wide_Int_Add.calls a0_1 a0_2 t154 t155 t156 t157 false _ A35.out).mono ?_
      rintro e w56 ⟨rfl, hb⟩
      refine ⟨_, rfl, ?_⟩
      replace BK149 := blkb BK149 hb
      replace BK150 := blkb BK150 hb
      replace BK151 := blkb BK151 hb
      replace HB := belb HB hb
      (try clear hb)
      (try clear hb2)
      (try clear hk)
      (try clear hi)
      refine hK.out _ _ ⟨bc BK149 0, bc BK149 1, bc BK149 2, bc BK149 3, bc BK149 4, bc BK150 0, bc BK150 1, bc BK150 2⟩ (fun hHeld => ?_)
      clear hK K
      refine norm_ (a' := ?_) ?_ ?_
      rotate_left
      ·show Act.put _ (some 29) _ = _
       simp only [Act.put, List.setIfInBounds_toArray, List.set_cons_zero, List.set_cons_succ, i64_w, i32_w]
       rfl
      refine pure_ (i := 7) (N := some 22) (v := ?_) (a' := ?_) #[true, true, true, true, true, true, true, true, false, false, false, false, false] rfl rfl (any_of HT_.out (by kernel_rfl)) (fun _ _ _ h => h) (Or.inl ⟨by rfl, ?_⟩) ?_ ?_
      rotate_left
      ·intro w'
       go_simp
       with_reducible rfl
      rotate_left
      ·simp only [Act.put, List.setIfInBounds_toArray, List.set_cons_zero, List.set_cons_succ, i64_w, i32_w]
       rfl
      refine pure_ (i := 8) (N := some 30) (v := ?_) (a' := ?_) #[true, true, true, true, true, true, true, true, true, false, false, false, false] rfl rfl (any_of HT_.out (by kernel_rfl)) (fun _ _ _ h => h) (Or.inl ⟨by rfl, ?_⟩) ?_ ?_
      rotate_left
      ·intro w'
       go_simp
       with_reducible rfl
      rotate_left
      ·simp only [Act.put, List.setIfInBounds_toArray, List.set_cons_zero, List.set_cons_succ, i64_w, i32_w]
       rfl
      refine pure_ (i := 9) (N := some 31) (v := ?_) (a' := ?_) #[true, true, true, true, true, true, true, true, true, true, false, false, false] rfl rfl (any_of HT_.out (by kernel_rfl)) (fun _ _ _ h => h) (Or.inl ⟨by rfl, ?_⟩) ?_ ?_
      rotate_left
      ·intro w'
       go_simp
       with_reducible rfl
      rotate_left
      ·simp only [Act.put, List.setIfInBounds_toArray, List.set_cons_zero, List.set_cons_succ, i64_w, i32_w]
       rfl
      refine one_ (i := 10) (N := some 6) #[true, true, true, true, true, true, true, true, true, true, true, false, false] rfl rfl (one_of HT_.out (by kernel_rfl)) (by decide) (fun K hK => ?_)
      refine box_step ?hg (N := 6) ?hd (cs := #[.int .i64 0, .int .u64 0]) (t := 31) ?hr ?_; (case hd => rfl); (case hg => rfl); (case hr => first | (go_simp; done) | (go_simp; rfl))
      intro gb159 hg w57 hbox hb
      have BK159 := Aside0.mk (hbox)
      have GW159 := bels HB hg
      have GE159 := bels HB hg
      have NB149_159 := blkl BK149 hg
      have NB159_149 := blkg BK149 hg
      have NB150_159 := blkl BK150 hg
      have NB159_150 := blkg BK150 hg
      have NB151_159 := blkl BK151 hg
      have NB159_151 := blkg BK151 hg
      replace BK149 := blkb BK149 hb
      replace BK150 := blkb BK150 hb
      replace BK151 := blkb BK151 hb
      replace HB := belb HB hb
      clear hb hbox hg
      refine hK.out _ _ ⟨bc BK149 0, bc BK149 1, bc BK149 2, bc BK149 3, bc BK149 4, bc BK150 0, bc BK150 1, bc BK150 2⟩ (fun hHeld => ?_)
      clear hK K
      refine norm_ (a' := ?_) ?_ ?_
      rotate_left
      ·show Act.put _ (some 6) _ = _
       simp only [Act.put, List.setIfInBounds_toArray, List.set_cons_zero, List.set_cons_succ, i64_w, i32_w]
       rfl
      exact norm_ (by simp only [putAll, Act.put, List.setIfInBounds_toArray, List.set_cons_zero, List.set_cons_succ]) (hCont (gb159) _ ⟨hHeld, (blkt BK149), (blkt BK150), (blkt BK151), (blkt BK159), GW159.out, GE159.out, NB149_159.out, NB159_149.out, NB150_159.out, NB159_150.out, NB151_159.out, NB159_151.out, (belt HB)⟩)
     skip
     refine box_step ?hg (N := 6) ?hd (cs := #[.int .i64 0, .int .u64 0]) (t := 31) ?hr ?_; (case hd => rfl); (case hg => rfl); (case hr => first | (go_simp; done) | (go_simp; rfl))
     intro gb159 hg w56 hbox hb
     have BK159 := Aside0.mk (hbox)
     have GW159 := bels HB hg
     have GE159 := bels HB hg
     have NB149_159 := blkl BK149 hg
     have NB159_149 := blkg BK149 hg
     have NB150_159 := blkl BK150 hg
     have NB159_150 := blkg BK150 hg
     have NB151_159 := blkl BK151 hg
     have NB159_151 := blkg BK151 hg
     replace BK149 := blkb BK149 hb
     replace BK150 := blkb BK150 hb
     replace BK151 := blkb BK151 hb
     replace HB := belb HB hb
     clear hb hbox hg
     refine hK.out _ _ ⟨bc BK149 0, bc BK149 1, bc BK149 2, bc BK149 3, bc BK149 4, bc BK150 0, bc BK150 1, bc BK150 2⟩ (fun hHeld => ?_)
     clear hK K
     refine norm_ (a' := ?_) ?_ ?_
     rotate_left
     ·show Act.put _ (some 6) _ = _
      simp only [Act.put, List.setIfInBounds_toArray, List.set_cons_zero, List.set_cons_succ, i64_w, i32_w]
      rfl
     refine one_ (i := 6) (N := some 29) #[true, true, true, true, true, true, true, false, false, false, true, false, false] rfl rfl (one_of HT_.out (by kernel_rfl)) (by decide) (fun K hK => ?_)
     refine goes_ Tryz.func57 (by kernel_rfl) rfl #[.agg #[.int .i64 a0_1, .int .u64 a0_2], .agg #[.int .i64 t154, .int .u64 t155]] (by rfl) rfl rfl argt ?_
     with_reducible refine (wide_Int_Add.calls a0_1 a0_2 t154 t155 t156 t157 false _ A35.out).mono ?_
     rintro e w57 ⟨rfl, hb⟩
     refine ⟨_, rfl, ?_⟩
     replace BK149 := blkb BK149 hb
     replace BK150 := blkb BK150 hb
     replace BK151 := blkb BK151 hb
     replace BK159 := blkb BK159 hb
     replace HB := belb HB hb
     (try clear hb)
     (try clear hb2)
     (try clear hk)
     (try clear hi)
     refine hK.out _ _ ⟨bc BK149 0, bc BK149 1, bc BK149 2, bc BK149 3, bc BK149 4, bc BK150 0, bc BK150 1, bc BK150 2⟩ (fun hHeld => ?_)
     clear hK K
     refine norm_ (a' := ?_) ?_ ?_
     rotate_left
     ·show Act.put _ (some 29) _ = _
      simp only [Act.put, List.setIfInBounds_toArray, List.set_cons_zero, List.set_cons_succ, i64_w, i32_w]
      rfl
     refine pure_ (i := 7) (N := some 22) (v := ?_) (a' := ?_) #[true, true, true, true, true, true, true, true, false, false, true, false, false] rfl rfl (any_of HT_.out (by kernel_rfl)) (fun _ _ _ h => h) (Or.inl ⟨by rfl, ?_⟩) ?_ ?_
     rotate_left
     ·intro w'
      go_simp
      with_reducible rfl
     rotate_left
     ·simp only [Act.put, List.setIfInBounds_toArray, List.set_cons_zero, List.set_cons_succ, i64_w, i32_w]
      rfl
     refine pure_ (i := 8) (N := some 30) (v := ?_) (a' := ?_) #[true, true, true, true, true, true, true, true, true, false, true, false, false] rfl rfl (any_of HT_.out (by kernel_rfl)) (fun _ _ _ h => h) (Or.inl ⟨by rfl, ?_⟩) ?_ ?_
     rotate_left
     ·intro w'
      go_simp
      with_reducible rfl
     rotate_left
     ·simp only [Act.put, List.setIfInBounds_toArray, List.set_cons_zero, List.set_cons_succ, i64_w, i32_w]
      rfl
     refine pure_ (i := 9) (N := some 31) (v := ?_) (a' := ?_) #[true, true, true, true, true, true, true, true, true, true, true, false, false] rfl rfl (any_of HT_.out (by kernel_rfl)) (fun _ _ _ h => h) (Or.inl ⟨by rfl, ?_⟩) ?_ ?_
     rotate_left
     ·intro w'
      go_simp
      with_reducible rfl
     rotate_left
     ·simp only [Act.put, List.setIfInBounds_toArray, List.set_cons_zero, List.set_cons_succ, i64_w, i32_w]
      rfl
     exact norm_ (by simp only [putAll, Act.put, List.setIfInBounds_toArray, List.set_cons_zero, List.set_cons_succ]) (hCont (gb159) _ ⟨hHeld, (blkt BK149), (blkt BK150), (blkt BK151), (blkt BK159), GW159.out, GE159.out, NB149_159.out, NB159_149.out, NB150_159.out, NB159_150.out, NB151_159.out, NB159_151.out, (belt HB)⟩)
    skip
    refine box_step ?hg (N := 6) ?hd (cs := #[.int .i64 0, .int .u64 0]) (t := 31) ?hr ?_; (case hd => rfl); (case hg => rfl); (case hr => first | (go_simp; done) | (go_simp; rfl))
    intro gb159 hg w55 hbox hb
    have BK159 := Aside0.mk (hbox)
    have GW159 := bels HB hg
    have GE159 := bels HB hg
    have NB149_159 := blkl BK149 hg
    have NB159_149 := blkg BK149 hg
    have NB150_159 := blkl BK150 hg
    have NB159_150 := blkg BK150 hg
    have NB151_159 := blkl BK151 hg
    have NB159_151 := blkg BK151 hg
    replace BK149 := blkb BK149 hb
    replace BK150 := blkb BK150 hb
    replace BK151 := blkb BK151 hb
    replace HB := belb HB hb
    clear hb hbox hg
    refine hK.out _ _ ⟨bc BK149 0, bc BK149 1, bc BK149 2, bc BK149 3, bc BK149 4, bc BK150 0, bc BK150 1, bc BK150 2⟩ (fun hHeld => ?_)
    clear hK K
    refine norm_ (a' := ?_) ?_ ?_
    rotate_left
    ·show Act.put _ (some 6) _ = _
     simp only [Act.put, List.setIfInBounds_toArray, List.set_cons_zero, List.set_cons_succ, i64_w, i32_w]
     rfl
    refine one_ (i := 5) (N := some 28) #[true, true, true, true, true, true, false, false, false, false, true, false, false] rfl rfl (one_of HT_.out (by kernel_rfl)) (by decide) (fun K hK => ?_)
    refine goes_ Tryz.func59 (by kernel_rfl) rfl #[.agg #[.int .u64 a1_0, .int .u32 a1_1, .int .u32 a1_2], .int .u64 a0_0] (by rfl) rfl rfl argt ?_
    with_reducible refine (pos_Pos_Distance.calls kj2 a1_0 a1_1 a1_2 a0_0 t154 t155 _ A34.out).mono ?_
    rintro e w56 ⟨rfl, hb⟩
    refine ⟨_, rfl, ?_⟩
    replace BK149 := blkb BK149 hb
    replace BK150 := blkb BK150 hb
    replace BK151 := blkb BK151 hb
    replace BK159 := blkb BK159 hb
    replace HB := belb HB hb
    (try clear hb)
    (try clear hb2)
    (try clear hk)
    (try clear hi)
    refine hK.out _ _ ⟨bc BK149 0, bc BK149 1, bc BK149 2, bc BK149 3, bc BK149 4, bc BK150 0, bc BK150 1, bc BK150 2⟩ (fun hHeld => ?_)
    clear hK K
    refine norm_ (a' := ?_) ?_ ?_
    rotate_left
    ·show Act.put _ (some 28) _ = _
     simp only [Act.put, List.setIfInBounds_toArray, List.set_cons_zero, List.set_cons_succ, i64_w, i32_w]
     rfl
    refine one_ (i := 6) (N := some 29) #[true, true, true, true, true, true, true, false, false, false, true, false, false] rfl rfl (one_of HT_.out (by kernel_rfl)) (by decide) (fun K hK => ?_)
    refine goes_ Tryz.func57 (by kernel_rfl) rfl #[.agg #[.int .i64 a0_1, .int .u64 a0_2], .agg #[.int .i64 t154, .int .u64 t155]] (by rfl) rfl rfl argt ?_
    with_reducible refine (wide_Int_Add.calls a0_1 a0_2 t154 t155 t156 t157 false _ A35.out).mono ?_
    rintro e w57 ⟨rfl, hb⟩
    refine ⟨_, rfl, ?_⟩
    replace BK149 := blkb BK149 hb
    replace BK150 := blkb BK150 hb
    replace BK151 := blkb BK151 hb
    replace BK159 := blkb BK159 hb
    replace HB := belb HB hb
    (try clear hb)
    (try clear hb2)
    (try clear hk)
    (try clear hi)
    refine hK.out _ _ ⟨bc BK149 0, bc BK149 1, bc BK149 2, bc BK149 3, bc BK149 4, bc BK150 0, bc BK150 1, bc BK150 2⟩ (fun hHeld => ?_)
    clear hK K
    refine norm_ (a' := ?_) ?_ ?_
    rotate_left
    ·show Act.put _ (some 29) _ = _
     simp only [Act.put, List.setIfInBounds_toArray, List.set_cons_zero, List.set_cons_succ, i64_w, i32_w]
     rfl
    refine pure_ (i := 7) (N := some 22) (v := ?_) (a' := ?_) #[true, true, true, true, true, true, true, true, false, false, true, false, false] rfl rfl (any_of HT_.out (by kernel_rfl)) (fun _ _ _ h => h) (Or.inl ⟨by rfl, ?_⟩) ?_ ?_
    rotate_left
    ·intro w'
     go_simp
     with_reducible rfl
    rotate_left
    ·simp only [Act.put, List.setIfInBounds_toArray, List.set_cons_zero, List.set_cons_succ, i64_w, i32_w]
     rfl
    refine pure_ (i := 8) (N := some 30) (v := ?_) (a' := ?_) #[true, true, true, true, true, true, true, true, true, false, true, false, false] rfl rfl (any_of HT_.out (by kernel_rfl)) (fun _ _ _ h => h) (Or.inl ⟨by rfl, ?_⟩) ?_ ?_
    rotate_left
    ·intro w'
     go_simp
     with_reducible rfl
    rotate_left
    ·simp only [Act.put, List.setIfInBounds_toArray, List.set_cons_zero, List.set_cons_succ, i64_w, i32_w]
     rfl
    refine pure_ (i := 9) (N := some 31) (v := ?_) (a' := ?_) #[true, true, true, true, true, true, true, true, true, true, true, false, false] rfl rfl (any_of HT_.out (by kernel_rfl)) (fun _ _ _ h => h) (Or.inl ⟨by rfl, ?_⟩) ?_ ?_
    rotate_left
    ·intro w'
     go_simp
     with_reducible rfl
    rotate_left
    ·simp only [Act.put, List.setIfInBounds_toArray, List.set_cons_zero, List.set_cons_succ, i64_w, i32_w]
     rfl
    exact norm_ (by simp only [putAll, Act.put, List.setIfInBounds_toArray, List.set_cons_zero, List.set_cons_succ]) (hCont (gb159) _ ⟨hHeld, (blkt BK149), (blkt BK150), (blkt BK151), (blkt BK159), GW159.out, GE159.out, NB149_159.out, NB159_149.out, NB150_159.out, NB159_150.out, NB151_159.out, NB159_151.out, (belt HB)⟩)
   rintro gb159 w58 ⟨hS_, h0_, h1_, h2_, h3_, h4_, h5_, h6_, h7_, h8_, h9_, h10_, h11_, h12_⟩
   replace BK149 : Aside0 (w58.heap[gb149]? = some (.cells #[.int .u64 a0_0, .int .i64 a0_1, .int .u64 a0_2, .int .u64 a0_3, .int .i64 a0_4] 33 (0, 0))) := ⟨h0_⟩
   replace BK150 : Aside0 (w58.heap[gb150]? = some (.cells #[.int .u64 a1_0, .int .u32 a1_1, .int .u32 a1_2] 28 (0, 0))) := ⟨h1_⟩
   replace BK151 : Aside0 (w58.heap[gb151]? = some (.cells #[.int .u64 0, .int .i64 0, .int .u64 0, .int .u64 0, .int .i64 0] 33 (0, 0))) := ⟨h2_⟩
   have BK159 : Aside0 (w58.heap[gb159]? = some (.cells #[.int .i64 0, .int .u64 0] 31 (0, 0))) := ⟨h3_⟩
   have GW159 : Aside0 (w.heap.size ≤ gb159) := ⟨h4_⟩
   have GE159 : Aside0 (w.heap.size ≤ gb159) := ⟨h5_⟩
   have NB149_159 : Aside0 (gb149 ≠ gb159) := ⟨h6_⟩
   have NB159_149 : Aside0 (gb159 ≠ gb149) := ⟨h7_⟩
   have NB150_159 : Aside0 (gb150 ≠ gb159) := ⟨h8_⟩
   have NB159_150 : Aside0 (gb159 ≠ gb150) := ⟨h9_⟩
   have NB151_159 : Aside0 (gb151 ≠ gb159) := ⟨h10_⟩
   have NB159_151 : Aside0 (gb159 ≠ gb151) := ⟨h11_⟩
   replace HB : Aside0 (Below w.heap.size w w58) := ⟨h12_⟩
   clear h0_ h1_ h2_ h3_ h4_ h5_ h6_ h7_ h8_ h9_ h10_ h11_ h12_
   have hHeld : w58.cell? ⟨gb149, 0, none⟩ = some (.int .u64 a0_0) ∧ w58.cell? ⟨gb149, 1, none⟩ = some (.int .i64 a0_1) ∧ w58.cell? ⟨gb149, 2, none⟩ = some (.int .u64 a0_2) ∧ w58.cell? ⟨gb149, 3, none⟩ = some (.int .u64 a0_3) ∧ w58.cell? ⟨gb149, 4, none⟩ = some (.int .i64 a0_4) ∧ w58.cell? ⟨gb150, 0, none⟩ = some (.int .u64 a1_0) ∧ w58.cell? ⟨gb150, 1, none⟩ = some (.int .u32 a1_1) ∧ w58.cell? ⟨gb150, 2, none⟩ = some (.int .u32 a1_2) := hS_
   refine norm_ (a' := ?_) ?_ ?_
   rotate_left
   ·simp only [putAll, Act.put, List.setIfInBounds_toArray, List.set_cons_zero, List.set_cons_succ]
    rfl
   refine one_ (i := 11) (N := none) #[true, true, true, true, true, true, true, true, true, true, true, true, false] rfl rfl (one_of HT_.out (by kernel_rfl)) (by decide) (fun K hK => ?_)
   have hs59 : w58.cell? ⟨gb159, 0, none⟩ = some (.int .i64 0) := bc BK159 0
   have hfs59 := blk_frozen BK159.out 0
   have hns59_0 := NB149_159.out
   have hns59_1 := NB150_159.out
   have hns59_2 := NB151_159.out
   have hms59_0 := NB159_149.out
   have hms59_1 := NB159_150.out
   have hms59_2 := NB159_151.out
   have hs60 : w58.cell? ⟨gb159, 1, none⟩ = some (.int .u64 0) := bc BK159 1
   have hfs60 := blk_frozen BK159.out 1
   have hns60_0 := NB149_159.out
   have hns60_1 := NB150_159.out
   have hns60_2 := NB151_159.out
   have hms60_0 := NB159_149.out
   have hms60_1 := NB159_150.out
   have hms60_2 := NB159_151.out
   refine skip_ (w1 := ?_) (by rfl) rfl ?_ ?_
   rotate_left
   ·go_simp
    rfl
   refine hK.out _ _ ⟨((cell_far (p := ⟨gb159, _, none⟩) NB149_159.out _).trans (((cell_far (p := ⟨gb159, _, none⟩) NB149_159.out _).trans (hHeld.1)))), ((cell_far (p := ⟨gb159, _, none⟩) NB149_159.out _).trans (((cell_far (p := ⟨gb159, _, none⟩) NB149_159.out _).trans (hHeld.2.1)))), ((cell_far (p := ⟨gb159, _, none⟩) NB149_159.out _).trans (((cell_far (p := ⟨gb159, _, none⟩) NB149_159.out _).trans (hHeld.2.2.1)))), ((cell_far (p := ⟨gb159, _, none⟩) NB149_159.out _).trans (((cell_far (p := ⟨gb159, _, none⟩) NB149_159.out _).trans (hHeld.2.2.2.1)))), ((cell_far (p := ⟨gb159, _, none⟩) NB149_159.out _).trans (((cell_far (p := ⟨gb159, _, none⟩) NB149_159.out _).trans (hHeld.2.2.2.2.1)))), ((cell_far (p := ⟨gb159, _, none⟩) NB150_159.out _).trans (((cell_far (p := ⟨gb159, _, none⟩) NB150_159.out _).trans (hHeld.2.2.2.2.2.1)))), ((cell_far (p := ⟨gb159, _, none⟩) NB150_159.out _).trans (((cell_far (p := ⟨gb159, _, none⟩) NB150_159.out _).trans (hHeld.2.2.2.2.2.2.1)))), ((cell_far (p := ⟨gb159, _, none⟩) NB150_159.out _).trans (((cell_far (p := ⟨gb159, _, none⟩) NB150_159.out _).trans (hHeld.2.2.2.2.2.2.2))))⟩ (fun hHeld => ?_)
   clear hK K
   refine pure_ (i := 12) (N := some 7) (v := ?_) (a' := ?_) #[true, true, true, true, true, true, true, true, true, true, true, true, true] rfl rfl (any_of HT_.out (by kernel_rfl)) (fun _ _ _ h => h) (Or.inl ⟨by rfl, ?_⟩) ?_ ?_
   rotate_left
   ·intro w'
    go_simp
    with_reducible rfl
   rotate_left
   ·simp only [Act.put, List.setIfInBounds_toArray, List.set_cons_zero, List.set_cons_succ, i64_w, i32_w]
    rfl
   refine done_ (done_of HT_.out (by kernel_rfl)) ?_
   have hnb61 := NB151_149.out
   have hnc61 := NB149_151.out
   have hnb62 := NB151_150.out
   have hnc62 := NB150_151.out
   have hnb63 := NB151_159.out
   have hnc63 := NB159_151.out
   have hcz64_0 : w58.cell? ⟨gb151, 0, none⟩ = some (.int .u64 0) := bc BK151 0
   have hcz64_1 : w58.cell? ⟨gb151, 1, none⟩ = some (.int .i64 0) := bc BK151 1
   have hcz64_2 : w58.cell? ⟨gb151, 2, none⟩ = some (.int .u64 0) := bc BK151 2
   have hcz64_3 : w58.cell? ⟨gb151, 3, none⟩ = some (.int .u64 0) := bc BK151 3
   have hcz64_4 : w58.cell? ⟨gb151, 4, none⟩ = some (.int .i64 0) := bc BK151 4
   have hfz64_0 := blk_frozen BK151.out 0
   have hfz64_1 := blk_frozen BK151.out 1
   have hfz64_2 := blk_frozen BK151.out 2
   have hfz64_3 := blk_frozen BK151.out 3
   have hfz64_4 := blk_frozen BK151.out 4
   try go_wp2
   refine bodyPost_ret (results_ct rfl _ _ gb151 33 #[.int .u64 0, .int .i64 0, .int .u64 0, .int .u64 0, .int .i64 0] (0, 0) _ rfl (by (with_reducible repeat (first | refine blk_drewN ?_ _ | refine blk_drew ?_ | refine blk_alloc ?_ _)); refine blk_put (cs := #[.int .u64 0, .int .i64 0, .int .u64 0, .int .u64 0, .int .i64 0]) ?_ 4 _ rfl; (with_reducible repeat (first | refine blk_drewN ?_ _ | refine blk_drew ?_ | refine blk_alloc ?_ _)); refine blk_put (cs := #[.int .u64 0, .int .i64 0, .int .u64 0, .int .u64 0, .int .i64 0]) ?_ 3 _ rfl; (with_reducible repeat (first | refine blk_drewN ?_ _ | refine blk_drew ?_ | refine blk_alloc ?_ _)); refine blk_put (cs := #[.int .u64 0, .int .i64 0, .int .u64 0, .int .u64 0, .int .i64 0]) ?_ 2 _ rfl; (with_reducible repeat (first | refine blk_drewN ?_ _ | refine blk_drew ?_ | refine blk_alloc ?_ _)); refine blk_put (cs := #[.int .u64 0, .int .i64 0, .int .u64 0, .int .u64 0, .int .i64 0]) ?_ 1 _ rfl; (with_reducible repeat (first | refine blk_drewN ?_ _ | refine blk_drew ?_ | refine blk_alloc ?_ _)); refine blk_put (cs := #[.int .u64 0, .int .i64 0, .int .u64 0, .int .u64 0, .int .i64 0]) ?_ 0 _ rfl; (with_reducible repeat (first | refine blk_drewN ?_ _ | refine blk_drew ?_ | refine blk_alloc ?_ _)); refine blk_far ?_ NB151_159.out _; (with_reducible repeat (first | refine blk_drewN ?_ _ | refine blk_drew ?_ | refine blk_alloc ?_ _)); refine blk_far ?_ NB151_159.out _; exact blkt BK151) Tryz.underlying33 rfl (by kernel_rfl)) rfl ?_
   exact ⟨by first | rfl | (simp [errW_none, errW_some] <;> rfl) | (simp [*, errW_none, errW_some] <;> rfl), belt HB⟩


/-! ### mean_Of: function 18 -/
def mean_Of.l0 : Nat → List (S28) → Int → Int → Int → Int → Int → Int → Int → Option (Int × Int × Int × Int × Int × Bool)
 | 0, _, _, _, _, _, _, _, _ => none
 | k + 1, x13, x14, x15, x162000, x162001, x162002, x162003, x162004 => if x15 < x14 then (if 0 ≤ x15 then (if x15 < (x13.length : Int) then ((mean_Mean_Add.f k x162000 x162001 x162002 x162003 x162004 ((rd_T28 x13 x15).f0) ((rd_T28 x13 x15).f1) ((rd_T28 x13 x15).f2)).bind fun bt164 => (if bt164.2.2.2.2.2 = true then (mean_Of.l0 k x13 x14 (wrap64 (x15 + 1)) bt164.1 bt164.2.1 bt164.2.2.1 bt164.2.2.2.1 bt164.2.2.2.2.1) else (some (0, 0, 0, 0, 0, false)))) else (none)) else (none)) else (some (x162000, x162001, x162002, x162003, x162004, true))
def mean_Of.f (k : Nat) (a0 : Int) (l1 : List (S28)) : Option (Int × Int × Int × Int × Int × Bool) := mean_Of.l0 k l1 (l1.length : Int) 0 a0 0 0 0 0
theorem mean_Of.mono_l : ∀ k, (∀ y0 y1 y2 y3 y4 y5 y6 y7, LeO (mean_Of.l0 k y0 y1 y2 y3 y4 y5 y6 y7) (mean_Of.l0 (k + 1) y0 y1 y2 y3 y4 y5 y6 y7))
 | 0 => fun _ _ _ _ _ _ _ _ r h => by simp [mean_Of.l0] at h
 | k + 1 => by
  have ih0 := mean_Of.mono_l k
  ·intro y0 y1 y2 y3 y4 y5 y6 y7
   unfold mean_Of.l0
   repeat' first
   | (with_reducible exact ih0 _ _ _ _ _ _ _ _)
   | (with_reducible exact mean_Mean_Add.mono _ _ _ _ _ _ _ _ _)
   | (with_reducible exact LeO.refl _)
   | (with_reducible exact LeO.none _)
   | (with_reducible refine LeO.ite ?_ ?_)
   | (with_reducible refine LeO.bind ?_ (fun _ => ?_))
   | exact ih0 _ _ _ _ _ _ _ _
   | exact mean_Mean_Add.mono _ _ _ _ _ _ _ _ _
   | exact LeO.none _
   | refine LeO.ite ?_ ?_
   | refine LeO.bind ?_ (fun _ => ?_)
theorem mean_Of.mono : ∀ a0 a1 k, LeO (mean_Of.f k a0 a1) (mean_Of.f (k + 1) a0 a1) := by
 intro a0 a1 k
 have ih0 := mean_Of.mono_l k
 unfold mean_Of.f
 repeat' first
   | (with_reducible exact ih0 _ _ _ _ _ _ _ _)
   | (with_reducible exact mean_Mean_Add.mono _ _ _ _ _ _ _ _ _)
   | (with_reducible exact LeO.refl _)
   | (with_reducible exact LeO.none _)
   | (with_reducible refine LeO.ite ?_ ?_)
   | (with_reducible refine LeO.bind ?_ (fun _ => ?_))
   | exact ih0 _ _ _ _ _ _ _ _
   | exact mean_Mean_Add.mono _ _ _ _ _ _ _ _ _
   | exact LeO.none _
   | refine LeO.ite ?_ ?_
   | refine LeO.bind ?_ (fun _ => ?_)
set_option maxHeartbeats 8000000 in
set_option maxRecDepth 100000 in
theorem mean_Of.calls (k : Nat) (a0 : Int) (A1 : Option Addr) (c1 : Nat) (l1 : List (S28)) (r1 : Int) (r2 : Int) (r3 : Int) (r4 : Int) (r5 : Int) (r6 : Bool) (w : World) (hr1 : Kd.C k28 w A1 l1.length l1) (hc1 : l1.length ≤ c1) (h : mean_Of.f k a0 l1 = some (r1, r2, r3, r4, r5, r6)) :
  Calls Tryz.prog 18 #[.int .u64 a0, .slice A1 l1.length c1] w fun e w' => e = .returned (.tuple #[.agg #[.int .u64 r1, .int .i64 r2, .int .u64 r3, .int .u64 r4, .int .i64 r5], .bool r6]) ∧ Below w.heap.size w w' := by
 have hu33 := Tryz.underlying33
 have hu28 := Tryz.underlying28
 have HR1 := Aside0.mk hr1
 have HC1 := Aside0.mk hc1
 clear hr1 hc1
 have HB := Aside0.mk (Below.refl w.heap.size w)
 have H : (mean_Of.l0 k l1 (l1.length : Int) 0 a0 0 0 0 0) = some (r1, r2, r3, r4, r5, r6) := h
 clear h
 have H' := Aside0.mk H
 clear H
 go_enter Tryz.func18, Tryz.ntmps18
 go_wp2_with (first | ((with_reducible refine gate_dst (N := 4) rfl ?_); refine box_event ?hg (N := 4) ?hd (cs := #[.int .u64 0, .int .i64 0, .int .u64 0, .int .u64 0, .int .i64 0]) (t := 33) ?hr ?_; (case hd => rfl); (case hg => rfl); (case hr => first | (go_simp; done) | (go_simp; rfl)); intro gb160 hg w3 hbox hb; have BK160 := Aside0.mk (hbox); have GW160 := bels HB hg; have GE160 := bels HB hg; replace HB := belb HB hb; clear hb hbox hg) | ((with_reducible refine gate_dst (N := 6) rfl ?_); refine box_event ?hg (N := 6) ?hd (cs := #[.int .u64 0, .int .i64 0, .int .u64 0, .int .u64 0, .int .i64 0]) (t := 33) ?hr ?_; (case hd => rfl); (case hg => rfl); (case hr => first | (go_simp; done) | (go_simp; rfl)); intro gb161 hg w4 hbox hb; have BK161 := Aside0.mk (hbox); have GW161 := bels HB hg; have GE161 := bels HB hg; have NB160_161 := blkl BK160 hg; have NB161_160 := blkg BK160 hg; replace BK160 := blkb BK160 hb; replace HB := belb HB hb; clear hb hbox hg; have hnb5 := NB161_160.out; have hnc5 := NB160_161.out; have hcz6_0 : w4.cell? ⟨gb161, 0, none⟩ = some (.int .u64 0) := bc BK161 0; have hcz6_1 : w4.cell? ⟨gb161, 1, none⟩ = some (.int .i64 0) := bc BK161 1; have hcz6_2 : w4.cell? ⟨gb161, 2, none⟩ = some (.int .u64 0) := bc BK161 2; have hcz6_3 : w4.cell? ⟨gb161, 3, none⟩ = some (.int .u64 0) := bc BK161 3; have hcz6_4 : w4.cell? ⟨gb161, 4, none⟩ = some (.int .i64 0) := bc BK161 4; have hfz6_0 := blk_frozen BK161.out 0; have hfz6_1 := blk_frozen BK161.out 1; have hfz6_2 := blk_frozen BK161.out 2; have hfz6_3 := blk_frozen BK161.out 3; have hfz6_4 := blk_frozen BK161.out 4))
 (try simp only [Act.put, List.setIfInBounds_toArray, List.set_cons_zero, List.set_cons_succ])
 go_loopg [15] k (fun kq v15 w' => ∃ (x15_1 : Int) (x161000_1 : Int) (x161001_1 : Int) (x161002_1 : Int) (x161003_1 : Int) (x161004_1 : Int) (x162000_1 : Int) (x162001_1 : Int) (x162002_1 : Int) (x162003_1 : Int) (x162004_1 : Int), v15 = .int .i64 x15_1 ∧ Aside0 (mean_Of.l0 kq l1 (l1.length : Int) x15_1 x162000_1 x162001_1 x162002_1 x162003_1 x162004_1 = some (r1, r2, r3, r4, r5, r6)) ∧ Aside0 (kq ≤ k) ∧ Aside0 (w'.heap[gb160]? = some (.cells #[.int .u64 x161000_1, .int .i64 x161001_1, .int .u64 x161002_1, .int .u64 x161003_1, .int .i64 x161004_1] 33 (0, 0))) ∧ Aside0 (w'.heap[gb161]? = some (.cells #[.int .u64 x162000_1, .int .i64 x162001_1, .int .u64 x162002_1, .int .u64 x162003_1, .int .i64 x162004_1] 33 (0, 0))) ∧ Aside0 (Below w.heap.size w w'))
 case atStart => exact ⟨(0), (0), (0), (0), (0), (0), (a0), (0), (0), (0), (0), (by first | rfl | (simp; done) | (simp [*]; done)), H', ⟨Nat.le_refl _⟩, ⟨by (with_reducible repeat (first | refine blk_drewN ?_ _ | refine blk_drew ?_ | refine blk_alloc ?_ _)); refine blk_far ?_ NB160_161.out _; (with_reducible repeat (first | refine blk_drewN ?_ _ | refine blk_drew ?_ | refine blk_alloc ?_ _)); refine blk_far ?_ NB160_161.out _; (with_reducible repeat (first | refine blk_drewN ?_ _ | refine blk_drew ?_ | refine blk_alloc ?_ _)); refine blk_far ?_ NB160_161.out _; (with_reducible repeat (first | refine blk_drewN ?_ _ | refine blk_drew ?_ | refine blk_alloc ?_ _)); refine blk_far ?_ NB160_161.out _; (with_reducible repeat (first | refine blk_drewN ?_ _ | refine blk_drew ?_ | refine blk_alloc ?_ _)); refine blk_far ?_ NB160_161.out _; exact blkt BK160⟩, ⟨by (with_reducible repeat (first | refine blk_drewN ?_ _ | refine blk_drew ?_ | refine blk_alloc ?_ _)); refine blk_put (cs := #[.int .u64 a0, .int .i64 0, .int .u64 0, .int .u64 0, .int .i64 0]) ?_ 4 _ rfl; (with_reducible repeat (first | refine blk_drewN ?_ _ | refine blk_drew ?_ | refine blk_alloc ?_ _)); refine blk_put (cs := #[.int .u64 a0, .int .i64 0, .int .u64 0, .int .u64 0, .int .i64 0]) ?_ 3 _ rfl; (with_reducible repeat (first | refine blk_drewN ?_ _ | refine blk_drew ?_ | refine blk_alloc ?_ _)); refine blk_put (cs := #[.int .u64 a0, .int .i64 0, .int .u64 0, .int .u64 0, .int .i64 0]) ?_ 2 _ rfl; (with_reducible repeat (first | refine blk_drewN ?_ _ | refine blk_drew ?_ | refine blk_alloc ?_ _)); refine blk_put (cs := #[.int .u64 a0, .int .i64 0, .int .u64 0, .int .u64 0, .int .i64 0]) ?_ 1 _ rfl; (with_reducible repeat (first | refine blk_drewN ?_ _ | refine blk_drew ?_ | refine blk_alloc ?_ _)); refine blk_put (cs := #[.int .u64 0, .int .i64 0, .int .u64 0, .int .u64 0, .int .i64 0]) ?_ 0 _ rfl; exact blkt BK161⟩, ⟨belt HB⟩⟩
 case round =>
  clear H'
  try clear c1
  try clear p2
  try clear c5
  try clear hcz6_0
  try clear hcz6_1
  try clear hcz6_2
  try clear hcz6_3
  try clear hcz6_4
  try clear hfz6_0
  try clear hfz6_1
  try clear hfz6_2
  try clear hfz6_3
  try clear hfz6_4
  obtain ⟨x15_1, x161000_1, x161001_1, x161002_1, x161003_1, x161004_1, x162000_1, x162001_1, x162002_1, x162003_1, x162004_1, rfl, HA, HK1, BK160, BK161, HB⟩ := hrel
  cases gk with
  | zero => exact absurd HA.out (by simp [mean_Of.l0])
  | succ k1 =>
   have H := HA.out
   clear HA
   simp only [mean_Of.l0] at H
   by_cases c7 : x15_1 < (l1.length : Int)
   ·rw [if_pos c7] at H
    have c7b0 : decide (x15_1 < (l1.length : Int)) = true := decide_eq_true c7
    clear c7
    by_cases c8 : 0 ≤ x15_1
    ·rw [if_pos c8] at H
     have c8b0 : decide (0 ≤ x15_1) = true := decide_eq_true c8
     clear c8
     by_cases c9 : x15_1 < (l1.length : Int)
     ·rw [if_pos c9] at H
      have c9b0 : decide (x15_1 < (l1.length : Int)) = true := decide_eq_true c9
      clear c9
      replace H := Option.bind_eq_some_iff.mp H
      obtain ⟨⟨t164, t165, t166, t167, t168, t169⟩, A100, H⟩ := H
      replace H : (if t169 = true then (mean_Of.l0 k1 l1 (l1.length : Int) (wrap64 (x15_1 + 1)) t164 t165 t166 t167 t168) else (some (0, 0, 0, 0, 0, false))) = some (r1, r2, r3, r4, r5, r6) := H
      have A10 := Aside0.mk A100
      clear A100
      by_cases c11 : t169 = true
      ·subst c11
       have H1 : (mean_Of.l0 k1 l1 (l1.length : Int) (wrap64 (x15_1 + 1)) t164 t165 t166 t167 t168) = some (r1, r2, r3, r4, r5, r6) := by rw [if_pos rfl] at H; exact H
       clear H
       have H := H1
       clear H1
       have H' := Aside0.mk H
       clear H
       have p162 : 0 ≤ (x15_1 : Int) := of_decide_eq_true (by first | (with_reducible assumption) | assumption)
       have q162 : x15_1 < (l1.length : Int) := of_decide_eq_true (by first | (with_reducible assumption) | assumption)
       obtain ⟨ad162, e162, hx162_0, hx162_1, hx162_2⟩ := at_T28 HR1.out x15_1 p162 q162
       cases e162
       replace hx162_0 := (HB.out.cell (World.block_lt_of_cell? w _ hx162_0)).trans hx162_0
       replace hx162_1 := (HB.out.cell (World.block_lt_of_cell? w _ hx162_1)).trans hx162_1
       replace hx162_2 := (HB.out.cell (World.block_lt_of_cell? w _ hx162_2)).trans hx162_2
       replace p162 := eq_true p162
       replace q162 := eq_true q162
       go_wp2_with (first | ((with_reducible refine gate_dst (N := 8) rfl ?_); refine box_event ?hg (N := 8) ?hd (cs := #[.int .u64 0, .int .u32 0, .int .u32 0]) (t := 28) ?hr ?_; (case hd => rfl); (case hg => rfl); (case hr => first | (go_simp; done) | (go_simp; rfl)); intro gb163 hg w12 hbox hb; have BK163 := Aside0.mk (hbox); have GW163 := bels HB hg; have GE163 := bels HB hg; have NB160_163 := blkl BK160 hg; have NB163_160 := blkg BK160 hg; have NB161_163 := blkl BK161 hg; have NB163_161 := blkg BK161 hg; replace BK160 := blkb BK160 hb; replace BK161 := blkb BK161 hb; replace HB := belb HB hb; clear hb hbox hg; have hnb13 := NB163_160.out; have hnc13 := NB160_163.out; have hnb14 := NB163_161.out; have hnc14 := NB161_163.out; have hcz15_0 : w12.cell? ⟨gb163, 0, none⟩ = some (.int .u64 0) := bc BK163 0; have hcz15_1 : w12.cell? ⟨gb163, 1, none⟩ = some (.int .u32 0) := bc BK163 1; have hcz15_2 : w12.cell? ⟨gb163, 2, none⟩ = some (.int .u32 0) := bc BK163 2; have hfz15_0 := blk_frozen BK163.out 0; have hfz15_1 := blk_frozen BK163.out 1; have hfz15_2 := blk_frozen BK163.out 2; have hnb16 := NB161_160.out; have hnc16 := NB160_161.out; have hcz17_0 : w12.cell? ⟨gb161, 0, none⟩ = some (.int .u64 x162000_1) := bc BK161 0; have hcz17_1 : w12.cell? ⟨gb161, 1, none⟩ = some (.int .i64 x162001_1) := bc BK161 1; have hcz17_2 : w12.cell? ⟨gb161, 2, none⟩ = some (.int .u64 x162002_1) := bc BK161 2; have hcz17_3 : w12.cell? ⟨gb161, 3, none⟩ = some (.int .u64 x162003_1) := bc BK161 3; have hcz17_4 : w12.cell? ⟨gb161, 4, none⟩ = some (.int .i64 x162004_1) := bc BK161 4; have hfz17_0 := blk_frozen BK161.out 0; have hfz17_1 := blk_frozen BK161.out 1; have hfz17_2 := blk_frozen BK161.out 2; have hfz17_3 := blk_frozen BK161.out 3; have hfz17_4 := blk_frozen BK161.out 4) | ((with_reducible refine gate_callee (f := 25) rfl ?_); refine goesL_ (some 22) rfl rfl Tryz.func25 (by kernel_rfl) rfl #[.agg #[.int .u64 x162000_1, .int .i64 x162001_1, .int .u64 x162002_1, .int .u64 x162003_1, .int .i64 x162004_1], .agg #[.int .u64 ((rd_T28 l1 x15_1).f0), .int .u32 ((rd_T28 l1 x15_1).f1), .int .u32 ((rd_T28 l1 x15_1).f2)]] rfl argt ?_; (with_reducible refine (mean_Mean_Add.calls k1 x162000_1 x162001_1 x162002_1 x162003_1 x162004_1 ((rd_T28 l1 x15_1).f0) ((rd_T28 l1 x15_1).f1) ((rd_T28 l1 x15_1).f2) t164 t165 t166 t167 t168 true _ A10.out).mono ?_); rintro e w18 ⟨rfl, hb⟩; refine ⟨_, rfl, ?_⟩; replace BK160 := Aside0.mk (blk_below (g := gb160) (o := .cells #[.int .u64 x161000_1, .int .i64 x161001_1, .int .u64 x161002_1, .int .u64 x161003_1, .int .i64 x161004_1] 33 (0, 0)) (by (with_reducible repeat (first | refine blk_drewN ?_ _ | refine blk_drew ?_ | refine blk_alloc ?_ _)); refine blk_far ?_ NB160_163.out _; (with_reducible repeat (first | refine blk_drewN ?_ _ | refine blk_drew ?_ | refine blk_alloc ?_ _)); refine blk_far ?_ NB160_163.out _; (with_reducible repeat (first | refine blk_drewN ?_ _ | refine blk_drew ?_ | refine blk_alloc ?_ _)); refine blk_far ?_ NB160_163.out _; exact blkt BK160) hb); replace BK161 := Aside0.mk (blk_below (g := gb161) (o := .cells #[.int .u64 x162000_1, .int .i64 x162001_1, .int .u64 x162002_1, .int .u64 x162003_1, .int .i64 x162004_1] 33 (0, 0)) (by (with_reducible repeat (first | refine blk_drewN ?_ _ | refine blk_drew ?_ | refine blk_alloc ?_ _)); refine blk_far ?_ NB161_163.out _; (with_reducible repeat (first | refine blk_drewN ?_ _ | refine blk_drew ?_ | refine blk_alloc ?_ _)); refine blk_far ?_ NB161_163.out _; (with_reducible repeat (first | refine blk_drewN ?_ _ | refine blk_drew ?_ | refine blk_alloc ?_ _)); refine blk_far ?_ NB161_163.out _; exact blkt BK161) hb); replace BK163 := Aside0.mk (blk_below (g := gb163) (o := .cells #[.int .u64 ((rd_T28 l1 x15_1).f0), .int .u32 ((rd_T28 l1 x15_1).f1), .int .u32 ((rd_T28 l1 x15_1).f2)] 28 (0, 0)) (by (with_reducible repeat (first | refine blk_drewN ?_ _ | refine blk_drew ?_ | refine blk_alloc ?_ _)); refine blk_put (cs := #[.int .u64 ((rd_T28 l1 x15_1).f0), .int .u32 ((rd_T28 l1 x15_1).f1), .int .u32 0]) ?_ 2 _ rfl; (with_reducible repeat (first | refine blk_drewN ?_ _ | refine blk_drew ?_ | refine blk_alloc ?_ _)); refine blk_put (cs := #[.int .u64 ((rd_T28 l1 x15_1).f0), .int .u32 0, .int .u32 0]) ?_ 1 _ rfl; (with_reducible repeat (first | refine blk_drewN ?_ _ | refine blk_drew ?_ | refine blk_alloc ?_ _)); refine blk_put (cs := #[.int .u64 0, .int .u32 0, .int .u32 0]) ?_ 0 _ rfl; exact blkt BK163) hb); replace HB := belb HB hb; (try clear hb); (try clear hb2); (try clear hk); (try clear hi)) | ((with_reducible refine gate_dst (N := 9) rfl ?_); refine box_event ?hg (N := 9) ?hd (cs := #[.int .u64 0, .int .i64 0, .int .u64 0, .int .u64 0, .int .i64 0]) (t := 33) ?hr ?_; (case hd => rfl); (case hg => rfl); (case hr => first | (go_simp; done) | (go_simp; rfl)); intro gb170 hg w19 hbox hb; have BK170 := Aside0.mk (hbox); have GW170 := bels HB hg; have GE170 := bels HB hg; have NB160_170 := blkl BK160 hg; have NB170_160 := blkg BK160 hg; have NB161_170 := blkl BK161 hg; have NB170_161 := blkg BK161 hg; have NB163_170 := blkl BK163 hg; have NB170_163 := blkg BK163 hg; replace BK160 := blkb BK160 hb; replace BK161 := blkb BK161 hb; replace BK163 := blkb BK163 hb; replace HB := belb HB hb; clear hb hbox hg; have hnb20 := NB170_160.out; have hnc20 := NB160_170.out; have hnb21 := NB170_161.out; have hnc21 := NB161_170.out; have hnb22 := NB170_163.out; have hnc22 := NB163_170.out; have hcz23_0 : w19.cell? ⟨gb170, 0, none⟩ = some (.int .u64 0) := bc BK170 0; have hcz23_1 : w19.cell? ⟨gb170, 1, none⟩ = some (.int .i64 0) := bc BK170 1; have hcz23_2 : w19.cell? ⟨gb170, 2, none⟩ = some (.int .u64 0) := bc BK170 2; have hcz23_3 : w19.cell? ⟨gb170, 3, none⟩ = some (.int .u64 0) := bc BK170 3; have hcz23_4 : w19.cell? ⟨gb170, 4, none⟩ = some (.int .i64 0) := bc BK170 4; have hfz23_0 := blk_frozen BK170.out 0; have hfz23_1 := blk_frozen BK170.out 1; have hfz23_2 := blk_frozen BK170.out 2; have hfz23_3 := blk_frozen BK170.out 3; have hfz23_4 := blk_frozen BK170.out 4; have hcz24_0 : w19.cell? ⟨gb161, 0, none⟩ = some (.int .u64 x162000_1) := bc BK161 0; have hcz24_1 : w19.cell? ⟨gb161, 1, none⟩ = some (.int .i64 x162001_1) := bc BK161 1; have hcz24_2 : w19.cell? ⟨gb161, 2, none⟩ = some (.int .u64 x162002_1) := bc BK161 2; have hcz24_3 : w19.cell? ⟨gb161, 3, none⟩ = some (.int .u64 x162003_1) := bc BK161 3; have hcz24_4 : w19.cell? ⟨gb161, 4, none⟩ = some (.int .i64 x162004_1) := bc BK161 4; have hfz24_0 := blk_frozen BK161.out 0; have hfz24_1 := blk_frozen BK161.out 1; have hfz24_2 := blk_frozen BK161.out 2; have hfz24_3 := blk_frozen BK161.out 3; have hfz24_4 := blk_frozen BK161.out 4))
       go_roundg k1
       case measure => have := HK1.out; omega
       case rel => exact ⟨(wrap64 (x15_1 + 1)), (x161000_1), (x161001_1), (x161002_1), (x161003_1), (x161004_1), (t164), (t165), (t166), (t167), (t168), (by first | rfl | (simp; done) | (simp [*]; done)), H', ⟨by have := HK1.out; omega⟩, ⟨by (with_reducible repeat (first | refine blk_drewN ?_ _ | refine blk_drew ?_ | refine blk_alloc ?_ _)); refine blk_far ?_ NB160_161.out _; (with_reducible repeat (first | refine blk_drewN ?_ _ | refine blk_drew ?_ | refine blk_alloc ?_ _)); refine blk_far ?_ NB160_161.out _; (with_reducible repeat (first | refine blk_drewN ?_ _ | refine blk_drew ?_ | refine blk_alloc ?_ _)); refine blk_far ?_ NB160_161.out _; (with_reducible repeat (first | refine blk_drewN ?_ _ | refine blk_drew ?_ | refine blk_alloc ?_ _)); refine blk_far ?_ NB160_161.out _; (with_reducible repeat (first | refine blk_drewN ?_ _ | refine blk_drew ?_ | refine blk_alloc ?_ _)); refine blk_far ?_ NB160_161.out _; (with_reducible repeat (first | refine blk_drewN ?_ _ | refine blk_drew ?_ | refine blk_alloc ?_ _)); refine blk_far ?_ NB160_170.out _; (with_reducible repeat (first | refine blk_drewN ?_ _ | refine blk_drew ?_ | refine blk_alloc ?_ _)); refine blk_far ?_ NB160_170.out _; (with_reducible repeat (first | refine blk_drewN ?_ _ | refine blk_drew ?_ | refine blk_alloc ?_ _)); refine blk_far ?_ NB160_170.out _; (with_reducible repeat (first | refine blk_drewN ?_ _ | refine blk_drew ?_ | refine blk_alloc ?_ _)); refine blk_far ?_ NB160_170.out _; (with_reducible repeat (first | refine blk_drewN ?_ _ | refine blk_drew ?_ | refine blk_alloc ?_ _)); refine blk_far ?_ NB160_170.out _; exact blkt BK160⟩, ⟨by (with_reducible repeat (first | refine blk_drewN ?_ _ | refine blk_drew ?_ | refine blk_alloc ?_ _)); refine blk_put (cs := #[.int .u64 t164, .int .i64 t165, .int .u64 t166, .int .u64 t167, .int .i64 x162004_1]) ?_ 4 _ rfl; (with_reducible repeat (first | refine blk_drewN ?_ _ | refine blk_drew ?_ | refine blk_alloc ?_ _)); refine blk_put (cs := #[.int .u64 t164, .int .i64 t165, .int .u64 t166, .int .u64 x162003_1, .int .i64 x162004_1]) ?_ 3 _ rfl; (with_reducible repeat (first | refine blk_drewN ?_ _ | refine blk_drew ?_ | refine blk_alloc ?_ _)); refine blk_put (cs := #[.int .u64 t164, .int .i64 t165, .int .u64 x162002_1, .int .u64 x162003_1, .int .i64 x162004_1]) ?_ 2 _ rfl; (with_reducible repeat (first | refine blk_drewN ?_ _ | refine blk_drew ?_ | refine blk_alloc ?_ _)); refine blk_put (cs := #[.int .u64 t164, .int .i64 x162001_1, .int .u64 x162002_1, .int .u64 x162003_1, .int .i64 x162004_1]) ?_ 1 _ rfl; (with_reducible repeat (first | refine blk_drewN ?_ _ | refine blk_drew ?_ | refine blk_alloc ?_ _)); refine blk_put (cs := #[.int .u64 x162000_1, .int .i64 x162001_1, .int .u64 x162002_1, .int .u64 x162003_1, .int .i64 x162004_1]) ?_ 0 _ rfl; (with_reducible repeat (first | refine blk_drewN ?_ _ | refine blk_drew ?_ | refine blk_alloc ?_ _)); refine blk_far ?_ NB161_170.out _; (with_reducible repeat (first | refine blk_drewN ?_ _ | refine blk_drew ?_ | refine blk_alloc ?_ _)); refine blk_far ?_ NB161_170.out _; (with_reducible repeat (first | refine blk_drewN ?_ _ | refine blk_drew ?_ | refine blk_alloc ?_ _)); refine blk_far ?_ NB161_170.out _; (with_reducible repeat (first | refine blk_drewN ?_ _ | refine blk_drew ?_ | refine blk_alloc ?_ _)); refine blk_far ?_ NB161_170.out _; (with_reducible repeat (first | refine blk_drewN ?_ _ | refine blk_drew ?_ | refine blk_alloc ?_ _)); refine blk_far ?_ NB161_170.out _; exact blkt BK161⟩, ⟨belt HB⟩⟩
      replace c11 := Bool.eq_false_iff.mpr c11
      subst c11
      have H1 : (some (0, 0, 0, 0, 0, false)) = some (r1, r2, r3, r4, r5, r6) := by rw [if_neg (show ¬ (false = true) by decide)] at H; exact H
      clear H
      have H := H1
      clear H1
      simp only [Option.some.injEq, Prod.mk.injEq] at H
      obtain ⟨rfl, rfl, rfl, rfl, rfl, rfl⟩ := H
      have p162 : 0 ≤ (x15_1 : Int) := of_decide_eq_true (by first | (with_reducible assumption) | assumption)
      have q162 : x15_1 < (l1.length : Int) := of_decide_eq_true (by first | (with_reducible assumption) | assumption)
      obtain ⟨ad162, e162, hx162_0, hx162_1, hx162_2⟩ := at_T28 HR1.out x15_1 p162 q162
      cases e162
      replace hx162_0 := (HB.out.cell (World.block_lt_of_cell? w _ hx162_0)).trans hx162_0
      replace hx162_1 := (HB.out.cell (World.block_lt_of_cell? w _ hx162_1)).trans hx162_1
      replace hx162_2 := (HB.out.cell (World.block_lt_of_cell? w _ hx162_2)).trans hx162_2
      replace p162 := eq_true p162
      replace q162 := eq_true q162
      go_wp2_with (first | ((with_reducible refine gate_dst (N := 8) rfl ?_); refine box_event ?hg (N := 8) ?hd (cs := #[.int .u64 0, .int .u32 0, .int .u32 0]) (t := 28) ?hr ?_; (case hd => rfl); (case hg => rfl); (case hr => first | (go_simp; done) | (go_simp; rfl)); intro gb163 hg w25 hbox hb; have BK163 := Aside0.mk (hbox); have GW163 := bels HB hg; have GE163 := bels HB hg; have NB160_163 := blkl BK160 hg; have NB163_160 := blkg BK160 hg; have NB161_163 := blkl BK161 hg; have NB163_161 := blkg BK161 hg; replace BK160 := blkb BK160 hb; replace BK161 := blkb BK161 hb; replace HB := belb HB hb; clear hb hbox hg; have hnb26 := NB163_160.out; have hnc26 := NB160_163.out; have hnb27 := NB163_161.out; have hnc27 := NB161_163.out; have hcz28_0 : w25.cell? ⟨gb163, 0, none⟩ = some (.int .u64 0) := bc BK163 0; have hcz28_1 : w25.cell? ⟨gb163, 1, none⟩ = some (.int .u32 0) := bc BK163 1; have hcz28_2 : w25.cell? ⟨gb163, 2, none⟩ = some (.int .u32 0) := bc BK163 2; have hfz28_0 := blk_frozen BK163.out 0; have hfz28_1 := blk_frozen BK163.out 1; have hfz28_2 := blk_frozen BK163.out 2; have hnb29 := NB161_160.out; have hnc29 := NB160_161.out; have hcz30_0 : w25.cell? ⟨gb161, 0, none⟩ = some (.int .u64 x162000_1) := bc BK161 0; have hcz30_1 : w25.cell? ⟨gb161, 1, none⟩ = some (.int .i64 x162001_1) := bc BK161 1; have hcz30_2 : w25.cell? ⟨gb161, 2, none⟩ = some (.int .u64 x162002_1) := bc BK161 2; have hcz30_3 : w25.cell? ⟨gb161, 3, none⟩ = some (.int .u64 x162003_1) := bc BK161 3; have hcz30_4 : w25.cell? ⟨gb161, 4, none⟩ = some (.int .i64 x162004_1) := bc BK161 4; have hfz30_0 := blk_frozen BK161.out 0; have hfz30_1 := blk_frozen BK161.out 1; have hfz30_2 := blk_frozen BK161.out 2; have hfz30_3 := blk_frozen BK161.out 3; have hfz30_4 := blk_frozen BK161.out 4) | ((with_reducible refine gate_callee (f := 25) rfl ?_); refine goesL_ (some 22) rfl rfl Tryz.func25 (by kernel_rfl) rfl #[.agg #[.int .u64 x162000_1, .int .i64 x162001_1, .int .u64 x162002_1, .int .u64 x162003_1, .int .i64 x162004_1], .agg #[.int .u64 ((rd_T28 l1 x15_1).f0), .int .u32 ((rd_T28 l1 x15_1).f1), .int .u32 ((rd_T28 l1 x15_1).f2)]] rfl argt ?_; (with_reducible refine (mean_Mean_Add.calls k1 x162000_1 x162001_1 x162002_1 x162003_1 x162004_1 ((rd_T28 l1 x15_1).f0) ((rd_T28 l1 x15_1).f1) ((rd_T28 l1 x15_1).f2) t164 t165 t166 t167 t168 false _ A10.out).mono ?_); rintro e w31 ⟨rfl, hb⟩; refine ⟨_, rfl, ?_⟩; replace BK160 := Aside0.mk (blk_below (g := gb160) (o := .cells #[.int .u64 x161000_1, .int .i64 x161001_1, .int .u64 x161002_1, .int .u64 x161003_1, .int .i64 x161004_1] 33 (0, 0)) (by (with_reducible repeat (first | refine blk_drewN ?_ _ | refine blk_drew ?_ | refine blk_alloc ?_ _)); refine blk_far ?_ NB160_163.out _; (with_reducible repeat (first | refine blk_drewN ?_ _ | refine blk_drew ?_ | refine blk_alloc ?_ _)); refine blk_far ?_ NB160_163.out _; (with_reducible repeat (first | refine blk_drewN ?_ _ | refine blk_drew ?_ | refine blk_alloc ?_ _)); refine blk_far ?_ NB160_163.out _; exact blkt BK160) hb); replace BK161 := Aside0.mk (blk_below (g := gb161) (o := .cells #[.int .u64 x162000_1, .int .i64 x162001_1, .int .u64 x162002_1, .int .u64 x162003_1, .int .i64 x162004_1] 33 (0, 0)) (by (with_reducible repeat (first | refine blk_drewN ?_ _ | refine blk_drew ?_ | refine blk_alloc ?_ _)); refine blk_far ?_ NB161_163.out _; (with_reducible repeat (first | refine blk_drewN ?_ _ | refine blk_drew ?_ | refine blk_alloc ?_ _)); refine blk_far ?_ NB161_163.out _; (with_reducible repeat (first | refine blk_drewN ?_ _ | refine blk_drew ?_ | refine blk_alloc ?_ _)); refine blk_far ?_ NB161_163.out _; exact blkt BK161) hb); replace BK163 := Aside0.mk (blk_below (g := gb163) (o := .cells #[.int .u64 ((rd_T28 l1 x15_1).f0), .int .u32 ((rd_T28 l1 x15_1).f1), .int .u32 ((rd_T28 l1 x15_1).f2)] 28 (0, 0)) (by (with_reducible repeat (first | refine blk_drewN ?_ _ | refine blk_drew ?_ | refine blk_alloc ?_ _)); refine blk_put (cs := #[.int .u64 ((rd_T28 l1 x15_1).f0), .int .u32 ((rd_T28 l1 x15_1).f1), .int .u32 0]) ?_ 2 _ rfl; (with_reducible repeat (first | refine blk_drewN ?_ _ | refine blk_drew ?_ | refine blk_alloc ?_ _)); refine blk_put (cs := #[.int .u64 ((rd_T28 l1 x15_1).f0), .int .u32 0, .int .u32 0]) ?_ 1 _ rfl; (with_reducible repeat (first | refine blk_drewN ?_ _ | refine blk_drew ?_ | refine blk_alloc ?_ _)); refine blk_put (cs := #[.int .u64 0, .int .u32 0, .int .u32 0]) ?_ 0 _ rfl; exact blkt BK163) hb); replace HB := belb HB hb; (try clear hb); (try clear hb2); (try clear hk); (try clear hi)) | ((with_reducible refine gate_dst (N := 9) rfl ?_); refine box_event ?hg (N := 9) ?hd (cs := #[.int .u64 0, .int .i64 0, .int .u64 0, .int .u64 0, .int .i64 0]) (t := 33) ?hr ?_; (case hd => rfl); (case hg => rfl); (case hr => first | (go_simp; done) | (go_simp; rfl)); intro gb170 hg w32 hbox hb; have BK170 := Aside0.mk (hbox); have GW170 := bels HB hg; have GE170 := bels HB hg; have NB160_170 := blkl BK160 hg; have NB170_160 := blkg BK160 hg; have NB161_170 := blkl BK161 hg; have NB170_161 := blkg BK161 hg; have NB163_170 := blkl BK163 hg; have NB170_163 := blkg BK163 hg; replace BK160 := blkb BK160 hb; replace BK161 := blkb BK161 hb; replace BK163 := blkb BK163 hb; replace HB := belb HB hb; clear hb hbox hg; have hnb33 := NB170_160.out; have hnc33 := NB160_170.out; have hnb34 := NB170_161.out; have hnc34 := NB161_170.out; have hnb35 := NB170_163.out; have hnc35 := NB163_170.out; have hcz36_0 : w32.cell? ⟨gb170, 0, none⟩ = some (.int .u64 0) := bc BK170 0; have hcz36_1 : w32.cell? ⟨gb170, 1, none⟩ = some (.int .i64 0) := bc BK170 1; have hcz36_2 : w32.cell? ⟨gb170, 2, none⟩ = some (.int .u64 0) := bc BK170 2; have hcz36_3 : w32.cell? ⟨gb170, 3, none⟩ = some (.int .u64 0) := bc BK170 3; have hcz36_4 : w32.cell? ⟨gb170, 4, none⟩ = some (.int .i64 0) := bc BK170 4; have hfz36_0 := blk_frozen BK170.out 0; have hfz36_1 := blk_frozen BK170.out 1; have hfz36_2 := blk_frozen BK170.out 2; have hfz36_3 := blk_frozen BK170.out 3; have hfz36_4 := blk_frozen BK170.out 4; have hcz37_0 : w32.cell? ⟨gb160, 0, none⟩ = some (.int .u64 x161000_1) := bc BK160 0; have hcz37_1 : w32.cell? ⟨gb160, 1, none⟩ = some (.int .i64 x161001_1) := bc BK160 1; have hcz37_2 : w32.cell? ⟨gb160, 2, none⟩ = some (.int .u64 x161002_1) := bc BK160 2; have hcz37_3 : w32.cell? ⟨gb160, 3, none⟩ = some (.int .u64 x161003_1) := bc BK160 3; have hcz37_4 : w32.cell? ⟨gb160, 4, none⟩ = some (.int .i64 x161004_1) := bc BK160 4; have hfz37_0 := blk_frozen BK160.out 0; have hfz37_1 := blk_frozen BK160.out 1; have hfz37_2 := blk_frozen BK160.out 2; have hfz37_3 := blk_frozen BK160.out 3; have hfz37_4 := blk_frozen BK160.out 4))
      refine bodyPost_ret (results_ct rfl _ _ gb160 33 #[.int .u64 0, .int .i64 0, .int .u64 0, .int .u64 0, .int .i64 0] (0, 0) _ rfl (by (with_reducible repeat (first | refine blk_drewN ?_ _ | refine blk_drew ?_ | refine blk_alloc ?_ _)); refine blk_put (cs := #[.int .u64 0, .int .i64 0, .int .u64 0, .int .u64 0, .int .i64 x161004_1]) ?_ 4 _ rfl; (with_reducible repeat (first | refine blk_drewN ?_ _ | refine blk_drew ?_ | refine blk_alloc ?_ _)); refine blk_put (cs := #[.int .u64 0, .int .i64 0, .int .u64 0, .int .u64 x161003_1, .int .i64 x161004_1]) ?_ 3 _ rfl; (with_reducible repeat (first | refine blk_drewN ?_ _ | refine blk_drew ?_ | refine blk_alloc ?_ _)); refine blk_put (cs := #[.int .u64 0, .int .i64 0, .int .u64 x161002_1, .int .u64 x161003_1, .int .i64 x161004_1]) ?_ 2 _ rfl; (with_reducible repeat (first | refine blk_drewN ?_ _ | refine blk_drew ?_ | refine blk_alloc ?_ _)); refine blk_put (cs := #[.int .u64 0, .int .i64 x161001_1, .int .u64 x161002_1, .int .u64 x161003_1, .int .i64 x161004_1]) ?_ 1 _ rfl; (with_reducible repeat (first | refine blk_drewN ?_ _ | refine blk_drew ?_ | refine blk_alloc ?_ _)); refine blk_put (cs := #[.int .u64 x161000_1, .int .i64 x161001_1, .int .u64 x161002_1, .int .u64 x161003_1, .int .i64 x161004_1]) ?_ 0 _ rfl; (with_reducible repeat (first | refine blk_drewN ?_ _ | refine blk_drew ?_ | refine blk_alloc ?_ _)); refine blk_far ?_ NB160_170.out _; (with_reducible repeat (first | refine blk_drewN ?_ _ | refine blk_drew ?_ | refine blk_alloc ?_ _)); refine blk_far ?_ NB160_170.out _; (with_reducible repeat (first | refine blk_drewN ?_ _ | refine blk_drew ?_ | refine blk_alloc ?_ _)); refine blk_far ?_ NB160_170.out _; (with_reducible repeat (first | refine blk_drewN ?_ _ | refine blk_drew ?_ | refine blk_alloc ?_ _)); refine blk_far ?_ NB160_170.out _; (with_reducible repeat (first | refine blk_drewN ?_ _ | refine blk_drew ?_ | refine blk_alloc ?_ _)); refine blk_far ?_ NB160_170.out _; exact blkt BK160) Tryz.underlying33 rfl (by kernel_rfl)) rfl ?_
      exact ⟨by first | rfl | (simp [errW_none, errW_some] <;> rfl) | (simp [*, errW_none, errW_some] <;> rfl), belt HB⟩
     rw [if_neg c9] at H
     exact absurd H (by simp)
    rw [if_neg c8] at H
    exact absurd H (by simp)
   rw [if_neg c7] at H
   have c7b0 : decide (x15_1 < (l1.length : Int)) = false := decide_eq_false c7
   clear c7
   simp only [Option.some.injEq, Prod.mk.injEq] at H
   obtain ⟨rfl, rfl, rfl, rfl, rfl, rfl⟩ := H
   have hnb38 := NB161_160.out
   have hnc38 := NB160_161.out
   have hcz39_0 : wr.cell? ⟨gb161, 0, none⟩ = some (.int .u64 x162000_1) := bc BK161 0
   have hcz39_1 : wr.cell? ⟨gb161, 1, none⟩ = some (.int .i64 x162001_1) := bc BK161 1
   have hcz39_2 : wr.cell? ⟨gb161, 2, none⟩ = some (.int .u64 x162002_1) := bc BK161 2
   have hcz39_3 : wr.cell? ⟨gb161, 3, none⟩ = some (.int .u64 x162003_1) := bc BK161 3
   have hcz39_4 : wr.cell? ⟨gb161, 4, none⟩ = some (.int .i64 x162004_1) := bc BK161 4
   have hfz39_0 := blk_frozen BK161.out 0
   have hfz39_1 := blk_frozen BK161.out 1
   have hfz39_2 := blk_frozen BK161.out 2
   have hfz39_3 := blk_frozen BK161.out 3
   have hfz39_4 := blk_frozen BK161.out 4
   have hcz40_0 : wr.cell? ⟨gb160, 0, none⟩ = some (.int .u64 x161000_1) := bc BK160 0
   have hcz40_1 : wr.cell? ⟨gb160, 1, none⟩ = some (.int .i64 x161001_1) := bc BK160 1
   have hcz40_2 : wr.cell? ⟨gb160, 2, none⟩ = some (.int .u64 x161002_1) := bc BK160 2
   have hcz40_3 : wr.cell? ⟨gb160, 3, none⟩ = some (.int .u64 x161003_1) := bc BK160 3
   have hcz40_4 : wr.cell? ⟨gb160, 4, none⟩ = some (.int .i64 x161004_1) := bc BK160 4
   have hfz40_0 := blk_frozen BK160.out 0
   have hfz40_1 := blk_frozen BK160.out 1
   have hfz40_2 := blk_frozen BK160.out 2
   have hfz40_3 := blk_frozen BK160.out 3
   have hfz40_4 := blk_frozen BK160.out 4
   go_wp2
   refine bodyPost_ret (results_ct rfl _ _ gb160 33 #[.int .u64 x162000_1, .int .i64 x162001_1, .int .u64 x162002_1, .int .u64 x162003_1, .int .i64 x162004_1] (0, 0) _ rfl (by (with_reducible repeat (first | refine blk_drewN ?_ _ | refine blk_drew ?_ | refine blk_alloc ?_ _)); refine blk_put (cs := #[.int .u64 x162000_1, .int .i64 x162001_1, .int .u64 x162002_1, .int .u64 x162003_1, .int .i64 x161004_1]) ?_ 4 _ rfl; (with_reducible repeat (first | refine blk_drewN ?_ _ | refine blk_drew ?_ | refine blk_alloc ?_ _)); refine blk_put (cs := #[.int .u64 x162000_1, .int .i64 x162001_1, .int .u64 x162002_1, .int .u64 x161003_1, .int .i64 x161004_1]) ?_ 3 _ rfl; (with_reducible repeat (first | refine blk_drewN ?_ _ | refine blk_drew ?_ | refine blk_alloc ?_ _)); refine blk_put (cs := #[.int .u64 x162000_1, .int .i64 x162001_1, .int .u64 x161002_1, .int .u64 x161003_1, .int .i64 x161004_1]) ?_ 2 _ rfl; (with_reducible repeat (first | refine blk_drewN ?_ _ | refine blk_drew ?_ | refine blk_alloc ?_ _)); refine blk_put (cs := #[.int .u64 x162000_1, .int .i64 x161001_1, .int .u64 x161002_1, .int .u64 x161003_1, .int .i64 x161004_1]) ?_ 1 _ rfl; (with_reducible repeat (first | refine blk_drewN ?_ _ | refine blk_drew ?_ | refine blk_alloc ?_ _)); refine blk_put (cs := #[.int .u64 x161000_1, .int .i64 x161001_1, .int .u64 x161002_1, .int .u64 x161003_1, .int .i64 x161004_1]) ?_ 0 _ rfl; exact blkt BK160) Tryz.underlying33 rfl (by kernel_rfl)) rfl ?_
   exact ⟨by first | rfl | (simp [errW_none, errW_some] <;> rfl) | (simp [*, errW_none, errW_some] <;> rfl), belt HB⟩

end Go.Proofs.YtfbkamgdkdnpoaaGreatDoor.Print
