/- What each Go function that is named below answers, as a Lean function, and that its walk comes to just that: for whatever arguments that function gives an answer for. Written by a program of this session (wip/mkpr.py, pr.sh). -/
import Derived.Test.YtdfpkjdhndfcbaaPrint1000
namespace Go.Proofs.Ytdfpkjdhndfcbaa.Print
open Go.RowKit Go.Proofs.YtdfpkjdhndfcbaaW.PrintWords Go.Proofs.YtdfpkjdhndfcbaaW.PrintLast Go.Proofs.YtdfpkjdhndfcbaaW.PrintMore
attribute [local go_sem] max2_int min2_int max_two min_two max_three min_three max_four min_four   -- for this text's walks alone
open Go.Proofs.Ytdfpkjdhndfcbaa.Bits Go.Proofs.Ytdfpkjdhndfcbaa.Short
attribute [local go_sem] add64_run0 sub64_run0 add64_run sub64_run
set_option linter.unusedVariables false
set_option linter.unusedSimpArgs false

/-! ### pos_weight: function 39 -/
def pos_weight.f (a0 : Int) : Option (Bool) := if a0 ≥ 1 then (some (decide (a0 ≤ 1048576))) else (some false)
set_option maxHeartbeats 8000000 in
set_option maxRecDepth 100000 in
theorem pos_weight.calls (a0 : Int) (r : Bool) (w : World) (h : pos_weight.f a0 = some r) :
  Calls Try.prog 39 #[.int .u32 a0] w fun e w' => e = .returned (.bool r) ∧ Drawn0 w w' := by
 have H : (if a0 ≥ 1 then (some (decide (a0 ≤ 1048576))) else (some false)) = some r := h
 clear h
 by_cases c2 : a0 ≥ 1
 ·rw [if_pos c2] at H
  have c2b0 : decide (1 ≤ a0) = true := decide_eq_true c2
  clear c2
  obtain rfl := Option.some.inj H
  go_enter Try.func39, Try.ntmps39
  go_wp2
  go_ret
  exact ⟨by first | rfl | (simp; done) | (simp [*]; done), by repeat (first | exact Drawn0.refl _ | apply Drawn0.step)⟩
 rw [if_neg c2] at H
 have c2b0 : decide (1 ≤ a0) = false := decide_eq_false c2
 clear c2
 obtain rfl := Option.some.inj H
 go_enter Try.func39, Try.ntmps39
 go_wp2
 go_ret
 exact ⟨by first | rfl | (simp; done) | (simp [*]; done), by repeat (first | exact Drawn0.refl _ | apply Drawn0.step)⟩


/-! ### pos_Pos_Right: function 26 -/
def pos_Pos_Right.f (a0_0 : Int) (a0_1 : Int) (a0_2 : Int) : Option (Bool) := (pos_weight.f a0_2).bind fun t123 => (if t123 = true then (some (decide (a0_1 < a0_2))) else (some false))
set_option maxHeartbeats 8000000 in
set_option maxRecDepth 100000 in
theorem pos_Pos_Right.calls (a0_0 : Int) (a0_1 : Int) (a0_2 : Int) (r : Bool) (w : World) (h : pos_Pos_Right.f a0_0 a0_1 a0_2 = some r) :
  Calls Try.prog 26 #[.agg #[.int .u64 a0_0, .int .u32 a0_1, .int .u32 a0_2]] w fun e w' => e = .returned (.bool r) ∧ Below w.heap.size w w' := by
 have hu26 := Try.underlying26
 have HB := Aside0.mk (Below.refl w.heap.size w)
 have H : ((pos_weight.f a0_2).bind fun t123 => (if t123 = true then (some (decide (a0_1 < a0_2))) else (some false))) = some r := h
 clear h
 replace H := Option.bind_eq_some_iff.mp H
 obtain ⟨t123, A20, H⟩ := H
 replace H : (if t123 = true then (some (decide (a0_1 < a0_2))) else (some false)) = some r := H
 have A2 := Aside0.mk A20
 clear A20
 by_cases c3 : t123 = true
 ·subst c3
  have H1 : (some (decide (a0_1 < a0_2))) = some r := by rw [if_pos rfl] at H; exact H
  clear H
  have H := H1
  clear H1
  obtain rfl := Option.some.inj H
  go_enter Try.func26, Try.ntmps26
  go_wp2_with (first | ((with_reducible refine gate_dst (N := 1) rfl ?_); refine box_event ?hg (N := 1) ?hd (cs := #[.int .u64 a0_0, .int .u32 a0_1, .int .u32 a0_2]) (t := 26) ?hr ?_; (case hd => rfl); (case hg => rfl); (case hr => first | (go_simp; done) | (go_simp; rfl)); intro gb122 hg w4 hbox hb; have BK122 := Aside0.mk (hbox); have GW122 := bels HB hg; have GE122 := bels HB hg; replace HB := belb HB hb; clear hb hbox hg; have hcz5_0 : w4.cell? ⟨gb122, 0, none⟩ = some (.int .u64 a0_0) := bc BK122 0; have hcz5_1 : w4.cell? ⟨gb122, 1, none⟩ = some (.int .u32 a0_1) := bc BK122 1; have hcz5_2 : w4.cell? ⟨gb122, 2, none⟩ = some (.int .u32 a0_2) := bc BK122 2; have hfz5_0 := blk_frozen BK122.out 0; have hfz5_1 := blk_frozen BK122.out 1; have hfz5_2 := blk_frozen BK122.out 2) | ((with_reducible refine gate_callee (f := 39) rfl ?_); refine goesL_ (some 5) rfl rfl Try.func39 (by kernel_rfl) rfl #[.int .u32 a0_2] rfl argt ?_; (with_reducible refine (pos_weight.calls a0_2 true _ A2.out).mono ?_); rintro e w' ⟨rfl, ⟨nd, rfl⟩⟩; refine ⟨_, rfl, ?_⟩))
  go_ret
  exact ⟨by first | rfl | (simp [errW_none, errW_some] <;> rfl) | (simp [*, errW_none, errW_some] <;> rfl), belt HB⟩
 replace c3 := Bool.eq_false_iff.mpr c3
 subst c3
 have H1 : (some false) = some r := by rw [if_neg (show ¬ (false = true) by decide)] at H; exact H
 clear H
 have H := H1
 clear H1
 obtain rfl := Option.some.inj H
 go_enter Try.func26, Try.ntmps26
 go_wp2_with (first | ((with_reducible refine gate_dst (N := 1) rfl ?_); refine box_event ?hg (N := 1) ?hd (cs := #[.int .u64 a0_0, .int .u32 a0_1, .int .u32 a0_2]) (t := 26) ?hr ?_; (case hd => rfl); (case hg => rfl); (case hr => first | (go_simp; done) | (go_simp; rfl)); intro gb122 hg w6 hbox hb; have BK122 := Aside0.mk (hbox); have GW122 := bels HB hg; have GE122 := bels HB hg; replace HB := belb HB hb; clear hb hbox hg; have hcz7_0 : w6.cell? ⟨gb122, 0, none⟩ = some (.int .u64 a0_0) := bc BK122 0; have hcz7_1 : w6.cell? ⟨gb122, 1, none⟩ = some (.int .u32 a0_1) := bc BK122 1; have hcz7_2 : w6.cell? ⟨gb122, 2, none⟩ = some (.int .u32 a0_2) := bc BK122 2; have hfz7_0 := blk_frozen BK122.out 0; have hfz7_1 := blk_frozen BK122.out 1; have hfz7_2 := blk_frozen BK122.out 2) | ((with_reducible refine gate_callee (f := 39) rfl ?_); refine goesL_ (some 5) rfl rfl Try.func39 (by kernel_rfl) rfl #[.int .u32 a0_2] rfl argt ?_; (with_reducible refine (pos_weight.calls a0_2 false _ A2.out).mono ?_); rintro e w' ⟨rfl, ⟨nd, rfl⟩⟩; refine ⟨_, rfl, ?_⟩))
 go_ret
 exact ⟨by first | rfl | (simp [errW_none, errW_some] <;> rfl) | (simp [*, errW_none, errW_some] <;> rfl), belt HB⟩


/-! ### item_Item_Right: function 11 -/
def item_Item_Right.f (a0_0 : Int) (a0_1 : Int) (a0_2 : Int) (a0_3 : Int) (a0_4 : Int) (a0_5 : Int) (a0_6 : Int) : Option (Bool) := (vtime_Time_Since.f a0_4 a0_0).bind fun t125 => ((pos_Pos_Right.f a0_0 a0_1 a0_2).bind fun t126 => (if t126 = true then ((pos_Pos_Right.f a0_4 a0_5 a0_6).bind fun t127 => (if t127 = true then (if a0_2 = a0_6 then (if a0_3 > 0 then (if t125 ≥ 0 then (some (decide (t125 ≤ 1152921504606846976))) else (some false)) else (some false)) else (some false)) else (some false))) else (some false)))
set_option maxHeartbeats 8000000 in
set_option maxRecDepth 100000 in
theorem item_Item_Right.calls (a0_0 : Int) (a0_1 : Int) (a0_2 : Int) (a0_3 : Int) (a0_4 : Int) (a0_5 : Int) (a0_6 : Int) (r : Bool) (w : World) (h : item_Item_Right.f a0_0 a0_1 a0_2 a0_3 a0_4 a0_5 a0_6 = some r) :
  Calls Try.prog 11 #[.agg #[.int .u64 a0_0, .int .u32 a0_1, .int .u32 a0_2, .int .i64 a0_3, .int .u64 a0_4, .int .u32 a0_5, .int .u32 a0_6]] w fun e w' => e = .returned (.bool r) ∧ Below w.heap.size w w' := by
 have hu28 := Try.underlying28
 have hu26 := Try.underlying26
 have HB := Aside0.mk (Below.refl w.heap.size w)
 have H : ((vtime_Time_Since.f a0_4 a0_0).bind fun t125 => ((pos_Pos_Right.f a0_0 a0_1 a0_2).bind fun t126 => (if t126 = true then ((pos_Pos_Right.f a0_4 a0_5 a0_6).bind fun t127 => (if t127 = true then (if a0_2 = a0_6 then (if a0_3 > 0 then (if t125 ≥ 0 then (some (decide (t125 ≤ 1152921504606846976))) else (some false)) else (some false)) else (some false)) else (some false))) else (some false)))) = some r := h
 clear h
 replace H := Option.bind_eq_some_iff.mp H
 obtain ⟨t125, A20, H⟩ := H
 replace H : ((pos_Pos_Right.f a0_0 a0_1 a0_2).bind fun t126 => (if t126 = true then ((pos_Pos_Right.f a0_4 a0_5 a0_6).bind fun t127 => (if t127 = true then (if a0_2 = a0_6 then (if a0_3 > 0 then (if t125 ≥ 0 then (some (decide (t125 ≤ 1152921504606846976))) else (some false)) else (some false)) else (some false)) else (some false))) else (some false))) = some r := H
 have A2 := Aside0.mk A20
 clear A20
 replace H := Option.bind_eq_some_iff.mp H
 obtain ⟨t126, A30, H⟩ := H
 replace H : (if t126 = true then ((pos_Pos_Right.f a0_4 a0_5 a0_6).bind fun t127 => (if t127 = true then (if a0_2 = a0_6 then (if a0_3 > 0 then (if t125 ≥ 0 then (some (decide (t125 ≤ 1152921504606846976))) else (some false)) else (some false)) else (some false)) else (some false))) else (some false)) = some r := H
 have A3 := Aside0.mk A30
 clear A30
 by_cases c4 : t126 = true
 ·subst c4
  have H1 : ((pos_Pos_Right.f a0_4 a0_5 a0_6).bind fun t127 => (if t127 = true then (if a0_2 = a0_6 then (if a0_3 > 0 then (if t125 ≥ 0 then (some (decide (t125 ≤ 1152921504606846976))) else (some false)) else (some false)) else (some false)) else (some false))) = some r := by rw [if_pos rfl] at H; exact H
  clear H
  have H := H1
  clear H1
  replace H := Option.bind_eq_some_iff.mp H
  obtain ⟨t127, A50, H⟩ := H
  replace H : (if t127 = true then (if a0_2 = a0_6 then (if a0_3 > 0 then (if t125 ≥ 0 then (some (decide (t125 ≤ 1152921504606846976))) else (some false)) else (some false)) else (some false)) else (some false)) = some r := H
  have A5 := Aside0.mk A50
  clear A50
  by_cases c6 : t127 = true
  ·subst c6
   have H1 : (if a0_2 = a0_6 then (if a0_3 > 0 then (if t125 ≥ 0 then (some (decide (t125 ≤ 1152921504606846976))) else (some false)) else (some false)) else (some false)) = some r := by rw [if_pos rfl] at H; exact H
   clear H
   have H := H1
   clear H1
   by_cases c7 : a0_2 = a0_6
   ·rw [if_pos c7] at H
    have c7b0 : (a0_2 == a0_6) = true := beq_iff_eq.mpr c7
    have c7b1 : (a0_2 != a0_6) = false := bne_eq_false_iff_eq.mpr c7
    clear c7
    by_cases c8 : a0_3 > 0
    ·rw [if_pos c8] at H
     have c8b0 : decide (0 < a0_3) = true := decide_eq_true c8
     clear c8
     by_cases c9 : t125 ≥ 0
     ·rw [if_pos c9] at H
      have c9b0 : decide (0 ≤ t125) = true := decide_eq_true c9
      clear c9
      obtain rfl := Option.some.inj H
      go_enter Try.func11, Try.ntmps11
      go_wp2_with (first | ((with_reducible refine gate_dst (N := 1) rfl ?_); refine box_event ?hg (N := 1) ?hd (cs := #[.int .u64 a0_0, .int .u32 a0_1, .int .u32 a0_2, .int .i64 a0_3, .int .u64 a0_4, .int .u32 a0_5, .int .u32 a0_6]) (t := 28) ?hr ?_; (case hd => rfl); (case hg => rfl); (case hr => first | (go_simp; done) | (go_simp; rfl)); intro gb124 hg w10 hbox hb; have BK124 := Aside0.mk (hbox); have GW124 := bels HB hg; have GE124 := bels HB hg; replace HB := belb HB hb; clear hb hbox hg; have hcz11_0 : w10.cell? ⟨gb124, 0, none⟩ = some (.int .u64 a0_0) := bc BK124 0; have hcz11_1 : w10.cell? ⟨gb124, 1, none⟩ = some (.int .u32 a0_1) := bc BK124 1; have hcz11_2 : w10.cell? ⟨gb124, 2, none⟩ = some (.int .u32 a0_2) := bc BK124 2; have hcz11_3 : w10.cell? ⟨gb124, 3, none⟩ = some (.int .i64 a0_3) := bc BK124 3; have hcz11_4 : w10.cell? ⟨gb124, 4, none⟩ = some (.int .u64 a0_4) := bc BK124 4; have hcz11_5 : w10.cell? ⟨gb124, 5, none⟩ = some (.int .u32 a0_5) := bc BK124 5; have hcz11_6 : w10.cell? ⟨gb124, 6, none⟩ = some (.int .u32 a0_6) := bc BK124 6; have hfz11_0 := blk_frozen BK124.out 0; have hfz11_1 := blk_frozen BK124.out 1; have hfz11_2 := blk_frozen BK124.out 2; have hfz11_3 := blk_frozen BK124.out 3; have hfz11_4 := blk_frozen BK124.out 4; have hfz11_5 := blk_frozen BK124.out 5; have hfz11_6 := blk_frozen BK124.out 6) | ((with_reducible refine gate_callee (f := 24) rfl ?_); refine goesL_ (some 10) rfl rfl Try.func24 (by kernel_rfl) rfl #[.int .u64 a0_4, .int .u64 a0_0] rfl argt ?_; (with_reducible refine (vtime_Time_Since.calls a0_4 a0_0 t125 _ A2.out).mono ?_); rintro e w' ⟨rfl, ⟨nd, rfl⟩⟩; refine ⟨_, rfl, ?_⟩) | ((with_reducible refine gate_callee (f := 26) rfl ?_); refine goesL_ (some 13) rfl rfl Try.func26 (by kernel_rfl) rfl #[.agg #[.int .u64 a0_0, .int .u32 a0_1, .int .u32 a0_2]] rfl argt ?_; (with_reducible refine (pos_Pos_Right.calls a0_0 a0_1 a0_2 true _ A3.out).mono ?_); rintro e w12 ⟨rfl, hb⟩; refine ⟨_, rfl, ?_⟩; replace BK124 := blkb BK124 hb; replace HB := belb HB hb; (try clear hb); (try clear hb2); (try clear hk); (try clear hi); have hcz13_0 : w12.cell? ⟨gb124, 0, none⟩ = some (.int .u64 a0_0) := bc BK124 0; have hcz13_1 : w12.cell? ⟨gb124, 1, none⟩ = some (.int .u32 a0_1) := bc BK124 1; have hcz13_2 : w12.cell? ⟨gb124, 2, none⟩ = some (.int .u32 a0_2) := bc BK124 2; have hcz13_3 : w12.cell? ⟨gb124, 3, none⟩ = some (.int .i64 a0_3) := bc BK124 3; have hcz13_4 : w12.cell? ⟨gb124, 4, none⟩ = some (.int .u64 a0_4) := bc BK124 4; have hcz13_5 : w12.cell? ⟨gb124, 5, none⟩ = some (.int .u32 a0_5) := bc BK124 5; have hcz13_6 : w12.cell? ⟨gb124, 6, none⟩ = some (.int .u32 a0_6) := bc BK124 6; have hfz13_0 := blk_frozen BK124.out 0; have hfz13_1 := blk_frozen BK124.out 1; have hfz13_2 := blk_frozen BK124.out 2; have hfz13_3 := blk_frozen BK124.out 3; have hfz13_4 := blk_frozen BK124.out 4; have hfz13_5 := blk_frozen BK124.out 5; have hfz13_6 := blk_frozen BK124.out 6) | (go_at_call 26; (with_reducible refine (pos_Pos_Right.calls a0_4 a0_5 a0_6 true _ A5.out).mono ?_); rintro e w14 ⟨rfl, hb⟩; replace BK124 := blkb BK124 hb; replace HB := belb HB hb; (try clear hb); (try clear hb2); (try clear hk); (try clear hi); have hcz15_0 : w14.cell? ⟨gb124, 0, none⟩ = some (.int .u64 a0_0) := bc BK124 0; have hcz15_1 : w14.cell? ⟨gb124, 1, none⟩ = some (.int .u32 a0_1) := bc BK124 1; have hcz15_2 : w14.cell? ⟨gb124, 2, none⟩ = some (.int .u32 a0_2) := bc BK124 2; have hcz15_3 : w14.cell? ⟨gb124, 3, none⟩ = some (.int .i64 a0_3) := bc BK124 3; have hcz15_4 : w14.cell? ⟨gb124, 4, none⟩ = some (.int .u64 a0_4) := bc BK124 4; have hcz15_5 : w14.cell? ⟨gb124, 5, none⟩ = some (.int .u32 a0_5) := bc BK124 5; have hcz15_6 : w14.cell? ⟨gb124, 6, none⟩ = some (.int .u32 a0_6) := bc BK124 6; have hfz15_0 := blk_frozen BK124.out 0; have hfz15_1 := blk_frozen BK124.out 1; have hfz15_2 := blk_frozen BK124.out 2; have hfz15_3 := blk_frozen BK124.out 3; have hfz15_4 := blk_frozen BK124.out 4; have hfz15_5 := blk_frozen BK124.out 5; have hfz15_6 := blk_frozen BK124.out 6))
      go_ret
      exact ⟨by first | rfl | (simp [errW_none, errW_some] <;> rfl) | (simp [*, errW_none, errW_some] <;> rfl), belt HB⟩
     rw [if_neg c9] at H
     have c9b0 : decide (0 ≤ t125) = false := decide_eq_false c9
     clear c9
     obtain rfl := Option.some.inj H
     go_enter Try.func11, Try.ntmps11
     go_wp2_with (first | ((with_reducible refine gate_dst (N := 1) rfl ?_); refine box_event ?hg (N := 1) ?hd (cs := #[.int .u64 a0_0, .int .u32 a0_1, .int .u32 a0_2, .int .i64 a0_3, .int .u64 a0_4, .int .u32 a0_5, .int .u32 a0_6]) (t := 28) ?hr ?_; (case hd => rfl); (case hg => rfl); (case hr => first | (go_simp; done) | (go_simp; rfl)); intro gb124 hg w16 hbox hb; have BK124 := Aside0.mk (hbox); have GW124 := bels HB hg; have GE124 := bels HB hg; replace HB := belb HB hb; clear hb hbox hg; have hcz17_0 : w16.cell? ⟨gb124, 0, none⟩ = some (.int .u64 a0_0) := bc BK124 0; have hcz17_1 : w16.cell? ⟨gb124, 1, none⟩ = some (.int .u32 a0_1) := bc BK124 1; have hcz17_2 : w16.cell? ⟨gb124, 2, none⟩ = some (.int .u32 a0_2) := bc BK124 2; have hcz17_3 : w16.cell? ⟨gb124, 3, none⟩ = some (.int .i64 a0_3) := bc BK124 3; have hcz17_4 : w16.cell? ⟨gb124, 4, none⟩ = some (.int .u64 a0_4) := bc BK124 4; have hcz17_5 : w16.cell? ⟨gb124, 5, none⟩ = some (.int .u32 a0_5) := bc BK124 5; have hcz17_6 : w16.cell? ⟨gb124, 6, none⟩ = some (.int .u32 a0_6) := bc BK124 6; have hfz17_0 := blk_frozen BK124.out 0; have hfz17_1 := blk_frozen BK124.out 1; have hfz17_2 := blk_frozen BK124.out 2; have hfz17_3 := blk_frozen BK124.out 3; have hfz17_4 := blk_frozen BK124.out 4; have hfz17_5 := blk_frozen BK124.out 5; have hfz17_6 := blk_frozen BK124.out 6) | ((with_reducible refine gate_callee (f := 24) rfl ?_); refine goesL_ (some 10) rfl rfl Try.func24 (by kernel_rfl) rfl #[.int .u64 a0_4, .int .u64 a0_0] rfl argt ?_; (with_reducible refine (vtime_Time_Since.calls a0_4 a0_0 t125 _ A2.out).mono ?_); rintro e w' ⟨rfl, ⟨nd, rfl⟩⟩; refine ⟨_, rfl, ?_⟩) | ((with_reducible refine gate_callee (f := 26) rfl ?_); refine goesL_ (some 13) rfl rfl Try.func26 (by kernel_rfl) rfl #[.agg #[.int .u64 a0_0, .int .u32 a0_1, .int .u32 a0_2]] rfl argt ?_; (with_reducible refine (pos_Pos_Right.calls a0_0 a0_1 a0_2 true _ A3.out).mono ?_); rintro e w18 ⟨rfl, hb⟩; refine ⟨_, rfl, ?_⟩; replace BK124 := blkb BK124 hb; replace HB := belb HB hb; (try clear hb); (try clear hb2); (try clear hk); (try clear hi); have hcz19_0 : w18.cell? ⟨gb124, 0, none⟩ = some (.int .u64 a0_0) := bc BK124 0; have hcz19_1 : w18.cell? ⟨gb124, 1, none⟩ = some (.int .u32 a0_1) := bc BK124 1; have hcz19_2 : w18.cell? ⟨gb124, 2, none⟩ = some (.int .u32 a0_2) := bc BK124 2; have hcz19_3 : w18.cell? ⟨gb124, 3, none⟩ = some (.int .i64 a0_3) := bc BK124 3; have hcz19_4 : w18.cell? ⟨gb124, 4, none⟩ = some (.int .u64 a0_4) := bc BK124 4; have hcz19_5 : w18.cell? ⟨gb124, 5, none⟩ = some (.int .u32 a0_5) := bc BK124 5; have hcz19_6 : w18.cell? ⟨gb124, 6, none⟩ = some (.int .u32 a0_6) := bc BK124 6; have hfz19_0 := blk_frozen BK124.out 0; have hfz19_1 := blk_frozen BK124.out 1; have hfz19_2 := blk_frozen BK124.out 2; have hfz19_3 := blk_frozen BK124.out 3; have hfz19_4 := blk_frozen BK124.out 4; have hfz19_5 := blk_frozen BK124.out 5; have hfz19_6 := blk_frozen BK124.out 6) | (go_at_call 26; (with_reducible refine (pos_Pos_Right.calls a0_4 a0_5 a0_6 true _ A5.out).mono ?_); rintro e w20 ⟨rfl, hb⟩; replace BK124 := blkb BK124 hb; replace HB := belb HB hb; (try clear hb); (try clear hb2); (try clear hk); (try clear hi); have hcz21_0 : w20.cell? ⟨gb124, 0, none⟩ = some (.int .u64 a0_0) := bc BK124 0; have hcz21_1 : w20.cell? ⟨gb124, 1, none⟩ = some (.int .u32 a0_1) := bc BK124 1; have hcz21_2 : w20.cell? ⟨gb124, 2, none⟩ = some (.int .u32 a0_2) := bc BK124 2; have hcz21_3 : w20.cell? ⟨gb124, 3, none⟩ = some (.int .i64 a0_3) := bc BK124 3; have hcz21_4 : w20.cell? ⟨gb124, 4, none⟩ = some (.int .u64 a0_4) := bc BK124 4; have hcz21_5 : w20.cell? ⟨gb124, 5, none⟩ = some (.int .u32 a0_5) := bc BK124 5; have hcz21_6 : w20.cell? ⟨gb124, 6, none⟩ = some (.int .u32 a0_6) := bc BK124 6; have hfz21_0 := blk_frozen BK124.out 0; have hfz21_1 := blk_frozen BK124.out 1; have hfz21_2 := blk_frozen BK124.out 2; have hfz21_3 := blk_frozen BK124.out 3; have hfz21_4 := blk_frozen BK124.out 4; have hfz21_5 := blk_frozen BK124.out 5; have hfz21_6 := blk_frozen BK124.out 6))
     go_ret
     exact ⟨by first | rfl | (simp [errW_none, errW_some] <;> rfl) | (simp [*, errW_none, errW_some] <;> rfl), belt HB⟩
    rw [if_neg c8] at H
    have c8b0 : decide (0 < a0_3) = false := decide_eq_false c8
    clear c8
    obtain rfl := Option.some.inj H
    go_enter Try.func11, Try.ntmps11
    go_wp2_with (first | ((with_reducible refine gate_dst (N := 1) rfl ?_); refine box_event ?hg (N := 1) ?hd (cs := #[.int .u64 a0_0, .int .u32 a0_1, .int .u32 a0_2, .int .i64 a0_3, .int .u64 a0_4, .int .u32 a0_5, .int .u32 a0_6]) (t := 28) ?hr ?_; (case hd => rfl); (case hg => rfl); (case hr => first | (go_simp; done) | (go_simp; rfl)); intro gb124 hg w22 hbox hb; have BK124 := Aside0.mk (hbox); have GW124 := bels HB hg; have GE124 := bels HB hg; replace HB := belb HB hb; clear hb hbox hg; have hcz23_0 : w22.cell? ⟨gb124, 0, none⟩ = some (.int .u64 a0_0) := bc BK124 0; have hcz23_1 : w22.cell? ⟨gb124, 1, none⟩ = some (.int .u32 a0_1) := bc BK124 1; have hcz23_2 : w22.cell? ⟨gb124, 2, none⟩ = some (.int .u32 a0_2) := bc BK124 2; have hcz23_3 : w22.cell? ⟨gb124, 3, none⟩ = some (.int .i64 a0_3) := bc BK124 3; have hcz23_4 : w22.cell? ⟨gb124, 4, none⟩ = some (.int .u64 a0_4) := bc BK124 4; have hcz23_5 : w22.cell? ⟨gb124, 5, none⟩ = some (.int .u32 a0_5) := bc BK124 5; have hcz23_6 : w22.cell? ⟨gb124, 6, none⟩ = some (.int .u32 a0_6) := bc BK124 6; have hfz23_0 := blk_frozen BK124.out 0; have hfz23_1 := blk_frozen BK124.out 1; have hfz23_2 := blk_frozen BK124.out 2; have hfz23_3 := blk_frozen BK124.out 3; have hfz23_4 := blk_frozen BK124.out 4; have hfz23_5 := blk_frozen BK124.out 5; have hfz23_6 := blk_frozen BK124.out 6) | ((with_reducible refine gate_callee (f := 24) rfl ?_); refine goesL_ (some 10) rfl rfl Try.func24 (by kernel_rfl) rfl #[.int .u64 a0_4, .int .u64 a0_0] rfl argt ?_; (with_reducible refine (vtime_Time_Since.calls a0_4 a0_0 t125 _ A2.out).mono ?_); rintro e w' ⟨rfl, ⟨nd, rfl⟩⟩; refine ⟨_, rfl, ?_⟩) | ((with_reducible refine gate_callee (f := 26) rfl ?_); refine goesL_ (some 13) rfl rfl Try.func26 (by kernel_rfl) rfl #[.agg #[.int .u64 a0_0, .int .u32 a0_1, .int .u32 a0_2]] rfl argt ?_; (with_reducible refine (pos_Pos_Right.calls a0_0 a0_1 a0_2 true _ A3.out).mono ?_); rintro e w24 ⟨rfl, hb⟩; refine ⟨_, rfl, ?_⟩; replace BK124 := blkb BK124 hb; replace HB := belb HB hb; (try clear hb); (try clear hb2); (try clear hk); (try clear hi); have hcz25_0 : w24.cell? ⟨gb124, 0, none⟩ = some (.int .u64 a0_0) := bc BK124 0; have hcz25_1 : w24.cell? ⟨gb124, 1, none⟩ = some (.int .u32 a0_1) := bc BK124 1; have hcz25_2 : w24.cell? ⟨gb124, 2, none⟩ = some (.int .u32 a0_2) := bc BK124 2; have hcz25_3 : w24.cell? ⟨gb124, 3, none⟩ = some (.int .i64 a0_3) := bc BK124 3; have hcz25_4 : w24.cell? ⟨gb124, 4, none⟩ = some (.int .u64 a0_4) := bc BK124 4; have hcz25_5 : w24.cell? ⟨gb124, 5, none⟩ = some (.int .u32 a0_5) := bc BK124 5; have hcz25_6 : w24.cell? ⟨gb124, 6, none⟩ = some (.int .u32 a0_6) := bc BK124 6; have hfz25_0 := blk_frozen BK124.out 0; have hfz25_1 := blk_frozen BK124.out 1; have hfz25_2 := blk_frozen BK124.out 2; have hfz25_3 := blk_frozen BK124.out 3; have hfz25_4 := blk_frozen BK124.out 4; have hfz25_5 := blk_frozen BK124.out 5; have hfz25_6 := blk_frozen BK124.out 6) | (go_at_call 26; (with_reducible refine (pos_Pos_Right.calls a0_4 a0_5 a0_6 true _ A5.out).mono ?_); rintro e w26 ⟨rfl, hb⟩; replace BK124 := blkb BK124 hb; replace HB := belb HB hb; (try clear hb); (try clear hb2); (try clear hk); (try clear hi); have hcz27_0 : w26.cell? ⟨gb124, 0, none⟩ = some (.int .u64 a0_0) := bc BK124 0; have hcz27_1 : w26.cell? ⟨gb124, 1, none⟩ = some (.int .u32 a0_1) := bc BK124 1; have hcz27_2 : w26.cell? ⟨gb124, 2, none⟩ = some (.int .u32 a0_2) := bc BK124 2; have hcz27_3 : w26.cell? ⟨gb124, 3, none⟩ = some (.int .i64 a0_3) := bc BK124 3; have hcz27_4 : w26.cell? ⟨gb124, 4, none⟩ = some (.int .u64 a0_4) := bc BK124 4; have hcz27_5 : w26.cell? ⟨gb124, 5, none⟩ = some (.int .u32 a0_5) := bc BK124 5; have hcz27_6 : w26.cell? ⟨gb124, 6, none⟩ = some (.int .u32 a0_6) := bc BK124 6; have hfz27_0 := blk_frozen BK124.out 0; have hfz27_1 := blk_frozen BK124.out 1; have hfz27_2 := blk_frozen BK124.out 2; have hfz27_3 := blk_frozen BK124.out 3; have hfz27_4 := blk_frozen BK124.out 4; have hfz27_5 := blk_frozen BK124.out 5; have hfz27_6 := blk_frozen BK124.out 6))
    go_ret
    exact ⟨by first | rfl | (simp [errW_none, errW_some] <;> rfl) | (simp [*, errW_none, errW_some] <;> rfl), belt HB⟩
   rw [if_neg c7] at H
   have c7b0 : (a0_2 == a0_6) = false := beq_eq_false_iff_ne.mpr c7
   have c7b1 : (a0_2 != a0_6) = true := bne_iff_ne.mpr c7
   obtain rfl := Option.some.inj H
   go_enter Try.func11, Try.ntmps11
   go_wp2_with (first | ((with_reducible refine gate_dst (N := 1) rfl ?_); refine box_event ?hg (N := 1) ?hd (cs := #[.int .u64 a0_0, .int .u32 a0_1, .int .u32 a0_2, .int .i64 a0_3, .int .u64 a0_4, .int .u32 a0_5, .int .u32 a0_6]) (t := 28) ?hr ?_; (case hd => rfl); (case hg => rfl); (case hr => first | (go_simp; done) | (go_simp; rfl)); intro gb124 hg w28 hbox hb; have BK124 := Aside0.mk (hbox); have GW124 := bels HB hg; have GE124 := bels HB hg; replace HB := belb HB hb; clear hb hbox hg; have hcz29_0 : w28.cell? ⟨gb124, 0, none⟩ = some (.int .u64 a0_0) := bc BK124 0; have hcz29_1 : w28.cell? ⟨gb124, 1, none⟩ = some (.int .u32 a0_1) := bc BK124 1; have hcz29_2 : w28.cell? ⟨gb124, 2, none⟩ = some (.int .u32 a0_2) := bc BK124 2; have hcz29_3 : w28.cell? ⟨gb124, 3, none⟩ = some (.int .i64 a0_3) := bc BK124 3; have hcz29_4 : w28.cell? ⟨gb124, 4, none⟩ = some (.int .u64 a0_4) := bc BK124 4; have hcz29_5 : w28.cell? ⟨gb124, 5, none⟩ = some (.int .u32 a0_5) := bc BK124 5; have hcz29_6 : w28.cell? ⟨gb124, 6, none⟩ = some (.int .u32 a0_6) := bc BK124 6; have hfz29_0 := blk_frozen BK124.out 0; have hfz29_1 := blk_frozen BK124.out 1; have hfz29_2 := blk_frozen BK124.out 2; have hfz29_3 := blk_frozen BK124.out 3; have hfz29_4 := blk_frozen BK124.out 4; have hfz29_5 := blk_frozen BK124.out 5; have hfz29_6 := blk_frozen BK124.out 6) | ((with_reducible refine gate_callee (f := 24) rfl ?_); refine goesL_ (some 10) rfl rfl Try.func24 (by kernel_rfl) rfl #[.int .u64 a0_4, .int .u64 a0_0] rfl argt ?_; (with_reducible refine (vtime_Time_Since.calls a0_4 a0_0 t125 _ A2.out).mono ?_); rintro e w' ⟨rfl, ⟨nd, rfl⟩⟩; refine ⟨_, rfl, ?_⟩) | ((with_reducible refine gate_callee (f := 26) rfl ?_); refine goesL_ (some 13) rfl rfl Try.func26 (by kernel_rfl) rfl #[.agg #[.int .u64 a0_0, .int .u32 a0_1, .int .u32 a0_2]] rfl argt ?_; (with_reducible refine (pos_Pos_Right.calls a0_0 a0_1 a0_2 true _ A3.out).mono ?_); rintro e w30 ⟨rfl, hb⟩; refine ⟨_, rfl, ?_⟩; replace BK124 := blkb BK124 hb; replace HB := belb HB hb; (try clear hb); (try clear hb2); (try clear hk); (try clear hi); have hcz31_0 : w30.cell? ⟨gb124, 0, none⟩ = some (.int .u64 a0_0) := bc BK124 0; have hcz31_1 : w30.cell? ⟨gb124, 1, none⟩ = some (.int .u32 a0_1) := bc BK124 1; have hcz31_2 : w30.cell? ⟨gb124, 2, none⟩ = some (.int .u32 a0_2) := bc BK124 2; have hcz31_3 : w30.cell? ⟨gb124, 3, none⟩ = some (.int .i64 a0_3) := bc BK124 3; have hcz31_4 : w30.cell? ⟨gb124, 4, none⟩ = some (.int .u64 a0_4) := bc BK124 4; have hcz31_5 : w30.cell? ⟨gb124, 5, none⟩ = some (.int .u32 a0_5) := bc BK124 5; have hcz31_6 : w30.cell? ⟨gb124, 6, none⟩ = some (.int .u32 a0_6) := bc BK124 6; have hfz31_0 := blk_frozen BK124.out 0; have hfz31_1 := blk_frozen BK124.out 1; have hfz31_2 := blk_frozen BK124.out 2; have hfz31_3 := blk_frozen BK124.out 3; have hfz31_4 := blk_frozen BK124.out 4; have hfz31_5 := blk_frozen BK124.out 5; have hfz31_6 := blk_frozen BK124.out 6) | (go_at_call 26; (with_reducible refine (pos_Pos_Right.calls a0_4 a0_5 a0_6 true _ A5.out).mono ?_); rintro e w32 ⟨rfl, hb⟩; replace BK124 := blkb BK124 hb; replace HB := belb HB hb; (try clear hb); (try clear hb2); (try clear hk); (try clear hi); have hcz33_0 : w32.cell? ⟨gb124, 0, none⟩ = some (.int .u64 a0_0) := bc BK124 0; have hcz33_1 : w32.cell? ⟨gb124, 1, none⟩ = some (.int .u32 a0_1) := bc BK124 1; have hcz33_2 : w32.cell? ⟨gb124, 2, none⟩ = some (.int .u32 a0_2) := bc BK124 2; have hcz33_3 : w32.cell? ⟨gb124, 3, none⟩ = some (.int .i64 a0_3) := bc BK124 3; have hcz33_4 : w32.cell? ⟨gb124, 4, none⟩ = some (.int .u64 a0_4) := bc BK124 4; have hcz33_5 : w32.cell? ⟨gb124, 5, none⟩ = some (.int .u32 a0_5) := bc BK124 5; have hcz33_6 : w32.cell? ⟨gb124, 6, none⟩ = some (.int .u32 a0_6) := bc BK124 6; have hfz33_0 := blk_frozen BK124.out 0; have hfz33_1 := blk_frozen BK124.out 1; have hfz33_2 := blk_frozen BK124.out 2; have hfz33_3 := blk_frozen BK124.out 3; have hfz33_4 := blk_frozen BK124.out 4; have hfz33_5 := blk_frozen BK124.out 5; have hfz33_6 := blk_frozen BK124.out 6))
   go_ret
   exact ⟨by first | rfl | (simp [errW_none, errW_some] <;> rfl) | (simp [*, errW_none, errW_some] <;> rfl), belt HB⟩
  replace c6 := Bool.eq_false_iff.mpr c6
  subst c6
  have H1 : (some false) = some r := by rw [if_neg (show ¬ (false = true) by decide)] at H; exact H
  clear H
  have H := H1
  clear H1
  obtain rfl := Option.some.inj H
  go_enter Try.func11, Try.ntmps11
  go_wp2_with (first | ((with_reducible refine gate_dst (N := 1) rfl ?_); refine box_event ?hg (N := 1) ?hd (cs := #[.int .u64 a0_0, .int .u32 a0_1, .int .u32 a0_2, .int .i64 a0_3, .int .u64 a0_4, .int .u32 a0_5, .int .u32 a0_6]) (t := 28) ?hr ?_; (case hd => rfl); (case hg => rfl); (case hr => first | (go_simp; done) | (go_simp; rfl)); intro gb124 hg w34 hbox hb; have BK124 := Aside0.mk (hbox); have GW124 := bels HB hg; have GE124 := bels HB hg; replace HB := belb HB hb; clear hb hbox hg; have hcz35_0 : w34.cell? ⟨gb124, 0, none⟩ = some (.int .u64 a0_0) := bc BK124 0; have hcz35_1 : w34.cell? ⟨gb124, 1, none⟩ = some (.int .u32 a0_1) := bc BK124 1; have hcz35_2 : w34.cell? ⟨gb124, 2, none⟩ = some (.int .u32 a0_2) := bc BK124 2; have hcz35_3 : w34.cell? ⟨gb124, 3, none⟩ = some (.int .i64 a0_3) := bc BK124 3; have hcz35_4 : w34.cell? ⟨gb124, 4, none⟩ = some (.int .u64 a0_4) := bc BK124 4; have hcz35_5 : w34.cell? ⟨gb124, 5, none⟩ = some (.int .u32 a0_5) := bc BK124 5; have hcz35_6 : w34.cell? ⟨gb124, 6, none⟩ = some (.int .u32 a0_6) := bc BK124 6; have hfz35_0 := blk_frozen BK124.out 0; have hfz35_1 := blk_frozen BK124.out 1; have hfz35_2 := blk_frozen BK124.out 2; have hfz35_3 := blk_frozen BK124.out 3; have hfz35_4 := blk_frozen BK124.out 4; have hfz35_5 := blk_frozen BK124.out 5; have hfz35_6 := blk_frozen BK124.out 6) | ((with_reducible refine gate_callee (f := 24) rfl ?_); refine goesL_ (some 10) rfl rfl Try.func24 (by kernel_rfl) rfl #[.int .u64 a0_4, .int .u64 a0_0] rfl argt ?_; (with_reducible refine (vtime_Time_Since.calls a0_4 a0_0 t125 _ A2.out).mono ?_); rintro e w' ⟨rfl, ⟨nd, rfl⟩⟩; refine ⟨_, rfl, ?_⟩) | ((with_reducible refine gate_callee (f := 26) rfl ?_); refine goesL_ (some 13) rfl rfl Try.func26 (by kernel_rfl) rfl #[.agg #[.int .u64 a0_0, .int .u32 a0_1, .int .u32 a0_2]] rfl argt ?_; (with_reducible refine (pos_Pos_Right.calls a0_0 a0_1 a0_2 true _ A3.out).mono ?_); rintro e w36 ⟨rfl, hb⟩; refine ⟨_, rfl, ?_⟩; replace BK124 := blkb BK124 hb; replace HB := belb HB hb; (try clear hb); (try clear hb2); (try clear hk); (try clear hi); have hcz37_0 : w36.cell? ⟨gb124, 0, none⟩ = some (.int .u64 a0_0) := bc BK124 0; have hcz37_1 : w36.cell? ⟨gb124, 1, none⟩ = some (.int .u32 a0_1) := bc BK124 1; have hcz37_2 : w36.cell? ⟨gb124, 2, none⟩ = some (.int .u32 a0_2) := bc BK124 2; have hcz37_3 : w36.cell? ⟨gb124, 3, none⟩ = some (.int .i64 a0_3) := bc BK124 3; have hcz37_4 : w36.cell? ⟨gb124, 4, none⟩ = some (.int .u64 a0_4) := bc BK124 4; have hcz37_5 : w36.cell? ⟨gb124, 5, none⟩ = some (.int .u32 a0_5) := bc BK124 5; have hcz37_6 : w36.cell? ⟨gb124, 6, none⟩ = some (.int .u32 a0_6) := bc BK124 6; have hfz37_0 := blk_frozen BK124.out 0; have hfz37_1 := blk_frozen BK124.out 1; have hfz37_2 := blk_frozen BK124.out 2; have hfz37_3 := blk_frozen BK124.out 3; have hfz37_4 := blk_frozen BK124.out 4; have hfz37_5 := blk_frozen BK124.out 5; have hfz37_6 := blk_frozen BK124.out 6) | (go_at_call 26; (with_reducible refine (pos_Pos_Right.calls a0_4 a0_5 a0_6 false _ A5.out).mono ?_); rintro e w38 ⟨rfl, hb⟩; replace BK124 := blkb BK124 hb; replace HB := belb HB hb; (try clear hb); (try clear hb2); (try clear hk); (try clear hi)))
  go_ret
  exact ⟨by first | rfl | (simp [errW_none, errW_some] <;> rfl) | (simp [*, errW_none, errW_some] <;> rfl), belt HB⟩
 replace c4 := Bool.eq_false_iff.mpr c4
 subst c4
 have H1 : (some false) = some r := by rw [if_neg (show ¬ (false = true) by decide)] at H; exact H
 clear H
 have H := H1
 clear H1
 obtain rfl := Option.some.inj H
 go_enter Try.func11, Try.ntmps11
 go_wp2_with (first | ((with_reducible refine gate_dst (N := 1) rfl ?_); refine box_event ?hg (N := 1) ?hd (cs := #[.int .u64 a0_0, .int .u32 a0_1, .int .u32 a0_2, .int .i64 a0_3, .int .u64 a0_4, .int .u32 a0_5, .int .u32 a0_6]) (t := 28) ?hr ?_; (case hd => rfl); (case hg => rfl); (case hr => first | (go_simp; done) | (go_simp; rfl)); intro gb124 hg w39 hbox hb; have BK124 := Aside0.mk (hbox); have GW124 := bels HB hg; have GE124 := bels HB hg; replace HB := belb HB hb; clear hb hbox hg; have hcz40_0 : w39.cell? ⟨gb124, 0, none⟩ = some (.int .u64 a0_0) := bc BK124 0; have hcz40_1 : w39.cell? ⟨gb124, 1, none⟩ = some (.int .u32 a0_1) := bc BK124 1; have hcz40_2 : w39.cell? ⟨gb124, 2, none⟩ = some (.int .u32 a0_2) := bc BK124 2; have hcz40_3 : w39.cell? ⟨gb124, 3, none⟩ = some (.int .i64 a0_3) := bc BK124 3; have hcz40_4 : w39.cell? ⟨gb124, 4, none⟩ = some (.int .u64 a0_4) := bc BK124 4; have hcz40_5 : w39.cell? ⟨gb124, 5, none⟩ = some (.int .u32 a0_5) := bc BK124 5; have hcz40_6 : w39.cell? ⟨gb124, 6, none⟩ = some (.int .u32 a0_6) := bc BK124 6; have hfz40_0 := blk_frozen BK124.out 0; have hfz40_1 := blk_frozen BK124.out 1; have hfz40_2 := blk_frozen BK124.out 2; have hfz40_3 := blk_frozen BK124.out 3; have hfz40_4 := blk_frozen BK124.out 4; have hfz40_5 := blk_frozen BK124.out 5; have hfz40_6 := blk_frozen BK124.out 6) | ((with_reducible refine gate_callee (f := 24) rfl ?_); refine goesL_ (some 10) rfl rfl Try.func24 (by kernel_rfl) rfl #[.int .u64 a0_4, .int .u64 a0_0] rfl argt ?_; (with_reducible refine (vtime_Time_Since.calls a0_4 a0_0 t125 _ A2.out).mono ?_); rintro e w' ⟨rfl, ⟨nd, rfl⟩⟩; refine ⟨_, rfl, ?_⟩) | ((with_reducible refine gate_callee (f := 26) rfl ?_); refine goesL_ (some 13) rfl rfl Try.func26 (by kernel_rfl) rfl #[.agg #[.int .u64 a0_0, .int .u32 a0_1, .int .u32 a0_2]] rfl argt ?_; (with_reducible refine (pos_Pos_Right.calls a0_0 a0_1 a0_2 false _ A3.out).mono ?_); rintro e w41 ⟨rfl, hb⟩; refine ⟨_, rfl, ?_⟩; replace BK124 := blkb BK124 hb; replace HB := belb HB hb; (try clear hb); (try clear hb2); (try clear hk); (try clear hi)))
 go_ret
 exact ⟨by first | rfl | (simp [errW_none, errW_some] <;> rfl) | (simp [*, errW_none, errW_some] <;> rfl), belt HB⟩

end Go.Proofs.Ytdfpkjdhndfcbaa.Print
