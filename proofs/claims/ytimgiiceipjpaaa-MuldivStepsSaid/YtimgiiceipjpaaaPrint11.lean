/- What each Go function that is named below answers, as a Lean function, and that its walk comes to just that: for whatever arguments that function gives an answer for. Written by a program of this session (wip/mkpr.py, pr.sh). -/
import Derived.Test.YtimgiiceipjpaaaPrint0
namespace Go.Proofs.Ytimgiiceipjpaaa.Print
open Go.RowKit Go.Proofs.YtimgiiceipjpaaaW.PrintWords Go.Proofs.YtimgiiceipjpaaaW.PrintLast Go.Proofs.YtimgiiceipjpaaaW.PrintMore
attribute [local go_sem] max2_int min2_int max_two min_two max_three min_three max_four min_four   -- for this text's walks alone
open Go.Proofs.Ytimgiiceipjpaaa.Bits Go.Proofs.Ytimgiiceipjpaaa.Short
attribute [local go_sem] add64_run0 sub64_run0 add64_run sub64_run
set_option linter.unusedVariables false
set_option linter.unusedSimpArgs false

/-! ### turnstoneref01_digit: function 71 -/
def turnstoneref01_digit.f (a0_0 : Bool) (l0_1 : List Int) (a1 : Int) : Option (Int) := if a1 < (l0_1.length : Int) then (if 0 ≤ a1 then (some (rd l0_1 a1)) else (none)) else (some 0)
set_option maxHeartbeats 8000000 in
set_option maxRecDepth 100000 in
theorem turnstoneref01_digit.calls (a0_0 : Bool) (A0_1 : Option Addr) (c0_1 : Nat) (l0_1 : List Int) (a1 : Int) (r : Int) (w : World) (hr0_1 : Kd.C (Kd.int .i64) w A0_1 l0_1.length l0_1) (hc0_1 : l0_1.length ≤ c0_1) (h : turnstoneref01_digit.f a0_0 l0_1 a1 = some r) :
  Calls Try.prog 71 #[.agg #[.bool a0_0, .slice A0_1 l0_1.length c0_1], .int .i64 a1] w fun e w' => e = .returned (.int .i64 r) ∧ Below w.heap.size w w' := by
 have hu28 := Try.underlying28
 have HR0_1 := Aside0.mk hr0_1
 have HC0_1 := Aside0.mk hc0_1
 clear hr0_1 hc0_1
 have HB := Aside0.mk (Below.refl w.heap.size w)
 have H : (if a1 < (l0_1.length : Int) then (if 0 ≤ a1 then (some (rd l0_1 a1)) else (none)) else (some 0)) = some r := h
 clear h
 by_cases c3 : a1 < (l0_1.length : Int)
 ·rw [if_pos c3] at H
  have c3b0 : decide (a1 < (l0_1.length : Int)) = true := decide_eq_true c3
  clear c3
  by_cases c4 : 0 ≤ a1
  ·rw [if_pos c4] at H
   have c4b0 : decide (0 ≤ a1) = true := decide_eq_true c4
   clear c4
   obtain rfl := Option.some.inj H
   go_enter Try.func71, Try.ntmps71
   go_wp2_with (first | ((with_reducible refine gate_dst (N := 2) rfl ?_); refine box_event ?hg (N := 2) ?hd (cs := #[.bool a0_0, .slice A0_1 l0_1.length c0_1]) (t := 28) ?hr ?_; (case hd => rfl); (case hg => rfl); (case hr => first | (go_simp; done) | (go_simp; rfl)); intro gb187 hg w5 hbox hb; have n0_ := belb HB hb; have n1_ := Aside0.mk (hbox); have n2_ := bels HB hg; have n3_ := bels HB hg; clear HB; have HB := n0_; have BK187 := n1_; have GW187 := n2_; have GE187 := n3_; clear n0_ n1_ n2_ n3_; clear hb hbox hg; have hcz6_0 : w5.cell? ⟨gb187, 0, none⟩ = some (.bool a0_0) := (blk_cell BK187.out 0).trans rfl; have hcz6_1 : w5.cell? ⟨gb187, 1, none⟩ = some (.slice A0_1 l0_1.length c0_1) := (blk_cell BK187.out 1).trans rfl; have hfz6_0 := blk_frozen BK187.out 0; have hfz6_1 := blk_frozen BK187.out 1; have p188 : 0 ≤ (a1 : Int) := of_decide_eq_true (by first | (with_reducible assumption) | assumption); have q188 : a1 < (l0_1.length : Int) := of_decide_eq_true (by first | (with_reducible assumption) | assumption); obtain ⟨ad188, e188, hx188_0⟩ := Kd.at_int HR0_1.out a1 p188 q188; cases e188; replace hx188_0 := (HB.out.cell (World.block_lt_of_cell? w _ hx188_0)).trans hx188_0; replace p188 := eq_true p188; replace q188 := eq_true q188))
   go_ret
   exact ⟨by first | rfl | (simp [errW_none, errW_some] <;> rfl) | (simp [*, errW_none, errW_some] <;> rfl), by repeat (first | (with_reducible first | exact HB.out | apply below_alloc | apply pw_below_drewN | apply below_drew1 | refine below_set ?_ GE187.out) | exact HB.out)⟩
  ·rw [if_neg c4] at H
   exact absurd H (by simp)
 ·rw [if_neg c3] at H
  have c3b0 : decide (a1 < (l0_1.length : Int)) = false := decide_eq_false c3
  clear c3
  obtain rfl := Option.some.inj H
  go_enter Try.func71, Try.ntmps71
  go_wp2_with (first | ((with_reducible refine gate_dst (N := 2) rfl ?_); refine box_event ?hg (N := 2) ?hd (cs := #[.bool a0_0, .slice A0_1 l0_1.length c0_1]) (t := 28) ?hr ?_; (case hd => rfl); (case hg => rfl); (case hr => first | (go_simp; done) | (go_simp; rfl)); intro gb187 hg w7 hbox hb; have n0_ := belb HB hb; have n1_ := Aside0.mk (hbox); have n2_ := bels HB hg; have n3_ := bels HB hg; clear HB; have HB := n0_; have BK187 := n1_; have GW187 := n2_; have GE187 := n3_; clear n0_ n1_ n2_ n3_; clear hb hbox hg; have hcz8_0 : w7.cell? ⟨gb187, 0, none⟩ = some (.bool a0_0) := (blk_cell BK187.out 0).trans rfl; have hcz8_1 : w7.cell? ⟨gb187, 1, none⟩ = some (.slice A0_1 l0_1.length c0_1) := (blk_cell BK187.out 1).trans rfl; have hfz8_0 := blk_frozen BK187.out 0; have hfz8_1 := blk_frozen BK187.out 1))
  go_ret
  exact ⟨by first | rfl | (simp [errW_none, errW_some] <;> rfl) | (simp [*, errW_none, errW_some] <;> rfl), by repeat (first | (with_reducible first | exact HB.out | apply below_alloc | apply pw_below_drewN | apply below_drew1 | refine below_set ?_ GE187.out) | exact HB.out)⟩

end Go.Proofs.Ytimgiiceipjpaaa.Print
