/- What each Go function that is named below answers, as a Lean function, and that its walk comes to just that: for whatever arguments that function gives an answer for. Written by a program of this session (wip/mkpr.py, pr.sh). -/
import Derived.Test.YtimgiiceipjpaaaPrint1000
namespace Go.Proofs.Ytimgiiceipjpaaa.Print
open Go.RowKit Go.Proofs.YtimgiiceipjpaaaW.PrintWords Go.Proofs.YtimgiiceipjpaaaW.PrintLast Go.Proofs.YtimgiiceipjpaaaW.PrintMore
attribute [local go_sem] max2_int min2_int max_two min_two max_three min_three max_four min_four   -- for this text's walks alone
open Go.Proofs.Ytimgiiceipjpaaa.Bits Go.Proofs.Ytimgiiceipjpaaa.Short
attribute [local go_sem] add64_run0 sub64_run0 add64_run sub64_run
set_option linter.unusedVariables false
set_option linter.unusedSimpArgs false

/-! ### wide_Int_flip: function 90 -/
def wide_Int_flip.f (a0_0 : Int) (a0_1 : Int) : Option (Int × Int) := if (subHi 0 a0_1 0) ≤ 1 then (some (wrap64 ((subLo 0 (IntKind.u64.wrap (a0_0)) (subHi 0 a0_1 0))), (subLo 0 a0_1 0))) else (none)
set_option maxHeartbeats 8000000 in
set_option maxRecDepth 100000 in
theorem wide_Int_flip.calls (a0_0 : Int) (a0_1 : Int) (r1 : Int) (r2 : Int) (w : World) (h : wide_Int_flip.f a0_0 a0_1 = some (r1, r2)) :
  Calls Try.prog 90 #[.agg #[.int .i64 a0_0, .int .u64 a0_1]] w fun e w' => e = .returned (.agg #[.int .i64 r1, .int .u64 r2]) ∧ Below w.heap.size w w' := by
 have hu59 := Try.underlying59
 have HB := Aside0.mk (Below.refl w.heap.size w)
 have H : (if (subHi 0 a0_1 0) ≤ 1 then (some (wrap64 ((subLo 0 (IntKind.u64.wrap (a0_0)) (subHi 0 a0_1 0))), (subLo 0 a0_1 0))) else (none)) = some (r1, r2) := h
 clear h
 by_cases c2 : (subHi 0 a0_1 0) ≤ 1
 ·rw [if_pos c2] at H
  have c2b0 : decide ((subHi 0 a0_1 0) ≤ 1) = true := decide_eq_true c2
  clear c2
  simp only [Option.some.injEq, Prod.mk.injEq] at H
  obtain ⟨rfl, rfl⟩ := H
  go_enter Try.func90, Try.ntmps90
  go_wp2_with (first | ((with_reducible refine gate_dst (N := 1) rfl ?_); refine box_event ?hg (N := 1) ?hd (cs := #[.int .i64 a0_0, .int .u64 a0_1]) (t := 59) ?hr ?_; (case hd => rfl); (case hg => rfl); (case hr => first | (go_simp; done) | (go_simp; rfl)); intro gb255 hg w3 hbox hb; have BK255 := Aside0.mk (hbox); have GW255 := bels HB hg; have GE255 := bels HB hg; replace HB := belb HB hb; clear hb hbox hg) | ((with_reducible refine gate_dst (N := 2) rfl ?_); refine box_event ?hg (N := 2) ?hd (cs := #[.int .i64 0, .int .u64 0]) (t := 59) ?hr ?_; (case hd => rfl); (case hg => rfl); (case hr => first | (go_simp; done) | (go_simp; rfl)); intro gb256 hg w4 hbox hb; have BK256 := Aside0.mk (hbox); have GW256 := bels HB hg; have GE256 := bels HB hg; have NB255_256 := blkl BK255 hg; have NB256_255 := blkg BK255 hg; replace BK255 := blkb BK255 hb; replace HB := belb HB hb; clear hb hbox hg; have hnb5 := NB255_256.out; have hnc5 := NB256_255.out; have hcz6_0 : w4.cell? ⟨gb255, 0, none⟩ = some (.int .i64 a0_0) := bc BK255 0; have hcz6_1 : w4.cell? ⟨gb255, 1, none⟩ = some (.int .u64 a0_1) := bc BK255 1; have hfz6_0 := blk_frozen BK255.out 0; have hfz6_1 := blk_frozen BK255.out 1; have hcz7_0 : w4.cell? ⟨gb256, 0, none⟩ = some (.int .i64 0) := bc BK256 0; have hcz7_1 : w4.cell? ⟨gb256, 1, none⟩ = some (.int .u64 0) := bc BK256 1; have hfz7_0 := blk_frozen BK256.out 0; have hfz7_1 := blk_frozen BK256.out 1))
  refine bodyPost_ret (results_cell_row rfl _ _ gb256 59 #[.int .i64 (wrap64 ((subLo 0 (IntKind.u64.wrap (a0_0)) (subHi 0 a0_1 0)))), .int .u64 (subLo 0 a0_1 0)] (0, 0) _ rfl (by (with_reducible repeat (first | refine blk_drewN ?_ _ | refine blk_drew ?_ | refine blk_alloc ?_ _)); refine blk_put (cs := #[.int .i64 (wrap64 ((subLo 0 (IntKind.u64.wrap (a0_0)) (subHi 0 a0_1 0)))), .int .u64 0]) ?_ 1 _ rfl; (with_reducible repeat (first | refine blk_drewN ?_ _ | refine blk_drew ?_ | refine blk_alloc ?_ _)); refine blk_put (cs := #[.int .i64 0, .int .u64 0]) ?_ 0 _ rfl; exact blkt BK256) Try.underlying59 rfl (by kernel_rfl)) rfl ?_
  exact ⟨by first | rfl | (simp [errW_none, errW_some] <;> rfl) | (simp [*, errW_none, errW_some] <;> rfl), belt HB⟩
 rw [if_neg c2] at H
 exact absurd H (by simp)


/-! ### wide_Int_size: function 87 -/
def wide_Int_size.f (a0_0 : Int) (a0_1 : Int) : Option (Int × Int) := if a0_0 < 0 then ((wide_Int_flip.f a0_0 a0_1).bind fun bt258 => (some (IntKind.u64.wrap (bt258.1), bt258.2))) else (some (IntKind.u64.wrap (a0_0), a0_1))
set_option maxHeartbeats 8000000 in
set_option maxRecDepth 100000 in
theorem wide_Int_size.calls (a0_0 : Int) (a0_1 : Int) (r1 : Int) (r2 : Int) (w : World) (h : wide_Int_size.f a0_0 a0_1 = some (r1, r2)) :
  Calls Try.prog 87 #[.agg #[.int .i64 a0_0, .int .u64 a0_1]] w fun e w' => e = .returned (.tuple #[.int .u64 r1, .int .u64 r2]) ∧ Below w.heap.size w w' := by
 have hu59 := Try.underlying59
 have HB := Aside0.mk (Below.refl w.heap.size w)
 have H : (if a0_0 < 0 then ((wide_Int_flip.f a0_0 a0_1).bind fun bt258 => (some (IntKind.u64.wrap (bt258.1), bt258.2))) else (some (IntKind.u64.wrap (a0_0), a0_1))) = some (r1, r2) := h
 clear h
 by_cases c2 : a0_0 < 0
 ·rw [if_pos c2] at H
  have c2b0 : decide (a0_0 < 0) = true := decide_eq_true c2
  clear c2
  replace H := Option.bind_eq_some_iff.mp H
  obtain ⟨⟨t258, t259⟩, A30, H⟩ := H
  replace H : (some (IntKind.u64.wrap (t258), t259)) = some (r1, r2) := H
  have A3 := Aside0.mk A30
  clear A30
  simp only [Option.some.injEq, Prod.mk.injEq] at H
  obtain ⟨rfl, rfl⟩ := H
  go_enter Try.func87, Try.ntmps87
  go_wp2_with (first | ((with_reducible refine gate_dst (N := 1) rfl ?_); refine box_event ?hg (N := 1) ?hd (cs := #[.int .i64 a0_0, .int .u64 a0_1]) (t := 59) ?hr ?_; (case hd => rfl); (case hg => rfl); (case hr => first | (go_simp; done) | (go_simp; rfl)); intro gb257 hg w4 hbox hb; have BK257 := Aside0.mk (hbox); have GW257 := bels HB hg; have GE257 := bels HB hg; replace HB := belb HB hb; clear hb hbox hg; have hcz5_0 : w4.cell? ⟨gb257, 0, none⟩ = some (.int .i64 a0_0) := bc BK257 0; have hcz5_1 : w4.cell? ⟨gb257, 1, none⟩ = some (.int .u64 a0_1) := bc BK257 1; have hfz5_0 := blk_frozen BK257.out 0; have hfz5_1 := blk_frozen BK257.out 1) | (go_at_call 90; (with_reducible refine (wide_Int_flip.calls a0_0 a0_1 t258 t259 _ A3.out).mono ?_); rintro e w6 ⟨rfl, hb⟩; replace BK257 := blkb BK257 hb; replace HB := belb HB hb; (try clear hb); (try clear hb2); (try clear hk); (try clear hi); have hcz7_0 : w6.cell? ⟨gb257, 0, none⟩ = some (.int .i64 a0_0) := bc BK257 0; have hcz7_1 : w6.cell? ⟨gb257, 1, none⟩ = some (.int .u64 a0_1) := bc BK257 1; have hfz7_0 := blk_frozen BK257.out 0; have hfz7_1 := blk_frozen BK257.out 1))
  repeat (go_quiet (first | ((with_reducible refine gate_dst (N := 1) rfl ?_); refine box_event ?hg (N := 1) ?hd (cs := #[.int .i64 a0_0, .int .u64 a0_1]) (t := 59) ?hr ?_; (case hd => rfl); (case hg => rfl); (case hr => first | (go_simp; done) | (go_simp; rfl)); intro gb257 hg w4 hbox hb; have BK257 := Aside0.mk (hbox); have GW257 := bels HB hg; have GE257 := bels HB hg; replace HB := belb HB hb; clear hb hbox hg; have hcz5_0 : w4.cell? ⟨gb257, 0, none⟩ = some (.int .i64 a0_0) := bc BK257 0; have hcz5_1 : w4.cell? ⟨gb257, 1, none⟩ = some (.int .u64 a0_1) := bc BK257 1; have hfz5_0 := blk_frozen BK257.out 0; have hfz5_1 := blk_frozen BK257.out 1) | (go_at_call 90; (with_reducible refine (wide_Int_flip.calls a0_0 a0_1 t258 t259 _ A3.out).mono ?_); rintro e w6 ⟨rfl, hb⟩; replace BK257 := blkb BK257 hb; replace HB := belb HB hb; (try clear hb); (try clear hb2); (try clear hk); (try clear hi); have hcz7_0 : w6.cell? ⟨gb257, 0, none⟩ = some (.int .i64 a0_0) := bc BK257 0; have hcz7_1 : w6.cell? ⟨gb257, 1, none⟩ = some (.int .u64 a0_1) := bc BK257 1; have hfz7_0 := blk_frozen BK257.out 0; have hfz7_1 := blk_frozen BK257.out 1)); try go_wp2_with (first | ((with_reducible refine gate_dst (N := 1) rfl ?_); refine box_event ?hg (N := 1) ?hd (cs := #[.int .i64 a0_0, .int .u64 a0_1]) (t := 59) ?hr ?_; (case hd => rfl); (case hg => rfl); (case hr => first | (go_simp; done) | (go_simp; rfl)); intro gb257 hg w4 hbox hb; have BK257 := Aside0.mk (hbox); have GW257 := bels HB hg; have GE257 := bels HB hg; replace HB := belb HB hb; clear hb hbox hg; have hcz5_0 : w4.cell? ⟨gb257, 0, none⟩ = some (.int .i64 a0_0) := bc BK257 0; have hcz5_1 : w4.cell? ⟨gb257, 1, none⟩ = some (.int .u64 a0_1) := bc BK257 1; have hfz5_0 := blk_frozen BK257.out 0; have hfz5_1 := blk_frozen BK257.out 1) | (go_at_call 90; (with_reducible refine (wide_Int_flip.calls a0_0 a0_1 t258 t259 _ A3.out).mono ?_); rintro e w6 ⟨rfl, hb⟩; replace BK257 := blkb BK257 hb; replace HB := belb HB hb; (try clear hb); (try clear hb2); (try clear hk); (try clear hi); have hcz7_0 : w6.cell? ⟨gb257, 0, none⟩ = some (.int .i64 a0_0) := bc BK257 0; have hcz7_1 : w6.cell? ⟨gb257, 1, none⟩ = some (.int .u64 a0_1) := bc BK257 1; have hfz7_0 := blk_frozen BK257.out 0; have hfz7_1 := blk_frozen BK257.out 1)))
  go_ret2
  exact ⟨by first | rfl | (simp [errW_none, errW_some] <;> rfl) | (simp [*, errW_none, errW_some] <;> rfl), belt HB⟩
 rw [if_neg c2] at H
 have c2b0 : decide (a0_0 < 0) = false := decide_eq_false c2
 clear c2
 simp only [Option.some.injEq, Prod.mk.injEq] at H
 obtain ⟨rfl, rfl⟩ := H
 go_enter Try.func87, Try.ntmps87
 go_wp2_with (first | ((with_reducible refine gate_dst (N := 1) rfl ?_); refine box_event ?hg (N := 1) ?hd (cs := #[.int .i64 a0_0, .int .u64 a0_1]) (t := 59) ?hr ?_; (case hd => rfl); (case hg => rfl); (case hr => first | (go_simp; done) | (go_simp; rfl)); intro gb257 hg w8 hbox hb; have BK257 := Aside0.mk (hbox); have GW257 := bels HB hg; have GE257 := bels HB hg; replace HB := belb HB hb; clear hb hbox hg; have hcz9_0 : w8.cell? ⟨gb257, 0, none⟩ = some (.int .i64 a0_0) := bc BK257 0; have hcz9_1 : w8.cell? ⟨gb257, 1, none⟩ = some (.int .u64 a0_1) := bc BK257 1; have hfz9_0 := blk_frozen BK257.out 0; have hfz9_1 := blk_frozen BK257.out 1))
 repeat (go_quiet (first | ((with_reducible refine gate_dst (N := 1) rfl ?_); refine box_event ?hg (N := 1) ?hd (cs := #[.int .i64 a0_0, .int .u64 a0_1]) (t := 59) ?hr ?_; (case hd => rfl); (case hg => rfl); (case hr => first | (go_simp; done) | (go_simp; rfl)); intro gb257 hg w8 hbox hb; have BK257 := Aside0.mk (hbox); have GW257 := bels HB hg; have GE257 := bels HB hg; replace HB := belb HB hb; clear hb hbox hg; have hcz9_0 : w8.cell? ⟨gb257, 0, none⟩ = some (.int .i64 a0_0) := bc BK257 0; have hcz9_1 : w8.cell? ⟨gb257, 1, none⟩ = some (.int .u64 a0_1) := bc BK257 1; have hfz9_0 := blk_frozen BK257.out 0; have hfz9_1 := blk_frozen BK257.out 1)); try go_wp2_with (first | ((with_reducible refine gate_dst (N := 1) rfl ?_); refine box_event ?hg (N := 1) ?hd (cs := #[.int .i64 a0_0, .int .u64 a0_1]) (t := 59) ?hr ?_; (case hd => rfl); (case hg => rfl); (case hr => first | (go_simp; done) | (go_simp; rfl)); intro gb257 hg w8 hbox hb; have BK257 := Aside0.mk (hbox); have GW257 := bels HB hg; have GE257 := bels HB hg; replace HB := belb HB hb; clear hb hbox hg; have hcz9_0 : w8.cell? ⟨gb257, 0, none⟩ = some (.int .i64 a0_0) := bc BK257 0; have hcz9_1 : w8.cell? ⟨gb257, 1, none⟩ = some (.int .u64 a0_1) := bc BK257 1; have hfz9_0 := blk_frozen BK257.out 0; have hfz9_1 := blk_frozen BK257.out 1)))
 go_ret2
 exact ⟨by first | rfl | (simp [errW_none, errW_some] <;> rfl) | (simp [*, errW_none, errW_some] <;> rfl), belt HB⟩


/-! ### pos_weight: function 75 -/
def pos_weight.f (a0 : Int) : Option (Bool) := if a0 ≥ 1 then (some (decide (a0 ≤ 1048576))) else (some false)
set_option maxHeartbeats 8000000 in
set_option maxRecDepth 100000 in
theorem pos_weight.calls (a0 : Int) (r : Bool) (w : World) (h : pos_weight.f a0 = some r) :
  Calls Try.prog 75 #[.int .u32 a0] w fun e w' => e = .returned (.bool r) ∧ Drawn0 w w' := by
 have H : (if a0 ≥ 1 then (some (decide (a0 ≤ 1048576))) else (some false)) = some r := h
 clear h
 by_cases c2 : a0 ≥ 1
 ·rw [if_pos c2] at H
  have c2b0 : decide (1 ≤ a0) = true := decide_eq_true c2
  clear c2
  obtain rfl := Option.some.inj H
  go_enter Try.func75, Try.ntmps75
  go_wp2
  go_ret
  exact ⟨by first | rfl | (simp; done) | (simp [*]; done), by repeat (first | exact Drawn0.refl _ | apply Drawn0.step)⟩
 rw [if_neg c2] at H
 have c2b0 : decide (1 ≤ a0) = false := decide_eq_false c2
 clear c2
 obtain rfl := Option.some.inj H
 go_enter Try.func75, Try.ntmps75
 go_wp2
 go_ret
 exact ⟨by first | rfl | (simp; done) | (simp [*]; done), by repeat (first | exact Drawn0.refl _ | apply Drawn0.step)⟩


/-! ### wide_Of: function 88 -/
def wide_Of.f (a0 : Int) : Option (Int × Int) := if a0 < 0 then (some ((-1), IntKind.u64.wrap (a0))) else (some (0, IntKind.u64.wrap (a0)))
set_option maxHeartbeats 8000000 in
set_option maxRecDepth 100000 in
theorem wide_Of.calls (a0 : Int) (r1 : Int) (r2 : Int) (w : World) (h : wide_Of.f a0 = some (r1, r2)) :
  Calls Try.prog 88 #[.int .i64 a0] w fun e w' => e = .returned (.agg #[.int .i64 r1, .int .u64 r2]) ∧ Below w.heap.size w w' := by
 have hu59 := Try.underlying59
 have HB := Aside0.mk (Below.refl w.heap.size w)
 have H : (if a0 < 0 then (some ((-1), IntKind.u64.wrap (a0))) else (some (0, IntKind.u64.wrap (a0)))) = some (r1, r2) := h
 clear h
 by_cases c2 : a0 < 0
 ·rw [if_pos c2] at H
  have c2b0 : decide (a0 < 0) = true := decide_eq_true c2
  clear c2
  simp only [Option.some.injEq, Prod.mk.injEq] at H
  obtain ⟨rfl, rfl⟩ := H
  go_enter Try.func88, Try.ntmps88
  go_wp2_with (first | ((with_reducible refine gate_dst (N := 2) rfl ?_); refine box_event ?hg (N := 2) ?hd (cs := #[.int .i64 0, .int .u64 0]) (t := 59) ?hr ?_; (case hd => rfl); (case hg => rfl); (case hr => first | (go_simp; done) | (go_simp; rfl)); intro gb270 hg w3 hbox hb; have BK270 := Aside0.mk (hbox); have GW270 := bels HB hg; have GE270 := bels HB hg; replace HB := belb HB hb; clear hb hbox hg) | ((with_reducible refine gate_dst (N := 3) rfl ?_); refine box_event ?hg (N := 3) ?hd (cs := #[.int .i64 0, .int .u64 0]) (t := 59) ?hr ?_; (case hd => rfl); (case hg => rfl); (case hr => first | (go_simp; done) | (go_simp; rfl)); intro gb271 hg w4 hbox hb; have BK271 := Aside0.mk (hbox); have GW271 := bels HB hg; have GE271 := bels HB hg; have NB270_271 := blkl BK270 hg; have NB271_270 := blkg BK270 hg; replace BK270 := blkb BK270 hb; replace HB := belb HB hb; clear hb hbox hg; have hnb5 := NB271_270.out; have hnc5 := NB270_271.out; have hcz6_0 : w4.cell? ⟨gb271, 0, none⟩ = some (.int .i64 0) := bc BK271 0; have hcz6_1 : w4.cell? ⟨gb271, 1, none⟩ = some (.int .u64 0) := bc BK271 1; have hfz6_0 := blk_frozen BK271.out 0; have hfz6_1 := blk_frozen BK271.out 1; have hcz7_0 : w4.cell? ⟨gb270, 0, none⟩ = some (.int .i64 0) := bc BK270 0; have hcz7_1 : w4.cell? ⟨gb270, 1, none⟩ = some (.int .u64 0) := bc BK270 1; have hfz7_0 := blk_frozen BK270.out 0; have hfz7_1 := blk_frozen BK270.out 1))
  refine bodyPost_ret (results_cell_row rfl _ _ gb270 59 #[.int .i64 (-1), .int .u64 (IntKind.u64.wrap (a0))] (0, 0) _ rfl (by (with_reducible repeat (first | refine blk_drewN ?_ _ | refine blk_drew ?_ | refine blk_alloc ?_ _)); refine blk_put (cs := #[.int .i64 (-1), .int .u64 0]) ?_ 1 _ rfl; (with_reducible repeat (first | refine blk_drewN ?_ _ | refine blk_drew ?_ | refine blk_alloc ?_ _)); refine blk_put (cs := #[.int .i64 0, .int .u64 0]) ?_ 0 _ rfl; (with_reducible repeat (first | refine blk_drewN ?_ _ | refine blk_drew ?_ | refine blk_alloc ?_ _)); refine blk_far ?_ NB270_271.out _; (with_reducible repeat (first | refine blk_drewN ?_ _ | refine blk_drew ?_ | refine blk_alloc ?_ _)); refine blk_far ?_ NB270_271.out _; (with_reducible repeat (first | refine blk_drewN ?_ _ | refine blk_drew ?_ | refine blk_alloc ?_ _)); refine blk_far ?_ NB270_271.out _; exact blkt BK270) Try.underlying59 rfl (by kernel_rfl)) rfl ?_
  exact ⟨by first | rfl | (simp [errW_none, errW_some] <;> rfl) | (simp [*, errW_none, errW_some] <;> rfl), belt HB⟩
 rw [if_neg c2] at H
 have c2b0 : decide (a0 < 0) = false := decide_eq_false c2
 clear c2
 simp only [Option.some.injEq, Prod.mk.injEq] at H
 obtain ⟨rfl, rfl⟩ := H
 go_enter Try.func88, Try.ntmps88
 go_wp2_with (first | ((with_reducible refine gate_dst (N := 2) rfl ?_); refine box_event ?hg (N := 2) ?hd (cs := #[.int .i64 0, .int .u64 0]) (t := 59) ?hr ?_; (case hd => rfl); (case hg => rfl); (case hr => first | (go_simp; done) | (go_simp; rfl)); intro gb270 hg w8 hbox hb; have BK270 := Aside0.mk (hbox); have GW270 := bels HB hg; have GE270 := bels HB hg; replace HB := belb HB hb; clear hb hbox hg) | ((with_reducible refine gate_dst (N := 3) rfl ?_); refine box_event ?hg (N := 3) ?hd (cs := #[.int .i64 0, .int .u64 0]) (t := 59) ?hr ?_; (case hd => rfl); (case hg => rfl); (case hr => first | (go_simp; done) | (go_simp; rfl)); intro gb271 hg w9 hbox hb; have BK271 := Aside0.mk (hbox); have GW271 := bels HB hg; have GE271 := bels HB hg; have NB270_271 := blkl BK270 hg; have NB271_270 := blkg BK270 hg; replace BK270 := blkb BK270 hb; replace HB := belb HB hb; clear hb hbox hg; have hnb10 := NB271_270.out; have hnc10 := NB270_271.out; have hcz11_0 : w9.cell? ⟨gb271, 0, none⟩ = some (.int .i64 0) := bc BK271 0; have hcz11_1 : w9.cell? ⟨gb271, 1, none⟩ = some (.int .u64 0) := bc BK271 1; have hfz11_0 := blk_frozen BK271.out 0; have hfz11_1 := blk_frozen BK271.out 1; have hcz12_0 : w9.cell? ⟨gb270, 0, none⟩ = some (.int .i64 0) := bc BK270 0; have hcz12_1 : w9.cell? ⟨gb270, 1, none⟩ = some (.int .u64 0) := bc BK270 1; have hfz12_0 := blk_frozen BK270.out 0; have hfz12_1 := blk_frozen BK270.out 1))
 refine bodyPost_ret (results_cell_row rfl _ _ gb270 59 #[.int .i64 0, .int .u64 (IntKind.u64.wrap (a0))] (0, 0) _ rfl (by (with_reducible repeat (first | refine blk_drewN ?_ _ | refine blk_drew ?_ | refine blk_alloc ?_ _)); refine blk_put (cs := #[.int .i64 0, .int .u64 0]) ?_ 1 _ rfl; (with_reducible repeat (first | refine blk_drewN ?_ _ | refine blk_drew ?_ | refine blk_alloc ?_ _)); refine blk_put (cs := #[.int .i64 0, .int .u64 0]) ?_ 0 _ rfl; (with_reducible repeat (first | refine blk_drewN ?_ _ | refine blk_drew ?_ | refine blk_alloc ?_ _)); refine blk_far ?_ NB270_271.out _; (with_reducible repeat (first | refine blk_drewN ?_ _ | refine blk_drew ?_ | refine blk_alloc ?_ _)); refine blk_far ?_ NB270_271.out _; exact blkt BK270) Try.underlying59 rfl (by kernel_rfl)) rfl ?_
 exact ⟨by first | rfl | (simp [errW_none, errW_some] <;> rfl) | (simp [*, errW_none, errW_some] <;> rfl), belt HB⟩


/-! ### wide_OfU: function 80 -/
def wide_OfU.f (a0 : Int) : Option (Int × Int) := some (0, a0)
set_option maxHeartbeats 8000000 in
set_option maxRecDepth 100000 in
theorem wide_OfU.calls (a0 : Int) (r1 : Int) (r2 : Int) (w : World) (h : wide_OfU.f a0 = some (r1, r2)) :
  Calls Try.prog 80 #[.int .u64 a0] w fun e w' => e = .returned (.agg #[.int .i64 r1, .int .u64 r2]) ∧ Below w.heap.size w w' := by
 have hu59 := Try.underlying59
 have HB := Aside0.mk (Below.refl w.heap.size w)
 have H : (some (0, a0)) = some (r1, r2) := h
 clear h
 simp only [Option.some.injEq, Prod.mk.injEq] at H
 obtain ⟨rfl, rfl⟩ := H
 go_enter Try.func80, Try.ntmps80
 go_wp2_with (first | ((with_reducible refine gate_dst (N := 2) rfl ?_); refine box_event ?hg (N := 2) ?hd (cs := #[.int .i64 0, .int .u64 0]) (t := 59) ?hr ?_; (case hd => rfl); (case hg => rfl); (case hr => first | (go_simp; done) | (go_simp; rfl)); intro gb286 hg w2 hbox hb; have BK286 := Aside0.mk (hbox); have GW286 := bels HB hg; have GE286 := bels HB hg; replace HB := belb HB hb; clear hb hbox hg; have hcz3_0 : w2.cell? ⟨gb286, 0, none⟩ = some (.int .i64 0) := bc BK286 0; have hcz3_1 : w2.cell? ⟨gb286, 1, none⟩ = some (.int .u64 0) := bc BK286 1; have hfz3_0 := blk_frozen BK286.out 0; have hfz3_1 := blk_frozen BK286.out 1))
 refine bodyPost_ret (results_cell_row rfl _ _ gb286 59 #[.int .i64 0, .int .u64 a0] (0, 0) _ rfl (by (with_reducible repeat (first | refine blk_drewN ?_ _ | refine blk_drew ?_ | refine blk_alloc ?_ _)); refine blk_put (cs := #[.int .i64 0, .int .u64 0]) ?_ 1 _ rfl; (with_reducible repeat (first | refine blk_drewN ?_ _ | refine blk_drew ?_ | refine blk_alloc ?_ _)); refine blk_put (cs := #[.int .i64 0, .int .u64 0]) ?_ 0 _ rfl; exact blkt BK286) Try.underlying59 rfl (by kernel_rfl)) rfl ?_
 exact ⟨by first | rfl | (simp [errW_none, errW_some] <;> rfl) | (simp [*, errW_none, errW_some] <;> rfl), belt HB⟩


/-! ### wide_Int_Add: function 81 -/
def wide_Int_Add.f (a0_0 : Int) (a0_1 : Int) (a1_0 : Int) (a1_1 : Int) : Option (Int × Int × Bool) := if (addHi a0_1 a1_1 0) ≤ 1 then (if ((decide (a0_0 < 0)) == (decide (a1_0 < 0))) = true then (if ((decide (a0_0 < 0)) != (decide ((wrap64 ((addLo (IntKind.u64.wrap (a0_0)) (IntKind.u64.wrap (a1_0)) (addHi a0_1 a1_1 0)))) < 0))) = true then (some (0, 0, false)) else (some (wrap64 ((addLo (IntKind.u64.wrap (a0_0)) (IntKind.u64.wrap (a1_0)) (addHi a0_1 a1_1 0))), (addLo a0_1 a1_1 0), true))) else (some (wrap64 ((addLo (IntKind.u64.wrap (a0_0)) (IntKind.u64.wrap (a1_0)) (addHi a0_1 a1_1 0))), (addLo a0_1 a1_1 0), true))) else (none)
set_option maxHeartbeats 8000000 in
set_option maxRecDepth 100000 in
theorem wide_Int_Add.calls (a0_0 : Int) (a0_1 : Int) (a1_0 : Int) (a1_1 : Int) (r1 : Int) (r2 : Int) (r3 : Bool) (w : World) (h : wide_Int_Add.f a0_0 a0_1 a1_0 a1_1 = some (r1, r2, r3)) :
  Calls Try.prog 81 #[.agg #[.int .i64 a0_0, .int .u64 a0_1], .agg #[.int .i64 a1_0, .int .u64 a1_1]] w fun e w' => e = .returned (.tuple #[.agg #[.int .i64 r1, .int .u64 r2], .bool r3]) ∧ Below w.heap.size w w' := by
 have hu59 := Try.underlying59
 have HB := Aside0.mk (Below.refl w.heap.size w)
 have H : (if (addHi a0_1 a1_1 0) ≤ 1 then (if ((decide (a0_0 < 0)) == (decide (a1_0 < 0))) = true then (if ((decide (a0_0 < 0)) != (decide ((wrap64 ((addLo (IntKind.u64.wrap (a0_0)) (IntKind.u64.wrap (a1_0)) (addHi a0_1 a1_1 0)))) < 0))) = true then (some (0, 0, false)) else (some (wrap64 ((addLo (IntKind.u64.wrap (a0_0)) (IntKind.u64.wrap (a1_0)) (addHi a0_1 a1_1 0))), (addLo a0_1 a1_1 0), true))) else (some (wrap64 ((addLo (IntKind.u64.wrap (a0_0)) (IntKind.u64.wrap (a1_0)) (addHi a0_1 a1_1 0))), (addLo a0_1 a1_1 0), true))) else (none)) = some (r1, r2, r3) := h
 clear h
 by_cases c3 : (addHi a0_1 a1_1 0) ≤ 1
 ·rw [if_pos c3] at H
  have c3b0 : decide ((addHi a0_1 a1_1 0) ≤ 1) = true := decide_eq_true c3
  clear c3
  by_cases c4 : ((decide (a0_0 < 0)) == (decide (a1_0 < 0))) = true
  ·rw [if_pos c4] at H
   have c4b0 : ((decide (a0_0 < 0)) == (decide (a1_0 < 0))) = true := c4
   (try (have c4b1 : decide ((decide (a0_0 < 0)) = (decide (a1_0 < 0))) = true := by simpa using c4))
   (try (have c4b2 : ((decide (a0_0 < 0)) == (decide (a1_0 < 0))) = true := by simpa using c4))
   clear c4
   by_cases c5 : ((decide (a0_0 < 0)) != (decide ((wrap64 ((addLo (IntKind.u64.wrap (a0_0)) (IntKind.u64.wrap (a1_0)) (addHi a0_1 a1_1 0)))) < 0))) = true
   ·rw [if_pos c5] at H
    have c5b0 : ((decide (a0_0 < 0)) != (decide ((wrap64 ((addLo (IntKind.u64.wrap (a0_0)) (IntKind.u64.wrap (a1_0)) (addHi a0_1 a1_1 0)))) < 0))) = true := c5
    (try (have c5b1 : decide ((decide (a0_0 < 0)) = (decide ((wrap64 ((addLo (IntKind.u64.wrap (a0_0)) (IntKind.u64.wrap (a1_0)) (addHi a0_1 a1_1 0)))) < 0))) = false := by simpa using c5))
    (try (have c5b2 : ((decide (a0_0 < 0)) == (decide ((wrap64 ((addLo (IntKind.u64.wrap (a0_0)) (IntKind.u64.wrap (a1_0)) (addHi a0_1 a1_1 0)))) < 0))) = false := by simpa using c5))
    (try (have c5b3 : ¬ ((decide (a0_0 < 0)) = (decide ((wrap64 ((addLo (IntKind.u64.wrap (a0_0)) (IntKind.u64.wrap (a1_0)) (addHi a0_1 a1_1 0)))) < 0))) := by simpa using c5))
    clear c5
    simp only [Option.some.injEq, Prod.mk.injEq] at H
    obtain ⟨rfl, rfl, rfl⟩ := H
    go_enter Try.func81, Try.ntmps81
    go_wp2_with (first | ((with_reducible refine gate_dst (N := 2) rfl ?_); refine box_event ?hg (N := 2) ?hd (cs := #[.int .i64 a0_0, .int .u64 a0_1]) (t := 59) ?hr ?_; (case hd => rfl); (case hg => rfl); (case hr => first | (go_simp; done) | (go_simp; rfl)); intro gb287 hg w6 hbox hb; have BK287 := Aside0.mk (hbox); have GW287 := bels HB hg; have GE287 := bels HB hg; replace HB := belb HB hb; clear hb hbox hg) | ((with_reducible refine gate_dst (N := 3) rfl ?_); refine box_event ?hg (N := 3) ?hd (cs := #[.int .i64 a1_0, .int .u64 a1_1]) (t := 59) ?hr ?_; (case hd => rfl); (case hg => rfl); (case hr => first | (go_simp; done) | (go_simp; rfl)); intro gb288 hg w7 hbox hb; have BK288 := Aside0.mk (hbox); have GW288 := bels HB hg; have GE288 := bels HB hg; have NB287_288 := blkl BK287 hg; have NB288_287 := blkg BK287 hg; replace BK287 := blkb BK287 hb; replace HB := belb HB hb; clear hb hbox hg) | ((with_reducible refine gate_dst (N := 4) rfl ?_); refine box_event ?hg (N := 4) ?hd (cs := #[.int .i64 0, .int .u64 0]) (t := 59) ?hr ?_; (case hd => rfl); (case hg => rfl); (case hr => first | (go_simp; done) | (go_simp; rfl)); intro gb289 hg w8 hbox hb; have BK289 := Aside0.mk (hbox); have GW289 := bels HB hg; have GE289 := bels HB hg; have NB287_289 := blkl BK287 hg; have NB289_287 := blkg BK287 hg; have NB288_289 := blkl BK288 hg; have NB289_288 := blkg BK288 hg; replace BK287 := blkb BK287 hb; replace BK288 := blkb BK288 hb; replace HB := belb HB hb; clear hb hbox hg; have hnb9 := NB287_288.out; have hnc9 := NB288_287.out; have hnb10 := NB287_289.out; have hnc10 := NB289_287.out; have hcz11_0 : w8.cell? ⟨gb287, 0, none⟩ = some (.int .i64 a0_0) := bc BK287 0; have hcz11_1 : w8.cell? ⟨gb287, 1, none⟩ = some (.int .u64 a0_1) := bc BK287 1; have hfz11_0 := blk_frozen BK287.out 0; have hfz11_1 := blk_frozen BK287.out 1; have hnb12 := NB288_289.out; have hnc12 := NB289_288.out; have hcz13_0 : w8.cell? ⟨gb288, 0, none⟩ = some (.int .i64 a1_0) := bc BK288 0; have hcz13_1 : w8.cell? ⟨gb288, 1, none⟩ = some (.int .u64 a1_1) := bc BK288 1; have hfz13_0 := blk_frozen BK288.out 0; have hfz13_1 := blk_frozen BK288.out 1) | ((with_reducible refine gate_dst (N := 10) rfl ?_); refine box_event ?hg (N := 10) ?hd (cs := #[.int .i64 0, .int .u64 0]) (t := 59) ?hr ?_; (case hd => rfl); (case hg => rfl); (case hr => first | (go_simp; done) | (go_simp; rfl)); intro gb290 hg w14 hbox hb; have BK290 := Aside0.mk (hbox); have GW290 := bels HB hg; have GE290 := bels HB hg; have NB287_290 := blkl BK287 hg; have NB290_287 := blkg BK287 hg; have NB288_290 := blkl BK288 hg; have NB290_288 := blkg BK288 hg; have NB289_290 := blkl BK289 hg; have NB290_289 := blkg BK289 hg; replace BK287 := blkb BK287 hb; replace BK288 := blkb BK288 hb; replace BK289 := blkb BK289 hb; replace HB := belb HB hb; clear hb hbox hg; have hnb15 := NB290_287.out; have hnc15 := NB287_290.out; have hnb16 := NB290_288.out; have hnc16 := NB288_290.out; have hnb17 := NB290_289.out; have hnc17 := NB289_290.out; have hcz18_0 : w14.cell? ⟨gb290, 0, none⟩ = some (.int .i64 0) := bc BK290 0; have hcz18_1 : w14.cell? ⟨gb290, 1, none⟩ = some (.int .u64 0) := bc BK290 1; have hfz18_0 := blk_frozen BK290.out 0; have hfz18_1 := blk_frozen BK290.out 1; have hcz19_0 : w14.cell? ⟨gb287, 0, none⟩ = some (.int .i64 a0_0) := bc BK287 0; have hcz19_1 : w14.cell? ⟨gb287, 1, none⟩ = some (.int .u64 a0_1) := bc BK287 1; have hfz19_0 := blk_frozen BK287.out 0; have hfz19_1 := blk_frozen BK287.out 1; have hcz20_0 : w14.cell? ⟨gb288, 0, none⟩ = some (.int .i64 a1_0) := bc BK288 0; have hcz20_1 : w14.cell? ⟨gb288, 1, none⟩ = some (.int .u64 a1_1) := bc BK288 1; have hfz20_0 := blk_frozen BK288.out 0; have hfz20_1 := blk_frozen BK288.out 1; have hcz21_0 : w14.cell? ⟨gb289, 0, none⟩ = some (.int .i64 0) := bc BK289 0; have hcz21_1 : w14.cell? ⟨gb289, 1, none⟩ = some (.int .u64 0) := bc BK289 1; have hfz21_0 := blk_frozen BK289.out 0; have hfz21_1 := blk_frozen BK289.out 1))
    refine bodyPost_ret (results_ct rfl _ _ gb289 59 #[.int .i64 0, .int .u64 0] (0, 0) _ rfl (by (with_reducible repeat (first | refine blk_drewN ?_ _ | refine blk_drew ?_ | refine blk_alloc ?_ _)); refine blk_put (cs := #[.int .i64 0, .int .u64 0]) ?_ 1 _ rfl; (with_reducible repeat (first | refine blk_drewN ?_ _ | refine blk_drew ?_ | refine blk_alloc ?_ _)); refine blk_put (cs := #[.int .i64 0, .int .u64 0]) ?_ 0 _ rfl; (with_reducible repeat (first | refine blk_drewN ?_ _ | refine blk_drew ?_ | refine blk_alloc ?_ _)); refine blk_far ?_ NB289_290.out _; (with_reducible repeat (first | refine blk_drewN ?_ _ | refine blk_drew ?_ | refine blk_alloc ?_ _)); refine blk_far ?_ NB289_290.out _; exact blkt BK289) Try.underlying59 rfl (by kernel_rfl)) rfl ?_
    exact ⟨by first | rfl | (simp [errW_none, errW_some] <;> rfl) | (simp [*, errW_none, errW_some] <;> rfl), belt HB⟩
   rw [if_neg c5] at H
   have c5b0 : ((decide (a0_0 < 0)) != (decide ((wrap64 ((addLo (IntKind.u64.wrap (a0_0)) (IntKind.u64.wrap (a1_0)) (addHi a0_1 a1_1 0)))) < 0))) = false := by simpa using c5
   (try (have c5b1 : decide ((decide (a0_0 < 0)) = (decide ((wrap64 ((addLo (IntKind.u64.wrap (a0_0)) (IntKind.u64.wrap (a1_0)) (addHi a0_1 a1_1 0)))) < 0))) = true := by simpa using c5))
   (try (have c5b2 : ((decide (a0_0 < 0)) == (decide ((wrap64 ((addLo (IntKind.u64.wrap (a0_0)) (IntKind.u64.wrap (a1_0)) (addHi a0_1 a1_1 0)))) < 0))) = true := by simpa using c5))
   clear c5
   simp only [Option.some.injEq, Prod.mk.injEq] at H
   obtain ⟨rfl, rfl, rfl⟩ := H
   go_enter Try.func81, Try.ntmps81
   go_wp2_with (first | ((with_reducible refine gate_dst (N := 2) rfl ?_); refine box_event ?hg (N := 2) ?hd (cs := #[.int .i64 a0_0, .int .u64 a0_1]) (t := 59) ?hr ?_; (case hd => rfl); (case hg => rfl); (case hr => first | (go_simp; done) | (go_simp; rfl)); intro gb287 hg w22 hbox hb; have BK287 := Aside0.mk (hbox); have GW287 := bels HB hg; have GE287 := bels HB hg; replace HB := belb HB hb; clear hb hbox hg) | ((with_reducible refine gate_dst (N := 3) rfl ?_); refine box_event ?hg (N := 3) ?hd (cs := #[.int .i64 a1_0, .int .u64 a1_1]) (t := 59) ?hr ?_; (case hd => rfl); (case hg => rfl); (case hr => first | (go_simp; done) | (go_simp; rfl)); intro gb288 hg w23 hbox hb; have BK288 := Aside0.mk (hbox); have GW288 := bels HB hg; have GE288 := bels HB hg; have NB287_288 := blkl BK287 hg; have NB288_287 := blkg BK287 hg; replace BK287 := blkb BK287 hb; replace HB := belb HB hb; clear hb hbox hg) | ((with_reducible refine gate_dst (N := 4) rfl ?_); refine box_event ?hg (N := 4) ?hd (cs := #[.int .i64 0, .int .u64 0]) (t := 59) ?hr ?_; (case hd => rfl); (case hg => rfl); (case hr => first | (go_simp; done) | (go_simp; rfl)); intro gb289 hg w24 hbox hb; have BK289 := Aside0.mk (hbox); have GW289 := bels HB hg; have GE289 := bels HB hg; have NB287_289 := blkl BK287 hg; have NB289_287 := blkg BK287 hg; have NB288_289 := blkl BK288 hg; have NB289_288 := blkg BK288 hg; replace BK287 := blkb BK287 hb; replace BK288 := blkb BK288 hb; replace HB := belb HB hb; clear hb hbox hg; have hnb25 := NB287_288.out; have hnc25 := NB288_287.out; have hnb26 := NB287_289.out; have hnc26 := NB289_287.out; have hcz27_0 : w24.cell? ⟨gb287, 0, none⟩ = some (.int .i64 a0_0) := bc BK287 0; have hcz27_1 : w24.cell? ⟨gb287, 1, none⟩ = some (.int .u64 a0_1) := bc BK287 1; have hfz27_0 := blk_frozen BK287.out 0; have hfz27_1 := blk_frozen BK287.out 1; have hnb28 := NB288_289.out; have hnc28 := NB289_288.out; have hcz29_0 : w24.cell? ⟨gb288, 0, none⟩ = some (.int .i64 a1_0) := bc BK288 0; have hcz29_1 : w24.cell? ⟨gb288, 1, none⟩ = some (.int .u64 a1_1) := bc BK288 1; have hfz29_0 := blk_frozen BK288.out 0; have hfz29_1 := blk_frozen BK288.out 1) | ((with_reducible refine gate_dst (N := 10) rfl ?_); refine box_event ?hg (N := 10) ?hd (cs := #[.int .i64 0, .int .u64 0]) (t := 59) ?hr ?_; (case hd => rfl); (case hg => rfl); (case hr => first | (go_simp; done) | (go_simp; rfl)); intro gb290 hg w30 hbox hb; have BK290 := Aside0.mk (hbox); have GW290 := bels HB hg; have GE290 := bels HB hg; have NB287_290 := blkl BK287 hg; have NB290_287 := blkg BK287 hg; have NB288_290 := blkl BK288 hg; have NB290_288 := blkg BK288 hg; have NB289_290 := blkl BK289 hg; have NB290_289 := blkg BK289 hg; replace BK287 := blkb BK287 hb; replace BK288 := blkb BK288 hb; replace BK289 := blkb BK289 hb; replace HB := belb HB hb; clear hb hbox hg; have hnb31 := NB290_287.out; have hnc31 := NB287_290.out; have hnb32 := NB290_288.out; have hnc32 := NB288_290.out; have hnb33 := NB290_289.out; have hnc33 := NB289_290.out; have hcz34_0 : w30.cell? ⟨gb290, 0, none⟩ = some (.int .i64 0) := bc BK290 0; have hcz34_1 : w30.cell? ⟨gb290, 1, none⟩ = some (.int .u64 0) := bc BK290 1; have hfz34_0 := blk_frozen BK290.out 0; have hfz34_1 := blk_frozen BK290.out 1; have hcz35_0 : w30.cell? ⟨gb287, 0, none⟩ = some (.int .i64 a0_0) := bc BK287 0; have hcz35_1 : w30.cell? ⟨gb287, 1, none⟩ = some (.int .u64 a0_1) := bc BK287 1; have hfz35_0 := blk_frozen BK287.out 0; have hfz35_1 := blk_frozen BK287.out 1; have hcz36_0 : w30.cell? ⟨gb288, 0, none⟩ = some (.int .i64 a1_0) := bc BK288 0; have hcz36_1 : w30.cell? ⟨gb288, 1, none⟩ = some (.int .u64 a1_1) := bc BK288 1; have hfz36_0 := blk_frozen BK288.out 0; have hfz36_1 := blk_frozen BK288.out 1; have hcz37_0 : w30.cell? ⟨gb289, 0, none⟩ = some (.int .i64 0) := bc BK289 0; have hcz37_1 : w30.cell? ⟨gb289, 1, none⟩ = some (.int .u64 0) := bc BK289 1; have hfz37_0 := blk_frozen BK289.out 0; have hfz37_1 := blk_frozen BK289.out 1))
   refine bodyPost_ret (results_ct rfl _ _ gb289 59 #[.int .i64 (wrap64 ((addLo (IntKind.u64.wrap (a0_0)) (IntKind.u64.wrap (a1_0)) (addHi a0_1 a1_1 0)))), .int .u64 (addLo a0_1 a1_1 0)] (0, 0) _ rfl (by (with_reducible repeat (first | refine blk_drewN ?_ _ | refine blk_drew ?_ | refine blk_alloc ?_ _)); refine blk_put (cs := #[.int .i64 (wrap64 ((addLo (IntKind.u64.wrap (a0_0)) (IntKind.u64.wrap (a1_0)) (addHi a0_1 a1_1 0)))), .int .u64 0]) ?_ 1 _ rfl; (with_reducible repeat (first | refine blk_drewN ?_ _ | refine blk_drew ?_ | refine blk_alloc ?_ _)); refine blk_put (cs := #[.int .i64 0, .int .u64 0]) ?_ 0 _ rfl; (with_reducible repeat (first | refine blk_drewN ?_ _ | refine blk_drew ?_ | refine blk_alloc ?_ _)); refine blk_far ?_ NB289_290.out _; (with_reducible repeat (first | refine blk_drewN ?_ _ | refine blk_drew ?_ | refine blk_alloc ?_ _)); refine blk_far ?_ NB289_290.out _; exact blkt BK289) Try.underlying59 rfl (by kernel_rfl)) rfl ?_
   exact ⟨by first | rfl | (simp [errW_none, errW_some] <;> rfl) | (simp [*, errW_none, errW_some] <;> rfl), belt HB⟩
  rw [if_neg c4] at H
  have c4b0 : ((decide (a0_0 < 0)) == (decide (a1_0 < 0))) = false := by simpa using c4
  (try (have c4b1 : decide ((decide (a0_0 < 0)) = (decide (a1_0 < 0))) = false := by simpa using c4))
  (try (have c4b2 : ((decide (a0_0 < 0)) == (decide (a1_0 < 0))) = false := by simpa using c4))
  (try (have c4b3 : ¬ ((decide (a0_0 < 0)) = (decide (a1_0 < 0))) := by simpa using c4))
  clear c4
  simp only [Option.some.injEq, Prod.mk.injEq] at H
  obtain ⟨rfl, rfl, rfl⟩ := H
  go_enter Try.func81, Try.ntmps81
  go_wp2_with (first | ((with_reducible refine gate_dst (N := 2) rfl ?_); refine box_event ?hg (N := 2) ?hd (cs := #[.int .i64 a0_0, .int .u64 a0_1]) (t := 59) ?hr ?_; (case hd => rfl); (case hg => rfl); (case hr => first | (go_simp; done) | (go_simp; rfl)); intro gb287 hg w38 hbox hb; have BK287 := Aside0.mk (hbox); have GW287 := bels HB hg; have GE287 := bels HB hg; replace HB := belb HB hb; clear hb hbox hg) | ((with_reducible refine gate_dst (N := 3) rfl ?_); refine box_event ?hg (N := 3) ?hd (cs := #[.int .i64 a1_0, .int .u64 a1_1]) (t := 59) ?hr ?_; (case hd => rfl); (case hg => rfl); (case hr => first | (go_simp; done) | (go_simp; rfl)); intro gb288 hg w39 hbox hb; have BK288 := Aside0.mk (hbox); have GW288 := bels HB hg; have GE288 := bels HB hg; have NB287_288 := blkl BK287 hg; have NB288_287 := blkg BK287 hg; replace BK287 := blkb BK287 hb; replace HB := belb HB hb; clear hb hbox hg) | ((with_reducible refine gate_dst (N := 4) rfl ?_); refine box_event ?hg (N := 4) ?hd (cs := #[.int .i64 0, .int .u64 0]) (t := 59) ?hr ?_; (case hd => rfl); (case hg => rfl); (case hr => first | (go_simp; done) | (go_simp; rfl)); intro gb289 hg w40 hbox hb; have BK289 := Aside0.mk (hbox); have GW289 := bels HB hg; have GE289 := bels HB hg; have NB287_289 := blkl BK287 hg; have NB289_287 := blkg BK287 hg; have NB288_289 := blkl BK288 hg; have NB289_288 := blkg BK288 hg; replace BK287 := blkb BK287 hb; replace BK288 := blkb BK288 hb; replace HB := belb HB hb; clear hb hbox hg; have hnb41 := NB287_288.out; have hnc41 := NB288_287.out; have hnb42 := NB287_289.out; have hnc42 := NB289_287.out; have hcz43_0 : w40.cell? ⟨gb287, 0, none⟩ = some (.int .i64 a0_0) := bc BK287 0; have hcz43_1 : w40.cell? ⟨gb287, 1, none⟩ = some (.int .u64 a0_1) := bc BK287 1; have hfz43_0 := blk_frozen BK287.out 0; have hfz43_1 := blk_frozen BK287.out 1; have hnb44 := NB288_289.out; have hnc44 := NB289_288.out; have hcz45_0 : w40.cell? ⟨gb288, 0, none⟩ = some (.int .i64 a1_0) := bc BK288 0; have hcz45_1 : w40.cell? ⟨gb288, 1, none⟩ = some (.int .u64 a1_1) := bc BK288 1; have hfz45_0 := blk_frozen BK288.out 0; have hfz45_1 := blk_frozen BK288.out 1) | ((with_reducible refine gate_dst (N := 10) rfl ?_); refine box_event ?hg (N := 10) ?hd (cs := #[.int .i64 0, .int .u64 0]) (t := 59) ?hr ?_; (case hd => rfl); (case hg => rfl); (case hr => first | (go_simp; done) | (go_simp; rfl)); intro gb290 hg w46 hbox hb; have BK290 := Aside0.mk (hbox); have GW290 := bels HB hg; have GE290 := bels HB hg; have NB287_290 := blkl BK287 hg; have NB290_287 := blkg BK287 hg; have NB288_290 := blkl BK288 hg; have NB290_288 := blkg BK288 hg; have NB289_290 := blkl BK289 hg; have NB290_289 := blkg BK289 hg; replace BK287 := blkb BK287 hb; replace BK288 := blkb BK288 hb; replace BK289 := blkb BK289 hb; replace HB := belb HB hb; clear hb hbox hg; have hnb47 := NB290_287.out; have hnc47 := NB287_290.out; have hnb48 := NB290_288.out; have hnc48 := NB288_290.out; have hnb49 := NB290_289.out; have hnc49 := NB289_290.out; have hcz50_0 : w46.cell? ⟨gb290, 0, none⟩ = some (.int .i64 0) := bc BK290 0; have hcz50_1 : w46.cell? ⟨gb290, 1, none⟩ = some (.int .u64 0) := bc BK290 1; have hfz50_0 := blk_frozen BK290.out 0; have hfz50_1 := blk_frozen BK290.out 1; have hcz51_0 : w46.cell? ⟨gb287, 0, none⟩ = some (.int .i64 a0_0) := bc BK287 0; have hcz51_1 : w46.cell? ⟨gb287, 1, none⟩ = some (.int .u64 a0_1) := bc BK287 1; have hfz51_0 := blk_frozen BK287.out 0; have hfz51_1 := blk_frozen BK287.out 1; have hcz52_0 : w46.cell? ⟨gb288, 0, none⟩ = some (.int .i64 a1_0) := bc BK288 0; have hcz52_1 : w46.cell? ⟨gb288, 1, none⟩ = some (.int .u64 a1_1) := bc BK288 1; have hfz52_0 := blk_frozen BK288.out 0; have hfz52_1 := blk_frozen BK288.out 1; have hcz53_0 : w46.cell? ⟨gb289, 0, none⟩ = some (.int .i64 0) := bc BK289 0; have hcz53_1 : w46.cell? ⟨gb289, 1, none⟩ = some (.int .u64 0) := bc BK289 1; have hfz53_0 := blk_frozen BK289.out 0; have hfz53_1 := blk_frozen BK289.out 1))
  refine bodyPost_ret (results_ct rfl _ _ gb289 59 #[.int .i64 (wrap64 ((addLo (IntKind.u64.wrap (a0_0)) (IntKind.u64.wrap (a1_0)) (addHi a0_1 a1_1 0)))), .int .u64 (addLo a0_1 a1_1 0)] (0, 0) _ rfl (by (with_reducible repeat (first | refine blk_drewN ?_ _ | refine blk_drew ?_ | refine blk_alloc ?_ _)); refine blk_put (cs := #[.int .i64 (wrap64 ((addLo (IntKind.u64.wrap (a0_0)) (IntKind.u64.wrap (a1_0)) (addHi a0_1 a1_1 0)))), .int .u64 0]) ?_ 1 _ rfl; (with_reducible repeat (first | refine blk_drewN ?_ _ | refine blk_drew ?_ | refine blk_alloc ?_ _)); refine blk_put (cs := #[.int .i64 0, .int .u64 0]) ?_ 0 _ rfl; (with_reducible repeat (first | refine blk_drewN ?_ _ | refine blk_drew ?_ | refine blk_alloc ?_ _)); refine blk_far ?_ NB289_290.out _; (with_reducible repeat (first | refine blk_drewN ?_ _ | refine blk_drew ?_ | refine blk_alloc ?_ _)); refine blk_far ?_ NB289_290.out _; exact blkt BK289) Try.underlying59 rfl (by kernel_rfl)) rfl ?_
  exact ⟨by first | rfl | (simp [errW_none, errW_some] <;> rfl) | (simp [*, errW_none, errW_some] <;> rfl), belt HB⟩
 rw [if_neg c3] at H
 exact absurd H (by simp)


/-! ### turnstoneref01_Mul: function 40 -/
mutual
def turnstoneref01_Mul.l0 : Nat → List Int → List Int → Int → Int → Bool → List Int → Bool → List Int → Option (Bool × List Int)
 | 0, _, _, _, _, _, _, _, _ => none
 | k + 1, x5, x21, x22, x23, x353000, x353001, x354000, x354001 => if x23 < x22 then (if 0 ≤ x23 then (if x23 < (x21.length : Int) then (turnstoneref01_Mul.l1 k x5 x23 (rd x21 x23) 0 0 x21 x22 x23 x353000 x353001 x354000 x354001) else (none)) else (none)) else ((turnstoneref01_trim.f k (x353000 != x354000) x5).bind fun bt358 => (some (bt358.1, bt358.2)))
def turnstoneref01_Mul.l1 : Nat → List Int → Int → Int → Int → Int → List Int → Int → Int → Bool → List Int → Bool → List Int → Option (Bool × List Int)
 | 0, _, _, _, _, _, _, _, _, _, _, _, _ => none
 | k + 1, x5, x6, x7, x8, x9, x21, x22, x23, x353000, x353001, x354000, x354001 => if x9 < (x354001.length : Int) then (if 0 ≤ (wrap64 (x6 + x9)) then (if (wrap64 (x6 + x9)) < (x5.length : Int) then ((turnstoneref01_digit.f x354000 x354001 x9).bind fun t364 => (turnstoneref01_Mul.l1 k (x5.set ((wrap64 (x6 + x9)) : Int).toNat (Int.tmod (wrap64 ((wrap64 ((rd x5 (wrap64 (x6 + x9))) + (wrap64 (x7 * t364)))) + x8)) 10000)) x6 x7 (wrap64 (Int.tdiv (wrap64 ((wrap64 ((rd x5 (wrap64 (x6 + x9))) + (wrap64 (x7 * t364)))) + x8)) 10000)) (wrap64 (x9 + 1)) x21 x22 x23 x353000 x353001 x354000 x354001)) else (none)) else (none)) else (if x8 > 0 then (if 0 ≤ (wrap64 (x6 + x9)) then (if (wrap64 (x6 + x9)) < (x5.length : Int) then ((turnstoneref01_digit.f x354000 x354001 x9).bind fun t367 => (turnstoneref01_Mul.l1 k (x5.set ((wrap64 (x6 + x9)) : Int).toNat (Int.tmod (wrap64 ((wrap64 ((rd x5 (wrap64 (x6 + x9))) + (wrap64 (x7 * t367)))) + x8)) 10000)) x6 x7 (wrap64 (Int.tdiv (wrap64 ((wrap64 ((rd x5 (wrap64 (x6 + x9))) + (wrap64 (x7 * t367)))) + x8)) 10000)) (wrap64 (x9 + 1)) x21 x22 x23 x353000 x353001 x354000 x354001)) else (none)) else (none)) else (turnstoneref01_Mul.l0 k x5 x21 x22 (wrap64 (x23 + 1)) x353000 x353001 x354000 x354001))
end
def turnstoneref01_Mul.f (k : Nat) (a0_0 : Bool) (l0_1 : List Int) (a1_0 : Bool) (l1_1 : List Int) : Option (Bool × List Int) := if 0 ≤ (wrap64 ((wrap64 ((l0_1.length : Int) + (l1_1.length : Int))) + 1)) then (if (wrap64 ((wrap64 ((l0_1.length : Int) + (l1_1.length : Int))) + 1) : Int).toNat ≤ 35184372088832 then (turnstoneref01_Mul.l0 k (List.replicate (wrap64 ((wrap64 ((l0_1.length : Int) + (l1_1.length : Int))) + 1) : Int).toNat 0) l0_1 (l0_1.length : Int) 0 a0_0 l0_1 a1_0 l1_1) else (none)) else (none)
theorem turnstoneref01_Mul.mono_l : ∀ k, (∀ y0 y1 y2 y3 y4 y5 y6 y7, LeO (turnstoneref01_Mul.l0 k y0 y1 y2 y3 y4 y5 y6 y7) (turnstoneref01_Mul.l0 (k + 1) y0 y1 y2 y3 y4 y5 y6 y7)) ∧ (∀ y0 y1 y2 y3 y4 y5 y6 y7 y8 y9 y10 y11, LeO (turnstoneref01_Mul.l1 k y0 y1 y2 y3 y4 y5 y6 y7 y8 y9 y10 y11) (turnstoneref01_Mul.l1 (k + 1) y0 y1 y2 y3 y4 y5 y6 y7 y8 y9 y10 y11))
 | 0 => ⟨fun _ _ _ _ _ _ _ _ r h => by simp [turnstoneref01_Mul.l0] at h, fun _ _ _ _ _ _ _ _ _ _ _ _ r h => by simp [turnstoneref01_Mul.l1] at h⟩
 | k + 1 => by
  obtain ⟨ih0, ih1⟩ := turnstoneref01_Mul.mono_l k
  refine ⟨?_, ?_⟩
  ·intro y0 y1 y2 y3 y4 y5 y6 y7
   unfold turnstoneref01_Mul.l0
   repeat' first
   | (with_reducible exact ih0 _ _ _ _ _ _ _ _)
   | (with_reducible exact ih1 _ _ _ _ _ _ _ _ _ _ _ _)
   | (with_reducible exact turnstoneref01_trim.mono _ _ _)
   | (with_reducible exact LeO.refl _)
   | (with_reducible exact LeO.none _)
   | (with_reducible refine LeO.ite ?_ ?_)
   | (with_reducible refine LeO.bind ?_ (fun _ => ?_))
   | exact ih0 _ _ _ _ _ _ _ _
   | exact ih1 _ _ _ _ _ _ _ _ _ _ _ _
   | exact turnstoneref01_trim.mono _ _ _
   | exact LeO.none _
   | refine LeO.ite ?_ ?_
   | refine LeO.bind ?_ (fun _ => ?_)
  intro y0 y1 y2 y3 y4 y5 y6 y7 y8 y9 y10 y11
  unfold turnstoneref01_Mul.l1
  repeat' first
  | (with_reducible exact ih0 _ _ _ _ _ _ _ _)
  | (with_reducible exact ih1 _ _ _ _ _ _ _ _ _ _ _ _)
  | (with_reducible exact turnstoneref01_trim.mono _ _ _)
  | (with_reducible exact LeO.refl _)
  | (with_reducible exact LeO.none _)
  | (with_reducible refine LeO.ite ?_ ?_)
  | (with_reducible refine LeO.bind ?_ (fun _ => ?_))
  | exact ih0 _ _ _ _ _ _ _ _
  | exact ih1 _ _ _ _ _ _ _ _ _ _ _ _
  | exact turnstoneref01_trim.mono _ _ _
  | exact LeO.none _
  | refine LeO.ite ?_ ?_
  | refine LeO.bind ?_ (fun _ => ?_)
theorem turnstoneref01_Mul.mono : ∀ a0 a1 a2 a3 k, LeO (turnstoneref01_Mul.f k a0 a1 a2 a3) (turnstoneref01_Mul.f (k + 1) a0 a1 a2 a3) := by
 intro a0 a1 a2 a3 k
 obtain ⟨ih0, ih1⟩ := turnstoneref01_Mul.mono_l k
 unfold turnstoneref01_Mul.f
 repeat' first
   | (with_reducible exact ih0 _ _ _ _ _ _ _ _)
   | (with_reducible exact ih1 _ _ _ _ _ _ _ _ _ _ _ _)
   | (with_reducible exact turnstoneref01_trim.mono _ _ _)
   | (with_reducible exact LeO.refl _)
   | (with_reducible exact LeO.none _)
   | (with_reducible refine LeO.ite ?_ ?_)
   | (with_reducible refine LeO.bind ?_ (fun _ => ?_))
   | exact ih0 _ _ _ _ _ _ _ _
   | exact ih1 _ _ _ _ _ _ _ _ _ _ _ _
   | exact turnstoneref01_trim.mono _ _ _
   | exact LeO.none _
   | refine LeO.ite ?_ ?_
   | refine LeO.bind ?_ (fun _ => ?_)
def turnstoneref01_Mul.T9 : Bool × List (List Nat × List Nat) := (true, [([], []), ([], []), ([], []), ([1, 2], [1, 2]), ([0, 3], [0, 3]), ([4], [4]), ([], []), ([], []), ([], []), ([7, 8], [7, 8]), ([6, 9], [6, 9]), ([5, 10], [5, 10]), ([], []), ([11, 12], [11, 12]), ([13, 9, 0, 1, 2, 3, 4, 5, 6, 7, 8, 9, 10, 11, 12, 13], [13])])
def turnstoneref01_Mul.B9 : List Nat := [0, 0, 0, 6, 15, 31, 0, 0, 0, 384, 960, 2047, 0, 8191, 16383]
theorem turnstoneref01_Mul.tab9 : rtab .any (opsOf Try.f40 9) = turnstoneref01_Mul.T9 := by kernel_rfl
theorem turnstoneref01_Mul.bits9 : waitsOk turnstoneref01_Mul.T9.2 turnstoneref01_Mul.B9 = true := by kernel_rfl
set_option maxHeartbeats 8000000 in
set_option maxRecDepth 100000 in
theorem turnstoneref01_Mul.calls (k : Nat) (a0_0 : Bool) (A0_1 : Option Addr) (c0_1 : Nat) (l0_1 : List Int) (a1_0 : Bool) (A1_1 : Option Addr) (c1_1 : Nat) (l1_1 : List Int) (r1 : Bool) (r2 : List Int) (w : World) (hr0_1 : Kd.C (Kd.int .i64) w A0_1 l0_1.length l0_1) (hc0_1 : l0_1.length ≤ c0_1) (hr1_1 : Kd.C (Kd.int .i64) w A1_1 l1_1.length l1_1) (hc1_1 : l1_1.length ≤ c1_1) (h : turnstoneref01_Mul.f k a0_0 l0_1 a1_0 l1_1 = some (r1, r2)) :
  Calls Try.prog 40 #[.agg #[.bool a0_0, .slice A0_1 l0_1.length c0_1], .agg #[.bool a1_0, .slice A1_1 l1_1.length c1_1]] w fun e w' => ∃ v1_ : Value, e = .returned (.agg #[.bool r1, v1_]) ∧ Kd.V (Kd.int .i64) 3 w' w.heap.size (fun k_ => (w.heap.size ≤ k_)) v1_ r2 ∧ Below w.heap.size w w' := by
 have hu28 := Try.underlying28
 have HR0_1 := Aside0.mk hr0_1
 have HC0_1 := Aside0.mk hc0_1
 clear hr0_1 hc0_1
 have HR1_1 := Aside0.mk hr1_1
 have HC1_1 := Aside0.mk hc1_1
 clear hr1_1 hc1_1
 have HB := Aside0.mk (Below.refl w.heap.size w)
 have H : (if 0 ≤ (wrap64 ((wrap64 ((l0_1.length : Int) + (l1_1.length : Int))) + 1)) then (if (wrap64 ((wrap64 ((l0_1.length : Int) + (l1_1.length : Int))) + 1) : Int).toNat ≤ 35184372088832 then (turnstoneref01_Mul.l0 k (List.replicate (wrap64 ((wrap64 ((l0_1.length : Int) + (l1_1.length : Int))) + 1) : Int).toNat 0) l0_1 (l0_1.length : Int) 0 a0_0 l0_1 a1_0 l1_1) else (none)) else (none)) = some (r1, r2) := h
 clear h
 obtain ⟨ji3, hji3⟩ : ∃ j_ : Int, (wrap64 ((wrap64 ((l0_1.length : Int) + (l1_1.length : Int))) + 1)) = j_ := ⟨_, rfl⟩
 replace H : (if 0 ≤ (ji3) then (if (ji3 : Int).toNat ≤ 35184372088832 then (turnstoneref01_Mul.l0 k (List.replicate (ji3 : Int).toNat 0) l0_1 (l0_1.length : Int) 0 a0_0 l0_1 a1_0 l1_1) else (none)) else (none)) = some (r1, r2) := by first | (rw [hji3] at H; exact H) | (simp only [hji3] at H ⊢; exact H)
 have hji3w : (IntKind.i64.wrap ((wrap64 ((l0_1.length : Int) + (l1_1.length : Int))) + 1)) = ji3 := (i64_w _).trans hji3
 by_cases c4 : 0 ≤ (ji3)
 ·rw [if_pos c4] at H
  have c4b0 := eq_true c4
  have c4b1 : decide (0 ≤ (ji3)) = true := decide_eq_true c4
  clear c4
  by_cases c5 : (ji3 : Int).toNat ≤ 35184372088832
  ·rw [if_pos c5] at H
   have c5b0 := eq_true c5
   have c5b1 : decide ((ji3 : Int).toNat ≤ 35184372088832) = true := decide_eq_true c5
   clear c5
   obtain ⟨y355, hy355⟩ : ∃ y_ : List Int, y_ = (List.replicate (ji3 : Int).toNat 0) := ⟨_, rfl⟩
   replace H : (turnstoneref01_Mul.l0 k y355 l0_1 (l0_1.length : Int) 0 a0_0 l0_1 a1_0 l1_1) = some (r1, r2) := by first | (rw [hy355]; with_reducible exact H) | (have H2_ := (Option.bind_some _ _).symm.trans H; rw [hy355]; with_reducible exact H2_) | (have H2_ := (Option.bind_some _ _).symm.trans H; with_reducible exact H2_) | with_reducible exact H | (rw [hy355]; exact H) | exact H
   have Ny355 := Aside0.mk hy355
   clear hy355
   have H' := Aside0.mk H
   clear H
   go_enter Try.func40, Try.ntmps40
   go_wp2_with (first | ((with_reducible refine gate_dst (N := 2) rfl ?_); refine box_event ?hg (N := 2) ?hd (cs := #[.bool a0_0, .slice A0_1 l0_1.length c0_1]) (t := 28) ?hr ?_; (case hd => rfl); (case hg => rfl); (case hr => first | (go_simp; done) | (go_simp; rfl)); intro gb352 hg w6 hbox hb; have BK352 := Aside0.mk (hbox); have GW352 := bels HB hg; have GE352 := bels HB hg; replace HB := belb HB hb; clear hb hbox hg) | ((with_reducible refine gate_dst (N := 3) rfl ?_); refine box_event ?hg (N := 3) ?hd (cs := #[.bool a1_0, .slice A1_1 l1_1.length c1_1]) (t := 28) ?hr ?_; (case hd => rfl); (case hg => rfl); (case hr => first | (go_simp; done) | (go_simp; rfl)); intro gb353 hg w7 hbox hb; have BK353 := Aside0.mk (hbox); have GW353 := bels HB hg; have GE353 := bels HB hg; have NB352_353 := blkl BK352 hg; have NB353_352 := blkg BK352 hg; replace BK352 := blkb BK352 hb; replace HB := belb HB hb; clear hb hbox hg) | ((with_reducible refine gate_dst (N := 4) rfl ?_); refine box_event ?hg (N := 4) ?hd (cs := #[.bool false, .slice none 0 0]) (t := 28) ?hr ?_; (case hd => rfl); (case hg => rfl); (case hr => first | (go_simp; done) | (go_simp; rfl)); intro gb354 hg w8 hbox hb; have BK354 := Aside0.mk (hbox); have GW354 := bels HB hg; have GE354 := bels HB hg; have NB352_354 := blkl BK352 hg; have NB354_352 := blkg BK352 hg; have NB353_354 := blkl BK353 hg; have NB354_353 := blkg BK353 hg; replace BK352 := blkb BK352 hb; replace BK353 := blkb BK353 hb; replace HB := belb HB hb; clear hb hbox hg; have hnb9 := NB352_353.out; have hnc9 := NB353_352.out; have hnb10 := NB352_354.out; have hnc10 := NB354_352.out; have hcz11_0 : w8.cell? ⟨gb352, 0, none⟩ = some (.bool a0_0) := bc BK352 0; have hcz11_1 : w8.cell? ⟨gb352, 1, none⟩ = some (.slice A0_1 l0_1.length c0_1) := bc BK352 1; have hfz11_0 := blk_frozen BK352.out 0; have hfz11_1 := blk_frozen BK352.out 1; have hnb12 := NB353_354.out; have hnc12 := NB354_353.out; have hcz13_0 : w8.cell? ⟨gb353, 0, none⟩ = some (.bool a1_0) := bc BK353 0; have hcz13_1 : w8.cell? ⟨gb353, 1, none⟩ = some (.slice A1_1 l1_1.length c1_1) := bc BK353 1; have hfz13_0 := blk_frozen BK353.out 0; have hfz13_1 := blk_frozen BK353.out 1) | ((with_reducible refine gate_dst (N := 19) rfl ?_); refine Kd.R_make (Kd.int .i64) _ 3 rfl (N := 19) rfl 26 _ _ rfl ji3 rfl rfl Try.underlying26 (.int .i64 0) 8 info3 rfl (by decide) (by omega) 0 (ok := fun _ => True) (okp := fun _ => True) rfl (fun _ hk => hk) trivial (of_decide_eq_true (by first | (with_reducible assumption) | assumption)) (Nat.le_trans (Nat.mul_le_mul_right _ (of_decide_eq_true (by first | (with_reducible assumption) | assumption) : ji3.toNat ≤ 35184372088832)) (by omega)) (Below.refl _ _) (Nat.le_refl _) ?_; intro v356 w14 ho15 hb hg_ hnew_; clear hg_ hnew_; (first | rw [← Ny355.out] at ho15 | (simp only [Int.reduceToNat] at ho15; rw [← Ny355.out] at ho15)); have HO357 := Aside0.mk (Kd.R_lower (Kd.R_newM (M := fun k_ => (w.heap.size ≤ k_)) ho15 (below_size (belt HB)) (fun k_ h_ => h_)) (below_size (belt HB))); replace BK352 := blkb BK352 hb; replace BK353 := blkb BK353 hb; replace BK354 := blkb BK354 hb; replace HB := belb HB hb; clear hb ho15; have hcz16_0 : w14.cell? ⟨gb352, 0, none⟩ = some (.bool a0_0) := bc BK352 0; have hcz16_1 : w14.cell? ⟨gb352, 1, none⟩ = some (.slice A0_1 l0_1.length c0_1) := bc BK352 1; have hfz16_0 := blk_frozen BK352.out 0; have hfz16_1 := blk_frozen BK352.out 1))
   (try simp only [Act.put, List.setIfInBounds_toArray, List.set_cons_zero, List.set_cons_succ])
   go_loopg [23] k (fun kq v23 w' => ∃ (x5_1 : List Int) (x23_1 : Int), v23 = .int .i64 x23_1 ∧ Aside0 (turnstoneref01_Mul.l0 kq x5_1 l0_1 (l0_1.length : Int) x23_1 a0_0 l0_1 a1_0 l1_1 = some (r1, r2)) ∧ Aside0 (kq ≤ k) ∧ Aside0 (Kd.R (Kd.int .i64) 3 w' w.heap.size (fun k_ => (w.heap.size ≤ k_)) v356 x5_1) ∧ Aside0 (w'.heap[gb352]? = some (.cells #[.bool a0_0, (.slice A0_1 l0_1.length c0_1)] 28 (0, 0))) ∧ Aside0 (w'.heap[gb353]? = some (.cells #[.bool a1_0, (.slice A1_1 l1_1.length c1_1)] 28 (0, 0))) ∧ Aside0 (w'.heap[gb354]? = some (.cells #[.bool false, (.slice none 0 0)] 28 (0, 0))) ∧ Aside0 (Below w.heap.size w w'))
   case atStart => exact ⟨(y355), (0), (by first | rfl | (simp; done) | (simp [*]; done)), H', ⟨Nat.le_refl _⟩, ⟨by (with_reducible repeat (first | apply Kd.R_alloc | apply Kd.R_drewN | apply Kd.R_drew)); exact Kd.R_mono HO357.out (fun _ hk => hk.1)⟩, ⟨blkt BK352⟩, ⟨blkt BK353⟩, ⟨blkt BK354⟩, ⟨belt HB⟩⟩
   case round =>
    clear H'
    try clear c1
    try clear p2
    try clear c4
    try clear c4b0
    try clear c4b1
    try clear c5
    try clear c5b0
    try clear c5b1
    try clear p6
    try clear c9
    try clear c10
    try clear c12
    try clear hcz11_0
    try clear hcz11_1
    try clear hcz13_0
    try clear hcz13_1
    try clear hcz16_0
    try clear hcz16_1
    try clear hfz11_0
    try clear hfz11_1
    try clear hfz13_0
    try clear hfz13_1
    try clear hfz16_0
    try clear hfz16_1
    obtain ⟨x5_1, x23_1, rfl, HA, HK1, HO_5, BK352, BK353, BK354, HB⟩ := hrel
    cases gk with
    | zero => exact absurd HA.out (by simp [turnstoneref01_Mul.l0])
    | succ k1 =>
     have H := HA.out
     clear HA
     simp only [turnstoneref01_Mul.l0] at H
     by_cases c17 : x23_1 < (l0_1.length : Int)
     ·rw [if_pos c17] at H
      have c17b0 : decide (x23_1 < (l0_1.length : Int)) = true := decide_eq_true c17
      clear c17
      by_cases c18 : 0 ≤ x23_1
      ·rw [if_pos c18] at H
       have c18b0 : decide (0 ≤ x23_1) = true := decide_eq_true c18
       clear c18
       by_cases c19 : x23_1 < (l0_1.length : Int)
       ·rw [if_pos c19] at H
        have c19b0 : decide (x23_1 < (l0_1.length : Int)) = true := decide_eq_true c19
        clear c19
        have H' := Aside0.mk H
        clear H
        have p362 : 0 ≤ (x23_1 : Int) := of_decide_eq_true (by first | (with_reducible assumption) | assumption)
        have q362 : x23_1 < (l0_1.length : Int) := of_decide_eq_true (by first | (with_reducible assumption) | assumption)
        obtain ⟨ad362, e362, hx362_0⟩ := Kd.at_int HR0_1.out x23_1 p362 q362
        cases e362
        replace hx362_0 := (HB.out.cell (World.block_lt_of_cell? w _ hx362_0)).trans hx362_0
        replace p362 := eq_true p362
        replace q362 := eq_true q362
        go_wp2
        (try simp only [Act.put, List.setIfInBounds_toArray, List.set_cons_zero, List.set_cons_succ])
        go_loopg [8, 9] k1 (fun kq v8 v9 w' => ∃ (x5_2 : List Int) (x8_2 : Int) (x9_2 : Int), v8 = .int .i64 x8_2 ∧ v9 = .int .i64 x9_2 ∧ Aside0 (turnstoneref01_Mul.l1 kq x5_2 x23_1 (rd l0_1 x23_1) x8_2 x9_2 l0_1 (l0_1.length : Int) x23_1 a0_0 l0_1 a1_0 l1_1 = some (r1, r2)) ∧ Aside0 (kq ≤ k1) ∧ Aside0 (Kd.R (Kd.int .i64) 3 w' w.heap.size (fun k_ => (w.heap.size ≤ k_)) v356 x5_2) ∧ Aside0 (w'.heap[gb352]? = some (.cells #[.bool a0_0, (.slice (some ad362) l0_1.length c0_1)] 28 (0, 0))) ∧ Aside0 (w'.heap[gb353]? = some (.cells #[.bool a1_0, (.slice A1_1 l1_1.length c1_1)] 28 (0, 0))) ∧ Aside0 (w'.heap[gb354]? = some (.cells #[.bool false, (.slice none 0 0)] 28 (0, 0))) ∧ Aside0 (Below w.heap.size w w'))
        case atStart => exact ⟨(x5_1), (0), (0), (by first | rfl | (simp; done) | (simp [*]; done)), (by first | rfl | (simp; done) | (simp [*]; done)), H', ⟨Nat.le_refl _⟩, ⟨by (with_reducible repeat (first | apply Kd.R_alloc | apply Kd.R_drewN | apply Kd.R_drew)); exact HO_5.out⟩, ⟨blkt BK352⟩, ⟨blkt BK353⟩, ⟨blkt BK354⟩, ⟨belt HB⟩⟩
        case round =>
         clear H'
         try clear c1
         try clear p2
         try clear p3
         try clear q3
         try clear hx3
         try clear c4
         try clear c4b0
         try clear c4b1
         try clear c5
         try clear c5b0
         try clear c5b1
         try clear p6
         try clear c9
         try clear c10
         try clear c12
         try clear c17
         try clear c17b0
         try clear c18
         try clear c18b0
         try clear c19
         try clear c19b0
         try clear hcz11_0
         try clear hcz11_1
         try clear hcz13_0
         try clear hcz13_1
         try clear hcz16_0
         try clear hcz16_1
         try clear hfz11_0
         try clear hfz11_1
         try clear hfz13_0
         try clear hfz13_1
         try clear hfz16_0
         try clear hfz16_1
         try clear hx362_0
         try clear p2
         try clear p362
         try clear p6
         try clear q362
         obtain ⟨x5_2, x8_2, x9_2, rfl, rfl, HA, HK2, HO_5, BK352, BK353, BK354, HB⟩ := hrel
         cases gk with
         | zero => exact absurd HA.out (by simp [turnstoneref01_Mul.l1])
         | succ k2 =>
          have H := HA.out
          clear HA
          simp only [turnstoneref01_Mul.l1] at H
          by_cases c20 : x9_2 < (l1_1.length : Int)
          ·rw [if_pos c20] at H
           have c20b0 : decide (x9_2 < (l1_1.length : Int)) = true := decide_eq_true c20
           clear c20
           obtain ⟨ji21, hji21⟩ : ∃ j_ : Int, (wrap64 (x23_1 + x9_2)) = j_ := ⟨_, rfl⟩
           replace H : (if 0 ≤ (ji21) then (if (ji21) < (x5_2.length : Int) then ((turnstoneref01_digit.f a1_0 l1_1 x9_2).bind fun t364 => (turnstoneref01_Mul.l1 k2 (x5_2.set ((ji21) : Int).toNat (Int.tmod (wrap64 ((wrap64 ((rd x5_2 (ji21)) + (wrap64 ((rd l0_1 x23_1) * t364)))) + x8_2)) 10000)) x23_1 (rd l0_1 x23_1) (wrap64 (Int.tdiv (wrap64 ((wrap64 ((rd x5_2 (ji21)) + (wrap64 ((rd l0_1 x23_1) * t364)))) + x8_2)) 10000)) (wrap64 (x9_2 + 1)) l0_1 (l0_1.length : Int) x23_1 a0_0 l0_1 a1_0 l1_1)) else (none)) else (none)) = some (r1, r2) := by first | (rw [hji21] at H; exact H) | (simp only [hji21] at H ⊢; exact H)
           have hji21w : (IntKind.i64.wrap (x23_1 + x9_2)) = ji21 := (i64_w _).trans hji21
           by_cases c22 : 0 ≤ (ji21)
           ·rw [if_pos c22] at H
            have c22b0 : decide (0 ≤ (ji21)) = true := decide_eq_true c22
            clear c22
            by_cases c23 : (ji21) < (x5_2.length : Int)
            ·rw [if_pos c23] at H
             have c23b0 : decide ((ji21) < (x5_2.length : Int)) = true := decide_eq_true c23
             clear c23
             replace H := Option.bind_eq_some_iff.mp H
             obtain ⟨t364, A240, H⟩ := H
             replace H : (turnstoneref01_Mul.l1 k2 (x5_2.set ((ji21) : Int).toNat (Int.tmod (wrap64 ((wrap64 ((rd x5_2 (ji21)) + (wrap64 ((rd l0_1 x23_1) * t364)))) + x8_2)) 10000)) x23_1 (rd l0_1 x23_1) (wrap64 (Int.tdiv (wrap64 ((wrap64 ((rd x5_2 (ji21)) + (wrap64 ((rd l0_1 x23_1) * t364)))) + x8_2)) 10000)) (wrap64 (x9_2 + 1)) l0_1 (l0_1.length : Int) x23_1 a0_0 l0_1 a1_0 l1_1) = some (r1, r2) := H
             have A24 := Aside0.mk A240
             clear A240
             obtain ⟨y365, hy365⟩ : ∃ y_ : List Int, y_ = (x5_2.set ((ji21) : Int).toNat (Int.tmod (wrap64 ((wrap64 ((rd x5_2 (ji21)) + (wrap64 ((rd l0_1 x23_1) * t364)))) + x8_2)) 10000)) := ⟨_, rfl⟩
             replace H : (turnstoneref01_Mul.l1 k2 y365 x23_1 (rd l0_1 x23_1) (wrap64 (Int.tdiv (wrap64 ((wrap64 ((rd x5_2 (ji21)) + (wrap64 ((rd l0_1 x23_1) * t364)))) + x8_2)) 10000)) (wrap64 (x9_2 + 1)) l0_1 (l0_1.length : Int) x23_1 a0_0 l0_1 a1_0 l1_1) = some (r1, r2) := by first | (rw [hy365]; with_reducible exact H) | (have H2_ := (Option.bind_some _ _).symm.trans H; rw [hy365]; with_reducible exact H2_) | (have H2_ := (Option.bind_some _ _).symm.trans H; with_reducible exact H2_) | with_reducible exact H | (rw [hy365]; exact H) | exact H
             have Ny365 := Aside0.mk hy365
             clear hy365
             have H' := Aside0.mk H
             clear H
             have hnb26 := NB353_352.out
             have hnc26 := NB352_353.out
             have hnb27 := NB353_354.out
             have hnc27 := NB354_353.out
             have hcz28_0 : wr.cell? ⟨gb353, 0, none⟩ = some (.bool a1_0) := bc BK353 0
             have hcz28_1 : wr.cell? ⟨gb353, 1, none⟩ = some (.slice A1_1 l1_1.length c1_1) := bc BK353 1
             have hfz28_0 := blk_frozen BK353.out 0
             have hfz28_1 := blk_frozen BK353.out 1
             try go_wp2
             replace HO_5 := Aside0.mk (Kd.R_drew HO_5.out)
             replace BK352 := Aside0.mk (blk_drew BK352.out)
             replace BK353 := Aside0.mk (blk_drew BK353.out)
             replace BK354 := Aside0.mk (blk_drew BK354.out)
             replace HB := Aside0.mk (below_drew1 HB.out)
             obtain ⟨Ao30, co30, eo30⟩ := Kd.R_slice HO_5.out
             (first | subst eo30 | (injection eo30 with f1_ f2_ f3_; have f4_ := f1_.symm; have f5_ := f3_.symm; clear f1_ f2_ f3_; subst f4_; subst f5_))
             have p363 : 0 ≤ ((ji21) : Int) := of_decide_eq_true (by first | (with_reducible assumption) | assumption)
             have q363 : (ji21) < (x5_2.length : Int) := of_decide_eq_true (by first | (with_reducible assumption) | assumption)
             obtain ⟨ad363, e363, hx363_0⟩ := Kd.at_int (Kd.R_reads' HO_5.out).2.2 (ji21) p363 q363
             cases e363
             replace p363 := eq_true p363
             replace q363 := eq_true q363
             refine start_ (n := 15) (S := fun w' => w'.cell? ⟨gb353, 0, none⟩ = some (.bool a1_0) ∧ w'.cell? ⟨gb353, 1, none⟩ = some (.slice A1_1 l1_1.length c1_1) ∧ w'.cell? (ad363.add ((ji21)).toNat) = some (.int .i64 (rd x5_2 (ji21)))) (ds := []) #[false, false, false, false, false, false, false, false, false, false, false, false, false, false, false] (by kernel_rfl) rfl rfl ⟨bc BK353 0, bc BK353 1, hx363_0⟩ (fun hHeld => ?_); refine with_tabW turnstoneref01_Mul.tab9 turnstoneref01_Mul.bits9 (fun HT_ HW_ => ?_)
             generalize wr.drew = w29 at HO_5 BK352 BK353 BK354 HB hx363_0 hHeld ⊢
             refine pure_ (i := 0) (N := some 39) (v := ?_) (a' := ?_) #[true, false, false, false, false, false, false, false, false, false, false, false, false, false, false] rfl rfl (any_of HT_.out (by kernel_rfl)) (fun _ _ _ h => h) (Or.inl ⟨by rfl, ?_⟩) ?_ ?_
             rotate_left
             ·intro w'
              go_simp
              with_reducible rfl
             rotate_left
             ·simp only [Act.put, List.setIfInBounds_toArray, List.set_cons_zero, List.set_cons_succ, i64_w, i32_w]
              rfl
             refine pure_ (i := 1) (N := some 40) (v := ?_) (a' := ?_) #[true, true, false, false, false, false, false, false, false, false, false, false, false, false, false] rfl rfl (any_of HT_.out (by kernel_rfl)) (fun _ _ _ h => h) (Or.inl ⟨by rfl, ?_⟩) ?_ ?_
             rotate_left
             ·intro w'
              go_simp
              with_reducible rfl
             rotate_left
             ·simp only [Act.put, List.setIfInBounds_toArray, List.set_cons_zero, List.set_cons_succ, i64_w, i32_w]
              rfl
             refine pure_ (i := 2) (N := some 41) (v := ?_) (a' := ?_) #[true, true, true, false, false, false, false, false, false, false, false, false, false, false, false] rfl rfl (any_of HT_.out (by kernel_rfl)) (fun _ _ _ h => h) (Or.inl ⟨by rfl, ?_⟩) ?_ ?_
             rotate_left
             ·intro w'
              go_simp
              with_reducible rfl
             rotate_left
             ·simp only [Act.put, List.setIfInBounds_toArray, List.set_cons_zero, List.set_cons_succ, i64_w, i32_w]
              rfl
             refine pure_ (i := 3) (N := some 42) (v := ?_) (a' := ?_) #[true, true, true, true, false, false, false, false, false, false, false, false, false, false, false] rfl rfl (any_of HT_.out (by kernel_rfl)) (fun _ _ _ h => h) (Or.inl ⟨by rfl, ?_⟩) ?_ ?_
             rotate_left
             ·intro w'
              go_simp
              with_reducible rfl
             rotate_left
             ·simp only [Act.put, List.setIfInBounds_toArray, List.set_cons_zero, List.set_cons_succ, i64_w, i32_w]
              rfl
             refine pure_ (i := 4) (N := some 43) (v := ?_) (a' := ?_) #[true, true, true, true, true, false, false, false, false, false, false, false, false, false, false] rfl rfl (any_of HT_.out (by kernel_rfl)) (fun _ _ _ h => h) (Or.inl ⟨by rfl, ?_⟩) ?_ ?_
             rotate_left
             ·intro w'
              go_simp
              with_reducible rfl
             rotate_left
             ·simp only [Act.put, List.setIfInBounds_toArray, List.set_cons_zero, List.set_cons_succ, i64_w, i32_w]
              rfl
             refine pure_ (i := 6) (N := some 45) (v := ?_) (a' := ?_) #[true, true, true, true, true, false, true, false, false, false, false, false, false, false, false] rfl rfl (any_of HT_.out (by kernel_rfl)) (fun _ _ _ h => h) (Or.inl ⟨by rfl, ?_⟩) ?_ ?_
             rotate_left
             ·intro w'
              go_simp
              with_reducible rfl
             rotate_left
             ·simp only [Act.put, List.setIfInBounds_toArray, List.set_cons_zero, List.set_cons_succ, i64_w, i32_w]
              rfl
             refine pure_ (i := 8) (N := some 47) (v := ?_) (a' := ?_) #[true, true, true, true, true, false, true, false, true, false, false, false, false, false, false] rfl rfl (any_of HT_.out (by kernel_rfl)) (fun _ _ _ h => h) (Or.inl ⟨by rfl, ?_⟩) ?_ ?_
             rotate_left
             ·intro w'
              go_simp
              with_reducible rfl
             rotate_left
             ·simp only [Act.put, List.setIfInBounds_toArray, List.set_cons_zero, List.set_cons_succ, i64_w, i32_w]
              rfl
             refine pure_ (i := 12) (N := some 51) (v := ?_) (a' := ?_) #[true, true, true, true, true, false, true, false, true, false, false, false, true, false, false] rfl rfl (any_of HT_.out (by kernel_rfl)) (fun _ _ _ h => h) (Or.inl ⟨by rfl, ?_⟩) ?_ ?_
             rotate_left
             ·intro w'
              go_simp
              with_reducible rfl
             rotate_left
             ·simp only [Act.put, List.setIfInBounds_toArray, List.set_cons_zero, List.set_cons_succ, i64_w, i32_w]
              rfl
             refine take_ (i := 5) (N := some 44) (v := ?_) (a' := ?_) #[true, true, true, true, true, true, true, false, true, false, false, false, true, false, false] rfl rfl (take_ofW HT_.out HW_.out (by kernel_rfl)) (fun _ _ _ h => h) (Or.inl ⟨by rfl, ?_⟩) hHeld ?_ ?_
             rotate_left
             ·rintro w' ⟨s0, s1, s2⟩
              go_simp
              with_reducible rfl
             rotate_left
             ·simp only [Act.put, List.setIfInBounds_toArray, List.set_cons_zero, List.set_cons_succ, i64_w, i32_w]
              rfl
             refine take_ (i := 7) (N := some 46) (v := ?_) (a' := ?_) #[true, true, true, true, true, true, true, true, true, false, false, false, true, false, false] rfl rfl (take_ofW HT_.out HW_.out (by kernel_rfl)) (fun _ _ _ h => h) (Or.inl ⟨by rfl, ?_⟩) hHeld ?_ ?_
             rotate_left
             ·rintro w' ⟨s0, s1, s2⟩
              go_simp
              with_reducible rfl
             rotate_left
             ·simp only [Act.put, List.setIfInBounds_toArray, List.set_cons_zero, List.set_cons_succ, i64_w, i32_w]
              rfl
             refine one_ (i := 9) (N := some 48) #[true, true, true, true, true, true, true, true, true, true, false, false, true, false, false] rfl rfl (one_of HT_.out (by kernel_rfl)) (by decide) (fun K hK => ?_)
             refine goes_ Try.func71 (by kernel_rfl) rfl #[.agg #[.bool a1_0, .slice A1_1 l1_1.length c1_1], .int .i64 x9_2] (by rfl) rfl rfl argt ?_
             with_reducible refine (turnstoneref01_digit.calls a1_0 _ _ l1_1 x9_2 t364 _ ?side1 ?side2 A24.out).mono ?_
             (case side1 => exact (ct (Kd.C_below HR1_1.out HB.out)))
             (case side2 => exact HC1_1.out)
             rintro e w31 ⟨rfl, hb⟩
             have HS2_ := (hb.cell (World.block_lt_of_cell? _ _ (hHeld.2.2))).trans (hHeld.2.2)
             refine ⟨_, rfl, ?_⟩
             replace HO_5 := rb HO_5 hb
             replace BK352 := blkb BK352 hb
             replace BK353 := blkb BK353 hb
             replace BK354 := blkb BK354 hb
             replace HB := belb HB hb
             (try clear hb)
             (try clear hb2)
             (try clear hk)
             (try clear hi)
             refine hK.out _ _ ⟨bc BK353 0, bc BK353 1, HS2_⟩ (fun hHeld => ?_)
             clear hK K
             refine norm_ (a' := ?_) ?_ ?_
             rotate_left
             ·show Act.put _ (some 48) _ = _
              simp only [Act.put, List.setIfInBounds_toArray, List.set_cons_zero, List.set_cons_succ, i64_w, i32_w]
              rfl
             refine pure_ (i := 10) (N := some 49) (v := ?_) (a' := ?_) #[true, true, true, true, true, true, true, true, true, true, true, false, true, false, false] rfl rfl (any_of HT_.out (by kernel_rfl)) (fun _ _ _ h => h) (Or.inl ⟨by rfl, ?_⟩) ?_ ?_
             rotate_left
             ·intro w'
              go_simp
              with_reducible rfl
             rotate_left
             ·simp only [Act.put, List.setIfInBounds_toArray, List.set_cons_zero, List.set_cons_succ, i64_w, i32_w]
              rfl
             refine pure_ (i := 11) (N := some 50) (v := ?_) (a' := ?_) #[true, true, true, true, true, true, true, true, true, true, true, true, true, false, false] rfl rfl (any_of HT_.out (by kernel_rfl)) (fun _ _ _ h => h) (Or.inl ⟨by rfl, ?_⟩) ?_ ?_
             rotate_left
             ·intro w'
              go_simp
              with_reducible rfl
             rotate_left
             ·simp only [Act.put, List.setIfInBounds_toArray, List.set_cons_zero, List.set_cons_succ, i64_w, i32_w]
              rfl
             refine pure_ (i := 13) (N := some 52) (v := ?_) (a' := ?_) #[true, true, true, true, true, true, true, true, true, true, true, true, true, true, false] rfl rfl (any_of HT_.out (by kernel_rfl)) (fun _ _ _ h => h) (Or.inl ⟨by rfl, ?_⟩) ?_ ?_
             rotate_left
             ·intro w'
              go_simp
              with_reducible rfl
             rotate_left
             ·simp only [Act.put, List.setIfInBounds_toArray, List.set_cons_zero, List.set_cons_succ, i64_w, i32_w]
              rfl
             refine pure_ (i := 14) (N := some 10) (v := ?_) (a' := ?_) #[true, true, true, true, true, true, true, true, true, true, true, true, true, true, true] rfl rfl (any_of HT_.out (by kernel_rfl)) (fun _ _ _ h => h) (Or.inl ⟨by rfl, ?_⟩) ?_ ?_
             rotate_left
             ·intro w'
              go_simp
              with_reducible rfl
             rotate_left
             ·simp only [Act.put, List.setIfInBounds_toArray, List.set_cons_zero, List.set_cons_succ, i64_w, i32_w]
              rfl
             refine done_ (done_of HT_.out (by kernel_rfl)) ?_
             have p25 : 0 ≤ ((ji21) : Int) := of_decide_eq_true (by first | (with_reducible assumption) | assumption)
             have q25 : ((ji21) : Int) < ((x5_2.length : Int) : Int) := of_decide_eq_true (by first | (with_reducible assumption) | assumption)
             obtain ⟨go25, co25, eo25, gb25, gl25, cl25, HG25⟩ := Kd.R_form HO_5.out (by omega)
             (first | cases eo25 | (injection eo25 with ea_ en_ ec_; (first | subst ea_ | (injection ea_ with ea_; subst ea_)); subst ec_; clear en_))
             have GB25 := Aside0.mk gb25
             have GG25 := Aside0.mk HG25
             clear gb25 gl25 HG25
             (first | simp only [add_plain] at hx363_0 | skip)
             obtain ⟨hx25_0, hf25_0⟩ := Kd.R_celln 0 HO_5.out ((ji21) : Int) p25 q25
             replace p25 := eq_true p25
             replace q25 := eq_true q25
             obtain ⟨hy32_, hz32_⟩ := Kd.R_celln 0 HO_5.out ((ji21) : Int) (of_decide_eq_true (by first | (with_reducible assumption) | assumption)) (of_decide_eq_true (by first | (with_reducible assumption) | assumption))
             have HP32 := Kd.R_putg HO_5.out ((ji21) : Int) (Int.tmod (wrap64 ((wrap64 ((rd x5_2 (ji21)) + (wrap64 ((rd l0_1 x23_1) * t364)))) + x8_2)) 10000)
             try go_wp2_with (first | ((with_reducible refine gate_store (t := 3) (p := 59) rfl ?_); refine store_event (t := 3) (p := 59) (v := ?vo_w33) (w1 := (w31.setCell ⟨go25, ((ji21) : Int).toNat, none⟩ (.int .i64 (Int.tmod (wrap64 ((wrap64 ((rd x5_2 (ji21)) + (wrap64 ((rd l0_1 x23_1) * t364)))) + x8_2)) 10000)))) ?hg ?ho ?hn ?hr ?_; (case ho => rfl); (case hg => rfl); (case hn => rfl); (case hr => first | (go_simp; done) | (go_simp; rfl)); intro w33 hw; have hg : w31.grownBy w33 (some go25) := (by rw [hw]; exact HP32.2); have hp_ : Kd.R (Kd.int .i64) 3 w33 w.heap.size (fun k_ => (w.heap.size ≤ k_)) (.slice (some ⟨go25, 0, none⟩) x5_2.length co30) y365 := (by rw [hw, Ny365.out]; exact HP32.1); clear HP32; replace BK352 := Aside0.mk (blk_grown (blkt BK352) hg (Kd.R_ne HO_5.out BK352.out (by decide))); replace BK353 := Aside0.mk (blk_grown (blkt BK353) hg (Kd.R_ne HO_5.out BK353.out (by decide))); replace BK354 := Aside0.mk (blk_grown (blkt BK354) hg (Kd.R_ne HO_5.out BK354.out (by decide))); replace HB := Aside0.mk ((by rw [hw]; exact below_set (HB.out) GB25.out : Below w.heap.size w w33)); replace HO_5 := Aside0.mk (hp_); clear hg hw hp_))
             go_roundg k2
             case measure => have := HK1.out; have := HK2.out; omega
             case rel => exact ⟨(y365), (wrap64 (Int.tdiv (wrap64 ((wrap64 ((rd x5_2 (ji21)) + (wrap64 ((rd l0_1 x23_1) * t364)))) + x8_2)) 10000)), (wrap64 (x9_2 + 1)), (by first | rfl | (simp; done) | (simp only [← hji21]; first | rfl | (simp; done) | (simp [mn, mx]; done)) | (simp [*]; done)), (by first | rfl | (simp; done) | (simp [*]; done)), H', ⟨by have := HK1.out; have := HK2.out; omega⟩, ⟨by (with_reducible repeat (first | apply Kd.R_alloc | apply Kd.R_drewN | apply Kd.R_drew)); exact HO_5.out⟩, ⟨blkt BK352⟩, ⟨blkt BK353⟩, ⟨blkt BK354⟩, ⟨belt HB⟩⟩
            rw [if_neg c23] at H
            exact absurd H (by simp)
           rw [if_neg c22] at H
           exact absurd H (by simp)
          rw [if_neg c20] at H
          have c20b0 : decide (x9_2 < (l1_1.length : Int)) = false := decide_eq_false c20
          clear c20
          by_cases c34 : x8_2 > 0
          ·rw [if_pos c34] at H
           have c34b0 : decide (0 < x8_2) = true := decide_eq_true c34
           clear c34
           obtain ⟨ji35, hji35⟩ : ∃ j_ : Int, (wrap64 (x23_1 + x9_2)) = j_ := ⟨_, rfl⟩
           replace H : (if 0 ≤ (ji35) then (if (ji35) < (x5_2.length : Int) then ((turnstoneref01_digit.f a1_0 l1_1 x9_2).bind fun t367 => (turnstoneref01_Mul.l1 k2 (x5_2.set ((ji35) : Int).toNat (Int.tmod (wrap64 ((wrap64 ((rd x5_2 (ji35)) + (wrap64 ((rd l0_1 x23_1) * t367)))) + x8_2)) 10000)) x23_1 (rd l0_1 x23_1) (wrap64 (Int.tdiv (wrap64 ((wrap64 ((rd x5_2 (ji35)) + (wrap64 ((rd l0_1 x23_1) * t367)))) + x8_2)) 10000)) (wrap64 (x9_2 + 1)) l0_1 (l0_1.length : Int) x23_1 a0_0 l0_1 a1_0 l1_1)) else (none)) else (none)) = some (r1, r2) := by first | (rw [hji35] at H; exact H) | (simp only [hji35] at H ⊢; exact H)
           have hji35w : (IntKind.i64.wrap (x23_1 + x9_2)) = ji35 := (i64_w _).trans hji35
           by_cases c36 : 0 ≤ (ji35)
           ·rw [if_pos c36] at H
            have c36b0 : decide (0 ≤ (ji35)) = true := decide_eq_true c36
            clear c36
            by_cases c37 : (ji35) < (x5_2.length : Int)
            ·rw [if_pos c37] at H
             have c37b0 : decide ((ji35) < (x5_2.length : Int)) = true := decide_eq_true c37
             clear c37
             replace H := Option.bind_eq_some_iff.mp H
             obtain ⟨t367, A380, H⟩ := H
             replace H : (turnstoneref01_Mul.l1 k2 (x5_2.set ((ji35) : Int).toNat (Int.tmod (wrap64 ((wrap64 ((rd x5_2 (ji35)) + (wrap64 ((rd l0_1 x23_1) * t367)))) + x8_2)) 10000)) x23_1 (rd l0_1 x23_1) (wrap64 (Int.tdiv (wrap64 ((wrap64 ((rd x5_2 (ji35)) + (wrap64 ((rd l0_1 x23_1) * t367)))) + x8_2)) 10000)) (wrap64 (x9_2 + 1)) l0_1 (l0_1.length : Int) x23_1 a0_0 l0_1 a1_0 l1_1) = some (r1, r2) := H
             have A38 := Aside0.mk A380
             clear A380
             obtain ⟨y368, hy368⟩ : ∃ y_ : List Int, y_ = (x5_2.set ((ji35) : Int).toNat (Int.tmod (wrap64 ((wrap64 ((rd x5_2 (ji35)) + (wrap64 ((rd l0_1 x23_1) * t367)))) + x8_2)) 10000)) := ⟨_, rfl⟩
             replace H : (turnstoneref01_Mul.l1 k2 y368 x23_1 (rd l0_1 x23_1) (wrap64 (Int.tdiv (wrap64 ((wrap64 ((rd x5_2 (ji35)) + (wrap64 ((rd l0_1 x23_1) * t367)))) + x8_2)) 10000)) (wrap64 (x9_2 + 1)) l0_1 (l0_1.length : Int) x23_1 a0_0 l0_1 a1_0 l1_1) = some (r1, r2) := by first | (rw [hy368]; with_reducible exact H) | (have H2_ := (Option.bind_some _ _).symm.trans H; rw [hy368]; with_reducible exact H2_) | (have H2_ := (Option.bind_some _ _).symm.trans H; with_reducible exact H2_) | with_reducible exact H | (rw [hy368]; exact H) | exact H
             have Ny368 := Aside0.mk hy368
             clear hy368
             have H' := Aside0.mk H
             clear H
             have hnb40 := NB353_352.out
             have hnc40 := NB352_353.out
             have hnb41 := NB353_354.out
             have hnc41 := NB354_353.out
             have hcz42_0 : wr.cell? ⟨gb353, 0, none⟩ = some (.bool a1_0) := bc BK353 0
             have hcz42_1 : wr.cell? ⟨gb353, 1, none⟩ = some (.slice A1_1 l1_1.length c1_1) := bc BK353 1
             have hfz42_0 := blk_frozen BK353.out 0
             have hfz42_1 := blk_frozen BK353.out 1
             try go_wp2
             replace HO_5 := Aside0.mk (Kd.R_drew HO_5.out)
             replace BK352 := Aside0.mk (blk_drew BK352.out)
             replace BK353 := Aside0.mk (blk_drew BK353.out)
             replace BK354 := Aside0.mk (blk_drew BK354.out)
             replace HB := Aside0.mk (below_drew1 HB.out)
             obtain ⟨Ao44, co44, eo44⟩ := Kd.R_slice HO_5.out
             (first | subst eo44 | (injection eo44 with f1_ f2_ f3_; have f4_ := f1_.symm; have f5_ := f3_.symm; clear f1_ f2_ f3_; subst f4_; subst f5_))
             have p366 : 0 ≤ ((ji35) : Int) := of_decide_eq_true (by first | (with_reducible assumption) | assumption)
             have q366 : (ji35) < (x5_2.length : Int) := of_decide_eq_true (by first | (with_reducible assumption) | assumption)
             obtain ⟨ad366, e366, hx366_0⟩ := Kd.at_int (Kd.R_reads' HO_5.out).2.2 (ji35) p366 q366
             cases e366
             replace p366 := eq_true p366
             replace q366 := eq_true q366
             refine start_ (n := 15) (S := fun w' => w'.cell? ⟨gb353, 0, none⟩ = some (.bool a1_0) ∧ w'.cell? ⟨gb353, 1, none⟩ = some (.slice A1_1 l1_1.length c1_1) ∧ w'.cell? (ad366.add ((ji35)).toNat) = some (.int .i64 (rd x5_2 (ji35)))) (ds := []) #[false, false, false, false, false, false, false, false, false, false, false, false, false, false, false] (by kernel_rfl) rfl rfl ⟨bc BK353 0, bc BK353 1, hx366_0⟩ (fun hHeld => ?_); refine with_tabW turnstoneref01_Mul.tab9 turnstoneref01_Mul.bits9 (fun HT_ HW_ => ?_)
             generalize wr.drew = w43 at HO_5 BK352 BK353 BK354 HB hx366_0 hHeld ⊢
             refine pure_ (i := 0) (N := some 39) (v := ?_) (a' := ?_) #[true, false, false, false, false, false, false, false, false, false, false, false, false, false, false] rfl rfl (any_of HT_.out (by kernel_rfl)) (fun _ _ _ h => h) (Or.inl ⟨by rfl, ?_⟩) ?_ ?_
             rotate_left
             ·intro w'
              go_simp
              with_reducible rfl
             rotate_left
             ·simp only [Act.put, List.setIfInBounds_toArray, List.set_cons_zero, List.set_cons_succ, i64_w, i32_w]
              rfl
             refine pure_ (i := 1) (N := some 40) (v := ?_) (a' := ?_) #[true, true, false, false, false, false, false, false, false, false, false, false, false, false, false] rfl rfl (any_of HT_.out (by kernel_rfl)) (fun _ _ _ h => h) (Or.inl ⟨by rfl, ?_⟩) ?_ ?_
             rotate_left
             ·intro w'
              go_simp
              with_reducible rfl
             rotate_left
             ·simp only [Act.put, List.setIfInBounds_toArray, List.set_cons_zero, List.set_cons_succ, i64_w, i32_w]
              rfl
             refine pure_ (i := 2) (N := some 41) (v := ?_) (a' := ?_) #[true, true, true, false, false, false, false, false, false, false, false, false, false, false, false] rfl rfl (any_of HT_.out (by kernel_rfl)) (fun _ _ _ h => h) (Or.inl ⟨by rfl, ?_⟩) ?_ ?_
             rotate_left
             ·intro w'
              go_simp
              with_reducible rfl
             rotate_left
             ·simp only [Act.put, List.setIfInBounds_toArray, List.set_cons_zero, List.set_cons_succ, i64_w, i32_w]
              rfl
             refine pure_ (i := 3) (N := some 42) (v := ?_) (a' := ?_) #[true, true, true, true, false, false, false, false, false, false, false, false, false, false, false] rfl rfl (any_of HT_.out (by kernel_rfl)) (fun _ _ _ h => h) (Or.inl ⟨by rfl, ?_⟩) ?_ ?_
             rotate_left
             ·intro w'
              go_simp
              with_reducible rfl
             rotate_left
             ·simp only [Act.put, List.setIfInBounds_toArray, List.set_cons_zero, List.set_cons_succ, i64_w, i32_w]
              rfl
             refine pure_ (i := 4) (N := some 43) (v := ?_) (a' := ?_) #[true, true, true, true, true, false, false, false, false, false, false, false, false, false, false] rfl rfl (any_of HT_.out (by kernel_rfl)) (fun _ _ _ h => h) (Or.inl ⟨by rfl, ?_⟩) ?_ ?_
             rotate_left
             ·intro w'
              go_simp
              with_reducible rfl
             rotate_left
             ·simp only [Act.put, List.setIfInBounds_toArray, List.set_cons_zero, List.set_cons_succ, i64_w, i32_w]
              rfl
             refine pure_ (i := 6) (N := some 45) (v := ?_) (a' := ?_) #[true, true, true, true, true, false, true, false, false, false, false, false, false, false, false] rfl rfl (any_of HT_.out (by kernel_rfl)) (fun _ _ _ h => h) (Or.inl ⟨by rfl, ?_⟩) ?_ ?_
             rotate_left
             ·intro w'
              go_simp
              with_reducible rfl
             rotate_left
             ·simp only [Act.put, List.setIfInBounds_toArray, List.set_cons_zero, List.set_cons_succ, i64_w, i32_w]
              rfl
             refine pure_ (i := 8) (N := some 47) (v := ?_) (a' := ?_) #[true, true, true, true, true, false, true, false, true, false, false, false, false, false, false] rfl rfl (any_of HT_.out (by kernel_rfl)) (fun _ _ _ h => h) (Or.inl ⟨by rfl, ?_⟩) ?_ ?_
             rotate_left
             ·intro w'
              go_simp
              with_reducible rfl
             rotate_left
             ·simp only [Act.put, List.setIfInBounds_toArray, List.set_cons_zero, List.set_cons_succ, i64_w, i32_w]
              rfl
             refine pure_ (i := 12) (N := some 51) (v := ?_) (a' := ?_) #[true, true, true, true, true, false, true, false, true, false, false, false, true, false, false] rfl rfl (any_of HT_.out (by kernel_rfl)) (fun _ _ _ h => h) (Or.inl ⟨by rfl, ?_⟩) ?_ ?_
             rotate_left
             ·intro w'
              go_simp
              with_reducible rfl
             rotate_left
             ·simp only [Act.put, List.setIfInBounds_toArray, List.set_cons_zero, List.set_cons_succ, i64_w, i32_w]
              rfl
             refine take_ (i := 5) (N := some 44) (v := ?_) (a' := ?_) #[true, true, true, true, true, true, true, false, true, false, false, false, true, false, false] rfl rfl (take_ofW HT_.out HW_.out (by kernel_rfl)) (fun _ _ _ h => h) (Or.inl ⟨by rfl, ?_⟩) hHeld ?_ ?_
             rotate_left
             ·rintro w' ⟨s0, s1, s2⟩
              go_simp
              with_reducible rfl
             rotate_left
             ·simp only [Act.put, List.setIfInBounds_toArray, List.set_cons_zero, List.set_cons_succ, i64_w, i32_w]
              rfl
             refine take_ (i := 7) (N := some 46) (v := ?_) (a' := ?_) #[true, true, true, true, true, true, true, true, true, false, false, false, true, false, false] rfl rfl (take_ofW HT_.out HW_.out (by kernel_rfl)) (fun _ _ _ h => h) (Or.inl ⟨by rfl, ?_⟩) hHeld ?_ ?_
             rotate_left
             ·rintro w' ⟨s0, s1, s2⟩
              go_simp
              with_reducible rfl
             rotate_left
             ·simp only [Act.put, List.setIfInBounds_toArray, List.set_cons_zero, List.set_cons_succ, i64_w, i32_w]
              rfl
             refine one_ (i := 9) (N := some 48) #[true, true, true, true, true, true, true, true, true, true, false, false, true, false, false] rfl rfl (one_of HT_.out (by kernel_rfl)) (by decide) (fun K hK => ?_)
             refine goes_ Try.func71 (by kernel_rfl) rfl #[.agg #[.bool a1_0, .slice A1_1 l1_1.length c1_1], .int .i64 x9_2] (by rfl) rfl rfl argt ?_
             with_reducible refine (turnstoneref01_digit.calls a1_0 _ _ l1_1 x9_2 t367 _ ?side1 ?side2 A38.out).mono ?_
             (case side1 => exact (ct (Kd.C_below HR1_1.out HB.out)))
             (case side2 => exact HC1_1.out)
             rintro e w45 ⟨rfl, hb⟩
             have HS2_ := (hb.cell (World.block_lt_of_cell? _ _ (hHeld.2.2))).trans (hHeld.2.2)
             refine ⟨_, rfl, ?_⟩
             replace HO_5 := rb HO_5 hb
             replace BK352 := blkb BK352 hb
             replace BK353 := blkb BK353 hb
             replace BK354 := blkb BK354 hb
             replace HB := belb HB hb
             (try clear hb)
             (try clear hb2)
             (try clear hk)
             (try clear hi)
             refine hK.out _ _ ⟨bc BK353 0, bc BK353 1, HS2_⟩ (fun hHeld => ?_)
             clear hK K
             refine norm_ (a' := ?_) ?_ ?_
             rotate_left
             ·show Act.put _ (some 48) _ = _
              simp only [Act.put, List.setIfInBounds_toArray, List.set_cons_zero, List.set_cons_succ, i64_w, i32_w]
              rfl
             refine pure_ (i := 10) (N := some 49) (v := ?_) (a' := ?_) #[true, true, true, true, true, true, true, true, true, true, true, false, true, false, false] rfl rfl (any_of HT_.out (by kernel_rfl)) (fun _ _ _ h => h) (Or.inl ⟨by rfl, ?_⟩) ?_ ?_
             rotate_left
             ·intro w'
              go_simp
              with_reducible rfl
             rotate_left
             ·simp only [Act.put, List.setIfInBounds_toArray, List.set_cons_zero, List.set_cons_succ, i64_w, i32_w]
              rfl
             refine pure_ (i := 11) (N := some 50) (v := ?_) (a' := ?_) #[true, true, true, true, true, true, true, true, true, true, true, true, true, false, false] rfl rfl (any_of HT_.out (by kernel_rfl)) (fun _ _ _ h => h) (Or.inl ⟨by rfl, ?_⟩) ?_ ?_
             rotate_left
             ·intro w'
              go_simp
              with_reducible rfl
             rotate_left
             ·simp only [Act.put, List.setIfInBounds_toArray, List.set_cons_zero, List.set_cons_succ, i64_w, i32_w]
              rfl
             refine pure_ (i := 13) (N := some 52) (v := ?_) (a' := ?_) #[true, true, true, true, true, true, true, true, true, true, true, true, true, true, false] rfl rfl (any_of HT_.out (by kernel_rfl)) (fun _ _ _ h => h) (Or.inl ⟨by rfl, ?_⟩) ?_ ?_
             rotate_left
             ·intro w'
              go_simp
              with_reducible rfl
             rotate_left
             ·simp only [Act.put, List.setIfInBounds_toArray, List.set_cons_zero, List.set_cons_succ, i64_w, i32_w]
              rfl
             refine pure_ (i := 14) (N := some 10) (v := ?_) (a' := ?_) #[true, true, true, true, true, true, true, true, true, true, true, true, true, true, true] rfl rfl (any_of HT_.out (by kernel_rfl)) (fun _ _ _ h => h) (Or.inl ⟨by rfl, ?_⟩) ?_ ?_
             rotate_left
             ·intro w'
              go_simp
              with_reducible rfl
             rotate_left
             ·simp only [Act.put, List.setIfInBounds_toArray, List.set_cons_zero, List.set_cons_succ, i64_w, i32_w]
              rfl
             refine done_ (done_of HT_.out (by kernel_rfl)) ?_
             have p39 : 0 ≤ ((ji35) : Int) := of_decide_eq_true (by first | (with_reducible assumption) | assumption)
             have q39 : ((ji35) : Int) < ((x5_2.length : Int) : Int) := of_decide_eq_true (by first | (with_reducible assumption) | assumption)
             obtain ⟨go39, co39, eo39, gb39, gl39, cl39, HG39⟩ := Kd.R_form HO_5.out (by omega)
             (first | cases eo39 | (injection eo39 with ea_ en_ ec_; (first | subst ea_ | (injection ea_ with ea_; subst ea_)); subst ec_; clear en_))
             have GB39 := Aside0.mk gb39
             have GG39 := Aside0.mk HG39
             clear gb39 gl39 HG39
             (first | simp only [add_plain] at hx366_0 | skip)
             obtain ⟨hx39_0, hf39_0⟩ := Kd.R_celln 0 HO_5.out ((ji35) : Int) p39 q39
             replace p39 := eq_true p39
             replace q39 := eq_true q39
             obtain ⟨hy46_, hz46_⟩ := Kd.R_celln 0 HO_5.out ((ji35) : Int) (of_decide_eq_true (by first | (with_reducible assumption) | assumption)) (of_decide_eq_true (by first | (with_reducible assumption) | assumption))
             have HP46 := Kd.R_putg HO_5.out ((ji35) : Int) (Int.tmod (wrap64 ((wrap64 ((rd x5_2 (ji35)) + (wrap64 ((rd l0_1 x23_1) * t367)))) + x8_2)) 10000)
             try go_wp2_with (first | ((with_reducible refine gate_store (t := 3) (p := 59) rfl ?_); refine store_event (t := 3) (p := 59) (v := ?vo_w47) (w1 := (w45.setCell ⟨go39, ((ji35) : Int).toNat, none⟩ (.int .i64 (Int.tmod (wrap64 ((wrap64 ((rd x5_2 (ji35)) + (wrap64 ((rd l0_1 x23_1) * t367)))) + x8_2)) 10000)))) ?hg ?ho ?hn ?hr ?_; (case ho => rfl); (case hg => rfl); (case hn => rfl); (case hr => first | (go_simp; done) | (go_simp; rfl)); intro w47 hw; have hg : w45.grownBy w47 (some go39) := (by rw [hw]; exact HP46.2); have hp_ : Kd.R (Kd.int .i64) 3 w47 w.heap.size (fun k_ => (w.heap.size ≤ k_)) (.slice (some ⟨go39, 0, none⟩) x5_2.length co44) y368 := (by rw [hw, Ny368.out]; exact HP46.1); clear HP46; replace BK352 := Aside0.mk (blk_grown (blkt BK352) hg (Kd.R_ne HO_5.out BK352.out (by decide))); replace BK353 := Aside0.mk (blk_grown (blkt BK353) hg (Kd.R_ne HO_5.out BK353.out (by decide))); replace BK354 := Aside0.mk (blk_grown (blkt BK354) hg (Kd.R_ne HO_5.out BK354.out (by decide))); replace HB := Aside0.mk ((by rw [hw]; exact below_set (HB.out) GB39.out : Below w.heap.size w w47)); replace HO_5 := Aside0.mk (hp_); clear hg hw hp_))
             go_roundg k2
             case measure => have := HK1.out; have := HK2.out; omega
             case rel => exact ⟨(y368), (wrap64 (Int.tdiv (wrap64 ((wrap64 ((rd x5_2 (ji35)) + (wrap64 ((rd l0_1 x23_1) * t367)))) + x8_2)) 10000)), (wrap64 (x9_2 + 1)), (by first | rfl | (simp; done) | (simp only [← hji35]; first | rfl | (simp; done) | (simp [mn, mx]; done)) | (simp [*]; done)), (by first | rfl | (simp; done) | (simp [*]; done)), H', ⟨by have := HK1.out; have := HK2.out; omega⟩, ⟨by (with_reducible repeat (first | apply Kd.R_alloc | apply Kd.R_drewN | apply Kd.R_drew)); exact HO_5.out⟩, ⟨blkt BK352⟩, ⟨blkt BK353⟩, ⟨blkt BK354⟩, ⟨belt HB⟩⟩
            rw [if_neg c37] at H
            exact absurd H (by simp)
           rw [if_neg c36] at H
           exact absurd H (by simp)
          rw [if_neg c34] at H
          have c34b0 : decide (0 < x8_2) = false := decide_eq_false c34
          clear c34
          have H' := Aside0.mk H
          clear H
          have hnb48 := NB353_352.out
          have hnc48 := NB352_353.out
          have hnb49 := NB353_354.out
          have hnc49 := NB354_353.out
          have hcz50_0 : wr.cell? ⟨gb353, 0, none⟩ = some (.bool a1_0) := bc BK353 0
          have hcz50_1 : wr.cell? ⟨gb353, 1, none⟩ = some (.slice A1_1 l1_1.length c1_1) := bc BK353 1
          have hfz50_0 := blk_frozen BK353.out 0
          have hfz50_1 := blk_frozen BK353.out 1
          go_wp2
          go_roundg k2
          case measure => have := HK1.out; have := HK2.out; omega
          case rel => exact ⟨(x5_2), (wrap64 (x23_1 + 1)), (by first | rfl | (simp; done) | (simp [*]; done)), H', ⟨by have := HK1.out; have := HK2.out; omega⟩, ⟨by (with_reducible repeat (first | apply Kd.R_alloc | apply Kd.R_drewN | apply Kd.R_drew)); exact HO_5.out⟩, ⟨blkt BK352⟩, ⟨blkt BK353⟩, ⟨blkt BK354⟩, ⟨belt HB⟩⟩
       rw [if_neg c19] at H
       exact absurd H (by simp)
      rw [if_neg c18] at H
      exact absurd H (by simp)
     rw [if_neg c17] at H
     have c17b0 : decide (x23_1 < (l0_1.length : Int)) = false := decide_eq_false c17
     clear c17
     replace H := Option.bind_eq_some_iff.mp H
     obtain ⟨⟨t358, t359⟩, A510, H⟩ := H
     replace H : (some (t358, t359)) = some (r1, r2) := H
     have A51 := Aside0.mk A510
     clear A510
     simp only [Option.some.injEq, Prod.mk.injEq] at H
     obtain ⟨rfl, rfl⟩ := H
     have hnb52 := NB352_353.out
     have hnc52 := NB353_352.out
     have hnb53 := NB352_354.out
     have hnc53 := NB354_352.out
     have hcz54_0 : wr.cell? ⟨gb352, 0, none⟩ = some (.bool a0_0) := bc BK352 0
     have hcz54_1 : wr.cell? ⟨gb352, 1, none⟩ = some (.slice A0_1 l0_1.length c0_1) := bc BK352 1
     have hfz54_0 := blk_frozen BK352.out 0
     have hfz54_1 := blk_frozen BK352.out 1
     have hnb55 := NB353_354.out
     have hnc55 := NB354_353.out
     have hcz56_0 : wr.cell? ⟨gb353, 0, none⟩ = some (.bool a1_0) := bc BK353 0
     have hcz56_1 : wr.cell? ⟨gb353, 1, none⟩ = some (.slice A1_1 l1_1.length c1_1) := bc BK353 1
     have hfz56_0 := blk_frozen BK353.out 0
     have hfz56_1 := blk_frozen BK353.out 1
     obtain ⟨Ao57, co57, eo57⟩ := Kd.R_slice HO_5.out
     subst eo57
     go_wp2_with (first | ((with_reducible refine gate_callee (f := 62) rfl ?_); refine goesL_ (some 70) rfl rfl Try.func62 (by kernel_rfl) rfl #[.agg #[.bool (a0_0 != a1_0), .slice Ao57 x5_1.length co57]] rfl argt ?_; (with_reducible refine (turnstoneref01_trim.calls k1 (a0_0 != a1_0) (fun k_ => some k_ = (.slice Ao57 x5_1.length co57 : Value).ownBlock) _ _ x5_1 t358 t359 _ ?side1 A51.out).mono ?_); (case side1 => exact Kd.R_V (Kd.R_tight rfl (Kd.R_types (Kd.R_types (Kd.R_types (HO_5.out) BK352.out (by decide)) BK353.out (by decide)) BK354.out (by decide)))); rintro e w58 ⟨v360, rfl, ho0, hb⟩; refine ⟨_, rfl, ?_⟩; have HO361 := Aside0.mk (Kd.V_lower (Kd.V_mono (ok' := fun k_ => (w.heap.size ≤ k_) ∧ k_ ≠ gb352 ∧ k_ ≠ gb353 ∧ k_ ≠ gb354) ho0 (fun k_ hk_ => ⟨Or.elim hk_ (fun hs_ => ((Kd.R_types (Kd.R_types (Kd.R_types (HO_5.out) BK352.out (by decide)) BK353.out (by decide)) BK354.out (by decide)).1 k_ hs_.symm).1.1.1) (fun hn_ => (Nat.le_trans (below_size (belt HB)) hn_)), Or.elim hk_ (fun hs_ => ((Kd.R_types (Kd.R_types (Kd.R_types (HO_5.out) BK352.out (by decide)) BK353.out (by decide)) BK354.out (by decide)).1 k_ hs_.symm).1.1.2) (fun hn_ => (Kd.freshB (blkt BK352) k_ hn_)), Or.elim hk_ (fun hs_ => ((Kd.R_types (Kd.R_types (Kd.R_types (HO_5.out) BK352.out (by decide)) BK353.out (by decide)) BK354.out (by decide)).1 k_ hs_.symm).1.2) (fun hn_ => (Kd.freshB (blkt BK353) k_ hn_)), Or.elim hk_ (fun hs_ => ((Kd.R_types (Kd.R_types (Kd.R_types (HO_5.out) BK352.out (by decide)) BK353.out (by decide)) BK354.out (by decide)).1 k_ hs_.symm).2) (fun hn_ => (Kd.freshB (blkt BK354) k_ hn_))⟩)) (below_size (belt HB))); replace HO_5 := rb HO_5 hb; replace BK352 := blkb BK352 hb; replace BK353 := blkb BK353 hb; replace BK354 := blkb BK354 hb; replace HB := belb HB hb; (try clear hb); (try clear hb2); (try clear hk); (try clear hi); (try clear ho0); have hcz59_0 : w58.cell? ⟨gb354, 0, none⟩ = some (.bool false) := bc BK354 0; have hcz59_1 : w58.cell? ⟨gb354, 1, none⟩ = some (.slice none 0 0) := bc BK354 1; have hfz59_0 := blk_frozen BK354.out 0; have hfz59_1 := blk_frozen BK354.out 1; obtain ⟨Ao60, co60, eo60⟩ := Kd.V_slice HO361.out; subst eo60))
     refine bodyPost_ret (results_cell_row rfl _ _ gb354 28 #[.bool t358, .slice Ao60 t359.length co60] (0, 0) _ rfl (by (with_reducible repeat (first | refine blk_drewN ?_ _ | refine blk_drew ?_ | refine blk_alloc ?_ _)); refine blk_put (cs := #[.bool t358, .slice none 0 0]) ?_ 1 _ rfl; (with_reducible repeat (first | refine blk_drewN ?_ _ | refine blk_drew ?_ | refine blk_alloc ?_ _)); refine blk_put (cs := #[.bool false, .slice none 0 0]) ?_ 0 _ rfl; exact blkt BK354) Try.underlying28 rfl (by kernel_rfl)) rfl ?_
     exact ⟨_, by first | rfl | (simp [errW_none, errW_some] <;> rfl) | (simp only [← hji3]; first | rfl | (simp [errW_none, errW_some] <;> rfl)) | (simp [*, errW_none, errW_some] <;> rfl), by (with_reducible repeat (first | apply Kd.V_alloc | apply Kd.V_drewN | apply Kd.V_drew)); exact Kd.V_mono (Kd.V_far (p := ⟨gb354, 1, none⟩) (Kd.V_far (p := ⟨gb354, 0, none⟩) (Kd.V_mono HO361.out (fun k_ hk => (⟨hk, hk.2.2.2⟩ : _ ∧ k_ ≠ gb354))) (fun _ hk => hk.2) (.bool t358)) (fun _ hk => hk.2) (.slice Ao60 t359.length co60)) (fun _ hk => hk.1.1), belt HB⟩
  rw [if_neg c5] at H
  exact absurd H (by simp)
 rw [if_neg c4] at H
 exact absurd H (by simp)


/-! ### turnstoneref01_Wide: function 72 -/
def turnstoneref01_Wide.f (k : Nat) (a0 : Int) (a1 : Int) : Option (Bool × List Int) := (turnstoneref01_U.f k 4294967296).bind fun bt370 => ((turnstoneref01_U.f k 4294967296).bind fun bt374 => ((turnstoneref01_Mul.f k bt370.1 bt370.2 bt374.1 bt374.2).bind fun bt378 => ((turnstoneref01_N.f k a0).bind fun bt383 => ((turnstoneref01_Mul.f k bt383.1 bt383.2 bt378.1 bt378.2).bind fun bt387 => ((turnstoneref01_U.f k a1).bind fun bt391 => ((turnstoneref01_Add.f k bt387.1 bt387.2 bt391.1 bt391.2).bind fun bt395 => (some (bt395.1, bt395.2))))))))
theorem turnstoneref01_Wide.mono : ∀ a0 a1 k, LeO (turnstoneref01_Wide.f k a0 a1) (turnstoneref01_Wide.f (k + 1) a0 a1) := by
 intro a0 a1 k
 unfold turnstoneref01_Wide.f
 repeat' first
   | (with_reducible exact turnstoneref01_Add.mono _ _ _ _ _)
   | (with_reducible exact turnstoneref01_Mul.mono _ _ _ _ _)
   | (with_reducible exact turnstoneref01_N.mono _ _)
   | (with_reducible exact turnstoneref01_U.mono _ _)
   | (with_reducible exact LeO.refl _)
   | (with_reducible exact LeO.none _)
   | (with_reducible refine LeO.ite ?_ ?_)
   | (with_reducible refine LeO.bind ?_ (fun _ => ?_))
   | exact turnstoneref01_Add.mono _ _ _ _ _
   | exact turnstoneref01_Mul.mono _ _ _ _ _
   | exact turnstoneref01_N.mono _ _
   | exact turnstoneref01_U.mono _ _
   | exact LeO.none _
   | refine LeO.ite ?_ ?_
   | refine LeO.bind ?_ (fun _ => ?_)
def turnstoneref01_Wide.T2 : Bool × List (List Nat × List Nat) := (true, [([], []), ([0], [0]), ([], []), ([1, 2, 1], [1, 2]), ([], []), ([4, 3], [4]), ([3, 5, 5], [3, 5]), ([6, 6, 0, 1, 2, 3, 4, 5, 6], [6])])
def turnstoneref01_Wide.B2 : List Nat := [0, 1, 0, 7, 0, 31, 63, 127]
theorem turnstoneref01_Wide.tab2 : rtab .any (opsOf Try.f72 2) = turnstoneref01_Wide.T2 := by kernel_rfl
theorem turnstoneref01_Wide.bits2 : waitsOk turnstoneref01_Wide.T2.2 turnstoneref01_Wide.B2 = true := by kernel_rfl
set_option maxHeartbeats 8000000 in
set_option maxRecDepth 100000 in
theorem turnstoneref01_Wide.calls (k : Nat) (a0 : Int) (a1 : Int) (r1 : Bool) (r2 : List Int) (w : World) (h : turnstoneref01_Wide.f k a0 a1 = some (r1, r2)) :
  Calls Try.prog 72 #[.int .i64 a0, .int .u64 a1] w fun e w' => ∃ v1_ : Value, e = .returned (.agg #[.bool r1, v1_]) ∧ Kd.V (Kd.int .i64) 3 w' w.heap.size (fun k_ => (w.heap.size ≤ k_)) v1_ r2 ∧ Below w.heap.size w w' := by
 have hu28 := Try.underlying28
 have HB := Aside0.mk (Below.refl w.heap.size w)
 have H : ((turnstoneref01_U.f k 4294967296).bind fun bt370 => ((turnstoneref01_U.f k 4294967296).bind fun bt374 => ((turnstoneref01_Mul.f k bt370.1 bt370.2 bt374.1 bt374.2).bind fun bt378 => ((turnstoneref01_N.f k a0).bind fun bt383 => ((turnstoneref01_Mul.f k bt383.1 bt383.2 bt378.1 bt378.2).bind fun bt387 => ((turnstoneref01_U.f k a1).bind fun bt391 => ((turnstoneref01_Add.f k bt387.1 bt387.2 bt391.1 bt391.2).bind fun bt395 => (some (bt395.1, bt395.2))))))))) = some (r1, r2) := h
 clear h
 replace H := Option.bind_eq_some_iff.mp H
 obtain ⟨⟨t370, t371⟩, A30, H⟩ := H
 replace H : ((turnstoneref01_U.f k 4294967296).bind fun bt374 => ((turnstoneref01_Mul.f k t370 t371 bt374.1 bt374.2).bind fun bt378 => ((turnstoneref01_N.f k a0).bind fun bt383 => ((turnstoneref01_Mul.f k bt383.1 bt383.2 bt378.1 bt378.2).bind fun bt387 => ((turnstoneref01_U.f k a1).bind fun bt391 => ((turnstoneref01_Add.f k bt387.1 bt387.2 bt391.1 bt391.2).bind fun bt395 => (some (bt395.1, bt395.2)))))))) = some (r1, r2) := H
 have A3 := Aside0.mk A30
 clear A30
 replace H := Option.bind_eq_some_iff.mp H
 obtain ⟨⟨t374, t375⟩, A40, H⟩ := H
 replace H : ((turnstoneref01_Mul.f k t370 t371 t374 t375).bind fun bt378 => ((turnstoneref01_N.f k a0).bind fun bt383 => ((turnstoneref01_Mul.f k bt383.1 bt383.2 bt378.1 bt378.2).bind fun bt387 => ((turnstoneref01_U.f k a1).bind fun bt391 => ((turnstoneref01_Add.f k bt387.1 bt387.2 bt391.1 bt391.2).bind fun bt395 => (some (bt395.1, bt395.2))))))) = some (r1, r2) := H
 have A4 := Aside0.mk A40
 clear A40
 replace H := Option.bind_eq_some_iff.mp H
 obtain ⟨⟨t378, t379⟩, A50, H⟩ := H
 replace H : ((turnstoneref01_N.f k a0).bind fun bt383 => ((turnstoneref01_Mul.f k bt383.1 bt383.2 t378 t379).bind fun bt387 => ((turnstoneref01_U.f k a1).bind fun bt391 => ((turnstoneref01_Add.f k bt387.1 bt387.2 bt391.1 bt391.2).bind fun bt395 => (some (bt395.1, bt395.2)))))) = some (r1, r2) := H
 have A5 := Aside0.mk A50
 clear A50
 replace H := Option.bind_eq_some_iff.mp H
 obtain ⟨⟨t383, t384⟩, A60, H⟩ := H
 replace H : ((turnstoneref01_Mul.f k t383 t384 t378 t379).bind fun bt387 => ((turnstoneref01_U.f k a1).bind fun bt391 => ((turnstoneref01_Add.f k bt387.1 bt387.2 bt391.1 bt391.2).bind fun bt395 => (some (bt395.1, bt395.2))))) = some (r1, r2) := H
 have A6 := Aside0.mk A60
 clear A60
 replace H := Option.bind_eq_some_iff.mp H
 obtain ⟨⟨t387, t388⟩, A70, H⟩ := H
 replace H : ((turnstoneref01_U.f k a1).bind fun bt391 => ((turnstoneref01_Add.f k t387 t388 bt391.1 bt391.2).bind fun bt395 => (some (bt395.1, bt395.2)))) = some (r1, r2) := H
 have A7 := Aside0.mk A70
 clear A70
 replace H := Option.bind_eq_some_iff.mp H
 obtain ⟨⟨t391, t392⟩, A80, H⟩ := H
 replace H : ((turnstoneref01_Add.f k t387 t388 t391 t392).bind fun bt395 => (some (bt395.1, bt395.2))) = some (r1, r2) := H
 have A8 := Aside0.mk A80
 clear A80
 replace H := Option.bind_eq_some_iff.mp H
 obtain ⟨⟨t395, t396⟩, A90, H⟩ := H
 replace H : (some (t395, t396)) = some (r1, r2) := H
 have A9 := Aside0.mk A90
 clear A90
 simp only [Option.some.injEq, Prod.mk.injEq] at H
 obtain ⟨rfl, rfl⟩ := H
 go_enter Try.func72, Try.ntmps72
 try go_wp2_with (first | ((with_reducible refine gate_dst (N := 4) rfl ?_); refine box_event ?hg (N := 4) ?hd (cs := #[.bool false, .slice none 0 0]) (t := 28) ?hr ?_; (case hd => rfl); (case hg => rfl); (case hr => first | (go_simp; done) | (go_simp; rfl)); intro gb369 hg w10 hbox hb; have BK369 := Aside0.mk (hbox); have GW369 := bels HB hg; have GE369 := bels HB hg; replace HB := belb HB hb; clear hb hbox hg) | ((with_reducible refine gate_callee (f := 24) rfl ?_); refine goesL_ (some 6) rfl rfl Try.func24 (by kernel_rfl) rfl #[.int .u64 4294967296] rfl argt ?_; (with_reducible refine (turnstoneref01_U.calls k 4294967296 t370 t371 _ A3.out).mono ?_); rintro e w11 ⟨v372, rfl, ho0, hb⟩; refine ⟨_, rfl, ?_⟩; have HO373 := Aside0.mk (Kd.R_lower (Kd.R_newM (M := fun k_ => (w.heap.size ≤ k_)) ho0 (below_size (belt HB)) (fun k_ h_ => h_)) (below_size (belt HB))); replace BK369 := blkb BK369 hb; replace HB := belb HB hb; (try clear hb); (try clear hb2); (try clear hk); (try clear hi); (try clear ho0)) | ((with_reducible refine gate_callee (f := 24) rfl ?_); refine goesL_ (some 7) rfl rfl Try.func24 (by kernel_rfl) rfl #[.int .u64 4294967296] rfl argt ?_; (with_reducible refine (turnstoneref01_U.calls k 4294967296 t374 t375 _ A4.out).mono ?_); rintro e w12 ⟨v376, rfl, ho0, hb⟩; refine ⟨_, rfl, ?_⟩; have HO377 := Aside0.mk (Kd.R_lower (Kd.R_new' (Kd.R_newM (M := fun k_ => (w.heap.size ≤ k_)) ho0 (below_size (belt HB)) (fun k_ h_ => h_)) (Kd.R_lt (rt HO373))) (below_size (belt HB))); replace BK369 := blkb BK369 hb; replace HO373 := Aside0.mk (Kd.R_elder' (rt HO373) (Kd.R_base ho0) hb); replace HB := belb HB hb; (try clear hb); (try clear hb2); (try clear hk); (try clear hi); (try clear ho0); obtain ⟨Ao13, co13, eo13⟩ := Kd.R_slice HO373.out; subst eo13; obtain ⟨Ao14, co14, eo14⟩ := Kd.R_slice HO377.out; subst eo14) | ((with_reducible refine gate_callee (f := 40) rfl ?_); refine goesL_ (some 8) rfl rfl Try.func40 (by kernel_rfl) rfl #[.agg #[.bool t370, .slice Ao13 t371.length co13], .agg #[.bool t374, .slice Ao14 t375.length co14]] rfl argt ?_; (with_reducible refine (turnstoneref01_Mul.calls k t370 _ _ t371 t374 _ _ t375 t378 t379 _ ?side1 ?side2 ?side3 ?side4 A5.out).mono ?_); (case side1 => repeat (first | exact (Kd.R_reads' HO373.out).2.2 | (with_reducible refine Kd.C_alloc ?_ _) | (with_reducible refine Kd.C_drewN ?_ _) | (with_reducible refine Kd.C_drew ?_))); (case side2 => exact (Kd.R_reads' HO373.out).2.1); (case side3 => repeat (first | exact (Kd.R_reads' HO377.out).2.2 | (with_reducible refine Kd.C_alloc ?_ _) | (with_reducible refine Kd.C_drewN ?_ _) | (with_reducible refine Kd.C_drew ?_))); (case side4 => exact (Kd.R_reads' HO377.out).2.1); rintro e w15 ⟨v380, rfl, ho0, hb⟩; refine ⟨_, rfl, ?_⟩; have HO381 := Aside0.mk (Kd.V_lower (Kd.V_mono (ok' := fun k_ => (w.heap.size ≤ k_) ∧ some k_ ≠ (.slice Ao13 t371.length co13 : Value).ownBlock ∧ some k_ ≠ (.slice Ao14 t375.length co14 : Value).ownBlock ∧ k_ ≠ gb369) ho0 (fun k_ hk_ => ⟨(Nat.le_trans (below_size (belt HB)) hk_), (Kd.fresh' (Kd.R_lt (rt HO373)) k_ hk_), (Kd.fresh' (Kd.R_lt (rt HO377)) k_ hk_), (Kd.freshB (blkt BK369) k_ hk_)⟩)) (below_size (belt HB))); replace HO373 := rb HO373 hb; replace HO377 := rb HO377 hb; replace BK369 := blkb BK369 hb; replace HB := belb HB hb; (try clear hb); (try clear hb2); (try clear hk); (try clear hi); (try clear ho0)) | ((with_reducible refine gate_dst (N := 5) rfl ?_); refine box_event ?hg (N := 5) ?hd (cs := #[.bool false, .slice none 0 0]) (t := 28) ?hr ?_; (case hd => rfl); (case hg => rfl); (case hr => first | (go_simp; done) | (go_simp; rfl)); intro gb382 hg w16 hbox hb; replace HO373 := rb HO373 hb; replace HO377 := rb HO377 hb; replace HO381 := Aside0.mk (Kd.V_below (Kd.V_elderB (vt HO381) gb382 (Nat.le_of_eq hg.symm)) hb); have BK382 := Aside0.mk (hbox); have GW382 := bels HB hg; have GE382 := bels HB hg; have NB369_382 := blkl BK369 hg; have NB382_369 := blkg BK369 hg; replace BK369 := blkb BK369 hb; replace HB := belb HB hb; clear hb hbox hg; have hnb17 := NB382_369.out; have hnc17 := NB369_382.out; have hcz18_0 : w16.cell? ⟨gb382, 0, none⟩ = some (.bool false) := bc BK382 0; have hcz18_1 : w16.cell? ⟨gb382, 1, none⟩ = some (.slice none 0 0) := bc BK382 1; have hfz18_0 := blk_frozen BK382.out 0; have hfz18_1 := blk_frozen BK382.out 1; obtain ⟨Ao19, co19, eo19⟩ := Kd.V_slice HO381.out; subst eo19))
 have n0_ : Aside0 (Kd.R (Kd.int .i64) 3 ((w16.setCell ⟨gb382, 0, none⟩ (.bool t378)).setCell ⟨gb382, 1, none⟩ (.slice Ao19 t379.length co19)) w.heap.size (fun k_ => (w.heap.size ≤ k_) ∧ some k_ ≠ (.slice Ao14 t375.length co14 : Value).ownBlock) (.slice Ao13 t371.length co13) t371) := ⟨by (with_reducible repeat (first | apply Kd.R_alloc | apply Kd.R_drewN | apply Kd.R_drew)); exact Kd.R_mono (Kd.R_far (p := ⟨gb382, 1, none⟩) (Kd.R_far (p := ⟨gb382, 0, none⟩) (Kd.R_types HO373.out BK382.out (by decide)) (fun _ hk => hk.2) (.bool t378)) (fun _ hk => hk.2) (.slice Ao19 t379.length co19)) (fun _ hk => ⟨hk.1.1.1, hk.1.2⟩)⟩
 have n1_ : Aside0 (Kd.R (Kd.int .i64) 3 ((w16.setCell ⟨gb382, 0, none⟩ (.bool t378)).setCell ⟨gb382, 1, none⟩ (.slice Ao19 t379.length co19)) w.heap.size (fun k_ => (w.heap.size ≤ k_) ∧ some k_ ≠ (.slice Ao13 t371.length co13 : Value).ownBlock) (.slice Ao14 t375.length co14) t375) := ⟨by (with_reducible repeat (first | apply Kd.R_alloc | apply Kd.R_drewN | apply Kd.R_drew)); exact Kd.R_mono (Kd.R_far (p := ⟨gb382, 1, none⟩) (Kd.R_far (p := ⟨gb382, 0, none⟩) (Kd.R_types HO377.out BK382.out (by decide)) (fun _ hk => hk.2) (.bool t378)) (fun _ hk => hk.2) (.slice Ao19 t379.length co19)) (fun _ hk => ⟨hk.1.1.1, hk.1.2⟩)⟩
 have n2_ : Aside0 (Kd.V (Kd.int .i64) 3 ((w16.setCell ⟨gb382, 0, none⟩ (.bool t378)).setCell ⟨gb382, 1, none⟩ (.slice Ao19 t379.length co19)) w.heap.size (fun k_ => (w.heap.size ≤ k_) ∧ some k_ ≠ (.slice Ao13 t371.length co13 : Value).ownBlock ∧ some k_ ≠ (.slice Ao14 t375.length co14 : Value).ownBlock ∧ k_ ≠ gb369 ∧ k_ ≠ gb382) (.slice Ao19 t379.length co19) t379) := ⟨by (with_reducible repeat (first | apply Kd.V_alloc | apply Kd.V_drewN | apply Kd.V_drew)); exact Kd.V_mono (Kd.V_far (p := ⟨gb382, 1, none⟩) (Kd.V_far (p := ⟨gb382, 0, none⟩) (Kd.V_mono HO381.out (fun k_ hk => (⟨hk, hk.2⟩ : _ ∧ k_ ≠ gb382))) (fun _ hk => hk.2) (.bool t378)) (fun _ hk => hk.2) (.slice Ao19 t379.length co19)) (fun _ hk => ⟨hk.1.1.1, ⟨hk.1.1.2.1, ⟨hk.1.1.2.2.1, ⟨hk.1.1.2.2.2, hk.1.2⟩⟩⟩⟩)⟩
 have n3_ : Aside0 (((w16.setCell ⟨gb382, 0, none⟩ (.bool t378)).setCell ⟨gb382, 1, none⟩ (.slice Ao19 t379.length co19)).heap[gb369]? = some (.cells #[.bool false, .slice none 0 0] 28 (0, 0))) := ⟨by (with_reducible repeat (first | refine blk_drewN ?_ _ | refine blk_drew ?_ | refine blk_alloc ?_ _)); refine blk_far ?_ NB369_382.out _; (with_reducible repeat (first | refine blk_drewN ?_ _ | refine blk_drew ?_ | refine blk_alloc ?_ _)); refine blk_far ?_ NB369_382.out _; exact blkt BK369⟩
 have n4_ : Aside0 (((w16.setCell ⟨gb382, 0, none⟩ (.bool t378)).setCell ⟨gb382, 1, none⟩ (.slice Ao19 t379.length co19)).heap[gb382]? = some (.cells #[.bool t378, .slice Ao19 t379.length co19] 28 (0, 0))) := ⟨by (with_reducible repeat (first | refine blk_drewN ?_ _ | refine blk_drew ?_ | refine blk_alloc ?_ _)); refine blk_put (cs := #[.bool t378, .slice none 0 0]) ?_ 1 _ rfl; (with_reducible repeat (first | refine blk_drewN ?_ _ | refine blk_drew ?_ | refine blk_alloc ?_ _)); refine blk_put (cs := #[.bool false, .slice none 0 0]) ?_ 0 _ rfl; exact blkt BK382⟩
 have n5_ : Aside0 (Below w.heap.size w ((w16.setCell ⟨gb382, 0, none⟩ (.bool t378)).setCell ⟨gb382, 1, none⟩ (.slice Ao19 t379.length co19))) := ⟨belt HB⟩
 (try clear HO373)
 (try clear HO377)
 (try clear HO381)
 (try clear BK369)
 (try clear BK382)
 (try clear HB)
 generalize ((w16.setCell ⟨gb382, 0, none⟩ (.bool t378)).setCell ⟨gb382, 1, none⟩ (.slice Ao19 t379.length co19)) = w20 at n0_ n1_ n2_ n3_ n4_ n5_ ⊢
 have HO373 := n0_
 have HO377 := n1_
 have HO381 := n2_
 have BK369 := n3_
 have BK382 := n4_
 have HB := n5_
 clear n0_ n1_ n2_ n3_ n4_ n5_
 replace HO373 := Aside0.mk (Kd.R_drew HO373.out)
 replace HO377 := Aside0.mk (Kd.R_drew HO377.out)
 replace HO381 := Aside0.mk (Kd.V_drew HO381.out)
 replace BK369 := Aside0.mk (blk_drew BK369.out)
 replace BK382 := Aside0.mk (blk_drew BK382.out)
 replace HB := Aside0.mk (below_drew1 HB.out)
 refine start_ (n := 8) (S := fun w' => w'.cell? ⟨gb382, 0, none⟩ = some (.bool t378) ∧ w'.cell? ⟨gb382, 1, none⟩ = some (.slice Ao19 t379.length co19)) (ds := []) #[false, false, false, false, false, false, false, false] (by kernel_rfl) rfl rfl ⟨bc BK382 0, bc BK382 1⟩ (fun hHeld => ?_); refine with_tabW turnstoneref01_Wide.tab2 turnstoneref01_Wide.bits2 (fun HT_ HW_ => ?_)
 generalize w20.drew = w21 at HO373 HO377 HO381 BK369 BK382 HB hHeld ⊢
 refine pure_ (i := 0) (N := some 9) (v := ?_) (a' := ?_) #[true, false, false, false, false, false, false, false] rfl rfl (any_of HT_.out (by kernel_rfl)) (fun _ _ _ h => h) (Or.inl ⟨by rfl, ?_⟩) ?_ ?_
 rotate_left
 ·intro w'
  go_simp
  with_reducible rfl
 rotate_left
 ·simp only [Act.put, List.setIfInBounds_toArray, List.set_cons_zero, List.set_cons_succ, i64_w, i32_w]
  rfl
 refine pure_ (i := 4) (N := some 13) (v := ?_) (a' := ?_) #[true, false, false, false, true, false, false, false] rfl rfl (any_of HT_.out (by kernel_rfl)) (fun _ _ _ h => h) (Or.inl ⟨by rfl, ?_⟩) ?_ ?_
 rotate_left
 ·intro w'
  go_simp
  with_reducible rfl
 rotate_left
 ·simp only [Act.put, List.setIfInBounds_toArray, List.set_cons_zero, List.set_cons_succ, i64_w, i32_w]
  rfl
 refine take_ (i := 2) (N := some 11) (v := ?_) (a' := ?_) #[true, false, true, false, true, false, false, false] rfl rfl (take_ofW HT_.out HW_.out (by kernel_rfl)) (fun _ _ _ h => h) (Or.inl ⟨by rfl, ?_⟩) hHeld ?_ ?_
 rotate_left
 ·rintro w' ⟨s0, s1⟩
  go_simp
  with_reducible rfl
 rotate_left
 ·simp only [Act.put, List.setIfInBounds_toArray, List.set_cons_zero, List.set_cons_succ, i64_w, i32_w]
  rfl
 refine one_ (i := 1) (N := some 10) #[true, true, true, false, true, false, false, false] rfl rfl (one_of HT_.out (by kernel_rfl)) (by decide) (fun K hK => ?_)
 refine goes_ Try.func19 (by kernel_rfl) rfl #[.int .i64 a0] (by rfl) rfl rfl argt ?_
 with_reducible refine (turnstoneref01_N.calls k a0 t383 t384 _ A6.out).mono ?_
 rintro e w22 ⟨v385, rfl, ho0, hb⟩
 refine ⟨_, rfl, ?_⟩
 replace HO381 := Aside0.mk (Kd.V_elder' (vt HO381) (Kd.R_base ho0) hb)
 have HO386 := Aside0.mk (Kd.R_lower (Kd.R_new' (Kd.R_new' (Kd.R_newM (M := fun k_ => (w.heap.size ≤ k_)) ho0 (below_size (belt HB)) (fun k_ h_ => h_)) (Kd.R_lt (rt HO373))) (Kd.R_lt (rt HO377))) (below_size (belt HB)))
 replace BK369 := blkb BK369 hb
 replace BK382 := blkb BK382 hb
 replace HO373 := Aside0.mk (Kd.R_elder' (rt HO373) (Kd.R_base ho0) hb)
 replace HO377 := Aside0.mk (Kd.R_elder' (rt HO377) (Kd.R_base ho0) hb)
 replace HB := belb HB hb
 (try clear hb)
 (try clear hb2)
 (try clear hk)
 (try clear hi)
 (try clear ho0)
 obtain ⟨Ao23, co23, eo23⟩ := Kd.R_slice HO386.out
 (first | subst eo23 | (injection eo23 with f1_ f2_ f3_; have f4_ := f1_.symm; have f5_ := f3_.symm; clear f1_ f2_ f3_; subst f4_; subst f5_))
 refine hK.out _ _ ⟨bc BK382 0, bc BK382 1⟩ (fun hHeld => ?_)
 clear hK K
 refine norm_ (a' := ?_) ?_ ?_
 rotate_left
 ·show Act.put _ (some 10) _ = _
  simp only [Act.put, List.setIfInBounds_toArray, List.set_cons_zero, List.set_cons_succ, i64_w, i32_w]
  rfl
 refine one_ (i := 3) (N := some 12) #[true, true, true, true, true, false, false, false] rfl rfl (one_of HT_.out (by kernel_rfl)) (by decide) (fun K hK => ?_)
 refine goes_ Try.func40 (by kernel_rfl) rfl #[.agg #[.bool t383, .slice Ao23 t384.length co23], .agg #[.bool t378, .slice Ao19 t379.length co19]] (by rfl) rfl rfl argt ?_
 with_reducible refine (turnstoneref01_Mul.calls k t383 _ _ t384 t378 _ _ t379 t387 t388 _ ?side1 ?side2 ?side3 ?side4 A7.out).mono ?_
 (case side1 => repeat (first | exact (Kd.R_reads' HO386.out).2.2 | (with_reducible refine Kd.C_alloc ?_ _) | (with_reducible refine Kd.C_drewN ?_ _) | (with_reducible refine Kd.C_drew ?_)))
 (case side2 => exact (Kd.R_reads' HO386.out).2.1)
 (case side3 => repeat (first | exact (Kd.V_reads' HO381.out).2.2 | (with_reducible refine Kd.C_alloc ?_ _) | (with_reducible refine Kd.C_drewN ?_ _) | (with_reducible refine Kd.C_drew ?_)))
 (case side4 => exact (Kd.V_reads' HO381.out).2.1)
 rintro e w24 ⟨v389, rfl, ho0, hb⟩
 refine ⟨_, rfl, ?_⟩
 replace HO381 := vb HO381 hb
 have HO390 := Aside0.mk (Kd.V_lower (Kd.V_mono (ok' := fun k_ => (w.heap.size ≤ k_) ∧ some k_ ≠ (.slice Ao13 t371.length co13 : Value).ownBlock ∧ some k_ ≠ (.slice Ao14 t375.length co14 : Value).ownBlock ∧ some k_ ≠ (.slice Ao23 t384.length co23 : Value).ownBlock ∧ k_ ≠ gb369 ∧ k_ ≠ gb382) ho0 (fun k_ hk_ => ⟨(Nat.le_trans (below_size (belt HB)) hk_), (Kd.fresh' (Kd.R_lt (rt HO373)) k_ hk_), (Kd.fresh' (Kd.R_lt (rt HO377)) k_ hk_), (Kd.fresh' (Kd.R_lt (rt HO386)) k_ hk_), (Kd.freshB (blkt BK369) k_ hk_), (Kd.freshB (blkt BK382) k_ hk_)⟩)) (below_size (belt HB)))
 replace HO373 := rb HO373 hb
 replace HO377 := rb HO377 hb
 replace HO386 := rb HO386 hb
 replace BK369 := blkb BK369 hb
 replace BK382 := blkb BK382 hb
 replace HB := belb HB hb
 (try clear hb)
 (try clear hb2)
 (try clear hk)
 (try clear hi)
 (try clear ho0)
 refine hK.out _ _ ⟨bc BK382 0, bc BK382 1⟩ (fun hHeld => ?_)
 clear hK K
 refine norm_ (a' := ?_) ?_ ?_
 rotate_left
 ·show Act.put _ (some 12) _ = _
  simp only [Act.put, List.setIfInBounds_toArray, List.set_cons_zero, List.set_cons_succ, i64_w, i32_w]
  rfl
 refine one_ (i := 5) (N := some 14) #[true, true, true, true, true, true, false, false] rfl rfl (one_of HT_.out (by kernel_rfl)) (by decide) (fun K hK => ?_)
 refine goes_ Try.func24 (by kernel_rfl) rfl #[.int .u64 a1] (by rfl) rfl rfl argt ?_
 with_reducible refine (turnstoneref01_U.calls k a1 t391 t392 _ A8.out).mono ?_
 rintro e w25 ⟨v393, rfl, ho0, hb⟩
 refine ⟨_, rfl, ?_⟩
 replace HO381 := Aside0.mk (Kd.V_elder' (vt HO381) (Kd.R_base ho0) hb)
 replace HO390 := Aside0.mk (Kd.V_elder' (vt HO390) (Kd.R_base ho0) hb)
 have HO394 := Aside0.mk (Kd.R_lower (Kd.R_new' (Kd.R_new' (Kd.R_new' (Kd.R_newM (M := fun k_ => (w.heap.size ≤ k_)) ho0 (below_size (belt HB)) (fun k_ h_ => h_)) (Kd.R_lt (rt HO373))) (Kd.R_lt (rt HO377))) (Kd.R_lt (rt HO386))) (below_size (belt HB)))
 replace BK369 := blkb BK369 hb
 replace BK382 := blkb BK382 hb
 replace HO373 := Aside0.mk (Kd.R_elder' (rt HO373) (Kd.R_base ho0) hb)
 replace HO377 := Aside0.mk (Kd.R_elder' (rt HO377) (Kd.R_base ho0) hb)
 replace HO386 := Aside0.mk (Kd.R_elder' (rt HO386) (Kd.R_base ho0) hb)
 replace HB := belb HB hb
 (try clear hb)
 (try clear hb2)
 (try clear hk)
 (try clear hi)
 (try clear ho0)
 obtain ⟨Ao26, co26, eo26⟩ := Kd.V_slice HO390.out
 (first | subst eo26 | (injection eo26 with f1_ f2_ f3_; have f4_ := f1_.symm; have f5_ := f3_.symm; clear f1_ f2_ f3_; subst f4_; subst f5_))
 obtain ⟨Ao27, co27, eo27⟩ := Kd.R_slice HO394.out
 (first | subst eo27 | (injection eo27 with f1_ f2_ f3_; have f4_ := f1_.symm; have f5_ := f3_.symm; clear f1_ f2_ f3_; subst f4_; subst f5_))
 refine hK.out _ _ ⟨bc BK382 0, bc BK382 1⟩ (fun hHeld => ?_)
 clear hK K
 refine norm_ (a' := ?_) ?_ ?_
 rotate_left
 ·show Act.put _ (some 14) _ = _
  simp only [Act.put, List.setIfInBounds_toArray, List.set_cons_zero, List.set_cons_succ, i64_w, i32_w]
  rfl
 refine one_ (i := 6) (N := some 15) #[true, true, true, true, true, true, true, false] rfl rfl (one_of HT_.out (by kernel_rfl)) (by decide) (fun K hK => ?_)
 refine goes_ Try.func27 (by kernel_rfl) rfl #[.agg #[.bool t387, .slice Ao26 t388.length co26], .agg #[.bool t391, .slice Ao27 t392.length co27]] (by rfl) rfl rfl argt ?_
 with_reducible refine (turnstoneref01_Add.calls k t387 _ _ t388 t391 _ _ t392 t395 t396 _ ?side1 ?side2 ?side3 ?side4 A9.out).mono ?_
 (case side1 => repeat (first | exact (Kd.V_reads' HO390.out).2.2 | (with_reducible refine Kd.C_alloc ?_ _) | (with_reducible refine Kd.C_drewN ?_ _) | (with_reducible refine Kd.C_drew ?_)))
 (case side2 => exact (Kd.V_reads' HO390.out).2.1)
 (case side3 => repeat (first | exact (Kd.R_reads' HO394.out).2.2 | (with_reducible refine Kd.C_alloc ?_ _) | (with_reducible refine Kd.C_drewN ?_ _) | (with_reducible refine Kd.C_drew ?_)))
 (case side4 => exact (Kd.R_reads' HO394.out).2.1)
 rintro e w28 ⟨v397, rfl, ho0, hb⟩
 refine ⟨_, rfl, ?_⟩
 replace HO381 := vb HO381 hb
 replace HO390 := vb HO390 hb
 have HO398 := Aside0.mk (Kd.V_lower (Kd.V_mono (ok' := fun k_ => (w.heap.size ≤ k_) ∧ some k_ ≠ (.slice Ao13 t371.length co13 : Value).ownBlock ∧ some k_ ≠ (.slice Ao14 t375.length co14 : Value).ownBlock ∧ some k_ ≠ (.slice Ao23 t384.length co23 : Value).ownBlock ∧ some k_ ≠ (.slice Ao27 t392.length co27 : Value).ownBlock ∧ k_ ≠ gb369 ∧ k_ ≠ gb382) ho0 (fun k_ hk_ => ⟨(Nat.le_trans (below_size (belt HB)) hk_), (Kd.fresh' (Kd.R_lt (rt HO373)) k_ hk_), (Kd.fresh' (Kd.R_lt (rt HO377)) k_ hk_), (Kd.fresh' (Kd.R_lt (rt HO386)) k_ hk_), (Kd.fresh' (Kd.R_lt (rt HO394)) k_ hk_), (Kd.freshB (blkt BK369) k_ hk_), (Kd.freshB (blkt BK382) k_ hk_)⟩)) (below_size (belt HB)))
 replace HO373 := rb HO373 hb
 replace HO377 := rb HO377 hb
 replace HO386 := rb HO386 hb
 replace HO394 := rb HO394 hb
 replace BK369 := blkb BK369 hb
 replace BK382 := blkb BK382 hb
 replace HB := belb HB hb
 (try clear hb)
 (try clear hb2)
 (try clear hk)
 (try clear hi)
 (try clear ho0)
 obtain ⟨Ao30, co30, eo30⟩ := Kd.V_slice HO398.out
 (first | subst eo30 | (injection eo30 with f1_ f2_ f3_; have f4_ := f1_.symm; have f5_ := f3_.symm; clear f1_ f2_ f3_; subst f4_; subst f5_))
 refine hK.out _ _ ⟨bc BK382 0, bc BK382 1⟩ (fun hHeld => ?_)
 clear hK K
 refine norm_ (a' := ?_) ?_ ?_
 rotate_left
 ·show Act.put _ (some 15) _ = _
  simp only [Act.put, List.setIfInBounds_toArray, List.set_cons_zero, List.set_cons_succ, i64_w, i32_w]
  rfl
 refine one_ (i := 7) (N := none) #[true, true, true, true, true, true, true, true] rfl rfl (one_of HT_.out (by kernel_rfl)) (by decide) (fun K hK => ?_)
 have hs29 : w28.cell? ⟨gb369, 0, none⟩ = some (.bool false) := bc BK369 0
 have hfs29 := blk_frozen BK369.out 0
 have hns29_1 := NB382_369.out
 have hms29_1 := NB369_382.out
 have hs31 : w28.cell? ⟨gb369, 1, none⟩ = some (.slice none 0 0) := bc BK369 1
 have hfs31 := blk_frozen BK369.out 1
 have hns31_1 := NB382_369.out
 have hms31_1 := NB369_382.out
 refine skip_ (w1 := ?_) (by rfl) rfl ?_ ?_
 rotate_left
 ·go_simp
  rfl
 refine hK.out _ _ ⟨((cell_far (p := ⟨gb369, _, none⟩) NB382_369.out _).trans (((cell_far (p := ⟨gb369, _, none⟩) NB382_369.out _).trans (hHeld.1)))), ((cell_far (p := ⟨gb369, _, none⟩) NB382_369.out _).trans (((cell_far (p := ⟨gb369, _, none⟩) NB382_369.out _).trans (hHeld.2))))⟩ (fun hHeld => ?_)
 clear hK K
 refine done_ (done_of HT_.out (by kernel_rfl)) ?_
 try go_wp2
 refine bodyPost_ret (results_cell_row rfl _ _ gb369 28 #[.bool t395, .slice Ao30 t396.length co30] (0, 0) _ rfl (by (with_reducible repeat (first | refine blk_drewN ?_ _ | refine blk_drew ?_ | refine blk_alloc ?_ _)); refine blk_put (cs := #[.bool t395, .slice none 0 0]) ?_ 1 _ rfl; (with_reducible repeat (first | refine blk_drewN ?_ _ | refine blk_drew ?_ | refine blk_alloc ?_ _)); refine blk_put (cs := #[.bool false, .slice none 0 0]) ?_ 0 _ rfl; exact blkt BK369) Try.underlying28 rfl (by kernel_rfl)) rfl ?_
 exact ⟨_, by first | rfl | (simp [errW_none, errW_some] <;> rfl) | (simp [*, errW_none, errW_some] <;> rfl), by (with_reducible repeat (first | apply Kd.V_alloc | apply Kd.V_drewN | apply Kd.V_drew)); exact Kd.V_mono (Kd.V_far (p := ⟨gb369, 1, none⟩) (Kd.V_far (p := ⟨gb369, 0, none⟩) (Kd.V_mono HO398.out (fun k_ hk => (⟨hk, hk.2.2.2.2.2.1⟩ : _ ∧ k_ ≠ gb369))) (fun _ hk => hk.2) (.bool t395)) (fun _ hk => hk.2) (.slice Ao30 t396.length co30)) (fun _ hk => hk.1.1), belt HB⟩


/-! ### turnstonelaw01_Of: function 41 -/
def turnstonelaw01_Of.f (k : Nat) (a0_0 : Int) (a0_1 : Int) : Option (Bool × List Int) := (turnstoneref01_Wide.f k a0_0 a0_1).bind fun bt401 => (some (bt401.1, bt401.2))
theorem turnstonelaw01_Of.mono : ∀ a0 a1 k, LeO (turnstonelaw01_Of.f k a0 a1) (turnstonelaw01_Of.f (k + 1) a0 a1) := by
 intro a0 a1 k
 unfold turnstonelaw01_Of.f
 repeat' first
   | (with_reducible exact turnstoneref01_Wide.mono _ _ _)
   | (with_reducible exact LeO.refl _)
   | (with_reducible exact LeO.none _)
   | (with_reducible refine LeO.ite ?_ ?_)
   | (with_reducible refine LeO.bind ?_ (fun _ => ?_))
   | exact turnstoneref01_Wide.mono _ _ _
   | exact LeO.none _
   | refine LeO.ite ?_ ?_
   | refine LeO.bind ?_ (fun _ => ?_)
set_option maxHeartbeats 8000000 in
set_option maxRecDepth 100000 in
theorem turnstonelaw01_Of.calls (k : Nat) (a0_0 : Int) (a0_1 : Int) (r1 : Bool) (r2 : List Int) (w : World) (h : turnstonelaw01_Of.f k a0_0 a0_1 = some (r1, r2)) :
  Calls Try.prog 41 #[.agg #[.int .i64 a0_0, .int .u64 a0_1]] w fun e w' => ∃ v1_ : Value, e = .returned (.agg #[.bool r1, v1_]) ∧ Kd.V (Kd.int .i64) 3 w' w.heap.size (fun k_ => (w.heap.size ≤ k_)) v1_ r2 ∧ Below w.heap.size w w' := by
 have hu59 := Try.underlying59
 have hu28 := Try.underlying28
 have HB := Aside0.mk (Below.refl w.heap.size w)
 have H : ((turnstoneref01_Wide.f k a0_0 a0_1).bind fun bt401 => (some (bt401.1, bt401.2))) = some (r1, r2) := h
 clear h
 replace H := Option.bind_eq_some_iff.mp H
 obtain ⟨⟨t401, t402⟩, A20, H⟩ := H
 replace H : (some (t401, t402)) = some (r1, r2) := H
 have A2 := Aside0.mk A20
 clear A20
 simp only [Option.some.injEq, Prod.mk.injEq] at H
 obtain ⟨rfl, rfl⟩ := H
 go_enter Try.func41, Try.ntmps41
 go_wp2_with (first | ((with_reducible refine gate_dst (N := 1) rfl ?_); refine box_event ?hg (N := 1) ?hd (cs := #[.int .i64 a0_0, .int .u64 a0_1]) (t := 59) ?hr ?_; (case hd => rfl); (case hg => rfl); (case hr => first | (go_simp; done) | (go_simp; rfl)); intro gb399 hg w3 hbox hb; have BK399 := Aside0.mk (hbox); have GW399 := bels HB hg; have GE399 := bels HB hg; replace HB := belb HB hb; clear hb hbox hg) | ((with_reducible refine gate_dst (N := 2) rfl ?_); refine box_event ?hg (N := 2) ?hd (cs := #[.bool false, .slice none 0 0]) (t := 28) ?hr ?_; (case hd => rfl); (case hg => rfl); (case hr => first | (go_simp; done) | (go_simp; rfl)); intro gb400 hg w4 hbox hb; have BK400 := Aside0.mk (hbox); have GW400 := bels HB hg; have GE400 := bels HB hg; have NB399_400 := blkl BK399 hg; have NB400_399 := blkg BK399 hg; replace BK399 := blkb BK399 hb; replace HB := belb HB hb; clear hb hbox hg; have hnb5 := NB399_400.out; have hnc5 := NB400_399.out; have hcz6_0 : w4.cell? ⟨gb399, 0, none⟩ = some (.int .i64 a0_0) := bc BK399 0; have hcz6_1 : w4.cell? ⟨gb399, 1, none⟩ = some (.int .u64 a0_1) := bc BK399 1; have hfz6_0 := blk_frozen BK399.out 0; have hfz6_1 := blk_frozen BK399.out 1) | ((with_reducible refine gate_callee (f := 72) rfl ?_); refine goesL_ (some 7) rfl rfl Try.func72 (by kernel_rfl) rfl #[.int .i64 a0_0, .int .u64 a0_1] rfl argt ?_; (with_reducible refine (turnstoneref01_Wide.calls k a0_0 a0_1 t401 t402 _ A2.out).mono ?_); rintro e w7 ⟨v403, rfl, ho0, hb⟩; refine ⟨_, rfl, ?_⟩; have HO404 := Aside0.mk (Kd.V_lower (Kd.V_mono (ok' := fun k_ => (w.heap.size ≤ k_) ∧ k_ ≠ gb399 ∧ k_ ≠ gb400) ho0 (fun k_ hk_ => ⟨(Nat.le_trans (below_size (belt HB)) hk_), (Kd.freshB (blkt BK399) k_ hk_), (Kd.freshB (blkt BK400) k_ hk_)⟩)) (below_size (belt HB))); replace BK399 := blkb BK399 hb; replace BK400 := blkb BK400 hb; replace HB := belb HB hb; (try clear hb); (try clear hb2); (try clear hk); (try clear hi); (try clear ho0); have hcz8_0 : w7.cell? ⟨gb400, 0, none⟩ = some (.bool false) := bc BK400 0; have hcz8_1 : w7.cell? ⟨gb400, 1, none⟩ = some (.slice none 0 0) := bc BK400 1; have hfz8_0 := blk_frozen BK400.out 0; have hfz8_1 := blk_frozen BK400.out 1; obtain ⟨Ao9, co9, eo9⟩ := Kd.V_slice HO404.out; subst eo9))
 refine bodyPost_ret (results_cell_row rfl _ _ gb400 28 #[.bool t401, .slice Ao9 t402.length co9] (0, 0) _ rfl (by (with_reducible repeat (first | refine blk_drewN ?_ _ | refine blk_drew ?_ | refine blk_alloc ?_ _)); refine blk_put (cs := #[.bool t401, .slice none 0 0]) ?_ 1 _ rfl; (with_reducible repeat (first | refine blk_drewN ?_ _ | refine blk_drew ?_ | refine blk_alloc ?_ _)); refine blk_put (cs := #[.bool false, .slice none 0 0]) ?_ 0 _ rfl; exact blkt BK400) Try.underlying28 rfl (by kernel_rfl)) rfl ?_
 exact ⟨_, by first | rfl | (simp [errW_none, errW_some] <;> rfl) | (simp [*, errW_none, errW_some] <;> rfl), by (with_reducible repeat (first | apply Kd.V_alloc | apply Kd.V_drewN | apply Kd.V_drew)); exact Kd.V_mono (Kd.V_far (p := ⟨gb400, 1, none⟩) (Kd.V_far (p := ⟨gb400, 0, none⟩) (Kd.V_mono HO404.out (fun k_ hk => (⟨hk, hk.2.2⟩ : _ ∧ k_ ≠ gb400))) (fun _ hk => hk.2) (.bool t401)) (fun _ hk => hk.2) (.slice Ao9 t402.length co9)) (fun _ hk => hk.1.1), belt HB⟩


/-! ### turnstonelaw04_Of: function 48 -/
def turnstonelaw04_Of.f (a0_0 : Int) (a0_1 : Int) (a0_2 : Int) : Option (Int × Int × Int) := some (a0_0, a0_1, a0_2)
set_option maxHeartbeats 8000000 in
set_option maxRecDepth 100000 in
theorem turnstonelaw04_Of.calls (a0_0 : Int) (a0_1 : Int) (a0_2 : Int) (r1 : Int) (r2 : Int) (r3 : Int) (w : World) (h : turnstonelaw04_Of.f a0_0 a0_1 a0_2 = some (r1, r2, r3)) :
  Calls Try.prog 48 #[.agg #[.int .u64 a0_0, .int .u32 a0_1, .int .u32 a0_2]] w fun e w' => e = .returned (.agg #[.int .u64 r1, .int .u32 r2, .int .u32 r3]) ∧ Below w.heap.size w w' := by
 have hu67 := Try.underlying67
 have hu71 := Try.underlying71
 have HB := Aside0.mk (Below.refl w.heap.size w)
 have H : (some (a0_0, a0_1, a0_2)) = some (r1, r2, r3) := h
 clear h
 simp only [Option.some.injEq, Prod.mk.injEq] at H
 obtain ⟨rfl, rfl, rfl⟩ := H
 go_enter Try.func48, Try.ntmps48
 go_wp2_with (first | ((with_reducible refine gate_dst (N := 1) rfl ?_); refine box_event ?hg (N := 1) ?hd (cs := #[.int .u64 a0_0, .int .u32 a0_1, .int .u32 a0_2]) (t := 67) ?hr ?_; (case hd => rfl); (case hg => rfl); (case hr => first | (go_simp; done) | (go_simp; rfl)); intro gb486 hg w2 hbox hb; have BK486 := Aside0.mk (hbox); have GW486 := bels HB hg; have GE486 := bels HB hg; replace HB := belb HB hb; clear hb hbox hg) | ((with_reducible refine gate_dst (N := 2) rfl ?_); refine box_event ?hg (N := 2) ?hd (cs := #[.int .u64 0, .int .u32 0, .int .u32 0]) (t := 71) ?hr ?_; (case hd => rfl); (case hg => rfl); (case hr => first | (go_simp; done) | (go_simp; rfl)); intro gb487 hg w3 hbox hb; have BK487 := Aside0.mk (hbox); have GW487 := bels HB hg; have GE487 := bels HB hg; have NB486_487 := blkl BK486 hg; have NB487_486 := blkg BK486 hg; replace BK486 := blkb BK486 hb; replace HB := belb HB hb; clear hb hbox hg; have hnb4 := NB486_487.out; have hnc4 := NB487_486.out; have hcz5_0 : w3.cell? ⟨gb486, 0, none⟩ = some (.int .u64 a0_0) := bc BK486 0; have hcz5_1 : w3.cell? ⟨gb486, 1, none⟩ = some (.int .u32 a0_1) := bc BK486 1; have hcz5_2 : w3.cell? ⟨gb486, 2, none⟩ = some (.int .u32 a0_2) := bc BK486 2; have hfz5_0 := blk_frozen BK486.out 0; have hfz5_1 := blk_frozen BK486.out 1; have hfz5_2 := blk_frozen BK486.out 2; have hcz6_0 : w3.cell? ⟨gb487, 0, none⟩ = some (.int .u64 0) := bc BK487 0; have hcz6_1 : w3.cell? ⟨gb487, 1, none⟩ = some (.int .u32 0) := bc BK487 1; have hcz6_2 : w3.cell? ⟨gb487, 2, none⟩ = some (.int .u32 0) := bc BK487 2; have hfz6_0 := blk_frozen BK487.out 0; have hfz6_1 := blk_frozen BK487.out 1; have hfz6_2 := blk_frozen BK487.out 2))
 refine bodyPost_ret (results_cell_row rfl _ _ gb487 71 #[.int .u64 a0_0, .int .u32 a0_1, .int .u32 a0_2] (0, 0) _ rfl (by (with_reducible repeat (first | refine blk_drewN ?_ _ | refine blk_drew ?_ | refine blk_alloc ?_ _)); refine blk_put (cs := #[.int .u64 a0_0, .int .u32 a0_1, .int .u32 0]) ?_ 2 _ rfl; (with_reducible repeat (first | refine blk_drewN ?_ _ | refine blk_drew ?_ | refine blk_alloc ?_ _)); refine blk_put (cs := #[.int .u64 a0_0, .int .u32 0, .int .u32 0]) ?_ 1 _ rfl; (with_reducible repeat (first | refine blk_drewN ?_ _ | refine blk_drew ?_ | refine blk_alloc ?_ _)); refine blk_put (cs := #[.int .u64 0, .int .u32 0, .int .u32 0]) ?_ 0 _ rfl; exact blkt BK487) Try.underlying71 rfl (by kernel_rfl)) rfl ?_
 exact ⟨by first | rfl | (simp [errW_none, errW_some] <;> rfl) | (simp [*, errW_none, errW_some] <;> rfl), belt HB⟩

end Go.Proofs.Ytimgiiceipjpaaa.Print
