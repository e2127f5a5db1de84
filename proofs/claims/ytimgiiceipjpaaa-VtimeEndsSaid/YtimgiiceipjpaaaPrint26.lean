/- What each Go function that is named below answers, as a Lean function, and that its walk comes to just that: for whatever arguments that function gives an answer for. Written by a program of this session (wip/mkpr.py, pr.sh). -/
import Derived.Test.YtimgiiceipjpaaaPrint0
import Derived.Test.YtimgiiceipjpaaaPrint24
namespace Go.Proofs.Ytimgiiceipjpaaa.Print
open Go.RowKit Go.Proofs.YtimgiiceipjpaaaW.PrintWords Go.Proofs.YtimgiiceipjpaaaW.PrintLast Go.Proofs.YtimgiiceipjpaaaW.PrintMore
attribute [local go_sem] max2_int min2_int max_two min_two max_three min_three max_four min_four   -- for this text's walks alone
open Go.Proofs.Ytimgiiceipjpaaa.Bits Go.Proofs.Ytimgiiceipjpaaa.Short
attribute [local go_sem] add64_run0 sub64_run0 add64_run sub64_run
set_option linter.unusedVariables false
set_option linter.unusedSimpArgs false

/-! ### turnstoneref01_U: function 24 -/
def turnstoneref01_U.l0 : Nat → Int → Bool → List Int → Option (Bool × List Int)
 | 0, _, _, _ => none
 | k + 1, x0, x456000, x456001 => if x0 > 0 then (if x456001.length < 17592186044416 then (turnstoneref01_U.l0 k (IntKind.u64.wrap (Int.tdiv x0 10000)) x456000 (x456001 ++ [wrap64 (Int.tmod x0 10000)])) else (none)) else (some (x456000, x456001))
def turnstoneref01_U.f (k : Nat) (a0 : Int) : Option (Bool × List Int) := turnstoneref01_U.l0 k a0 false ([] : List Int)
theorem turnstoneref01_U.mono_l : ∀ k, (∀ y0 y1 y2, LeO (turnstoneref01_U.l0 k y0 y1 y2) (turnstoneref01_U.l0 (k + 1) y0 y1 y2))
 | 0 => fun _ _ _ r h => by simp [turnstoneref01_U.l0] at h
 | k + 1 => by
  have ih0 := turnstoneref01_U.mono_l k
  ·intro y0 y1 y2
   unfold turnstoneref01_U.l0
   repeat' first
   | (with_reducible exact ih0 _ _ _)
   | (with_reducible exact LeO.refl _)
   | (with_reducible exact LeO.none _)
   | (with_reducible refine LeO.ite ?_ ?_)
   | (with_reducible refine LeO.bind ?_ (fun _ => ?_))
   | exact ih0 _ _ _
   | exact LeO.none _
   | refine LeO.ite ?_ ?_
   | refine LeO.bind ?_ (fun _ => ?_)
theorem turnstoneref01_U.mono : ∀ a0 k, LeO (turnstoneref01_U.f k a0) (turnstoneref01_U.f (k + 1) a0) := by
 intro a0 k
 have ih0 := turnstoneref01_U.mono_l k
 unfold turnstoneref01_U.f
 repeat' first
   | (with_reducible exact ih0 _ _ _)
   | (with_reducible exact LeO.refl _)
   | (with_reducible exact LeO.none _)
   | (with_reducible refine LeO.ite ?_ ?_)
   | (with_reducible refine LeO.bind ?_ (fun _ => ?_))
   | exact ih0 _ _ _
   | exact LeO.none _
   | refine LeO.ite ?_ ?_
   | refine LeO.bind ?_ (fun _ => ?_)
set_option maxHeartbeats 8000000 in
set_option maxRecDepth 100000 in
theorem turnstoneref01_U.calls (k : Nat) (a0 : Int) (r1 : Bool) (r2 : List Int) (w : World) (h : turnstoneref01_U.f k a0 = some (r1, r2)) :
  Calls Try.prog 24 #[.int .u64 a0] w fun e w' => ∃ v1_ : Value, e = .returned (.agg #[.bool r1, v1_]) ∧ Kd.R (Kd.int .i64) 3 w' w.heap.size (fun _ => True) v1_ r2 ∧ Below w.heap.size w w' := by
 have hu28 := Try.underlying28
 have HB := Aside0.mk (Below.refl w.heap.size w)
 have H : (turnstoneref01_U.l0 k a0 false ([] : List Int)) = some (r1, r2) := h
 clear h
 have H' := Aside0.mk H
 clear H
 go_enter Try.func24, Try.ntmps24
 go_wp2_with (first | ((with_reducible refine gate_dst (N := 2) rfl ?_); refine box_event ?hg (N := 2) ?hd (cs := #[.bool false, .slice none 0 0]) (t := 28) ?hr ?_; (case hd => rfl); (case hg => rfl); (case hr => first | (go_simp; done) | (go_simp; rfl)); intro gb454 hg w2 hbox hb; have n0_ := belb HB hb; have n1_ := Aside0.mk (hbox); have n2_ := bels HB hg; have n3_ := bels HB hg; clear HB; have HB := n0_; have BK454 := n1_; have GW454 := n2_; have GE454 := n3_; clear n0_ n1_ n2_ n3_; clear hb hbox hg) | ((with_reducible refine gate_dst (N := 3) rfl ?_); refine box_event ?hg (N := 3) ?hd (cs := #[.bool false, .slice none 0 0]) (t := 28) ?hr ?_; (case hd => rfl); (case hg => rfl); (case hr => first | (go_simp; done) | (go_simp; rfl)); intro gb455 hg w3 hbox hb; have n0_ := blkb BK454 hb; have n1_ := belb HB hb; have n2_ := Aside0.mk (hbox); have n3_ := bels HB hg; have n4_ := bels HB hg; have n5_ := blkl BK454 hg; have n6_ := blkg BK454 hg; clear BK454; clear HB; have BK454 := n0_; have HB := n1_; have BK455 := n2_; have GW455 := n3_; have GE455 := n4_; have NB454_455 := n5_; have NB455_454 := n6_; clear n0_ n1_ n2_ n3_ n4_ n5_ n6_; clear hb hbox hg))
 (try simp only [Act.put, List.setIfInBounds_toArray, List.set_cons_zero, List.set_cons_succ])
 go_loopg [0] k (fun kq v0 w' => ∃ (x0_1 : Int) (x456001_1 : List Int) (u456001 : Value), v0 = .int .u64 x0_1 ∧ Aside0 (turnstoneref01_U.l0 kq x0_1 false x456001_1 = some (r1, r2)) ∧ Aside0 (kq ≤ k) ∧ Aside0 (Kd.R (Kd.int .i64) 3 w' w.heap.size (fun _ => True) u456001 x456001_1) ∧ Aside0 (w'.heap[gb454]? = some (.cells #[.bool false, (.slice none 0 0)] 28 (0, 0))) ∧ Aside0 (w'.heap[gb455]? = some (.cells #[.bool false, u456001] 28 (0, 0))) ∧ Aside0 (Below w.heap.size w w'))
 case atStart => exact ⟨(a0), (([] : List Int)), (.slice none 0 0), (by first | rfl | (simp; done) | (simp [*]; done)), H', ⟨Nat.le_refl _⟩, ⟨by first | exact Kd.R_nil _ _ _ _ _ | exact Kd.N_nil _ _ _ _ _ | exact Kd.V_nil _ _ _ _ _ | exact Kd.Q_nil _ _ _ _ _ | exact Kd.S_nil _ _ _ _ _⟩, ⟨by (with_reducible repeat (first | refine blk_drewN ?_ _ | refine blk_drew ?_ | refine blk_alloc ?_ _)); exact BK454.out⟩, ⟨by (with_reducible repeat (first | refine blk_drewN ?_ _ | refine blk_drew ?_ | refine blk_alloc ?_ _)); exact BK455.out⟩, ⟨by repeat (first | (with_reducible first | exact HB.out | apply below_alloc | apply pw_below_drewN | apply below_drew1 | refine below_set ?_ GE454.out | refine below_set ?_ GE455.out) | exact HB.out)⟩⟩
 case round =>
  clear H'
  try clear c2
  try clear p2
  obtain ⟨x0_1, x456001_1, u456001, rfl, HA, HK1, HO_456001, BK454, BK455, HB⟩ := hrel
  cases gk with
  | zero => exact absurd HA.out (by simp [turnstoneref01_U.l0])
  | succ k1 =>
   have H := HA.out
   clear HA
   simp only [turnstoneref01_U.l0] at H
   by_cases c4 : x0_1 > 0
   ·rw [if_pos c4] at H
    have c4b0 : decide (0 < x0_1) = true := decide_eq_true c4
    clear c4
    by_cases c5 : x456001_1.length < 17592186044416
    ·rw [if_pos c5] at H
     have LMc5 := Aside0.mk c5
     clear c5
     obtain ⟨y456, hy456⟩ : ∃ y_ : List Int, y_ = (x456001_1 ++ [wrap64 (Int.tmod x0_1 10000)]) := ⟨_, rfl⟩
     replace H : (turnstoneref01_U.l0 k1 (IntKind.u64.wrap (Int.tdiv x0_1 10000)) false y456) = some (r1, r2) := by first | (rw [hy456]; with_reducible exact H) | (have H2_ := (Option.bind_some _ _).symm.trans H; rw [hy456]; with_reducible exact H2_) | (have H2_ := (Option.bind_some _ _).symm.trans H; with_reducible exact H2_) | with_reducible exact H | (rw [hy456]; exact H) | exact H
     have Ny456 := Aside0.mk hy456
     clear hy456
     have H' := Aside0.mk H
     clear H
     have hnb6 := NB455_454.out
     have hnc6 := NB454_455.out
     have hcz7_0 : wr.cell? ⟨gb455, 0, none⟩ = some (.bool false) := (blk_cell BK455.out 0).trans rfl
     have hcz7_1 : wr.cell? ⟨gb455, 1, none⟩ = some (u456001) := (blk_cell BK455.out 1).trans rfl
     have hfz7_0 := blk_frozen BK455.out 0
     have hfz7_1 := blk_frozen BK455.out 1
     go_wp2_with (first | ((with_reducible refine gate_builtin (b := .append) (xs := #[.tmp 7, .tmp 11]) rfl ?_); at_builtin; refine Kd.R_append (Kd.int .i64) (w0 := w) w.heap.size rfl (.tmp 7) (.tmp 11) 26 3 (.int .i64 0) 8 rfl Try.underlying26 info3 rfl (by decide) (by omega) u456001 x456001_1 (wrap64 (Int.tmod x0_1 10000)) [.int .i64 (wrap64 (Int.tmod x0_1 10000))] (fun _ => True) (fun _ => False) rfl rfl ?aP (fun _ hk => hk.elim) ?aF ?aO ?aB ?aS ?aL ?_; (case aP => exact rfl); (case aB => exact (belt HB)); (case aF => exact (fun _ _ => trivial)); (case aO => exact (rt HO_456001)); (case aS => exact (below_size (belt HB))); (case aL => have := LMc5.out; omega); intro v457 w8 ho hb hg hat; rw [← Ny456.out] at ho; have n0_ := Aside0.mk (blk_grown (blkt BK454) hg (Kd.R_ne HO_456001.out BK454.out (by decide))); have n1_ := Aside0.mk (blk_grown (blkt BK455) hg (Kd.R_ne HO_456001.out BK455.out (by decide))); have n2_ := Aside0.mk (hb); have n3_ := Aside0.mk (ho); clear BK454; clear BK455; clear HB; clear HO_456001; have BK454 := n0_; have BK455 := n1_; have HB := n2_; have HO458 := n3_; clear n0_ n1_ n2_ n3_; clear ho hb hg hat; obtain ⟨Ao9, co9, eo9⟩ := Kd.R_slice HO458.out; subst eo9; have hcz10_0 : w8.cell? ⟨gb455, 0, none⟩ = some (.bool false) := (blk_cell BK455.out 0).trans rfl; have hcz10_1 : w8.cell? ⟨gb455, 1, none⟩ = some (u456001) := (blk_cell BK455.out 1).trans rfl; have hfz10_0 := blk_frozen BK455.out 0; have hfz10_1 := blk_frozen BK455.out 1))
     go_roundg k1
     case measure => have := HK1.out; omega
     case rel => exact ⟨(IntKind.u64.wrap (Int.tdiv x0_1 10000)), (y456), (.slice Ao9 y456.length co9), (by first | rfl | (simp; done) | (simp [*]; done)), H', ⟨by have := HK1.out; omega⟩, ⟨by (with_reducible repeat (first | apply Kd.R_alloc | apply Kd.R_drewN | apply Kd.R_drew)); exact Kd.R_mono (Kd.R_far (p := ⟨gb455, 1, none⟩) (Kd.R_types HO458.out BK455.out (by decide)) (fun _ hk => hk.2) (.slice Ao9 y456.length co9)) (fun _ hk => trivial)⟩, ⟨by (with_reducible repeat (first | refine blk_drewN ?_ _ | refine blk_drew ?_ | refine blk_alloc ?_ _)); refine blk_far ?_ NB454_455.out _; (with_reducible repeat (first | refine blk_drewN ?_ _ | refine blk_drew ?_ | refine blk_alloc ?_ _)); exact BK454.out⟩, ⟨by (with_reducible repeat (first | refine blk_drewN ?_ _ | refine blk_drew ?_ | refine blk_alloc ?_ _)); refine blk_put (cs := #[.bool false, u456001]) ?_ 1 _ rfl; (with_reducible repeat (first | refine blk_drewN ?_ _ | refine blk_drew ?_ | refine blk_alloc ?_ _)); exact BK455.out⟩, ⟨by repeat (first | (with_reducible first | exact HB.out | apply below_alloc | apply pw_below_drewN | apply below_drew1 | refine below_set ?_ GE454.out | refine below_set ?_ GE455.out) | exact HB.out)⟩⟩
    ·rw [if_neg c5] at H
     exact absurd H (by simp)
   ·rw [if_neg c4] at H
    have c4b0 : decide (0 < x0_1) = false := decide_eq_false c4
    clear c4
    simp only [Option.some.injEq, Prod.mk.injEq] at H
    obtain ⟨rfl, rfl⟩ := H
    have hnb11 := NB455_454.out
    have hnc11 := NB454_455.out
    have hcz12_0 : wr.cell? ⟨gb455, 0, none⟩ = some (.bool false) := (blk_cell BK455.out 0).trans rfl
    have hcz12_1 : wr.cell? ⟨gb455, 1, none⟩ = some (u456001) := (blk_cell BK455.out 1).trans rfl
    have hfz12_0 := blk_frozen BK455.out 0
    have hfz12_1 := blk_frozen BK455.out 1
    have hcz13_0 : wr.cell? ⟨gb454, 0, none⟩ = some (.bool false) := (blk_cell BK454.out 0).trans rfl
    have hcz13_1 : wr.cell? ⟨gb454, 1, none⟩ = some (.slice none 0 0) := (blk_cell BK454.out 1).trans rfl
    have hfz13_0 := blk_frozen BK454.out 0
    have hfz13_1 := blk_frozen BK454.out 1
    obtain ⟨Ao14, co14, eo14⟩ := Kd.R_slice HO_456001.out
    subst eo14
    go_wp2
    refine bodyPost_ret (results_cell_row rfl _ _ gb454 28 #[.bool false, .slice Ao14 x456001_1.length co14] (0, 0) _ rfl (by (with_reducible repeat (first | refine blk_drewN ?_ _ | refine blk_drew ?_ | refine blk_alloc ?_ _)); refine blk_put (cs := #[.bool false, .slice none 0 0]) ?_ 1 _ rfl; (with_reducible repeat (first | refine blk_drewN ?_ _ | refine blk_drew ?_ | refine blk_alloc ?_ _)); refine blk_put (cs := #[.bool false, .slice none 0 0]) ?_ 0 _ rfl; (with_reducible repeat (first | refine blk_drewN ?_ _ | refine blk_drew ?_ | refine blk_alloc ?_ _)); exact BK454.out) Try.underlying28 rfl (by kernel_rfl)) rfl ?_
    exact ⟨_, by first | rfl | (simp [errW_none, errW_some] <;> rfl) | (simp [*, errW_none, errW_some] <;> rfl), by (with_reducible repeat (first | apply Kd.R_alloc | apply Kd.R_drewN | apply Kd.R_drew)); exact Kd.R_mono (Kd.R_far (p := ⟨gb454, 1, none⟩) (Kd.R_far (p := ⟨gb454, 0, none⟩) (Kd.R_types HO_456001.out BK454.out (by decide)) (fun _ hk => hk.2) (.bool false)) (fun _ hk => hk.2) (.slice Ao14 x456001_1.length co14)) (fun _ hk => trivial), by repeat (first | (with_reducible first | exact HB.out | apply below_alloc | apply pw_below_drewN | apply below_drew1 | refine below_set ?_ GE454.out | refine below_set ?_ GE455.out) | exact HB.out)⟩

/-! ### turnstoneref01_N: function 19 -/
def turnstoneref01_N.f (k : Nat) (a0 : Int) : Option (Bool × List Int) := if a0 ≥ 0 then ((turnstoneref01_U.f k (IntKind.u64.wrap (a0))).bind fun bt460 => (some (bt460.1, bt460.2))) else ((turnstoneref01_U.f k (IntKind.u64.wrap ((IntKind.u64.wrap (wrap64 (-(wrap64 (a0 + 1))))) + 1))).bind fun bt464 => (some (true, bt464.2)))
theorem turnstoneref01_N.mono : ∀ a0 k, LeO (turnstoneref01_N.f k a0) (turnstoneref01_N.f (k + 1) a0) := by
 intro a0 k
 unfold turnstoneref01_N.f
 repeat' first
   | (with_reducible exact turnstoneref01_U.mono _ _)
   | (with_reducible exact LeO.refl _)
   | (with_reducible exact LeO.none _)
   | (with_reducible refine LeO.ite ?_ ?_)
   | (with_reducible refine LeO.bind ?_ (fun _ => ?_))
   | exact turnstoneref01_U.mono _ _
   | exact LeO.none _
   | refine LeO.ite ?_ ?_
   | refine LeO.bind ?_ (fun _ => ?_)
set_option maxHeartbeats 8000000 in
set_option maxRecDepth 100000 in
theorem turnstoneref01_N.calls (k : Nat) (a0 : Int) (r1 : Bool) (r2 : List Int) (w : World) (h : turnstoneref01_N.f k a0 = some (r1, r2)) :
  Calls Try.prog 19 #[.int .i64 a0] w fun e w' => ∃ v1_ : Value, e = .returned (.agg #[.bool r1, v1_]) ∧ Kd.R (Kd.int .i64) 3 w' w.heap.size (fun _ => True) v1_ r2 ∧ Below w.heap.size w w' := by
 have hu28 := Try.underlying28
 have HB := Aside0.mk (Below.refl w.heap.size w)
 have H : (if a0 ≥ 0 then ((turnstoneref01_U.f k (IntKind.u64.wrap (a0))).bind fun bt460 => (some (bt460.1, bt460.2))) else ((turnstoneref01_U.f k (IntKind.u64.wrap ((IntKind.u64.wrap (wrap64 (-(wrap64 (a0 + 1))))) + 1))).bind fun bt464 => (some (true, bt464.2)))) = some (r1, r2) := h
 clear h
 by_cases c2 : a0 ≥ 0
 ·rw [if_pos c2] at H
  have c2b0 : decide (0 ≤ a0) = true := decide_eq_true c2
  clear c2
  replace H := Option.bind_eq_some_iff.mp H
  obtain ⟨⟨t460, t461⟩, A30, H⟩ := H
  replace H : (some (t460, t461)) = some (r1, r2) := H
  have A3 := Aside0.mk A30
  clear A30
  simp only [Option.some.injEq, Prod.mk.injEq] at H
  obtain ⟨rfl, rfl⟩ := H
  go_enter Try.func19, Try.ntmps19
  go_wp2_with (first | ((with_reducible refine gate_dst (N := 2) rfl ?_); refine box_event ?hg (N := 2) ?hd (cs := #[.bool false, .slice none 0 0]) (t := 28) ?hr ?_; (case hd => rfl); (case hg => rfl); (case hr => first | (go_simp; done) | (go_simp; rfl)); intro gb459 hg w4 hbox hb; have n0_ := belb HB hb; have n1_ := Aside0.mk (hbox); have n2_ := bels HB hg; have n3_ := bels HB hg; clear HB; have HB := n0_; have BK459 := n1_; have GW459 := n2_; have GE459 := n3_; clear n0_ n1_ n2_ n3_; clear hb hbox hg) | ((with_reducible refine gate_callee (f := 24) rfl ?_); refine goesL_ (some 8) rfl rfl Try.func24 (by kernel_rfl) rfl #[.int .u64 (IntKind.u64.wrap (a0))] rfl argt ?_; (with_reducible refine (turnstoneref01_U.calls k (IntKind.u64.wrap (a0)) t460 t461 _ A3.out).mono ?_); rintro e w5 ⟨v462, rfl, ho0, hb⟩; refine ⟨_, rfl, ?_⟩; have n0_ := Aside0.mk (Kd.R_lower ho0 (below_size (belt HB))); have n1_ := blkb BK459 hb; have n2_ := belb HB hb; clear BK459; clear HB; have HO463 := n0_; have BK459 := n1_; have HB := n2_; clear n0_ n1_ n2_; (try clear hb); (try clear hb2); (try clear hk); (try clear hi); (try clear ho0); have hcz6_0 : w5.cell? ⟨gb459, 0, none⟩ = some (.bool false) := (blk_cell BK459.out 0).trans rfl; have hcz6_1 : w5.cell? ⟨gb459, 1, none⟩ = some (.slice none 0 0) := (blk_cell BK459.out 1).trans rfl; have hfz6_0 := blk_frozen BK459.out 0; have hfz6_1 := blk_frozen BK459.out 1; obtain ⟨Ao7, co7, eo7⟩ := Kd.R_slice HO463.out; subst eo7))
  refine bodyPost_ret (results_cell_row rfl _ _ gb459 28 #[.bool t460, .slice Ao7 t461.length co7] (0, 0) _ rfl (by (with_reducible repeat (first | refine blk_drewN ?_ _ | refine blk_drew ?_ | refine blk_alloc ?_ _)); refine blk_put (cs := #[.bool t460, .slice none 0 0]) ?_ 1 _ rfl; (with_reducible repeat (first | refine blk_drewN ?_ _ | refine blk_drew ?_ | refine blk_alloc ?_ _)); refine blk_put (cs := #[.bool false, .slice none 0 0]) ?_ 0 _ rfl; (with_reducible repeat (first | refine blk_drewN ?_ _ | refine blk_drew ?_ | refine blk_alloc ?_ _)); exact BK459.out) Try.underlying28 rfl (by kernel_rfl)) rfl ?_
  exact ⟨_, by first | rfl | (simp [errW_none, errW_some] <;> rfl) | (simp [*, errW_none, errW_some] <;> rfl), by (with_reducible repeat (first | apply Kd.R_alloc | apply Kd.R_drewN | apply Kd.R_drew)); exact Kd.R_mono (Kd.R_far (p := ⟨gb459, 1, none⟩) (Kd.R_far (p := ⟨gb459, 0, none⟩) (Kd.R_types HO463.out BK459.out (by decide)) (fun _ hk => hk.2) (.bool t460)) (fun _ hk => hk.2) (.slice Ao7 t461.length co7)) (fun _ hk => trivial), by repeat (first | (with_reducible first | exact HB.out | apply below_alloc | apply pw_below_drewN | apply below_drew1 | refine below_set ?_ GE459.out) | exact HB.out)⟩
 ·rw [if_neg c2] at H
  have c2b0 : decide (0 ≤ a0) = false := decide_eq_false c2
  clear c2
  replace H := Option.bind_eq_some_iff.mp H
  obtain ⟨⟨t464, t465⟩, A80, H⟩ := H
  replace H : (some (true, t465)) = some (r1, r2) := H
  have A8 := Aside0.mk A80
  clear A80
  simp only [Option.some.injEq, Prod.mk.injEq] at H
  obtain ⟨rfl, rfl⟩ := H
  go_enter Try.func19, Try.ntmps19
  go_wp2_with (first | ((with_reducible refine gate_dst (N := 2) rfl ?_); refine box_event ?hg (N := 2) ?hd (cs := #[.bool false, .slice none 0 0]) (t := 28) ?hr ?_; (case hd => rfl); (case hg => rfl); (case hr => first | (go_simp; done) | (go_simp; rfl)); intro gb459 hg w9 hbox hb; have n0_ := belb HB hb; have n1_ := Aside0.mk (hbox); have n2_ := bels HB hg; have n3_ := bels HB hg; clear HB; have HB := n0_; have BK459 := n1_; have GW459 := n2_; have GE459 := n3_; clear n0_ n1_ n2_ n3_; clear hb hbox hg) | ((with_reducible refine gate_callee (f := 24) rfl ?_); refine goesL_ (some 14) rfl rfl Try.func24 (by kernel_rfl) rfl #[.int .u64 (IntKind.u64.wrap ((IntKind.u64.wrap (wrap64 (-(wrap64 (a0 + 1))))) + 1))] rfl argt ?_; (with_reducible refine (turnstoneref01_U.calls k (IntKind.u64.wrap ((IntKind.u64.wrap (wrap64 (-(wrap64 (a0 + 1))))) + 1)) t464 t465 _ A8.out).mono ?_); rintro e w10 ⟨v466, rfl, ho0, hb⟩; refine ⟨_, rfl, ?_⟩; have n0_ := Aside0.mk (Kd.R_lower ho0 (below_size (belt HB))); have n1_ := blkb BK459 hb; have n2_ := belb HB hb; clear BK459; clear HB; have HO467 := n0_; have BK459 := n1_; have HB := n2_; clear n0_ n1_ n2_; (try clear hb); (try clear hb2); (try clear hk); (try clear hi); (try clear ho0)) | ((with_reducible refine gate_dst (N := 3) rfl ?_); refine box_event ?hg (N := 3) ?hd (cs := #[.bool false, .slice none 0 0]) (t := 28) ?hr ?_; (case hd => rfl); (case hg => rfl); (case hr => first | (go_simp; done) | (go_simp; rfl)); intro gb468 hg w11 hbox hb; have n0_ := rb HO467 hb; have n1_ := blkb BK459 hb; have n2_ := belb HB hb; have n3_ := Aside0.mk (hbox); have n4_ := bels HB hg; have n5_ := bels HB hg; have n6_ := blkl BK459 hg; have n7_ := blkg BK459 hg; clear HO467; clear BK459; clear HB; have HO467 := n0_; have BK459 := n1_; have HB := n2_; have BK468 := n3_; have GW468 := n4_; have GE468 := n5_; have NB459_468 := n6_; have NB468_459 := n7_; clear n0_ n1_ n2_ n3_ n4_ n5_ n6_ n7_; clear hb hbox hg; have hnb12 := NB468_459.out; have hnc12 := NB459_468.out; have hcz13_0 : w11.cell? ⟨gb468, 0, none⟩ = some (.bool false) := (blk_cell BK468.out 0).trans rfl; have hcz13_1 : w11.cell? ⟨gb468, 1, none⟩ = some (.slice none 0 0) := (blk_cell BK468.out 1).trans rfl; have hfz13_0 := blk_frozen BK468.out 0; have hfz13_1 := blk_frozen BK468.out 1; obtain ⟨Ao14, co14, eo14⟩ := Kd.R_slice HO467.out; subst eo14; have hcz15_0 : w11.cell? ⟨gb459, 0, none⟩ = some (.bool false) := (blk_cell BK459.out 0).trans rfl; have hcz15_1 : w11.cell? ⟨gb459, 1, none⟩ = some (.slice none 0 0) := (blk_cell BK459.out 1).trans rfl; have hfz15_0 := blk_frozen BK459.out 0; have hfz15_1 := blk_frozen BK459.out 1))
  refine bodyPost_ret (results_cell_row rfl _ _ gb459 28 #[.bool true, .slice Ao14 t465.length co14] (0, 0) _ rfl (by (with_reducible repeat (first | refine blk_drewN ?_ _ | refine blk_drew ?_ | refine blk_alloc ?_ _)); refine blk_put (cs := #[.bool true, .slice none 0 0]) ?_ 1 _ rfl; (with_reducible repeat (first | refine blk_drewN ?_ _ | refine blk_drew ?_ | refine blk_alloc ?_ _)); refine blk_put (cs := #[.bool false, .slice none 0 0]) ?_ 0 _ rfl; (with_reducible repeat (first | refine blk_drewN ?_ _ | refine blk_drew ?_ | refine blk_alloc ?_ _)); refine blk_far ?_ NB459_468.out _; (with_reducible repeat (first | refine blk_drewN ?_ _ | refine blk_drew ?_ | refine blk_alloc ?_ _)); refine blk_far ?_ NB459_468.out _; (with_reducible repeat (first | refine blk_drewN ?_ _ | refine blk_drew ?_ | refine blk_alloc ?_ _)); refine blk_far ?_ NB459_468.out _; (with_reducible repeat (first | refine blk_drewN ?_ _ | refine blk_drew ?_ | refine blk_alloc ?_ _)); exact BK459.out) Try.underlying28 rfl (by kernel_rfl)) rfl ?_
  exact ⟨_, by first | rfl | (simp [errW_none, errW_some] <;> rfl) | (simp [*, errW_none, errW_some] <;> rfl), by (with_reducible repeat (first | apply Kd.R_alloc | apply Kd.R_drewN | apply Kd.R_drew)); exact Kd.R_mono (Kd.R_far (p := ⟨gb459, 1, none⟩) (Kd.R_far (p := ⟨gb459, 0, none⟩) (Kd.R_far (p := ⟨gb468, 0, none⟩) (Kd.R_far (p := ⟨gb468, 1, none⟩) (Kd.R_far (p := ⟨gb468, 0, none⟩) (Kd.R_types (Kd.R_types HO467.out BK468.out (by decide)) BK459.out (by decide)) (fun _ hk => hk.1.2) (.bool t464)) (fun _ hk => hk.1.2) (.slice Ao14 t465.length co14)) (fun _ hk => hk.1.2) (.bool true)) (fun _ hk => hk.2) (.bool true)) (fun _ hk => hk.2) (.slice Ao14 t465.length co14)) (fun _ hk => trivial), by repeat (first | (with_reducible first | exact HB.out | apply below_alloc | apply pw_below_drewN | apply below_drew1 | refine below_set ?_ GE459.out | refine below_set ?_ GE468.out) | exact HB.out)⟩

/-! ### turnstoneref01_Power: function 60 -/
def turnstoneref01_Power.l0 : Nat → Int → Int → Bool → List Int → Option (Bool × List Int)
 | 0, _, _, _, _ => none
 | k + 1, x0, x4, x475000, x475001 => if x4 < x0 then ((turnstoneref01_Add.f k x475000 x475001 x475000 x475001).bind fun bt475 => (turnstoneref01_Power.l0 k x0 (wrap64 (x4 + 1)) bt475.1 bt475.2)) else (some (x475000, x475001))
def turnstoneref01_Power.f (k : Nat) (a0 : Int) : Option (Bool × List Int) := (turnstoneref01_N.f k 1).bind fun bt470 => (turnstoneref01_Power.l0 k a0 0 bt470.1 bt470.2)
theorem turnstoneref01_Power.mono_l : ∀ k, (∀ y0 y1 y2 y3, LeO (turnstoneref01_Power.l0 k y0 y1 y2 y3) (turnstoneref01_Power.l0 (k + 1) y0 y1 y2 y3))
 | 0 => fun _ _ _ _ r h => by simp [turnstoneref01_Power.l0] at h
 | k + 1 => by
  have ih0 := turnstoneref01_Power.mono_l k
  ·intro y0 y1 y2 y3
   unfold turnstoneref01_Power.l0
   repeat' first
   | (with_reducible exact ih0 _ _ _ _)
   | (with_reducible exact turnstoneref01_Add.mono _ _ _ _ _)
   | (with_reducible exact turnstoneref01_N.mono _ _)
   | (with_reducible exact LeO.refl _)
   | (with_reducible exact LeO.none _)
   | (with_reducible refine LeO.ite ?_ ?_)
   | (with_reducible refine LeO.bind ?_ (fun _ => ?_))
   | exact ih0 _ _ _ _
   | exact turnstoneref01_Add.mono _ _ _ _ _
   | exact turnstoneref01_N.mono _ _
   | exact LeO.none _
   | refine LeO.ite ?_ ?_
   | refine LeO.bind ?_ (fun _ => ?_)
theorem turnstoneref01_Power.mono : ∀ a0 k, LeO (turnstoneref01_Power.f k a0) (turnstoneref01_Power.f (k + 1) a0) := by
 intro a0 k
 have ih0 := turnstoneref01_Power.mono_l k
 unfold turnstoneref01_Power.f
 repeat' first
   | (with_reducible exact ih0 _ _ _ _)
   | (with_reducible exact turnstoneref01_Add.mono _ _ _ _ _)
   | (with_reducible exact turnstoneref01_N.mono _ _)
   | (with_reducible exact LeO.refl _)
   | (with_reducible exact LeO.none _)
   | (with_reducible refine LeO.ite ?_ ?_)
   | (with_reducible refine LeO.bind ?_ (fun _ => ?_))
   | exact ih0 _ _ _ _
   | exact turnstoneref01_Add.mono _ _ _ _ _
   | exact turnstoneref01_N.mono _ _
   | exact LeO.none _
   | refine LeO.ite ?_ ?_
   | refine LeO.bind ?_ (fun _ => ?_)
set_option maxHeartbeats 8000000 in
set_option maxRecDepth 100000 in
theorem turnstoneref01_Power.calls (k : Nat) (a0 : Int) (r1 : Bool) (r2 : List Int) (w : World) (h : turnstoneref01_Power.f k a0 = some (r1, r2)) :
  Calls Try.prog 60 #[.int .i64 a0] w fun e w' => ∃ v1_ : Value, e = .returned (.agg #[.bool r1, v1_]) ∧ Kd.V (Kd.int .i64) 3 w' w.heap.size (fun k_ => (w.heap.size ≤ k_)) v1_ r2 ∧ Below w.heap.size w w' := by
 have hu28 := Try.underlying28
 have HB := Aside0.mk (Below.refl w.heap.size w)
 have H : ((turnstoneref01_N.f k 1).bind fun bt470 => (turnstoneref01_Power.l0 k a0 0 bt470.1 bt470.2)) = some (r1, r2) := h
 clear h
 replace H := Option.bind_eq_some_iff.mp H
 obtain ⟨⟨t470, t471⟩, A20, H⟩ := H
 replace H : (turnstoneref01_Power.l0 k a0 0 t470 t471) = some (r1, r2) := H
 have A2 := Aside0.mk A20
 clear A20
 have H' := Aside0.mk H
 clear H
 go_enter Try.func60, Try.ntmps60
 go_wp2_with (first | ((with_reducible refine gate_dst (N := 2) rfl ?_); refine box_event ?hg (N := 2) ?hd (cs := #[.bool false, .slice none 0 0]) (t := 28) ?hr ?_; (case hd => rfl); (case hg => rfl); (case hr => first | (go_simp; done) | (go_simp; rfl)); intro gb469 hg w3 hbox hb; have n0_ := belb HB hb; have n1_ := Aside0.mk (hbox); have n2_ := bels HB hg; have n3_ := bels HB hg; clear HB; have HB := n0_; have BK469 := n1_; have GW469 := n2_; have GE469 := n3_; clear n0_ n1_ n2_ n3_; clear hb hbox hg) | ((with_reducible refine gate_callee (f := 19) rfl ?_); refine goesL_ (some 5) rfl rfl Try.func19 (by kernel_rfl) rfl #[.int .i64 1] rfl argt ?_; (with_reducible refine (turnstoneref01_N.calls k 1 t470 t471 _ A2.out).mono ?_); rintro e w4 ⟨v472, rfl, ho0, hb⟩; refine ⟨_, rfl, ?_⟩; have n0_ := Aside0.mk (Kd.R_lower (Kd.R_newM (M := fun k_ => (w.heap.size ≤ k_)) ho0 (below_size (belt HB)) (fun k_ h_ => h_)) (below_size (belt HB))); have n1_ := blkb BK469 hb; have n2_ := belb HB hb; clear BK469; clear HB; have HO473 := n0_; have BK469 := n1_; have HB := n2_; clear n0_ n1_ n2_; (try clear hb); (try clear hb2); (try clear hk); (try clear hi); (try clear ho0)) | ((with_reducible refine gate_dst (N := 3) rfl ?_); refine box_event ?hg (N := 3) ?hd (cs := #[.bool false, .slice none 0 0]) (t := 28) ?hr ?_; (case hd => rfl); (case hg => rfl); (case hr => first | (go_simp; done) | (go_simp; rfl)); intro gb474 hg w5 hbox hb; have n0_ := rb HO473 hb; have n1_ := blkb BK469 hb; have n2_ := belb HB hb; have n3_ := Aside0.mk (hbox); have n4_ := bels HB hg; have n5_ := bels HB hg; have n6_ := blkl BK469 hg; have n7_ := blkg BK469 hg; clear HO473; clear BK469; clear HB; have HO473 := n0_; have BK469 := n1_; have HB := n2_; have BK474 := n3_; have GW474 := n4_; have GE474 := n5_; have NB469_474 := n6_; have NB474_469 := n7_; clear n0_ n1_ n2_ n3_ n4_ n5_ n6_ n7_; clear hb hbox hg; have hnb6 := NB474_469.out; have hnc6 := NB469_474.out; have hcz7_0 : w5.cell? ⟨gb474, 0, none⟩ = some (.bool false) := (blk_cell BK474.out 0).trans rfl; have hcz7_1 : w5.cell? ⟨gb474, 1, none⟩ = some (.slice none 0 0) := (blk_cell BK474.out 1).trans rfl; have hfz7_0 := blk_frozen BK474.out 0; have hfz7_1 := blk_frozen BK474.out 1; obtain ⟨Ao8, co8, eo8⟩ := Kd.R_slice HO473.out; subst eo8))
 (try simp only [Act.put, List.setIfInBounds_toArray, List.set_cons_zero, List.set_cons_succ])
 go_loopg [4] k (fun kq v4 w' => ∃ (x4_1 : Int) (x475000_1 : Bool) (x475001_1 : List Int) (u475001 : Value), v4 = .int .i64 x4_1 ∧ Aside0 (turnstoneref01_Power.l0 kq a0 x4_1 x475000_1 x475001_1 = some (r1, r2)) ∧ Aside0 (kq ≤ k) ∧ Aside0 (Kd.V (Kd.int .i64) 3 w' w.heap.size (fun k_ => (w.heap.size ≤ k_) ∧ k_ ≠ gb469 ∧ k_ ≠ gb474) u475001 x475001_1) ∧ Aside0 (w'.heap[gb469]? = some (.cells #[.bool false, (.slice none 0 0)] 28 (0, 0))) ∧ Aside0 (w'.heap[gb474]? = some (.cells #[.bool x475000_1, u475001] 28 (0, 0))) ∧ Aside0 (Below w.heap.size w w'))
 case atStart => exact ⟨(0), (t470), (t471), (.slice Ao8 t471.length co8), (by first | rfl | (simp; done) | (simp [*]; done)), H', ⟨Nat.le_refl _⟩, ⟨Kd.R_V (by (with_reducible repeat (first | apply Kd.R_alloc | apply Kd.R_drewN | apply Kd.R_drew)); exact Kd.R_mono (Kd.R_far (p := ⟨gb474, 1, none⟩) (Kd.R_far (p := ⟨gb474, 0, none⟩) (Kd.R_types (Kd.R_types (Kd.R_types HO473.out BK469.out (by decide)) BK474.out (by decide)) BK474.out (by decide)) (fun _ hk => hk.2) (.bool t470)) (fun _ hk => hk.2) (.slice Ao8 t471.length co8)) (fun _ hk => ⟨hk.1.1.1.1, ⟨hk.1.1.2, hk.1.2⟩⟩))⟩, ⟨by (with_reducible repeat (first | refine blk_drewN ?_ _ | refine blk_drew ?_ | refine blk_alloc ?_ _)); refine blk_far ?_ NB469_474.out _; (with_reducible repeat (first | refine blk_drewN ?_ _ | refine blk_drew ?_ | refine blk_alloc ?_ _)); refine blk_far ?_ NB469_474.out _; (with_reducible repeat (first | refine blk_drewN ?_ _ | refine blk_drew ?_ | refine blk_alloc ?_ _)); exact BK469.out⟩, ⟨by (with_reducible repeat (first | refine blk_drewN ?_ _ | refine blk_drew ?_ | refine blk_alloc ?_ _)); refine blk_put (cs := #[.bool t470, .slice none 0 0]) ?_ 1 _ rfl; (with_reducible repeat (first | refine blk_drewN ?_ _ | refine blk_drew ?_ | refine blk_alloc ?_ _)); refine blk_put (cs := #[.bool false, .slice none 0 0]) ?_ 0 _ rfl; (with_reducible repeat (first | refine blk_drewN ?_ _ | refine blk_drew ?_ | refine blk_alloc ?_ _)); exact BK474.out⟩, ⟨by repeat (first | (with_reducible first | exact HB.out | apply below_alloc | apply pw_below_drewN | apply below_drew1 | refine below_set ?_ GE469.out | refine below_set ?_ GE474.out) | exact HB.out)⟩⟩
 case round =>
  clear H'
  try clear c1
  try clear p2
  try clear c6
  try clear hcz7_0
  try clear hcz7_1
  try clear hfz7_0
  try clear hfz7_1
  obtain ⟨x4_1, x475000_1, x475001_1, u475001, rfl, HA, HK1, HO_475001, BK469, BK474, HB⟩ := hrel
  cases gk with
  | zero => exact absurd HA.out (by simp [turnstoneref01_Power.l0])
  | succ k1 =>
   have H := HA.out
   clear HA
   simp only [turnstoneref01_Power.l0] at H
   by_cases c9 : x4_1 < a0
   ·rw [if_pos c9] at H
    have c9b0 : decide (x4_1 < a0) = true := decide_eq_true c9
    clear c9
    replace H := Option.bind_eq_some_iff.mp H
    obtain ⟨⟨t475, t476⟩, A100, H⟩ := H
    replace H : (turnstoneref01_Power.l0 k1 a0 (wrap64 (x4_1 + 1)) t475 t476) = some (r1, r2) := H
    have A10 := Aside0.mk A100
    clear A100
    have H' := Aside0.mk H
    clear H
    have hnb11 := NB474_469.out
    have hnc11 := NB469_474.out
    have hcz12_0 : wr.cell? ⟨gb474, 0, none⟩ = some (.bool x475000_1) := (blk_cell BK474.out 0).trans rfl
    have hcz12_1 : wr.cell? ⟨gb474, 1, none⟩ = some (u475001) := (blk_cell BK474.out 1).trans rfl
    have hfz12_0 := blk_frozen BK474.out 0
    have hfz12_1 := blk_frozen BK474.out 1
    obtain ⟨Ao13, co13, eo13⟩ := Kd.V_slice HO_475001.out
    subst eo13
    go_wp2_with (first | ((with_reducible refine gate_callee (f := 27) rfl ?_); refine goesL_ (some 13) rfl rfl Try.func27 (by kernel_rfl) rfl #[.agg #[.bool x475000_1, .slice Ao13 x475001_1.length co13], .agg #[.bool x475000_1, .slice Ao13 x475001_1.length co13]] rfl argt ?_; (with_reducible refine (turnstoneref01_Add.calls k1 x475000_1 _ _ x475001_1 x475000_1 _ _ x475001_1 t475 t476 _ ?side1 ?side2 ?side3 ?side4 A10.out).mono ?_); (case side1 => repeat (first | exact (Kd.V_reads' HO_475001.out).2.2 | (with_reducible refine Kd.C_alloc ?_ _) | (with_reducible refine Kd.C_drewN ?_ _) | (with_reducible refine Kd.C_drew ?_))); (case side2 => exact (Kd.V_reads' HO_475001.out).2.1); (case side3 => repeat (first | exact (Kd.V_reads' HO_475001.out).2.2 | (with_reducible refine Kd.C_alloc ?_ _) | (with_reducible refine Kd.C_drewN ?_ _) | (with_reducible refine Kd.C_drew ?_))); (case side4 => exact (Kd.V_reads' HO_475001.out).2.1); rintro e w14 ⟨v477, rfl, ho0, hb⟩; refine ⟨_, rfl, ?_⟩; have n0_ := vb HO_475001 hb; have n1_ := Aside0.mk (Kd.V_lower (Kd.V_mono (ok' := fun k_ => (w.heap.size ≤ k_) ∧ k_ ≠ gb469 ∧ k_ ≠ gb474) ho0 (fun k_ hk_ => ⟨(Nat.le_trans (below_size (belt HB)) hk_), (Kd.freshB (blkt BK469) k_ hk_), (Kd.freshB (blkt BK474) k_ hk_)⟩)) (below_size (belt HB))); have n2_ := blkb BK469 hb; have n3_ := blkb BK474 hb; have n4_ := belb HB hb; clear HO_475001; clear BK469; clear BK474; clear HB; have HO_475001 := n0_; have HO478 := n1_; have BK469 := n2_; have BK474 := n3_; have HB := n4_; clear n0_ n1_ n2_ n3_ n4_; (try clear hb); (try clear hb2); (try clear hk); (try clear hi); (try clear ho0); have hcz15_0 : w14.cell? ⟨gb474, 0, none⟩ = some (.bool x475000_1) := (blk_cell BK474.out 0).trans rfl; have hcz15_1 : w14.cell? ⟨gb474, 1, none⟩ = some (.slice Ao13 x475001_1.length co13) := (blk_cell BK474.out 1).trans rfl; have hfz15_0 := blk_frozen BK474.out 0; have hfz15_1 := blk_frozen BK474.out 1; obtain ⟨Ao16, co16, eo16⟩ := Kd.V_slice HO478.out; subst eo16))
    go_roundg k1
    case measure => have := HK1.out; omega
    case rel => exact ⟨(wrap64 (x4_1 + 1)), (t475), (t476), (.slice Ao16 t476.length co16), (by first | rfl | (simp; done) | (simp [*]; done)), H', ⟨by have := HK1.out; omega⟩, ⟨by (with_reducible repeat (first | apply Kd.V_alloc | apply Kd.V_drewN | apply Kd.V_drew)); exact Kd.V_mono (Kd.V_far (p := ⟨gb474, 1, none⟩) (Kd.V_far (p := ⟨gb474, 0, none⟩) (Kd.V_mono HO478.out (fun k_ hk => (⟨hk, hk.2.2⟩ : _ ∧ k_ ≠ gb474))) (fun _ hk => hk.2) (.bool t475)) (fun _ hk => hk.2) (.slice Ao16 t476.length co16)) (fun _ hk => ⟨hk.1.1, ⟨hk.1.2.1, hk.1.2.2⟩⟩)⟩, ⟨by (with_reducible repeat (first | refine blk_drewN ?_ _ | refine blk_drew ?_ | refine blk_alloc ?_ _)); refine blk_far ?_ NB469_474.out _; (with_reducible repeat (first | refine blk_drewN ?_ _ | refine blk_drew ?_ | refine blk_alloc ?_ _)); refine blk_far ?_ NB469_474.out _; (with_reducible repeat (first | refine blk_drewN ?_ _ | refine blk_drew ?_ | refine blk_alloc ?_ _)); exact BK469.out⟩, ⟨by (with_reducible repeat (first | refine blk_drewN ?_ _ | refine blk_drew ?_ | refine blk_alloc ?_ _)); refine blk_put (cs := #[.bool t475, .slice Ao13 x475001_1.length co13]) ?_ 1 _ rfl; (with_reducible repeat (first | refine blk_drewN ?_ _ | refine blk_drew ?_ | refine blk_alloc ?_ _)); refine blk_put (cs := #[.bool x475000_1, .slice Ao13 x475001_1.length co13]) ?_ 0 _ rfl; (with_reducible repeat (first | refine blk_drewN ?_ _ | refine blk_drew ?_ | refine blk_alloc ?_ _)); exact BK474.out⟩, ⟨by repeat (first | (with_reducible first | exact HB.out | apply below_alloc | apply pw_below_drewN | apply below_drew1 | refine below_set ?_ GE469.out | refine below_set ?_ GE474.out) | exact HB.out)⟩⟩
   ·rw [if_neg c9] at H
    have c9b0 : decide (x4_1 < a0) = false := decide_eq_false c9
    clear c9
    simp only [Option.some.injEq, Prod.mk.injEq] at H
    obtain ⟨rfl, rfl⟩ := H
    have hnb17 := NB474_469.out
    have hnc17 := NB469_474.out
    have hcz18_0 : wr.cell? ⟨gb474, 0, none⟩ = some (.bool x475000_1) := (blk_cell BK474.out 0).trans rfl
    have hcz18_1 : wr.cell? ⟨gb474, 1, none⟩ = some (u475001) := (blk_cell BK474.out 1).trans rfl
    have hfz18_0 := blk_frozen BK474.out 0
    have hfz18_1 := blk_frozen BK474.out 1
    have hcz19_0 : wr.cell? ⟨gb469, 0, none⟩ = some (.bool false) := (blk_cell BK469.out 0).trans rfl
    have hcz19_1 : wr.cell? ⟨gb469, 1, none⟩ = some (.slice none 0 0) := (blk_cell BK469.out 1).trans rfl
    have hfz19_0 := blk_frozen BK469.out 0
    have hfz19_1 := blk_frozen BK469.out 1
    obtain ⟨Ao20, co20, eo20⟩ := Kd.V_slice HO_475001.out
    subst eo20
    go_wp2
    refine bodyPost_ret (results_cell_row rfl _ _ gb469 28 #[.bool x475000_1, .slice Ao20 x475001_1.length co20] (0, 0) _ rfl (by (with_reducible repeat (first | refine blk_drewN ?_ _ | refine blk_drew ?_ | refine blk_alloc ?_ _)); refine blk_put (cs := #[.bool x475000_1, .slice none 0 0]) ?_ 1 _ rfl; (with_reducible repeat (first | refine blk_drewN ?_ _ | refine blk_drew ?_ | refine blk_alloc ?_ _)); refine blk_put (cs := #[.bool false, .slice none 0 0]) ?_ 0 _ rfl; (with_reducible repeat (first | refine blk_drewN ?_ _ | refine blk_drew ?_ | refine blk_alloc ?_ _)); exact BK469.out) Try.underlying28 rfl (by kernel_rfl)) rfl ?_
    exact ⟨_, by first | rfl | (simp [errW_none, errW_some] <;> rfl) | (simp [*, errW_none, errW_some] <;> rfl), by (with_reducible repeat (first | apply Kd.V_alloc | apply Kd.V_drewN | apply Kd.V_drew)); exact Kd.V_mono (Kd.V_far (p := ⟨gb469, 1, none⟩) (Kd.V_far (p := ⟨gb469, 0, none⟩) (Kd.V_mono HO_475001.out (fun k_ hk => (⟨hk, hk.2.1⟩ : _ ∧ k_ ≠ gb469))) (fun _ hk => hk.2) (.bool x475000_1)) (fun _ hk => hk.2) (.slice Ao20 x475001_1.length co20)) (fun _ hk => hk.1.1), by repeat (first | (with_reducible first | exact HB.out | apply below_alloc | apply pw_below_drewN | apply below_drew1 | refine below_set ?_ GE469.out | refine below_set ?_ GE474.out) | exact HB.out)⟩

end Go.Proofs.Ytimgiiceipjpaaa.Print
