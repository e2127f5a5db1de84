/- What each Go function that is named below answers, as a Lean function, and that its walk comes to just that: for whatever arguments that function gives an answer for. Written by a program of this session (wip/mkpr.py, pr.sh). -/
import Derived.Test.YtimgiiceipjpaaaPrint0
import Derived.Test.YtimgiiceipjpaaaPrint4
import Derived.Test.YtimgiiceipjpaaaPrint6
import Derived.Test.YtimgiiceipjpaaaPrint10
import Derived.Test.YtimgiiceipjpaaaPrint17
import Derived.Test.YtimgiiceipjpaaaPrint20
import Derived.Test.YtimgiiceipjpaaaPrint21
namespace Go.Proofs.Ytimgiiceipjpaaa.Print
open Go.RowKit Go.Proofs.YtimgiiceipjpaaaW.PrintWords Go.Proofs.YtimgiiceipjpaaaW.PrintLast Go.Proofs.YtimgiiceipjpaaaW.PrintMore
attribute [local go_sem] max2_int min2_int max_two min_two max_three min_three max_four min_four   -- for this text's walks alone
open Go.Proofs.Ytimgiiceipjpaaa.Bits Go.Proofs.Ytimgiiceipjpaaa.Short
attribute [local go_sem] add64_run0 sub64_run0 add64_run sub64_run
set_option linter.unusedVariables false
set_option linter.unusedSimpArgs false

/-! ### turnstonelaw02_MuldivSteps: function 8 -/
def turnstonelaw02_MuldivSteps.j0 : Nat → Int → Int → Int → Bool → Bool → Bool → List Int → Option (Bool)
 | 0, _, _, _, _, _, _, _ => none
 | k + 1, x2, x9, x10, x11, x36, x370000, x370001 => if x36 = true then (if x11 = true then (none) else (if x9 = 0 then (some (x10 == 0)) else (none))) else (if x11 = true then ((turnstoneref01_U.f k x9).bind fun bt371 => ((turnstoneref01_U.f k x10).bind fun bt375 => ((turnstoneref02_Is.f k x370000 x370001 x2 bt371.1 bt371.2 bt375.1 bt375.2).bind fun t379 => (some t379)))) else (none))
def turnstonelaw02_MuldivSteps.f (k : Nat) (a0 : Int) (a1 : Int) (a2 : Int) (a3 : Int) : Option (Bool) := (turnstonelaw02_awake.f k).bind fun t358 => (if t358 = true then ((muldiv_Step.f k a0 a1 a2 a3).bind fun bt359 => ((turnstoneref02_All.f k a1 a3 (([a0] : List Int))).bind fun bt365 => (if a3 ≥ a2 then (turnstonelaw02_MuldivSteps.j0 k a2 bt359.1 bt359.2.1 bt359.2.2 true bt365.1 bt365.2) else ((turnstoneref02_Great.f k bt365.1 bt365.2 a2).bind fun t370 => (turnstonelaw02_MuldivSteps.j0 k a2 bt359.1 bt359.2.1 bt359.2.2 t370 bt365.1 bt365.2))))) else (none))
theorem turnstonelaw02_MuldivSteps.mono_l : ∀ k, (∀ y0 y1 y2 y3 y4 y5 y6, LeO (turnstonelaw02_MuldivSteps.j0 k y0 y1 y2 y3 y4 y5 y6) (turnstonelaw02_MuldivSteps.j0 (k + 1) y0 y1 y2 y3 y4 y5 y6))
 | 0 => fun _ _ _ _ _ _ _ r h => by simp [turnstonelaw02_MuldivSteps.j0] at h
 | k + 1 => by
  have ih0 := turnstonelaw02_MuldivSteps.mono_l k
  ·intro y0 y1 y2 y3 y4 y5 y6
   unfold turnstonelaw02_MuldivSteps.j0
   repeat' first
   | (with_reducible exact ih0 _ _ _ _ _ _ _)
   | (with_reducible exact muldiv_Step.mono _ _ _ _ _)
   | (with_reducible exact turnstonelaw02_awake.mono _)
   | (with_reducible exact turnstoneref01_U.mono _ _)
   | (with_reducible exact turnstoneref02_All.mono _ _ _ _)
   | (with_reducible exact turnstoneref02_Great.mono _ _ _ _)
   | (with_reducible exact turnstoneref02_Is.mono _ _ _ _ _ _ _ _)
   | (with_reducible exact LeO.refl _)
   | (with_reducible exact LeO.none _)
   | (with_reducible refine LeO.ite ?_ ?_)
   | (with_reducible refine LeO.bind ?_ (fun _ => ?_))
   | exact ih0 _ _ _ _ _ _ _
   | exact muldiv_Step.mono _ _ _ _ _
   | exact turnstonelaw02_awake.mono _
   | exact turnstoneref01_U.mono _ _
   | exact turnstoneref02_All.mono _ _ _ _
   | exact turnstoneref02_Great.mono _ _ _ _
   | exact turnstoneref02_Is.mono _ _ _ _ _ _ _ _
   | exact LeO.none _
   | refine LeO.ite ?_ ?_
   | refine LeO.bind ?_ (fun _ => ?_)
theorem turnstonelaw02_MuldivSteps.mono : ∀ a0 a1 a2 a3 k, LeO (turnstonelaw02_MuldivSteps.f k a0 a1 a2 a3) (turnstonelaw02_MuldivSteps.f (k + 1) a0 a1 a2 a3) := by
 intro a0 a1 a2 a3 k
 have ih0 := turnstonelaw02_MuldivSteps.mono_l k
 unfold turnstonelaw02_MuldivSteps.f
 repeat' first
   | (with_reducible exact ih0 _ _ _ _ _ _ _)
   | (with_reducible exact muldiv_Step.mono _ _ _ _ _)
   | (with_reducible exact turnstonelaw02_awake.mono _)
   | (with_reducible exact turnstoneref01_U.mono _ _)
   | (with_reducible exact turnstoneref02_All.mono _ _ _ _)
   | (with_reducible exact turnstoneref02_Great.mono _ _ _ _)
   | (with_reducible exact turnstoneref02_Is.mono _ _ _ _ _ _ _ _)
   | (with_reducible exact LeO.refl _)
   | (with_reducible exact LeO.none _)
   | (with_reducible refine LeO.ite ?_ ?_)
   | (with_reducible refine LeO.bind ?_ (fun _ => ?_))
   | exact ih0 _ _ _ _ _ _ _
   | exact muldiv_Step.mono _ _ _ _ _
   | exact turnstonelaw02_awake.mono _
   | exact turnstoneref01_U.mono _ _
   | exact turnstoneref02_All.mono _ _ _ _
   | exact turnstoneref02_Great.mono _ _ _ _
   | exact turnstoneref02_Is.mono _ _ _ _ _ _ _ _
   | exact LeO.none _
   | refine LeO.ite ?_ ?_
   | refine LeO.bind ?_ (fun _ => ?_)
def turnstonelaw02_MuldivSteps.T7 : Bool × List (List Nat × List Nat) := (true, [([], []), ([0], [0]), ([1], [1]), ([1], [1]), ([1], [1]), ([4, 1, 1], [1, 4]), ([1], [1]), ([6, 5, 1], [1, 6]), ([2, 3, 5, 7, 7, 1], [1, 2, 3, 5, 7]), ([1, 8], [1, 8]), ([9, 8, 0, 1, 2, 3, 4, 5, 6, 7, 8, 9], [9])])
def turnstonelaw02_MuldivSteps.B7 : List Nat := [0, 1, 3, 3, 3, 19, 3, 115, 255, 511, 1023]
theorem turnstonelaw02_MuldivSteps.tab7 : rtab .any (opsOf Try.f8 7) = turnstonelaw02_MuldivSteps.T7 := by kernel_rfl
theorem turnstonelaw02_MuldivSteps.bits7 : waitsOk turnstonelaw02_MuldivSteps.T7.2 turnstonelaw02_MuldivSteps.B7 = true := by kernel_rfl
set_option maxHeartbeats 8000000 in
set_option maxRecDepth 100000 in
theorem turnstonelaw02_MuldivSteps.calls (k : Nat) (a0 : Int) (a1 : Int) (a2 : Int) (a3 : Int) (r : Bool) (w : World) (h : turnstonelaw02_MuldivSteps.f k a0 a1 a2 a3 = some r) :
  Calls Try.prog 8 #[.int .u64 a0, .int .u64 a1, .int .u64 a2, .int .u64 a3] w fun e w' => e = .returned (.bool r) ∧ Below w.heap.size w w' := by
 have hu28 := Try.underlying28
 have HB := Aside0.mk (Below.refl w.heap.size w)
 have H : ((turnstonelaw02_awake.f k).bind fun t358 => (if t358 = true then ((muldiv_Step.f k a0 a1 a2 a3).bind fun bt359 => ((turnstoneref02_All.f k a1 a3 (([a0] : List Int))).bind fun bt365 => (if a3 ≥ a2 then (turnstonelaw02_MuldivSteps.j0 k a2 bt359.1 bt359.2.1 bt359.2.2 true bt365.1 bt365.2) else ((turnstoneref02_Great.f k bt365.1 bt365.2 a2).bind fun t370 => (turnstonelaw02_MuldivSteps.j0 k a2 bt359.1 bt359.2.1 bt359.2.2 t370 bt365.1 bt365.2))))) else (none))) = some r := h
 clear h
 replace H := Option.bind_eq_some_iff.mp H
 obtain ⟨t358, A50, H⟩ := H
 replace H : (if t358 = true then ((muldiv_Step.f k a0 a1 a2 a3).bind fun bt359 => ((turnstoneref02_All.f k a1 a3 (([a0] : List Int))).bind fun bt365 => (if a3 ≥ a2 then (turnstonelaw02_MuldivSteps.j0 k a2 bt359.1 bt359.2.1 bt359.2.2 true bt365.1 bt365.2) else ((turnstoneref02_Great.f k bt365.1 bt365.2 a2).bind fun t370 => (turnstonelaw02_MuldivSteps.j0 k a2 bt359.1 bt359.2.1 bt359.2.2 t370 bt365.1 bt365.2))))) else (none)) = some r := H
 have A5 := Aside0.mk A50
 clear A50
 by_cases c6 : t358 = true
 ·subst c6
  have H1 : ((muldiv_Step.f k a0 a1 a2 a3).bind fun bt359 => ((turnstoneref02_All.f k a1 a3 (([a0] : List Int))).bind fun bt365 => (if a3 ≥ a2 then (turnstonelaw02_MuldivSteps.j0 k a2 bt359.1 bt359.2.1 bt359.2.2 true bt365.1 bt365.2) else ((turnstoneref02_Great.f k bt365.1 bt365.2 a2).bind fun t370 => (turnstonelaw02_MuldivSteps.j0 k a2 bt359.1 bt359.2.1 bt359.2.2 t370 bt365.1 bt365.2))))) = some r := by rw [if_pos rfl] at H; exact H
  clear H
  have H := H1
  clear H1
  replace H := Option.bind_eq_some_iff.mp H
  obtain ⟨⟨t359, t360, t361⟩, A70, H⟩ := H
  replace H : ((turnstoneref02_All.f k a1 a3 (([a0] : List Int))).bind fun bt365 => (if a3 ≥ a2 then (turnstonelaw02_MuldivSteps.j0 k a2 t359 t360 t361 true bt365.1 bt365.2) else ((turnstoneref02_Great.f k bt365.1 bt365.2 a2).bind fun t370 => (turnstonelaw02_MuldivSteps.j0 k a2 t359 t360 t361 t370 bt365.1 bt365.2)))) = some r := H
  have A7 := Aside0.mk A70
  clear A70
  obtain ⟨y362, hy362⟩ : ∃ y_ : List Int, y_ = (([a0] : List Int)) := ⟨_, rfl⟩
  replace H : ((turnstoneref02_All.f k a1 a3 y362).bind fun bt365 => (if a3 ≥ a2 then (turnstonelaw02_MuldivSteps.j0 k a2 t359 t360 t361 true bt365.1 bt365.2) else ((turnstoneref02_Great.f k bt365.1 bt365.2 a2).bind fun t370 => (turnstonelaw02_MuldivSteps.j0 k a2 t359 t360 t361 t370 bt365.1 bt365.2)))) = some r := by first | (rw [hy362]; with_reducible exact H) | (have H2_ := (Option.bind_some _ _).symm.trans H; rw [hy362]; with_reducible exact H2_) | (have H2_ := (Option.bind_some _ _).symm.trans H; with_reducible exact H2_) | with_reducible exact H | (rw [hy362]; exact H) | exact H
  have Ny362 := Aside0.mk hy362
  clear hy362
  replace H := Option.bind_eq_some_iff.mp H
  obtain ⟨⟨t365, t366⟩, A80, H⟩ := H
  replace H : (if a3 ≥ a2 then (turnstonelaw02_MuldivSteps.j0 k a2 t359 t360 t361 true t365 t366) else ((turnstoneref02_Great.f k t365 t366 a2).bind fun t370 => (turnstonelaw02_MuldivSteps.j0 k a2 t359 t360 t361 t370 t365 t366))) = some r := H
  have A8 := Aside0.mk A80
  clear A80
  have HC9 := Aside0.mk H
  clear H
  go_enter Try.func8, Try.ntmps8
  go_upto_region 5 with (first | ((with_reducible refine gate_callee (f := 33) rfl ?_); refine goesL_ (some 13) rfl rfl Try.func33 (by kernel_rfl) rfl #[] rfl argt ?_; (with_reducible refine (turnstonelaw02_awake.calls k  true _ A5.out).mono ?_); rintro e w10 ⟨rfl, hb⟩; refine ⟨_, rfl, ?_⟩; have n0_ := belb HB hb; clear HB; have HB := n0_; clear n0_; (try clear hb); (try clear hb2); (try clear hk); (try clear hi)) | ((with_reducible refine gate_callee (f := 34) rfl ?_); refine goesL_ (some 20) rfl rfl Try.func34 (by kernel_rfl) rfl #[.int .u64 a0, .int .u64 a1, .int .u64 a2, .int .u64 a3] rfl argt ?_; (with_reducible refine (muldiv_Step.calls k a0 a1 a2 a3 t359 t360 t361 _ A7.out).mono ?_); rintro e w' ⟨rfl, ⟨nd, rfl⟩⟩; refine ⟨_, rfl, ?_⟩; (try (rw [drewN_self w10]; generalize hq_ : World.drewN w10 _ = w10; have n0_ : Aside0 (Below w.heap.size w w10) := ⟨by rw [← hq_]; exact (belt HB)⟩; clear HB hq_; have HB := n0_; clear n0_))) | ((with_reducible refine gate_dst (N := 27) rfl ?_); refine Kd.R_lit (Kd.int .u64) _ 22 ?hg (N := 27) ?hd (xs := ([a0] : List Int)) (inner := [.int .u64 a0]) (ok := fun _ => True) (okp := fun _ => True) ?hr ?hp (fun _ hk => hk) trivial (Below.refl _ _) (Nat.le_refl _) (by simp) ?_; (case hd => rfl); (case hg => rfl); (case hr => first | (go_simp; done) | (go_simp; rfl)); (case hp => exact (Reps.one (show Kd.M (Kd.int .u64) _ _ _ a0 [.int .u64 a0] from rfl) (Reps.none _ _))); intro v363 w11 ho12 hb hg_ hnew_; clear hg_ hnew_; (first | rw [← Ny362.out] at ho12 | (simp only [Int.reduceToNat] at ho12; rw [← Ny362.out] at ho12)); have n0_ := Aside0.mk (Kd.R_lower ho12 (below_size (belt HB))); have n1_ := belb HB hb; clear HB; have HO364 := n0_; have HB := n1_; clear n0_ n1_; clear hb ho12; obtain ⟨Ao13, co13, eo13⟩ := Kd.R_slice HO364.out; subst eo13) | ((with_reducible refine gate_callee (f := 35) rfl ?_); refine goesL_ (some 28) rfl rfl Try.func35 (by kernel_rfl) rfl #[.int .u64 a1, .int .u64 a3, .slice Ao13 y362.length co13] rfl argt ?_; (with_reducible refine (turnstoneref02_All.calls k a1 a3 _ _ y362 t365 t366 _ ?side1 ?side2 A8.out).mono ?_); (case side1 => repeat (first | exact (Kd.R_reads' HO364.out).2.2 | (with_reducible refine Kd.C_alloc ?_ _) | (with_reducible refine Kd.C_drewN ?_ _) | (with_reducible refine Kd.C_drew ?_))); (case side2 => exact (Kd.R_reads' HO364.out).2.1); rintro e w14 ⟨v367, rfl, ho0, hb⟩; refine ⟨_, rfl, ?_⟩; have n0_ := rb HO364 hb; have n1_ := Aside0.mk (Kd.V_lower (Kd.V_mono (ok' := fun k_ => some k_ ≠ (.slice Ao13 y362.length co13 : Value).ownBlock) ho0 (fun k_ hk_ => (Kd.fresh' (Kd.R_lt (rt HO364)) k_ hk_))) (below_size (belt HB))); have n2_ := belb HB hb; clear HO364; clear HB; have HO364 := n0_; have HO368 := n1_; have HB := n2_; clear n0_ n1_ n2_; (try clear hb); (try clear hb2); (try clear hk); (try clear hi); (try clear ho0)) | ((with_reducible refine gate_dst (N := 12) rfl ?_); refine box_event ?hg (N := 12) ?hd (cs := #[.bool false, .slice none 0 0]) (t := 28) ?hr ?_; (case hd => rfl); (case hg => rfl); (case hr => first | (go_simp; done) | (go_simp; rfl)); intro gb369 hg w15 hbox hb; have n0_ := rb HO364 hb; have n1_ := Aside0.mk (Kd.V_below (Kd.V_elderB (vt HO368) gb369 (Nat.le_of_eq hg.symm)) hb); have n2_ := belb HB hb; have n3_ := Aside0.mk (hbox); have n4_ := bels HB hg; have n5_ := bels HB hg; clear HO364; clear HO368; clear HB; have HO364 := n0_; have HO368 := n1_; have HB := n2_; have BK369 := n3_; have GW369 := n4_; have GE369 := n5_; clear n0_ n1_ n2_ n3_ n4_ n5_; clear hb hbox hg; have hcz16_0 : w15.cell? ⟨gb369, 0, none⟩ = some (.bool false) := (blk_cell BK369.out 0).trans rfl; have hcz16_1 : w15.cell? ⟨gb369, 1, none⟩ = some (.slice none 0 0) := (blk_cell BK369.out 1).trans rfl; have hfz16_0 := blk_frozen BK369.out 0; have hfz16_1 := blk_frozen BK369.out 1; obtain ⟨Ao17, co17, eo17⟩ := Kd.V_slice HO368.out; subst eo17))
  (try simp only [Act.put, List.setIfInBounds_toArray, List.set_cons_zero, List.set_cons_succ])
  go_cut [36] (fun v36 wc => ∃ (kq : Nat) (x36_8 : Bool), v36 = .bool x36_8 ∧ Aside0 (turnstonelaw02_MuldivSteps.j0 kq a2 t359 t360 t361 x36_8 t365 t366 = some r) ∧ Aside0 (kq ≤ k) ∧ Aside0 (Kd.V (Kd.int .i64) 3 wc w.heap.size (fun k_ => k_ ≠ gb369) (.slice Ao17 t366.length co17) t366) ∧ Aside0 (wc.heap[gb369]? = some (.cells #[.bool t365, (.slice Ao17 t366.length co17)] 28 (0, 0))) ∧ Aside0 (Below w.heap.size w wc))
  case first =>
   have H := HC9.out
   clear HC9
   by_cases c18 : a3 ≥ a2
   ·rw [if_pos c18] at H
    have c18b0 : decide (a2 ≤ a3) = true := decide_eq_true c18
    clear c18
    (first | rw [c18b0] | (simp only [i64_w, i32_w]; rw [c18b0]) | skip)
    have H' := Aside0.mk H
    clear H
    go_wp2
    go_meet
    case rel => exact ⟨_, (true), (by first | rfl | (simp; done) | (simp [*]; done)), H', ⟨by first | omega | exact Nat.le_refl _⟩, ⟨by (with_reducible repeat (first | apply Kd.V_alloc | apply Kd.V_drewN | apply Kd.V_drew)); exact Kd.V_mono (Kd.V_far (p := ⟨gb369, 1, none⟩) (Kd.V_far (p := ⟨gb369, 0, none⟩) (Kd.V_mono HO368.out (fun k_ hk => (⟨hk, hk.2⟩ : _ ∧ k_ ≠ gb369))) (fun _ hk => hk.2) (.bool t365)) (fun _ hk => hk.2) (.slice Ao17 t366.length co17)) (fun _ hk => hk.1.2)⟩, ⟨by (with_reducible repeat (first | refine blk_drewN ?_ _ | refine blk_drew ?_ | refine blk_alloc ?_ _)); refine blk_put (cs := #[.bool t365, .slice none 0 0]) ?_ 1 _ rfl; (with_reducible repeat (first | refine blk_drewN ?_ _ | refine blk_drew ?_ | refine blk_alloc ?_ _)); refine blk_put (cs := #[.bool false, .slice none 0 0]) ?_ 0 _ rfl; (with_reducible repeat (first | refine blk_drewN ?_ _ | refine blk_drew ?_ | refine blk_alloc ?_ _)); exact BK369.out⟩, ⟨by repeat (first | (with_reducible first | exact HB.out | apply below_alloc | apply pw_below_drewN | apply below_drew1 | refine below_set ?_ GE369.out) | exact HB.out)⟩⟩
   ·rw [if_neg c18] at H
    have c18b0 : decide (a2 ≤ a3) = false := decide_eq_false c18
    clear c18
    (first | rw [c18b0] | (simp only [i64_w, i32_w]; rw [c18b0]) | skip)
    replace H := Option.bind_eq_some_iff.mp H
    obtain ⟨t370, A190, H⟩ := H
    replace H : (turnstonelaw02_MuldivSteps.j0 k a2 t359 t360 t361 t370 t365 t366) = some r := H
    have A19 := Aside0.mk A190
    clear A190
    have H' := Aside0.mk H
    clear H
    have hcz20_0 : w15.cell? ⟨gb369, 0, none⟩ = some (.bool false) := (blk_cell BK369.out 0).trans rfl
    have hcz20_1 : w15.cell? ⟨gb369, 1, none⟩ = some (.slice none 0 0) := (blk_cell BK369.out 1).trans rfl
    have hfz20_0 := blk_frozen BK369.out 0
    have hfz20_1 := blk_frozen BK369.out 1
    go_wp2_with (first | (go_at_call 36; (with_reducible refine (turnstoneref02_Great.calls k t365 _ _ t366 a2 t370 _ ?side1 ?side2 A19.out).mono ?_); (case side1 => refine (Kd.V_reads' (e := 3) (base := w.heap.size) (ok := fun k_ => (some k_ ≠ (.slice Ao13 y362.length co13 : Value).ownBlock ∧ k_ ≠ gb369)) (n := t366.length) (c := co17) ?_).2.2; exact (by (with_reducible repeat (first | apply Kd.V_alloc | apply Kd.V_drewN | apply Kd.V_drew)); exact (Kd.V_mono (Kd.V_far (p := ⟨gb369, 1, none⟩) (Kd.V_far (p := ⟨gb369, 0, none⟩) (Kd.V_mono HO368.out (fun k_ hk => (⟨hk, hk.2⟩ : _ ∧ k_ ≠ gb369))) (fun _ hk => hk.2) (.bool t365)) (fun _ hk => hk.2) (.slice Ao17 t366.length co17)) (fun _ h_ => h_.1)))); (case side2 => exact (Kd.V_reads' HO368.out).2.1); rintro e w21 ⟨rfl, hb⟩; have n0_ := Aside0.mk (Kd.R_below (by (with_reducible repeat (first | apply Kd.R_alloc | apply Kd.R_drewN | apply Kd.R_drew)); exact (Kd.R_mono (Kd.R_far (p := ⟨gb369, 1, none⟩) (Kd.R_far (p := ⟨gb369, 0, none⟩) (Kd.R_types HO364.out BK369.out (by decide)) (fun _ hk => hk.2) (.bool t365)) (fun _ hk => hk.2) (.slice Ao17 t366.length co17)) (fun _ h_ => h_.1))) hb); have n1_ := Aside0.mk (Kd.V_below (by (with_reducible repeat (first | apply Kd.V_alloc | apply Kd.V_drewN | apply Kd.V_drew)); exact (Kd.V_mono (Kd.V_far (p := ⟨gb369, 1, none⟩) (Kd.V_far (p := ⟨gb369, 0, none⟩) (Kd.V_mono HO368.out (fun k_ hk => (⟨hk, hk.2⟩ : _ ∧ k_ ≠ gb369))) (fun _ hk => hk.2) (.bool t365)) (fun _ hk => hk.2) (.slice Ao17 t366.length co17)) (fun _ h_ => h_.1))) hb); have n2_ := Aside0.mk (blk_below (g := gb369) (o := .cells #[.bool t365, .slice Ao17 t366.length co17] 28 (0, 0)) (by (with_reducible repeat (first | refine blk_drewN ?_ _ | refine blk_drew ?_ | refine blk_alloc ?_ _)); refine blk_put (cs := #[.bool t365, .slice none 0 0]) ?_ 1 _ rfl; (with_reducible repeat (first | refine blk_drewN ?_ _ | refine blk_drew ?_ | refine blk_alloc ?_ _)); refine blk_put (cs := #[.bool false, .slice none 0 0]) ?_ 0 _ rfl; (with_reducible repeat (first | refine blk_drewN ?_ _ | refine blk_drew ?_ | refine blk_alloc ?_ _)); exact BK369.out) hb); have n3_ := belb HB hb; clear HO364; clear HO368; clear BK369; clear HB; have HO364 := n0_; have HO368 := n1_; have BK369 := n2_; have HB := n3_; clear n0_ n1_ n2_ n3_; (try clear hb); (try clear hb2); (try clear hk); (try clear hi)))
    go_meet
    case rel => exact ⟨_, (t370), (by first | rfl | (simp; done) | (simp [*]; done)), H', ⟨by first | omega | exact Nat.le_refl _⟩, ⟨by (with_reducible repeat (first | apply Kd.V_alloc | apply Kd.V_drewN | apply Kd.V_drew)); exact Kd.V_mono HO368.out (fun _ hk => hk.2)⟩, ⟨by (with_reducible repeat (first | refine blk_drewN ?_ _ | refine blk_drew ?_ | refine blk_alloc ?_ _)); exact BK369.out⟩, ⟨by repeat (first | (with_reducible first | exact HB.out | apply below_alloc | apply pw_below_drewN | apply below_drew1 | refine below_set ?_ GE369.out) | exact HB.out)⟩⟩
  case rest =>
   clear HC9
   try clear c1
   try clear p2
   try clear c3
   try clear c6
   try clear c8
   try clear c18
   try clear c18b0
   try clear hcz16_0
   try clear hcz16_1
   try clear hcz20_0
   try clear hcz20_1
   try clear hfz16_0
   try clear hfz16_1
   try clear hfz20_0
   try clear hfz20_1
   obtain ⟨kq, x36_8, rfl, HA, HJ8, HO_370001, BK369, HB⟩ := hcut
   cases kq with
   | zero => exact absurd HA.out (by simp [turnstonelaw02_MuldivSteps.j0])
   | succ kj8 =>
    have H := HA.out
    clear HA
    simp only [turnstonelaw02_MuldivSteps.j0] at H
    by_cases c22 : x36_8 = true
    ·subst c22
     have H1 : (if t361 = true then (none) else (if t359 = 0 then (some (t360 == 0)) else (none))) = some r := by rw [if_pos rfl] at H; exact H
     clear H
     have H := H1
     clear H1
     by_cases c23 : t361 = true
     ·subst c23
      have H1 : (none) = some r := by rw [if_pos rfl] at H; exact H
      clear H
      have H := H1
      clear H1
      exact absurd H (by simp)
     ·replace c23 := Bool.eq_false_iff.mpr c23
      subst c23
      have H1 : (if t359 = 0 then (some (t360 == 0)) else (none)) = some r := by rw [if_neg (show ¬ (false = true) by decide)] at H; exact H
      clear H
      have H := H1
      clear H1
      by_cases c24 : t359 = 0
      ·rw [if_pos c24] at H
       have c24b0 : (t359 == 0) = true := beq_iff_eq.mpr c24
       have c24b1 : (t359 != 0) = false := bne_eq_false_iff_eq.mpr c24
       clear c24
       obtain rfl := Option.some.inj H
       go_wp2
       go_ret
       exact ⟨by first | rfl | (simp [errW_none, errW_some] <;> rfl) | (simp [*, errW_none, errW_some] <;> rfl), by repeat (first | (with_reducible first | exact HB.out | apply below_alloc | apply pw_below_drewN | apply below_drew1 | refine below_set ?_ GE369.out) | exact HB.out)⟩
      ·rw [if_neg c24] at H
       exact absurd H (by simp)
    ·replace c22 := Bool.eq_false_iff.mpr c22
     subst c22
     have H1 : (if t361 = true then ((turnstoneref01_U.f kj8 t359).bind fun bt371 => ((turnstoneref01_U.f kj8 t360).bind fun bt375 => ((turnstoneref02_Is.f kj8 t365 t366 a2 bt371.1 bt371.2 bt375.1 bt375.2).bind fun t379 => (some t379)))) else (none)) = some r := by rw [if_neg (show ¬ (false = true) by decide)] at H; exact H
     clear H
     have H := H1
     clear H1
     by_cases c25 : t361 = true
     ·subst c25
      have H1 : ((turnstoneref01_U.f kj8 t359).bind fun bt371 => ((turnstoneref01_U.f kj8 t360).bind fun bt375 => ((turnstoneref02_Is.f kj8 t365 t366 a2 bt371.1 bt371.2 bt375.1 bt375.2).bind fun t379 => (some t379)))) = some r := by rw [if_pos rfl] at H; exact H
      clear H
      have H := H1
      clear H1
      replace H := Option.bind_eq_some_iff.mp H
      obtain ⟨⟨t371, t372⟩, A260, H⟩ := H
      replace H : ((turnstoneref01_U.f kj8 t360).bind fun bt375 => ((turnstoneref02_Is.f kj8 t365 t366 a2 t371 t372 bt375.1 bt375.2).bind fun t379 => (some t379))) = some r := H
      have A26 := Aside0.mk A260
      clear A260
      replace H := Option.bind_eq_some_iff.mp H
      obtain ⟨⟨t375, t376⟩, A270, H⟩ := H
      replace H : ((turnstoneref02_Is.f kj8 t365 t366 a2 t371 t372 t375 t376).bind fun t379 => (some t379)) = some r := H
      have A27 := Aside0.mk A270
      clear A270
      replace H := Option.bind_eq_some_iff.mp H
      obtain ⟨t379, A280, H⟩ := H
      replace H : (some t379) = some r := H
      have A28 := Aside0.mk A280
      clear A280
      obtain rfl := Option.some.inj H
      try go_wp2
      have n0_ := Aside0.mk (Kd.V_drew HO_370001.out)
      have n1_ := Aside0.mk (blk_drew BK369.out)
      have n2_ := Aside0.mk (below_drew1 HB.out)
      clear HO_370001
      clear BK369
      clear HB
      have HO_370001 := n0_
      have BK369 := n1_
      have HB := n2_
      clear n0_ n1_ n2_
      refine start_ (n := 11) (S := fun w' => w'.cell? ⟨gb369, 0, none⟩ = some (.bool t365) ∧ w'.cell? ⟨gb369, 1, none⟩ = some (.slice Ao17 t366.length co17)) (ds := []) #[false, false, false, false, false, false, false, false, false, false, false] (by kernel_rfl) rfl rfl ⟨(blk_cell BK369.out 0).trans rfl, (blk_cell BK369.out 1).trans rfl⟩ (fun hHeld => ?_); refine with_tabW turnstonelaw02_MuldivSteps.tab7 turnstonelaw02_MuldivSteps.bits7 (fun HT_ HW_ => ?_)
      generalize wc.drew = w29 at HO_370001 BK369 HB hHeld ⊢
      refine pure_ (i := 0) (N := some 47) (v := ?_) (a' := ?_) #[true, false, false, false, false, false, false, false, false, false, false] rfl rfl (any_of HT_.out (by kernel_rfl)) (fun _ _ _ h => h) (Or.inl ⟨by rfl, ?_⟩) ?_ ?_
      rotate_left
      ·intro w'
       go_simp
       with_reducible rfl
      rotate_left
      ·simp only [Act.put, List.setIfInBounds_toArray, List.set_cons_zero, List.set_cons_succ, i64_w, i32_w]
       rfl
      refine pure_ (i := 1) (N := some 48) (v := ?_) (a' := ?_) #[true, true, false, false, false, false, false, false, false, false, false] rfl rfl (any_of HT_.out (by kernel_rfl)) (fun _ _ _ h => h) (Or.inl ⟨by rfl, ?_⟩) ?_ ?_
      rotate_left
      ·intro w'
       go_simp
       with_reducible rfl
      rotate_left
      ·simp only [Act.put, List.setIfInBounds_toArray, List.set_cons_zero, List.set_cons_succ, i64_w, i32_w]
       rfl
      refine pure_ (i := 3) (N := some 50) (v := ?_) (a' := ?_) #[true, true, false, true, false, false, false, false, false, false, false] rfl rfl (any_of HT_.out (by kernel_rfl)) (fun _ _ _ h => h) (Or.inl ⟨by rfl, ?_⟩) ?_ ?_
      rotate_left
      ·intro w'
       go_simp
       with_reducible rfl
      rotate_left
      ·simp only [Act.put, List.setIfInBounds_toArray, List.set_cons_zero, List.set_cons_succ, i64_w, i32_w]
       rfl
      refine pure_ (i := 4) (N := some 51) (v := ?_) (a' := ?_) #[true, true, false, true, true, false, false, false, false, false, false] rfl rfl (any_of HT_.out (by kernel_rfl)) (fun _ _ _ h => h) (Or.inl ⟨by rfl, ?_⟩) ?_ ?_
      rotate_left
      ·intro w'
       go_simp
       with_reducible rfl
      rotate_left
      ·simp only [Act.put, List.setIfInBounds_toArray, List.set_cons_zero, List.set_cons_succ, i64_w, i32_w]
       rfl
      refine pure_ (i := 6) (N := some 53) (v := ?_) (a' := ?_) #[true, true, false, true, true, false, true, false, false, false, false] rfl rfl (any_of HT_.out (by kernel_rfl)) (fun _ _ _ h => h) (Or.inl ⟨by rfl, ?_⟩) ?_ ?_
      rotate_left
      ·intro w'
       go_simp
       with_reducible rfl
      rotate_left
      ·simp only [Act.put, List.setIfInBounds_toArray, List.set_cons_zero, List.set_cons_succ, i64_w, i32_w]
       rfl
      refine take_ (i := 2) (N := some 49) (v := ?_) (a' := ?_) #[true, true, true, true, true, false, true, false, false, false, false] rfl rfl (take_ofW HT_.out HW_.out (by kernel_rfl)) (fun _ _ _ h => h) (Or.inl ⟨by rfl, ?_⟩) hHeld ?_ ?_
      rotate_left
      ·rintro w' ⟨s0, s1⟩
       go_simp
       with_reducible rfl
      rotate_left
      ·simp only [Act.put, List.setIfInBounds_toArray, List.set_cons_zero, List.set_cons_succ, i64_w, i32_w]
       rfl
      refine one_ (i := 5) (N := some 52) #[true, true, true, true, true, true, true, false, false, false, false] rfl rfl (one_of HT_.out (by kernel_rfl)) (by decide) (fun K hK => ?_)
      refine goes_ Try.func24 (by kernel_rfl) rfl #[.int .u64 t359] (by rfl) rfl rfl argt ?_
      with_reducible refine (turnstoneref01_U.calls kj8 t359 t371 t372 _ A26.out).mono ?_
      rintro e w30 ⟨v373, rfl, ho0, hb⟩
      refine ⟨_, rfl, ?_⟩
      have n0_ := Aside0.mk (Kd.V_elder' (vt HO_370001) (Kd.R_base ho0) hb)
      have n1_ := Aside0.mk (Kd.R_lower ho0 (below_size (belt HB)))
      have n2_ := blkb BK369 hb
      have n3_ := belb HB hb
      clear HO_370001
      clear BK369
      clear HB
      have HO_370001 := n0_
      have HO374 := n1_
      have BK369 := n2_
      have HB := n3_
      clear n0_ n1_ n2_ n3_
      (try clear hb)
      (try clear hb2)
      (try clear hk)
      (try clear hi)
      (try clear ho0)
      refine hK.out _ _ ⟨(blk_cell BK369.out 0).trans rfl, (blk_cell BK369.out 1).trans rfl⟩ (fun hHeld => ?_)
      clear hK K
      refine norm_ (a' := ?_) ?_ ?_
      rotate_left
      ·show Act.put _ (some 52) _ = _
       simp only [Act.put, List.setIfInBounds_toArray, List.set_cons_zero, List.set_cons_succ, i64_w, i32_w]
       rfl
      refine one_ (i := 7) (N := some 54) #[true, true, true, true, true, true, true, true, false, false, false] rfl rfl (one_of HT_.out (by kernel_rfl)) (by decide) (fun K hK => ?_)
      refine goes_ Try.func24 (by kernel_rfl) rfl #[.int .u64 t360] (by rfl) rfl rfl argt ?_
      with_reducible refine (turnstoneref01_U.calls kj8 t360 t375 t376 _ A27.out).mono ?_
      rintro e w31 ⟨v377, rfl, ho0, hb⟩
      refine ⟨_, rfl, ?_⟩
      have n0_ := Aside0.mk (Kd.V_elder' (vt HO_370001) (Kd.R_base ho0) hb)
      have n1_ := Aside0.mk (Kd.R_elder' (rt HO374) (Kd.R_base ho0) hb)
      have n2_ := Aside0.mk (Kd.R_lower (Kd.R_new' ho0 (Kd.R_lt (rt HO374))) (below_size (belt HB)))
      have n3_ := blkb BK369 hb
      have n4_ := belb HB hb
      clear HO_370001
      clear HO374
      clear BK369
      clear HB
      have HO_370001 := n0_
      have HO374 := n1_
      have HO378 := n2_
      have BK369 := n3_
      have HB := n4_
      clear n0_ n1_ n2_ n3_ n4_
      (try clear hb)
      (try clear hb2)
      (try clear hk)
      (try clear hi)
      (try clear ho0)
      obtain ⟨Ao32, co32, eo32⟩ := Kd.R_slice HO374.out
      (first | subst eo32 | (injection eo32 with f1_ f2_ f3_; have f4_ := f1_.symm; have f5_ := f3_.symm; clear f1_ f2_ f3_; subst f4_; subst f5_))
      obtain ⟨Ao33, co33, eo33⟩ := Kd.R_slice HO378.out
      (first | subst eo33 | (injection eo33 with f1_ f2_ f3_; have f4_ := f1_.symm; have f5_ := f3_.symm; clear f1_ f2_ f3_; subst f4_; subst f5_))
      refine hK.out _ _ ⟨(blk_cell BK369.out 0).trans rfl, (blk_cell BK369.out 1).trans rfl⟩ (fun hHeld => ?_)
      clear hK K
      refine norm_ (a' := ?_) ?_ ?_
      rotate_left
      ·show Act.put _ (some 54) _ = _
       simp only [Act.put, List.setIfInBounds_toArray, List.set_cons_zero, List.set_cons_succ, i64_w, i32_w]
       rfl
      refine one_ (i := 8) (N := some 55) #[true, true, true, true, true, true, true, true, true, false, false] rfl rfl (one_of HT_.out (by kernel_rfl)) (by decide) (fun K hK => ?_)
      refine goes_ Try.func37 (by kernel_rfl) rfl #[.agg #[.bool t365, .slice Ao17 t366.length co17], .int .u64 a2, .agg #[.bool t371, .slice Ao32 t372.length co32], .agg #[.bool t375, .slice Ao33 t376.length co33]] (by rfl) rfl rfl argt ?_
      with_reducible refine (turnstoneref02_Is.calls kj8 t365 _ _ t366 a2 t371 _ _ t372 t375 _ _ t376 t379 _ ?side1 ?side2 ?side3 ?side4 ?side5 ?side6 A28.out).mono ?_
      (case side1 => repeat (first | exact (Kd.V_reads' HO_370001.out).2.2 | (with_reducible refine Kd.C_alloc ?_ _) | (with_reducible refine Kd.C_drewN ?_ _) | (with_reducible refine Kd.C_drew ?_)))
      (case side2 => exact (Kd.V_reads' HO_370001.out).2.1)
      (case side3 => repeat (first | exact (Kd.R_reads' HO374.out).2.2 | (with_reducible refine Kd.C_alloc ?_ _) | (with_reducible refine Kd.C_drewN ?_ _) | (with_reducible refine Kd.C_drew ?_)))
      (case side4 => exact (Kd.R_reads' HO374.out).2.1)
      (case side5 => repeat (first | exact (Kd.R_reads' HO378.out).2.2 | (with_reducible refine Kd.C_alloc ?_ _) | (with_reducible refine Kd.C_drewN ?_ _) | (with_reducible refine Kd.C_drew ?_)))
      (case side6 => exact (Kd.R_reads' HO378.out).2.1)
      rintro e w34 ⟨rfl, hb⟩
      refine ⟨_, rfl, ?_⟩
      have n0_ := vb HO_370001 hb
      have n1_ := rb HO374 hb
      have n2_ := rb HO378 hb
      have n3_ := blkb BK369 hb
      have n4_ := belb HB hb
      clear HO_370001
      clear HO374
      clear HO378
      clear BK369
      clear HB
      have HO_370001 := n0_
      have HO374 := n1_
      have HO378 := n2_
      have BK369 := n3_
      have HB := n4_
      clear n0_ n1_ n2_ n3_ n4_
      (try clear hb)
      (try clear hb2)
      (try clear hk)
      (try clear hi)
      refine hK.out _ _ ⟨(blk_cell BK369.out 0).trans rfl, (blk_cell BK369.out 1).trans rfl⟩ (fun hHeld => ?_)
      clear hK K
      refine norm_ (a' := ?_) ?_ ?_
      rotate_left
      ·show Act.put _ (some 55) _ = _
       simp only [Act.put, List.setIfInBounds_toArray, List.set_cons_zero, List.set_cons_succ, i64_w, i32_w]
       rfl
      refine pure_ (i := 9) (N := some 56) (v := ?_) (a' := ?_) #[true, true, true, true, true, true, true, true, true, true, false] rfl rfl (any_of HT_.out (by kernel_rfl)) (fun _ _ _ h => h) (Or.inl ⟨by rfl, ?_⟩) ?_ ?_
      rotate_left
      ·intro w'
       go_simp
       with_reducible rfl
      rotate_left
      ·simp only [Act.put, List.setIfInBounds_toArray, List.set_cons_zero, List.set_cons_succ, i64_w, i32_w]
       rfl
      refine pure_ (i := 10) (N := some 8) (v := ?_) (a' := ?_) #[true, true, true, true, true, true, true, true, true, true, true] rfl rfl (any_of HT_.out (by kernel_rfl)) (fun _ _ _ h => h) (Or.inl ⟨by rfl, ?_⟩) ?_ ?_
      rotate_left
      ·intro w'
       go_simp
       with_reducible rfl
      rotate_left
      ·simp only [Act.put, List.setIfInBounds_toArray, List.set_cons_zero, List.set_cons_succ, i64_w, i32_w]
       rfl
      refine done_ (done_of HT_.out (by kernel_rfl)) ?_
      try go_wp2
      go_ret
      exact ⟨by first | rfl | (simp [errW_none, errW_some] <;> rfl) | (simp [*, errW_none, errW_some] <;> rfl), by repeat (first | (with_reducible first | exact HB.out | apply below_alloc | apply pw_below_drewN | apply below_drew1 | refine below_set ?_ GE369.out) | exact HB.out)⟩
     ·replace c25 := Bool.eq_false_iff.mpr c25
      subst c25
      have H1 : (none) = some r := by rw [if_neg (show ¬ (false = true) by decide)] at H; exact H
      clear H
      have H := H1
      clear H1
      exact absurd H (by simp)
 ·replace c6 := Bool.eq_false_iff.mpr c6
  subst c6
  have H1 : (none) = some r := by rw [if_neg (show ¬ (false = true) by decide)] at H; exact H
  clear H
  have H := H1
  clear H1
  exact absurd H (by simp)

/-- THE ONE PURE STATEMENT of turnstonelaw02_MuldivSteps. -/
def turnstonelaw02_MuldivSteps.Pure : Prop := ∀ (a0 : Int) (a1 : Int) (a2 : Int) (a3 : Int), (Lit.int .u64 a0).wf = true → (Lit.int .u64 a1).wf = true → (Lit.int .u64 a2).wf = true → (Lit.int .u64 a3).wf = true → ∃ k, turnstonelaw02_MuldivSteps.f k a0 a1 a2 a3 = some true
theorem turnstonelaw02_MuldivSteps.walk (P : turnstonelaw02_MuldivSteps.Pure) (a0 : Int) (a1 : Int) (a2 : Int) (a3 : Int) (w : World) (w0 : (Lit.int .u64 a0).wf = true) (w1 : (Lit.int .u64 a1).wf = true) (w2 : (Lit.int .u64 a2).wf = true) (w3 : (Lit.int .u64 a3).wf = true) :
  Calls Try.prog 8 #[.int .u64 a0, .int .u64 a1, .int .u64 a2, .int .u64 a3] w fun e w' => e = .returned (.bool true) ∧ Below w.heap.size w w' := by
 obtain ⟨k, h⟩ := P a0 a1 a2 a3 w0 w1 w2 w3
 refine (turnstonelaw02_MuldivSteps.calls k a0 a1 a2 a3 true w h).mono ?_
 rintro e w' ⟨rfl, hd⟩
 exact ⟨rfl, hd⟩

end Go.Proofs.Ytimgiiceipjpaaa.Print
