/- What each Go function that is named below answers, as a Lean function, and that its walk comes to just that: for whatever arguments that function gives an answer for. Written by a program of this session (wip/mkpr.py, pr.sh). -/
import Derived.Test.YtimgiiceipjpaaaPrint0
import Derived.Test.YtimgiiceipjpaaaPrint3
import Derived.Test.YtimgiiceipjpaaaPrint5
import Derived.Test.YtimgiiceipjpaaaPrint6
import Derived.Test.YtimgiiceipjpaaaPrint12
import Derived.Test.YtimgiiceipjpaaaPrint13
import Derived.Test.YtimgiiceipjpaaaPrint14
namespace Go.Proofs.Ytimgiiceipjpaaa.Print
open Go.RowKit Go.Proofs.YtimgiiceipjpaaaW.PrintWords Go.Proofs.YtimgiiceipjpaaaW.PrintLast Go.Proofs.YtimgiiceipjpaaaW.PrintMore
attribute [local go_sem] max2_int min2_int max_two min_two max_three min_three max_four min_four   -- for this text's walks alone
open Go.Proofs.Ytimgiiceipjpaaa.Bits Go.Proofs.Ytimgiiceipjpaaa.Short
attribute [local go_sem] add64_run0 sub64_run0 add64_run sub64_run
set_option linter.unusedVariables false
set_option linter.unusedSimpArgs false

/-! ### turnstonelaw02_MuldivCarries: function 9 -/
def turnstonelaw02_MuldivCarries.j0 : Nat → Int → Int → Int → Bool → Bool → Bool → List Int → Option (Bool)
 | 0, _, _, _, _, _, _, _ => none
 | k + 1, x1, x9, x10, x11, x38, x363000, x363001 => if x38 = true then (if x11 = true then (none) else (if x9 = 0 then (some (x10 == 0)) else (none))) else (if x11 = true then ((turnstoneref01_U.f k x9).bind fun bt364 => ((turnstoneref01_U.f k x10).bind fun bt368 => ((turnstoneref02_Is.f k x363000 x363001 x1 bt364.1 bt364.2 bt368.1 bt368.2).bind fun t372 => (some t372)))) else (none))
def turnstonelaw02_MuldivCarries.f (k : Nat) (a0 : Int) (a1 : Int) (a2 : Int) (l3 : List Int) : Option (Bool) := (turnstonelaw02_awake.f).bind fun t354 => (if t354 = true then (if (l3.length : Int) > 40 then (some true) else ((muldiv_Steps.f k a0 a1 a2 l3).bind fun bt355 => ((turnstoneref02_All.f k a0 a2 l3).bind fun bt358 => (if a2 ≥ a1 then (turnstonelaw02_MuldivCarries.j0 k a1 bt355.1 bt355.2.1 bt355.2.2 true bt358.1 bt358.2) else ((turnstoneref02_Great.f k bt358.1 bt358.2 a1).bind fun t363 => (turnstonelaw02_MuldivCarries.j0 k a1 bt355.1 bt355.2.1 bt355.2.2 t363 bt358.1 bt358.2)))))) else (none))
theorem turnstonelaw02_MuldivCarries.mono_l : ∀ k, (∀ y0 y1 y2 y3 y4 y5 y6, LeO (turnstonelaw02_MuldivCarries.j0 k y0 y1 y2 y3 y4 y5 y6) (turnstonelaw02_MuldivCarries.j0 (k + 1) y0 y1 y2 y3 y4 y5 y6))
 | 0 => fun _ _ _ _ _ _ _ r h => by simp [turnstonelaw02_MuldivCarries.j0] at h
 | k + 1 => by
  have ih0 := turnstonelaw02_MuldivCarries.mono_l k
  ·intro y0 y1 y2 y3 y4 y5 y6
   unfold turnstonelaw02_MuldivCarries.j0
   repeat' first
   | (with_reducible exact ih0 _ _ _ _ _ _ _)
   | (with_reducible exact muldiv_Steps.mono _ _ _ _ _)
   | (with_reducible exact turnstoneref01_U.mono _ _)
   | (with_reducible exact turnstoneref02_All.mono _ _ _ _)
   | (with_reducible exact turnstoneref02_Great.mono _ _ _ _)
   | (with_reducible exact turnstoneref02_Is.mono _ _ _ _ _ _ _ _)
   | (with_reducible exact LeO.refl _)
   | (with_reducible exact LeO.none _)
   | (with_reducible refine LeO.ite ?_ ?_)
   | (with_reducible refine LeO.bind ?_ (fun _ => ?_))
   | exact ih0 _ _ _ _ _ _ _
   | exact muldiv_Steps.mono _ _ _ _ _
   | exact turnstoneref01_U.mono _ _
   | exact turnstoneref02_All.mono _ _ _ _
   | exact turnstoneref02_Great.mono _ _ _ _
   | exact turnstoneref02_Is.mono _ _ _ _ _ _ _ _
   | exact LeO.none _
   | refine LeO.ite ?_ ?_
   | refine LeO.bind ?_ (fun _ => ?_)
theorem turnstonelaw02_MuldivCarries.mono : ∀ a0 a1 a2 a3 k, LeO (turnstonelaw02_MuldivCarries.f k a0 a1 a2 a3) (turnstonelaw02_MuldivCarries.f (k + 1) a0 a1 a2 a3) := by
 intro a0 a1 a2 a3 k
 have ih0 := turnstonelaw02_MuldivCarries.mono_l k
 unfold turnstonelaw02_MuldivCarries.f
 repeat' first
   | (with_reducible exact ih0 _ _ _ _ _ _ _)
   | (with_reducible exact muldiv_Steps.mono _ _ _ _ _)
   | (with_reducible exact turnstoneref01_U.mono _ _)
   | (with_reducible exact turnstoneref02_All.mono _ _ _ _)
   | (with_reducible exact turnstoneref02_Great.mono _ _ _ _)
   | (with_reducible exact turnstoneref02_Is.mono _ _ _ _ _ _ _ _)
   | (with_reducible exact LeO.refl _)
   | (with_reducible exact LeO.none _)
   | (with_reducible refine LeO.ite ?_ ?_)
   | (with_reducible refine LeO.bind ?_ (fun _ => ?_))
   | exact ih0 _ _ _ _ _ _ _
   | exact muldiv_Steps.mono _ _ _ _ _
   | exact turnstoneref01_U.mono _ _
   | exact turnstoneref02_All.mono _ _ _ _
   | exact turnstoneref02_Great.mono _ _ _ _
   | exact turnstoneref02_Is.mono _ _ _ _ _ _ _ _
   | exact LeO.none _
   | refine LeO.ite ?_ ?_
   | refine LeO.bind ?_ (fun _ => ?_)
def turnstonelaw02_MuldivCarries.T9 : Bool × List (List Nat × List Nat) := (true, [([], []), ([0], [0]), ([1], [1]), ([1], [1]), ([1], [1]), ([4, 1, 1], [1, 4]), ([1], [1]), ([6, 5, 1], [1, 6]), ([2, 3, 5, 7, 7, 1], [1, 2, 3, 5, 7]), ([1, 8], [1, 8]), ([9, 8, 0, 1, 2, 3, 4, 5, 6, 7, 8, 9], [9])])
def turnstonelaw02_MuldivCarries.B9 : List Nat := [0, 1, 3, 3, 3, 19, 3, 115, 255, 511, 1023]
theorem turnstonelaw02_MuldivCarries.tab9 : rtab .any (opsOf Try.f9 9) = turnstonelaw02_MuldivCarries.T9 := by kernel_rfl
theorem turnstonelaw02_MuldivCarries.bits9 : waitsOk turnstonelaw02_MuldivCarries.T9.2 turnstonelaw02_MuldivCarries.B9 = true := by kernel_rfl
set_option maxHeartbeats 8000000 in
set_option maxRecDepth 100000 in
theorem turnstonelaw02_MuldivCarries.calls (k : Nat) (a0 : Int) (a1 : Int) (a2 : Int) (A3 : Option Addr) (c3 : Nat) (l3 : List Int) (r : Bool) (w : World) (hr3 : Kd.C (Kd.int .u64) w A3 l3.length l3) (hc3 : l3.length ≤ c3) (h : turnstonelaw02_MuldivCarries.f k a0 a1 a2 l3 = some r) :
  Calls Try.prog 9 #[.int .u64 a0, .int .u64 a1, .int .u64 a2, .slice A3 l3.length c3] w fun e w' => e = .returned (.bool r) ∧ Below w.heap.size w w' := by
 have hu28 := Try.underlying28
 have HR3 := Aside0.mk hr3
 have HC3 := Aside0.mk hc3
 clear hr3 hc3
 have HB := Aside0.mk (Below.refl w.heap.size w)
 have H : ((turnstonelaw02_awake.f).bind fun t354 => (if t354 = true then (if (l3.length : Int) > 40 then (some true) else ((muldiv_Steps.f k a0 a1 a2 l3).bind fun bt355 => ((turnstoneref02_All.f k a0 a2 l3).bind fun bt358 => (if a2 ≥ a1 then (turnstonelaw02_MuldivCarries.j0 k a1 bt355.1 bt355.2.1 bt355.2.2 true bt358.1 bt358.2) else ((turnstoneref02_Great.f k bt358.1 bt358.2 a1).bind fun t363 => (turnstonelaw02_MuldivCarries.j0 k a1 bt355.1 bt355.2.1 bt355.2.2 t363 bt358.1 bt358.2)))))) else (none))) = some r := h
 clear h
 replace H := Option.bind_eq_some_iff.mp H
 obtain ⟨t354, A50, H⟩ := H
 replace H : (if t354 = true then (if (l3.length : Int) > 40 then (some true) else ((muldiv_Steps.f k a0 a1 a2 l3).bind fun bt355 => ((turnstoneref02_All.f k a0 a2 l3).bind fun bt358 => (if a2 ≥ a1 then (turnstonelaw02_MuldivCarries.j0 k a1 bt355.1 bt355.2.1 bt355.2.2 true bt358.1 bt358.2) else ((turnstoneref02_Great.f k bt358.1 bt358.2 a1).bind fun t363 => (turnstonelaw02_MuldivCarries.j0 k a1 bt355.1 bt355.2.1 bt355.2.2 t363 bt358.1 bt358.2)))))) else (none)) = some r := H
 have A5 := Aside0.mk A50
 clear A50
 by_cases c6 : t354 = true
 ·subst c6
  have H1 : (if (l3.length : Int) > 40 then (some true) else ((muldiv_Steps.f k a0 a1 a2 l3).bind fun bt355 => ((turnstoneref02_All.f k a0 a2 l3).bind fun bt358 => (if a2 ≥ a1 then (turnstonelaw02_MuldivCarries.j0 k a1 bt355.1 bt355.2.1 bt355.2.2 true bt358.1 bt358.2) else ((turnstoneref02_Great.f k bt358.1 bt358.2 a1).bind fun t363 => (turnstonelaw02_MuldivCarries.j0 k a1 bt355.1 bt355.2.1 bt355.2.2 t363 bt358.1 bt358.2)))))) = some r := by rw [if_pos rfl] at H; exact H
  clear H
  have H := H1
  clear H1
  by_cases c7 : (l3.length : Int) > 40
  ·rw [if_pos c7] at H
   have c7b0 : decide (40 < (l3.length : Int)) = true := decide_eq_true c7
   have c7b1 : decide (40 < l3.length) = true := decide_eq_true (by omega)
   clear c7
   obtain rfl := Option.some.inj H
   go_enter Try.func9, Try.ntmps9
   go_wp2_with (first | ((with_reducible refine gate_callee (f := 33) rfl ?_); refine goesL_ (some 13) rfl rfl Try.func33 (by kernel_rfl) rfl #[] rfl argt ?_; (with_reducible refine (turnstonelaw02_awake.calls  true _ A5.out).mono ?_); rintro e w8 ⟨rfl, hb⟩; refine ⟨_, rfl, ?_⟩; have n0_ := belb HB hb; clear HB; have HB := n0_; clear n0_; (try clear hb); (try clear hb2); (try clear hk); (try clear hi)))
   go_ret
   exact ⟨by first | rfl | (simp [errW_none, errW_some] <;> rfl) | (simp [*, errW_none, errW_some] <;> rfl), by repeat (first | (with_reducible first | exact HB.out | apply below_alloc | apply pw_below_drewN | apply below_drew1) | exact HB.out)⟩
  ·rw [if_neg c7] at H
   have c7b0 : decide (40 < (l3.length : Int)) = false := decide_eq_false c7
   have c7b1 : decide (40 < l3.length) = false := decide_eq_false (by omega)
   clear c7
   replace H := Option.bind_eq_some_iff.mp H
   obtain ⟨⟨t355, t356, t357⟩, A90, H⟩ := H
   replace H : ((turnstoneref02_All.f k a0 a2 l3).bind fun bt358 => (if a2 ≥ a1 then (turnstonelaw02_MuldivCarries.j0 k a1 t355 t356 t357 true bt358.1 bt358.2) else ((turnstoneref02_Great.f k bt358.1 bt358.2 a1).bind fun t363 => (turnstonelaw02_MuldivCarries.j0 k a1 t355 t356 t357 t363 bt358.1 bt358.2)))) = some r := H
   have A9 := Aside0.mk A90
   clear A90
   replace H := Option.bind_eq_some_iff.mp H
   obtain ⟨⟨t358, t359⟩, A100, H⟩ := H
   replace H : (if a2 ≥ a1 then (turnstonelaw02_MuldivCarries.j0 k a1 t355 t356 t357 true t358 t359) else ((turnstoneref02_Great.f k t358 t359 a1).bind fun t363 => (turnstonelaw02_MuldivCarries.j0 k a1 t355 t356 t357 t363 t358 t359))) = some r := H
   have A10 := Aside0.mk A100
   clear A100
   have HC11 := Aside0.mk H
   clear H
   go_enter Try.func9, Try.ntmps9
   go_upto_region 7 with (first | ((with_reducible refine gate_callee (f := 33) rfl ?_); refine goesL_ (some 13) rfl rfl Try.func33 (by kernel_rfl) rfl #[] rfl argt ?_; (with_reducible refine (turnstonelaw02_awake.calls  true _ A5.out).mono ?_); rintro e w12 ⟨rfl, hb⟩; refine ⟨_, rfl, ?_⟩; have n0_ := belb HB hb; clear HB; have HB := n0_; clear n0_; (try clear hb); (try clear hb2); (try clear hk); (try clear hi)) | ((with_reducible refine gate_callee (f := 38) rfl ?_); refine goesL_ (some 23) rfl rfl Try.func38 (by kernel_rfl) rfl #[.int .u64 a0, .int .u64 a1, .int .u64 a2, .slice A3 l3.length c3] rfl argt ?_; (with_reducible refine (muldiv_Steps.calls k a0 a1 a2 _ _ l3 t355 t356 t357 _ ?side1 ?side2 A9.out).mono ?_); (case side1 => exact (ct (Kd.C_below HR3.out HB.out))); (case side2 => exact HC3.out); rintro e w' ⟨rfl, ⟨nd, rfl⟩⟩; refine ⟨_, rfl, ?_⟩; (try (rw [drewN_self w12]; generalize hq_ : World.drewN w12 _ = w12; have n0_ : Aside0 (Below w.heap.size w w12) := ⟨by rw [← hq_]; exact (belt HB)⟩; clear HB hq_; have HB := n0_; clear n0_))) | ((with_reducible refine gate_callee (f := 35) rfl ?_); refine goesL_ (some 30) rfl rfl Try.func35 (by kernel_rfl) rfl #[.int .u64 a0, .int .u64 a2, .slice A3 l3.length c3] rfl argt ?_; (with_reducible refine (turnstoneref02_All.calls k a0 a2 _ _ l3 t358 t359 _ ?side1 ?side2 A10.out).mono ?_); (case side1 => exact (ct (Kd.C_below HR3.out HB.out))); (case side2 => exact HC3.out); rintro e w13 ⟨v360, rfl, ho0, hb⟩; refine ⟨_, rfl, ?_⟩; have n0_ := Aside0.mk (Kd.V_lower (Kd.V_mono (ok' := fun k_ => True) ho0 (fun k_ hk_ => trivial)) (below_size (belt HB))); have n1_ := belb HB hb; clear HB; have HO361 := n0_; have HB := n1_; clear n0_ n1_; (try clear hb); (try clear hb2); (try clear hk); (try clear hi); (try clear ho0)) | ((with_reducible refine gate_dst (N := 12) rfl ?_); refine box_event ?hg (N := 12) ?hd (cs := #[.bool false, .slice none 0 0]) (t := 28) ?hr ?_; (case hd => rfl); (case hg => rfl); (case hr => first | (go_simp; done) | (go_simp; rfl)); intro gb362 hg w14 hbox hb; have n0_ := Aside0.mk (Kd.V_below (Kd.V_elderB (vt HO361) gb362 (Nat.le_of_eq hg.symm)) hb); have n1_ := belb HB hb; have n2_ := Aside0.mk (hbox); have n3_ := bels HB hg; have n4_ := bels HB hg; clear HO361; clear HB; have HO361 := n0_; have HB := n1_; have BK362 := n2_; have GW362 := n3_; have GE362 := n4_; clear n0_ n1_ n2_ n3_ n4_; clear hb hbox hg; have hcz15_0 : w14.cell? ⟨gb362, 0, none⟩ = some (.bool false) := (blk_cell BK362.out 0).trans rfl; have hcz15_1 : w14.cell? ⟨gb362, 1, none⟩ = some (.slice none 0 0) := (blk_cell BK362.out 1).trans rfl; have hfz15_0 := blk_frozen BK362.out 0; have hfz15_1 := blk_frozen BK362.out 1; obtain ⟨Ao16, co16, eo16⟩ := Kd.V_slice HO361.out; subst eo16))
   (try simp only [Act.put, List.setIfInBounds_toArray, List.set_cons_zero, List.set_cons_succ])
   go_cut [38] (fun v38 wc => ∃ (kq : Nat) (x38_10 : Bool), v38 = .bool x38_10 ∧ Aside0 (turnstonelaw02_MuldivCarries.j0 kq a1 t355 t356 t357 x38_10 t358 t359 = some r) ∧ Aside0 (kq ≤ k) ∧ Aside0 (Kd.V (Kd.int .i64) 3 wc w.heap.size (fun k_ => k_ ≠ gb362) (.slice Ao16 t359.length co16) t359) ∧ Aside0 (wc.heap[gb362]? = some (.cells #[.bool t358, (.slice Ao16 t359.length co16)] 28 (0, 0))) ∧ Aside0 (Below w.heap.size w wc))
   case first =>
    have H := HC11.out
    clear HC11
    by_cases c17 : a2 ≥ a1
    ·rw [if_pos c17] at H
     have c17b0 : decide (a1 ≤ a2) = true := decide_eq_true c17
     clear c17
     (first | rw [c17b0] | (simp only [i64_w, i32_w]; rw [c17b0]) | skip)
     have H' := Aside0.mk H
     clear H
     go_wp2
     go_meet
     case rel => exact ⟨_, (true), (by first | rfl | (simp; done) | (simp [*]; done)), H', ⟨by first | omega | exact Nat.le_refl _⟩, ⟨by (with_reducible repeat (first | apply Kd.V_alloc | apply Kd.V_drewN | apply Kd.V_drew)); exact Kd.V_mono (Kd.V_far (p := ⟨gb362, 1, none⟩) (Kd.V_far (p := ⟨gb362, 0, none⟩) (Kd.V_mono HO361.out (fun k_ hk => (⟨hk, hk.2⟩ : _ ∧ k_ ≠ gb362))) (fun _ hk => hk.2) (.bool t358)) (fun _ hk => hk.2) (.slice Ao16 t359.length co16)) (fun _ hk => hk.1.2)⟩, ⟨by (with_reducible repeat (first | refine blk_drewN ?_ _ | refine blk_drew ?_ | refine blk_alloc ?_ _)); refine blk_put (cs := #[.bool t358, .slice none 0 0]) ?_ 1 _ rfl; (with_reducible repeat (first | refine blk_drewN ?_ _ | refine blk_drew ?_ | refine blk_alloc ?_ _)); refine blk_put (cs := #[.bool false, .slice none 0 0]) ?_ 0 _ rfl; (with_reducible repeat (first | refine blk_drewN ?_ _ | refine blk_drew ?_ | refine blk_alloc ?_ _)); exact BK362.out⟩, ⟨by repeat (first | (with_reducible first | exact HB.out | apply below_alloc | apply pw_below_drewN | apply below_drew1 | refine below_set ?_ GE362.out) | exact HB.out)⟩⟩
    ·rw [if_neg c17] at H
     have c17b0 : decide (a1 ≤ a2) = false := decide_eq_false c17
     clear c17
     (first | rw [c17b0] | (simp only [i64_w, i32_w]; rw [c17b0]) | skip)
     replace H := Option.bind_eq_some_iff.mp H
     obtain ⟨t363, A180, H⟩ := H
     replace H : (turnstonelaw02_MuldivCarries.j0 k a1 t355 t356 t357 t363 t358 t359) = some r := H
     have A18 := Aside0.mk A180
     clear A180
     have H' := Aside0.mk H
     clear H
     have hcz19_0 : w14.cell? ⟨gb362, 0, none⟩ = some (.bool false) := (blk_cell BK362.out 0).trans rfl
     have hcz19_1 : w14.cell? ⟨gb362, 1, none⟩ = some (.slice none 0 0) := (blk_cell BK362.out 1).trans rfl
     have hfz19_0 := blk_frozen BK362.out 0
     have hfz19_1 := blk_frozen BK362.out 1
     go_wp2_with (first | (go_at_call 36; (with_reducible refine (turnstoneref02_Great.calls k t358 _ _ t359 a1 t363 _ ?side1 ?side2 A18.out).mono ?_); (case side1 => refine (Kd.V_reads' (e := 3) (base := w.heap.size) (ok := fun k_ => (True ∧ k_ ≠ gb362)) (n := t359.length) (c := co16) ?_).2.2; exact (by (with_reducible repeat (first | apply Kd.V_alloc | apply Kd.V_drewN | apply Kd.V_drew)); exact (Kd.V_mono (Kd.V_far (p := ⟨gb362, 1, none⟩) (Kd.V_far (p := ⟨gb362, 0, none⟩) (Kd.V_mono HO361.out (fun k_ hk => (⟨hk, hk.2⟩ : _ ∧ k_ ≠ gb362))) (fun _ hk => hk.2) (.bool t358)) (fun _ hk => hk.2) (.slice Ao16 t359.length co16)) (fun _ h_ => h_.1)))); (case side2 => exact (Kd.V_reads' HO361.out).2.1); rintro e w20 ⟨rfl, hb⟩; have n0_ := Aside0.mk (Kd.V_below (by (with_reducible repeat (first | apply Kd.V_alloc | apply Kd.V_drewN | apply Kd.V_drew)); exact (Kd.V_mono (Kd.V_far (p := ⟨gb362, 1, none⟩) (Kd.V_far (p := ⟨gb362, 0, none⟩) (Kd.V_mono HO361.out (fun k_ hk => (⟨hk, hk.2⟩ : _ ∧ k_ ≠ gb362))) (fun _ hk => hk.2) (.bool t358)) (fun _ hk => hk.2) (.slice Ao16 t359.length co16)) (fun _ h_ => h_.1))) hb); have n1_ := Aside0.mk (blk_below (g := gb362) (o := .cells #[.bool t358, .slice Ao16 t359.length co16] 28 (0, 0)) (by (with_reducible repeat (first | refine blk_drewN ?_ _ | refine blk_drew ?_ | refine blk_alloc ?_ _)); refine blk_put (cs := #[.bool t358, .slice none 0 0]) ?_ 1 _ rfl; (with_reducible repeat (first | refine blk_drewN ?_ _ | refine blk_drew ?_ | refine blk_alloc ?_ _)); refine blk_put (cs := #[.bool false, .slice none 0 0]) ?_ 0 _ rfl; (with_reducible repeat (first | refine blk_drewN ?_ _ | refine blk_drew ?_ | refine blk_alloc ?_ _)); exact BK362.out) hb); have n2_ := belb HB hb; clear HO361; clear BK362; clear HB; have HO361 := n0_; have BK362 := n1_; have HB := n2_; clear n0_ n1_ n2_; (try clear hb); (try clear hb2); (try clear hk); (try clear hi)))
     go_meet
     case rel => exact ⟨_, (t363), (by first | rfl | (simp; done) | (simp [*]; done)), H', ⟨by first | omega | exact Nat.le_refl _⟩, ⟨by (with_reducible repeat (first | apply Kd.V_alloc | apply Kd.V_drewN | apply Kd.V_drew)); exact Kd.V_mono HO361.out (fun _ hk => hk.2)⟩, ⟨by (with_reducible repeat (first | refine blk_drewN ?_ _ | refine blk_drew ?_ | refine blk_alloc ?_ _)); exact BK362.out⟩, ⟨by repeat (first | (with_reducible first | exact HB.out | apply below_alloc | apply pw_below_drewN | apply below_drew1 | refine below_set ?_ GE362.out) | exact HB.out)⟩⟩
   case rest =>
    clear HC11
    try clear c1
    try clear p2
    try clear c3
    try clear c6
    try clear c7
    try clear c7b0
    try clear c7b1
    try clear c9
    try clear c17
    try clear c17b0
    try clear hcz15_0
    try clear hcz15_1
    try clear hcz19_0
    try clear hcz19_1
    try clear hfz15_0
    try clear hfz15_1
    try clear hfz19_0
    try clear hfz19_1
    obtain ⟨kq, x38_10, rfl, HA, HJ10, HO_363001, BK362, HB⟩ := hcut
    cases kq with
    | zero => exact absurd HA.out (by simp [turnstonelaw02_MuldivCarries.j0])
    | succ kj10 =>
     have H := HA.out
     clear HA
     simp only [turnstonelaw02_MuldivCarries.j0] at H
     by_cases c21 : x38_10 = true
     ·subst c21
      have H1 : (if t357 = true then (none) else (if t355 = 0 then (some (t356 == 0)) else (none))) = some r := by rw [if_pos rfl] at H; exact H
      clear H
      have H := H1
      clear H1
      by_cases c22 : t357 = true
      ·subst c22
       have H1 : (none) = some r := by rw [if_pos rfl] at H; exact H
       clear H
       have H := H1
       clear H1
       exact absurd H (by simp)
      ·replace c22 := Bool.eq_false_iff.mpr c22
       subst c22
       have H1 : (if t355 = 0 then (some (t356 == 0)) else (none)) = some r := by rw [if_neg (show ¬ (false = true) by decide)] at H; exact H
       clear H
       have H := H1
       clear H1
       by_cases c23 : t355 = 0
       ·rw [if_pos c23] at H
        have c23b0 : (t355 == 0) = true := beq_iff_eq.mpr c23
        have c23b1 : (t355 != 0) = false := bne_eq_false_iff_eq.mpr c23
        clear c23
        obtain rfl := Option.some.inj H
        go_wp2
        go_ret
        exact ⟨by first | rfl | (simp [errW_none, errW_some] <;> rfl) | (simp [*, errW_none, errW_some] <;> rfl), by repeat (first | (with_reducible first | exact HB.out | apply below_alloc | apply pw_below_drewN | apply below_drew1 | refine below_set ?_ GE362.out) | exact HB.out)⟩
       ·rw [if_neg c23] at H
        exact absurd H (by simp)
     ·replace c21 := Bool.eq_false_iff.mpr c21
      subst c21
      have H1 : (if t357 = true then ((turnstoneref01_U.f kj10 t355).bind fun bt364 => ((turnstoneref01_U.f kj10 t356).bind fun bt368 => ((turnstoneref02_Is.f kj10 t358 t359 a1 bt364.1 bt364.2 bt368.1 bt368.2).bind fun t372 => (some t372)))) else (none)) = some r := by rw [if_neg (show ¬ (false = true) by decide)] at H; exact H
      clear H
      have H := H1
      clear H1
      by_cases c24 : t357 = true
      ·subst c24
       have H1 : ((turnstoneref01_U.f kj10 t355).bind fun bt364 => ((turnstoneref01_U.f kj10 t356).bind fun bt368 => ((turnstoneref02_Is.f kj10 t358 t359 a1 bt364.1 bt364.2 bt368.1 bt368.2).bind fun t372 => (some t372)))) = some r := by rw [if_pos rfl] at H; exact H
       clear H
       have H := H1
       clear H1
       replace H := Option.bind_eq_some_iff.mp H
       obtain ⟨⟨t364, t365⟩, A250, H⟩ := H
       replace H : ((turnstoneref01_U.f kj10 t356).bind fun bt368 => ((turnstoneref02_Is.f kj10 t358 t359 a1 t364 t365 bt368.1 bt368.2).bind fun t372 => (some t372))) = some r := H
       have A25 := Aside0.mk A250
       clear A250
       replace H := Option.bind_eq_some_iff.mp H
       obtain ⟨⟨t368, t369⟩, A260, H⟩ := H
       replace H : ((turnstoneref02_Is.f kj10 t358 t359 a1 t364 t365 t368 t369).bind fun t372 => (some t372)) = some r := H
       have A26 := Aside0.mk A260
       clear A260
       replace H := Option.bind_eq_some_iff.mp H
       obtain ⟨t372, A270, H⟩ := H
       replace H : (some t372) = some r := H
       have A27 := Aside0.mk A270
       clear A270
       obtain rfl := Option.some.inj H
       try go_wp2
       have n0_ := Aside0.mk (Kd.V_drew HO_363001.out)
       have n1_ := Aside0.mk (blk_drew BK362.out)
       have n2_ := Aside0.mk (below_drew1 HB.out)
       clear HO_363001
       clear BK362
       clear HB
       have HO_363001 := n0_
       have BK362 := n1_
       have HB := n2_
       clear n0_ n1_ n2_
       refine start_ (n := 11) (S := fun w' => w'.cell? ⟨gb362, 0, none⟩ = some (.bool t358) ∧ w'.cell? ⟨gb362, 1, none⟩ = some (.slice Ao16 t359.length co16)) (ds := []) #[false, false, false, false, false, false, false, false, false, false, false] (by kernel_rfl) rfl rfl ⟨(blk_cell BK362.out 0).trans rfl, (blk_cell BK362.out 1).trans rfl⟩ (fun hHeld => ?_); refine with_tabW turnstonelaw02_MuldivCarries.tab9 turnstonelaw02_MuldivCarries.bits9 (fun HT_ HW_ => ?_)
       generalize wc.drew = w28 at HO_363001 BK362 HB hHeld ⊢
       refine pure_ (i := 0) (N := some 49) (v := ?_) (a' := ?_) #[true, false, false, false, false, false, false, false, false, false, false] rfl rfl (any_of HT_.out (by kernel_rfl)) (fun _ _ _ h => h) (Or.inl ⟨by rfl, ?_⟩) ?_ ?_
       rotate_left
       ·intro w'
        go_simp
        with_reducible rfl
       rotate_left
       ·simp only [Act.put, List.setIfInBounds_toArray, List.set_cons_zero, List.set_cons_succ, i64_w, i32_w]
        rfl
       refine pure_ (i := 1) (N := some 50) (v := ?_) (a' := ?_) #[true, true, false, false, false, false, false, false, false, false, false] rfl rfl (any_of HT_.out (by kernel_rfl)) (fun _ _ _ h => h) (Or.inl ⟨by rfl, ?_⟩) ?_ ?_
       rotate_left
       ·intro w'
        go_simp
        with_reducible rfl
       rotate_left
       ·simp only [Act.put, List.setIfInBounds_toArray, List.set_cons_zero, List.set_cons_succ, i64_w, i32_w]
        rfl
       refine pure_ (i := 3) (N := some 52) (v := ?_) (a' := ?_) #[true, true, false, true, false, false, false, false, false, false, false] rfl rfl (any_of HT_.out (by kernel_rfl)) (fun _ _ _ h => h) (Or.inl ⟨by rfl, ?_⟩) ?_ ?_
       rotate_left
       ·intro w'
        go_simp
        with_reducible rfl
       rotate_left
       ·simp only [Act.put, List.setIfInBounds_toArray, List.set_cons_zero, List.set_cons_succ, i64_w, i32_w]
        rfl
       refine pure_ (i := 4) (N := some 53) (v := ?_) (a' := ?_) #[true, true, false, true, true, false, false, false, false, false, false] rfl rfl (any_of HT_.out (by kernel_rfl)) (fun _ _ _ h => h) (Or.inl ⟨by rfl, ?_⟩) ?_ ?_
       rotate_left
       ·intro w'
        go_simp
        with_reducible rfl
       rotate_left
       ·simp only [Act.put, List.setIfInBounds_toArray, List.set_cons_zero, List.set_cons_succ, i64_w, i32_w]
        rfl
       refine pure_ (i := 6) (N := some 55) (v := ?_) (a' := ?_) #[true, true, false, true, true, false, true, false, false, false, false] rfl rfl (any_of HT_.out (by kernel_rfl)) (fun _ _ _ h => h) (Or.inl ⟨by rfl, ?_⟩) ?_ ?_
       rotate_left
       ·intro w'
        go_simp
        with_reducible rfl
       rotate_left
       ·simp only [Act.put, List.setIfInBounds_toArray, List.set_cons_zero, List.set_cons_succ, i64_w, i32_w]
        rfl
       refine take_ (i := 2) (N := some 51) (v := ?_) (a' := ?_) #[true, true, true, true, true, false, true, false, false, false, false] rfl rfl (take_ofW HT_.out HW_.out (by kernel_rfl)) (fun _ _ _ h => h) (Or.inl ⟨by rfl, ?_⟩) hHeld ?_ ?_
       rotate_left
       ·rintro w' ⟨s0, s1⟩
        go_simp
        with_reducible rfl
       rotate_left
       ·simp only [Act.put, List.setIfInBounds_toArray, List.set_cons_zero, List.set_cons_succ, i64_w, i32_w]
        rfl
       refine one_ (i := 5) (N := some 54) #[true, true, true, true, true, true, true, false, false, false, false] rfl rfl (one_of HT_.out (by kernel_rfl)) (by decide) (fun K hK => ?_)
       refine goes_ Try.func24 (by kernel_rfl) rfl #[.int .u64 t355] (by rfl) rfl rfl argt ?_
       with_reducible refine (turnstoneref01_U.calls kj10 t355 t364 t365 _ A25.out).mono ?_
       rintro e w29 ⟨v366, rfl, ho0, hb⟩
       refine ⟨_, rfl, ?_⟩
       have n0_ := Aside0.mk (Kd.V_elder' (vt HO_363001) (Kd.R_base ho0) hb)
       have n1_ := Aside0.mk (Kd.R_lower ho0 (below_size (belt HB)))
       have n2_ := blkb BK362 hb
       have n3_ := belb HB hb
       clear HO_363001
       clear BK362
       clear HB
       have HO_363001 := n0_
       have HO367 := n1_
       have BK362 := n2_
       have HB := n3_
       clear n0_ n1_ n2_ n3_
       (try clear hb)
       (try clear hb2)
       (try clear hk)
       (try clear hi)
       (try clear ho0)
       refine hK.out _ _ ⟨(blk_cell BK362.out 0).trans rfl, (blk_cell BK362.out 1).trans rfl⟩ (fun hHeld => ?_)
       clear hK K
       refine norm_ (a' := ?_) ?_ ?_
       rotate_left
       ·show Act.put _ (some 54) _ = _
        simp only [Act.put, List.setIfInBounds_toArray, List.set_cons_zero, List.set_cons_succ, i64_w, i32_w]
        rfl
       refine one_ (i := 7) (N := some 56) #[true, true, true, true, true, true, true, true, false, false, false] rfl rfl (one_of HT_.out (by kernel_rfl)) (by decide) (fun K hK => ?_)
       refine goes_ Try.func24 (by kernel_rfl) rfl #[.int .u64 t356] (by rfl) rfl rfl argt ?_
       with_reducible refine (turnstoneref01_U.calls kj10 t356 t368 t369 _ A26.out).mono ?_
       rintro e w30 ⟨v370, rfl, ho0, hb⟩
       refine ⟨_, rfl, ?_⟩
       have n0_ := Aside0.mk (Kd.V_elder' (vt HO_363001) (Kd.R_base ho0) hb)
       have n1_ := Aside0.mk (Kd.R_elder' (rt HO367) (Kd.R_base ho0) hb)
       have n2_ := Aside0.mk (Kd.R_lower (Kd.R_new' ho0 (Kd.R_lt (rt HO367))) (below_size (belt HB)))
       have n3_ := blkb BK362 hb
       have n4_ := belb HB hb
       clear HO_363001
       clear HO367
       clear BK362
       clear HB
       have HO_363001 := n0_
       have HO367 := n1_
       have HO371 := n2_
       have BK362 := n3_
       have HB := n4_
       clear n0_ n1_ n2_ n3_ n4_
       (try clear hb)
       (try clear hb2)
       (try clear hk)
       (try clear hi)
       (try clear ho0)
       obtain ⟨Ao31, co31, eo31⟩ := Kd.R_slice HO367.out
       (first | subst eo31 | (injection eo31 with f1_ f2_ f3_; have f4_ := f1_.symm; have f5_ := f3_.symm; clear f1_ f2_ f3_; subst f4_; subst f5_))
       obtain ⟨Ao32, co32, eo32⟩ := Kd.R_slice HO371.out
       (first | subst eo32 | (injection eo32 with f1_ f2_ f3_; have f4_ := f1_.symm; have f5_ := f3_.symm; clear f1_ f2_ f3_; subst f4_; subst f5_))
       refine hK.out _ _ ⟨(blk_cell BK362.out 0).trans rfl, (blk_cell BK362.out 1).trans rfl⟩ (fun hHeld => ?_)
       clear hK K
       refine norm_ (a' := ?_) ?_ ?_
       rotate_left
       ·show Act.put _ (some 56) _ = _
        simp only [Act.put, List.setIfInBounds_toArray, List.set_cons_zero, List.set_cons_succ, i64_w, i32_w]
        rfl
       refine one_ (i := 8) (N := some 57) #[true, true, true, true, true, true, true, true, true, false, false] rfl rfl (one_of HT_.out (by kernel_rfl)) (by decide) (fun K hK => ?_)
       refine goes_ Try.func37 (by kernel_rfl) rfl #[.agg #[.bool t358, .slice Ao16 t359.length co16], .int .u64 a1, .agg #[.bool t364, .slice Ao31 t365.length co31], .agg #[.bool t368, .slice Ao32 t369.length co32]] (by rfl) rfl rfl argt ?_
       with_reducible refine (turnstoneref02_Is.calls kj10 t358 _ _ t359 a1 t364 _ _ t365 t368 _ _ t369 t372 _ ?side1 ?side2 ?side3 ?side4 ?side5 ?side6 A27.out).mono ?_
       (case side1 => repeat (first | exact (Kd.V_reads' HO_363001.out).2.2 | (with_reducible refine Kd.C_alloc ?_ _) | (with_reducible refine Kd.C_drewN ?_ _) | (with_reducible refine Kd.C_drew ?_)))
       (case side2 => exact (Kd.V_reads' HO_363001.out).2.1)
       (case side3 => repeat (first | exact (Kd.R_reads' HO367.out).2.2 | (with_reducible refine Kd.C_alloc ?_ _) | (with_reducible refine Kd.C_drewN ?_ _) | (with_reducible refine Kd.C_drew ?_)))
       (case side4 => exact (Kd.R_reads' HO367.out).2.1)
       (case side5 => repeat (first | exact (Kd.R_reads' HO371.out).2.2 | (with_reducible refine Kd.C_alloc ?_ _) | (with_reducible refine Kd.C_drewN ?_ _) | (with_reducible refine Kd.C_drew ?_)))
       (case side6 => exact (Kd.R_reads' HO371.out).2.1)
       rintro e w33 ⟨rfl, hb⟩
       refine ⟨_, rfl, ?_⟩
       have n0_ := vb HO_363001 hb
       have n1_ := rb HO367 hb
       have n2_ := rb HO371 hb
       have n3_ := blkb BK362 hb
       have n4_ := belb HB hb
       clear HO_363001
       clear HO367
       clear HO371
       clear BK362
       clear HB
       have HO_363001 := n0_
       have HO367 := n1_
       have HO371 := n2_
       have BK362 := n3_
       have HB := n4_
       clear n0_ n1_ n2_ n3_ n4_
       (try clear hb)
       (try clear hb2)
       (try clear hk)
       (try clear hi)
       refine hK.out _ _ ⟨(blk_cell BK362.out 0).trans rfl, (blk_cell BK362.out 1).trans rfl⟩ (fun hHeld => ?_)
       clear hK K
       refine norm_ (a' := ?_) ?_ ?_
       rotate_left
       ·show Act.put _ (some 57) _ = _
        simp only [Act.put, List.setIfInBounds_toArray, List.set_cons_zero, List.set_cons_succ, i64_w, i32_w]
        rfl
       refine pure_ (i := 9) (N := some 58) (v := ?_) (a' := ?_) #[true, true, true, true, true, true, true, true, true, true, false] rfl rfl (any_of HT_.out (by kernel_rfl)) (fun _ _ _ h => h) (Or.inl ⟨by rfl, ?_⟩) ?_ ?_
       rotate_left
       ·intro w'
        go_simp
        with_reducible rfl
       rotate_left
       ·simp only [Act.put, List.setIfInBounds_toArray, List.set_cons_zero, List.set_cons_succ, i64_w, i32_w]
        rfl
       refine pure_ (i := 10) (N := some 8) (v := ?_) (a' := ?_) #[true, true, true, true, true, true, true, true, true, true, true] rfl rfl (any_of HT_.out (by kernel_rfl)) (fun _ _ _ h => h) (Or.inl ⟨by rfl, ?_⟩) ?_ ?_
       rotate_left
       ·intro w'
        go_simp
        with_reducible rfl
       rotate_left
       ·simp only [Act.put, List.setIfInBounds_toArray, List.set_cons_zero, List.set_cons_succ, i64_w, i32_w]
        rfl
       refine done_ (done_of HT_.out (by kernel_rfl)) ?_
       try go_wp2
       go_ret
       exact ⟨by first | rfl | (simp [errW_none, errW_some] <;> rfl) | (simp [*, errW_none, errW_some] <;> rfl), by repeat (first | (with_reducible first | exact HB.out | apply below_alloc | apply pw_below_drewN | apply below_drew1 | refine below_set ?_ GE362.out) | exact HB.out)⟩
      ·replace c24 := Bool.eq_false_iff.mpr c24
       subst c24
       have H1 : (none) = some r := by rw [if_neg (show ¬ (false = true) by decide)] at H; exact H
       clear H
       have H := H1
       clear H1
       exact absurd H (by simp)
 ·replace c6 := Bool.eq_false_iff.mpr c6
  subst c6
  have H1 : (none) = some r := by rw [if_neg (show ¬ (false = true) by decide)] at H; exact H
  clear H
  have H := H1
  clear H1
  exact absurd H (by simp)

/-- THE ONE PURE STATEMENT of turnstonelaw02_MuldivCarries. -/
def turnstonelaw02_MuldivCarries.Pure : Prop := ∀ (a0 : Int) (a1 : Int) (a2 : Int) (l3 : List Int), (Lit.int .u64 a0).wf = true → (Lit.int .u64 a1).wf = true → (Lit.int .u64 a2).wf = true → l3.length ≤ maxLen → l3.length * 8 ≤ 140737488351232 → (∀ x ∈ l3, (Lit.int .u64 x).wf = true) → ∃ k, turnstonelaw02_MuldivCarries.f k a0 a1 a2 l3 = some true
theorem turnstonelaw02_MuldivCarries.walk (P : turnstonelaw02_MuldivCarries.Pure) (a0 : Int) (a1 : Int) (a2 : Int) (A3 : Option Addr) (c3 : Nat) (l3 : List Int) (w : World) (w0 : (Lit.int .u64 a0).wf = true) (w1 : (Lit.int .u64 a1).wf = true) (w2 : (Lit.int .u64 a2).wf = true) (hr3 : Kd.C (Kd.int .u64) w A3 l3.length l3) (hc3 : l3.length ≤ c3) (hm3 : l3.length ≤ maxLen) (y3 : l3.length * 8 ≤ 140737488351232) (hw3 : ∀ x ∈ l3, (Lit.int .u64 x).wf = true) :
  Calls Try.prog 9 #[.int .u64 a0, .int .u64 a1, .int .u64 a2, .slice A3 l3.length c3] w fun e w' => e = .returned (.bool true) ∧ Below w.heap.size w w' := by
 obtain ⟨k, h⟩ := P a0 a1 a2 l3 w0 w1 w2 hm3 y3 hw3
 refine (turnstonelaw02_MuldivCarries.calls k a0 a1 a2 _ _ l3 true w hr3 hc3 h).mono ?_
 rintro e w' ⟨rfl, hd⟩
 exact ⟨rfl, hd⟩

/-! ### muldiv_Floor: function 39 -/
def muldiv_Floor.f (k : Nat) (a0_0 : Int) (a0_1 : Int) (a1 : Int) (a2 : Int) : Option (Int × Int × Bool) := if a1 > 9223372036854775807 then (some (0, 0, false)) else ((wide_Int_Mul.f k a0_0 a0_1 (wrap64 (a1))).bind fun bt375 => (if bt375.2.2 = true then ((wide_Int_Div.f k bt375.1 bt375.2.1 a2).bind fun bt379 => (some (bt379.1, bt379.2.1, bt379.2.2.2))) else (some (0, 0, false))))
theorem muldiv_Floor.mono : ∀ a0 a1 a2 a3 k, LeO (muldiv_Floor.f k a0 a1 a2 a3) (muldiv_Floor.f (k + 1) a0 a1 a2 a3) := by
 intro a0 a1 a2 a3 k
 unfold muldiv_Floor.f
 repeat' first
   | (with_reducible exact wide_Int_Div.mono _ _ _ _)
   | (with_reducible exact wide_Int_Mul.mono _ _ _ _)
   | (with_reducible exact LeO.refl _)
   | (with_reducible exact LeO.none _)
   | (with_reducible refine LeO.ite ?_ ?_)
   | (with_reducible refine LeO.bind ?_ (fun _ => ?_))
   | exact wide_Int_Div.mono _ _ _ _
   | exact wide_Int_Mul.mono _ _ _ _
   | exact LeO.none _
   | refine LeO.ite ?_ ?_
   | refine LeO.bind ?_ (fun _ => ?_)
set_option maxHeartbeats 8000000 in
set_option maxRecDepth 100000 in
theorem muldiv_Floor.calls (k : Nat) (a0_0 : Int) (a0_1 : Int) (a1 : Int) (a2 : Int) (r1 : Int) (r2 : Int) (r3 : Bool) (w : World) (h : muldiv_Floor.f k a0_0 a0_1 a1 a2 = some (r1, r2, r3)) :
  Calls Try.prog 39 #[.agg #[.int .i64 a0_0, .int .u64 a0_1], .int .u64 a1, .int .u64 a2] w fun e w' => e = .returned (.tuple #[.agg #[.int .i64 r1, .int .u64 r2], .bool r3]) ∧ Below w.heap.size w w' := by
 have hu59 := Try.underlying59
 have HB := Aside0.mk (Below.refl w.heap.size w)
 have H : (if a1 > 9223372036854775807 then (some (0, 0, false)) else ((wide_Int_Mul.f k a0_0 a0_1 (wrap64 (a1))).bind fun bt375 => (if bt375.2.2 = true then ((wide_Int_Div.f k bt375.1 bt375.2.1 a2).bind fun bt379 => (some (bt379.1, bt379.2.1, bt379.2.2.2))) else (some (0, 0, false))))) = some (r1, r2, r3) := h
 clear h
 by_cases c4 : a1 > 9223372036854775807
 ·rw [if_pos c4] at H
  have c4b0 : decide (9223372036854775807 < a1) = true := decide_eq_true c4
  clear c4
  simp only [Option.some.injEq, Prod.mk.injEq] at H
  obtain ⟨rfl, rfl, rfl⟩ := H
  go_enter Try.func39, Try.ntmps39
  go_wp2_with (first | ((with_reducible refine gate_dst (N := 3) rfl ?_); refine box_event ?hg (N := 3) ?hd (cs := #[.int .i64 a0_0, .int .u64 a0_1]) (t := 59) ?hr ?_; (case hd => rfl); (case hg => rfl); (case hr => first | (go_simp; done) | (go_simp; rfl)); intro gb373 hg w5 hbox hb; have n0_ := belb HB hb; have n1_ := Aside0.mk (hbox); have n2_ := bels HB hg; have n3_ := bels HB hg; clear HB; have HB := n0_; have BK373 := n1_; have GW373 := n2_; have GE373 := n3_; clear n0_ n1_ n2_ n3_; clear hb hbox hg) | ((with_reducible refine gate_dst (N := 6) rfl ?_); refine box_event ?hg (N := 6) ?hd (cs := #[.int .i64 0, .int .u64 0]) (t := 59) ?hr ?_; (case hd => rfl); (case hg => rfl); (case hr => first | (go_simp; done) | (go_simp; rfl)); intro gb374 hg w6 hbox hb; have n0_ := blkb BK373 hb; have n1_ := belb HB hb; have n2_ := Aside0.mk (hbox); have n3_ := bels HB hg; have n4_ := bels HB hg; have n5_ := blkl BK373 hg; have n6_ := blkg BK373 hg; clear BK373; clear HB; have BK373 := n0_; have HB := n1_; have BK374 := n2_; have GW374 := n3_; have GE374 := n4_; have NB373_374 := n5_; have NB374_373 := n6_; clear n0_ n1_ n2_ n3_ n4_ n5_ n6_; clear hb hbox hg; have hnb7 := NB374_373.out; have hnc7 := NB373_374.out; have hcz8_0 : w6.cell? ⟨gb374, 0, none⟩ = some (.int .i64 0) := (blk_cell BK374.out 0).trans rfl; have hcz8_1 : w6.cell? ⟨gb374, 1, none⟩ = some (.int .u64 0) := (blk_cell BK374.out 1).trans rfl; have hfz8_0 := blk_frozen BK374.out 0; have hfz8_1 := blk_frozen BK374.out 1))
  refine bodyPost_ret (results_ct rfl _ _ gb374 59 #[.int .i64 0, .int .u64 0] (0, 0) _ rfl (by (with_reducible repeat (first | refine blk_drewN ?_ _ | refine blk_drew ?_ | refine blk_alloc ?_ _)); refine blk_put (cs := #[.int .i64 0, .int .u64 0]) ?_ 1 _ rfl; (with_reducible repeat (first | refine blk_drewN ?_ _ | refine blk_drew ?_ | refine blk_alloc ?_ _)); refine blk_put (cs := #[.int .i64 0, .int .u64 0]) ?_ 0 _ rfl; (with_reducible repeat (first | refine blk_drewN ?_ _ | refine blk_drew ?_ | refine blk_alloc ?_ _)); exact BK374.out) Try.underlying59 rfl (by kernel_rfl)) rfl ?_
  exact ⟨by first | rfl | (simp [errW_none, errW_some] <;> rfl) | (simp [*, errW_none, errW_some] <;> rfl), by repeat (first | (with_reducible first | exact HB.out | apply below_alloc | apply pw_below_drewN | apply below_drew1 | refine below_set ?_ GE373.out | refine below_set ?_ GE374.out) | exact HB.out)⟩
 ·rw [if_neg c4] at H
  have c4b0 : decide (9223372036854775807 < a1) = false := decide_eq_false c4
  clear c4
  replace H := Option.bind_eq_some_iff.mp H
  obtain ⟨⟨t375, t376, t377⟩, A90, H⟩ := H
  replace H : (if t377 = true then ((wide_Int_Div.f k t375 t376 a2).bind fun bt379 => (some (bt379.1, bt379.2.1, bt379.2.2.2))) else (some (0, 0, false))) = some (r1, r2, r3) := H
  have A9 := Aside0.mk A90
  clear A90
  by_cases c10 : t377 = true
  ·subst c10
   have H1 : ((wide_Int_Div.f k t375 t376 a2).bind fun bt379 => (some (bt379.1, bt379.2.1, bt379.2.2.2))) = some (r1, r2, r3) := by rw [if_pos rfl] at H; exact H
   clear H
   have H := H1
   clear H1
   replace H := Option.bind_eq_some_iff.mp H
   obtain ⟨⟨t379, t380, t381, t382⟩, A110, H⟩ := H
   replace H : (some (t379, t380, t382)) = some (r1, r2, r3) := H
   have A11 := Aside0.mk A110
   clear A110
   simp only [Option.some.injEq, Prod.mk.injEq] at H
   obtain ⟨rfl, rfl, rfl⟩ := H
   go_enter Try.func39, Try.ntmps39
   go_wp2_with (first | ((with_reducible refine gate_dst (N := 3) rfl ?_); refine box_event ?hg (N := 3) ?hd (cs := #[.int .i64 a0_0, .int .u64 a0_1]) (t := 59) ?hr ?_; (case hd => rfl); (case hg => rfl); (case hr => first | (go_simp; done) | (go_simp; rfl)); intro gb373 hg w12 hbox hb; have n0_ := belb HB hb; have n1_ := Aside0.mk (hbox); have n2_ := bels HB hg; have n3_ := bels HB hg; clear HB; have HB := n0_; have BK373 := n1_; have GW373 := n2_; have GE373 := n3_; clear n0_ n1_ n2_ n3_; clear hb hbox hg) | ((with_reducible refine gate_dst (N := 6) rfl ?_); refine box_event ?hg (N := 6) ?hd (cs := #[.int .i64 0, .int .u64 0]) (t := 59) ?hr ?_; (case hd => rfl); (case hg => rfl); (case hr => first | (go_simp; done) | (go_simp; rfl)); intro gb374 hg w13 hbox hb; have n0_ := blkb BK373 hb; have n1_ := belb HB hb; have n2_ := Aside0.mk (hbox); have n3_ := bels HB hg; have n4_ := bels HB hg; have n5_ := blkl BK373 hg; have n6_ := blkg BK373 hg; clear BK373; clear HB; have BK373 := n0_; have HB := n1_; have BK374 := n2_; have GW374 := n3_; have GE374 := n4_; have NB373_374 := n5_; have NB374_373 := n6_; clear n0_ n1_ n2_ n3_ n4_ n5_ n6_; clear hb hbox hg; have hnb14 := NB373_374.out; have hnc14 := NB374_373.out; have hcz15_0 : w13.cell? ⟨gb373, 0, none⟩ = some (.int .i64 a0_0) := (blk_cell BK373.out 0).trans rfl; have hcz15_1 : w13.cell? ⟨gb373, 1, none⟩ = some (.int .u64 a0_1) := (blk_cell BK373.out 1).trans rfl; have hfz15_0 := blk_frozen BK373.out 0; have hfz15_1 := blk_frozen BK373.out 1) | ((with_reducible refine gate_callee (f := 69) rfl ?_); refine goesL_ (some 19) rfl rfl Try.func69 (by kernel_rfl) rfl #[.agg #[.int .i64 a0_0, .int .u64 a0_1], .int .i64 (wrap64 (a1))] rfl argt ?_; (with_reducible refine (wide_Int_Mul.calls k a0_0 a0_1 (wrap64 (a1)) t375 t376 true _ A9.out).mono ?_); rintro e w16 ⟨rfl, hb⟩; refine ⟨_, rfl, ?_⟩; have n0_ := blkb BK373 hb; have n1_ := blkb BK374 hb; have n2_ := belb HB hb; clear BK373; clear BK374; clear HB; have BK373 := n0_; have BK374 := n1_; have HB := n2_; clear n0_ n1_ n2_; (try clear hb); (try clear hb2); (try clear hk); (try clear hi)) | ((with_reducible refine gate_dst (N := 8) rfl ?_); refine box_event ?hg (N := 8) ?hd (cs := #[.int .i64 0, .int .u64 0]) (t := 59) ?hr ?_; (case hd => rfl); (case hg => rfl); (case hr => first | (go_simp; done) | (go_simp; rfl)); intro gb378 hg w17 hbox hb; have n0_ := blkb BK373 hb; have n1_ := blkb BK374 hb; have n2_ := belb HB hb; have n3_ := Aside0.mk (hbox); have n4_ := bels HB hg; have n5_ := bels HB hg; have n6_ := blkl BK373 hg; have n7_ := blkg BK373 hg; have n8_ := blkl BK374 hg; have n9_ := blkg BK374 hg; clear BK373; clear BK374; clear HB; have BK373 := n0_; have BK374 := n1_; have HB := n2_; have BK378 := n3_; have GW378 := n4_; have GE378 := n5_; have NB373_378 := n6_; have NB378_373 := n7_; have NB374_378 := n8_; have NB378_374 := n9_; clear n0_ n1_ n2_ n3_ n4_ n5_ n6_ n7_ n8_ n9_; clear hb hbox hg; have hnb18 := NB378_373.out; have hnc18 := NB373_378.out; have hnb19 := NB378_374.out; have hnc19 := NB374_378.out; have hcz20_0 : w17.cell? ⟨gb378, 0, none⟩ = some (.int .i64 0) := (blk_cell BK378.out 0).trans rfl; have hcz20_1 : w17.cell? ⟨gb378, 1, none⟩ = some (.int .u64 0) := (blk_cell BK378.out 1).trans rfl; have hfz20_0 := blk_frozen BK378.out 0; have hfz20_1 := blk_frozen BK378.out 1) | ((with_reducible refine gate_callee (f := 70) rfl ?_); refine goesL_ (some 28) rfl rfl Try.func70 (by kernel_rfl) rfl #[.agg #[.int .i64 t375, .int .u64 t376], .int .u64 a2] rfl argt ?_; (with_reducible refine (wide_Int_Div.calls k t375 t376 a2 t379 t380 t381 t382 _ A11.out).mono ?_); rintro e w21 ⟨rfl, hb⟩; refine ⟨_, rfl, ?_⟩; have n0_ := Aside0.mk (blk_below (g := gb373) (o := .cells #[.int .i64 a0_0, .int .u64 a0_1] 59 (0, 0)) (by (with_reducible repeat (first | refine blk_drewN ?_ _ | refine blk_drew ?_ | refine blk_alloc ?_ _)); refine blk_far ?_ NB373_378.out _; (with_reducible repeat (first | refine blk_drewN ?_ _ | refine blk_drew ?_ | refine blk_alloc ?_ _)); refine blk_far ?_ NB373_378.out _; (with_reducible repeat (first | refine blk_drewN ?_ _ | refine blk_drew ?_ | refine blk_alloc ?_ _)); exact BK373.out) hb); have n1_ := Aside0.mk (blk_below (g := gb374) (o := .cells #[.int .i64 0, .int .u64 0] 59 (0, 0)) (by (with_reducible repeat (first | refine blk_drewN ?_ _ | refine blk_drew ?_ | refine blk_alloc ?_ _)); refine blk_far ?_ NB374_378.out _; (with_reducible repeat (first | refine blk_drewN ?_ _ | refine blk_drew ?_ | refine blk_alloc ?_ _)); refine blk_far ?_ NB374_378.out _; (with_reducible repeat (first | refine blk_drewN ?_ _ | refine blk_drew ?_ | refine blk_alloc ?_ _)); exact BK374.out) hb); have n2_ := Aside0.mk (blk_below (g := gb378) (o := .cells #[.int .i64 t375, .int .u64 t376] 59 (0, 0)) (by (with_reducible repeat (first | refine blk_drewN ?_ _ | refine blk_drew ?_ | refine blk_alloc ?_ _)); refine blk_put (cs := #[.int .i64 t375, .int .u64 0]) ?_ 1 _ rfl; (with_reducible repeat (first | refine blk_drewN ?_ _ | refine blk_drew ?_ | refine blk_alloc ?_ _)); refine blk_put (cs := #[.int .i64 0, .int .u64 0]) ?_ 0 _ rfl; (with_reducible repeat (first | refine blk_drewN ?_ _ | refine blk_drew ?_ | refine blk_alloc ?_ _)); exact BK378.out) hb); have n3_ := belb HB hb; clear BK373; clear BK374; clear BK378; clear HB; have BK373 := n0_; have BK374 := n1_; have BK378 := n2_; have HB := n3_; clear n0_ n1_ n2_ n3_; (try clear hb); (try clear hb2); (try clear hk); (try clear hi)) | ((with_reducible refine gate_dst (N := 10) rfl ?_); refine box_event ?hg (N := 10) ?hd (cs := #[.int .i64 0, .int .u64 0]) (t := 59) ?hr ?_; (case hd => rfl); (case hg => rfl); (case hr => first | (go_simp; done) | (go_simp; rfl)); intro gb383 hg w22 hbox hb; have n0_ := blkb BK373 hb; have n1_ := blkb BK374 hb; have n2_ := blkb BK378 hb; have n3_ := belb HB hb; have n4_ := Aside0.mk (hbox); have n5_ := bels HB hg; have n6_ := bels HB hg; have n7_ := blkl BK373 hg; have n8_ := blkg BK373 hg; have n9_ := blkl BK374 hg; have n10_ := blkg BK374 hg; have n11_ := blkl BK378 hg; have n12_ := blkg BK378 hg; clear BK373; clear BK374; clear BK378; clear HB; have BK373 := n0_; have BK374 := n1_; have BK378 := n2_; have HB := n3_; have BK383 := n4_; have GW383 := n5_; have GE383 := n6_; have NB373_383 := n7_; have NB383_373 := n8_; have NB374_383 := n9_; have NB383_374 := n10_; have NB378_383 := n11_; have NB383_378 := n12_; clear n0_ n1_ n2_ n3_ n4_ n5_ n6_ n7_ n8_ n9_ n10_ n11_ n12_; clear hb hbox hg; have hnb23 := NB383_373.out; have hnc23 := NB373_383.out; have hnb24 := NB383_374.out; have hnc24 := NB374_383.out; have hnb25 := NB383_378.out; have hnc25 := NB378_383.out; have hcz26_0 : w22.cell? ⟨gb383, 0, none⟩ = some (.int .i64 0) := (blk_cell BK383.out 0).trans rfl; have hcz26_1 : w22.cell? ⟨gb383, 1, none⟩ = some (.int .u64 0) := (blk_cell BK383.out 1).trans rfl; have hfz26_0 := blk_frozen BK383.out 0; have hfz26_1 := blk_frozen BK383.out 1; have hcz27_0 : w22.cell? ⟨gb374, 0, none⟩ = some (.int .i64 0) := (blk_cell BK374.out 0).trans rfl; have hcz27_1 : w22.cell? ⟨gb374, 1, none⟩ = some (.int .u64 0) := (blk_cell BK374.out 1).trans rfl; have hfz27_0 := blk_frozen BK374.out 0; have hfz27_1 := blk_frozen BK374.out 1))
   refine bodyPost_ret (results_ct rfl _ _ gb374 59 #[.int .i64 t379, .int .u64 t380] (0, 0) _ rfl (by (with_reducible repeat (first | refine blk_drewN ?_ _ | refine blk_drew ?_ | refine blk_alloc ?_ _)); refine blk_put (cs := #[.int .i64 t379, .int .u64 0]) ?_ 1 _ rfl; (with_reducible repeat (first | refine blk_drewN ?_ _ | refine blk_drew ?_ | refine blk_alloc ?_ _)); refine blk_put (cs := #[.int .i64 0, .int .u64 0]) ?_ 0 _ rfl; (with_reducible repeat (first | refine blk_drewN ?_ _ | refine blk_drew ?_ | refine blk_alloc ?_ _)); refine blk_far ?_ NB374_383.out _; (with_reducible repeat (first | refine blk_drewN ?_ _ | refine blk_drew ?_ | refine blk_alloc ?_ _)); refine blk_far ?_ NB374_383.out _; (with_reducible repeat (first | refine blk_drewN ?_ _ | refine blk_drew ?_ | refine blk_alloc ?_ _)); exact BK374.out) Try.underlying59 rfl (by kernel_rfl)) rfl ?_
   exact ⟨by first | rfl | (simp [errW_none, errW_some] <;> rfl) | (simp [*, errW_none, errW_some] <;> rfl), by repeat (first | (with_reducible first | exact HB.out | apply below_alloc | apply pw_below_drewN | apply below_drew1 | refine below_set ?_ GE373.out | refine below_set ?_ GE374.out | refine below_set ?_ GE378.out | refine below_set ?_ GE383.out) | exact HB.out)⟩
  ·replace c10 := Bool.eq_false_iff.mpr c10
   subst c10
   have H1 : (some (0, 0, false)) = some (r1, r2, r3) := by rw [if_neg (show ¬ (false = true) by decide)] at H; exact H
   clear H
   have H := H1
   clear H1
   simp only [Option.some.injEq, Prod.mk.injEq] at H
   obtain ⟨rfl, rfl, rfl⟩ := H
   go_enter Try.func39, Try.ntmps39
   go_wp2_with (first | ((with_reducible refine gate_dst (N := 3) rfl ?_); refine box_event ?hg (N := 3) ?hd (cs := #[.int .i64 a0_0, .int .u64 a0_1]) (t := 59) ?hr ?_; (case hd => rfl); (case hg => rfl); (case hr => first | (go_simp; done) | (go_simp; rfl)); intro gb373 hg w28 hbox hb; have n0_ := belb HB hb; have n1_ := Aside0.mk (hbox); have n2_ := bels HB hg; have n3_ := bels HB hg; clear HB; have HB := n0_; have BK373 := n1_; have GW373 := n2_; have GE373 := n3_; clear n0_ n1_ n2_ n3_; clear hb hbox hg) | ((with_reducible refine gate_dst (N := 6) rfl ?_); refine box_event ?hg (N := 6) ?hd (cs := #[.int .i64 0, .int .u64 0]) (t := 59) ?hr ?_; (case hd => rfl); (case hg => rfl); (case hr => first | (go_simp; done) | (go_simp; rfl)); intro gb374 hg w29 hbox hb; have n0_ := blkb BK373 hb; have n1_ := belb HB hb; have n2_ := Aside0.mk (hbox); have n3_ := bels HB hg; have n4_ := bels HB hg; have n5_ := blkl BK373 hg; have n6_ := blkg BK373 hg; clear BK373; clear HB; have BK373 := n0_; have HB := n1_; have BK374 := n2_; have GW374 := n3_; have GE374 := n4_; have NB373_374 := n5_; have NB374_373 := n6_; clear n0_ n1_ n2_ n3_ n4_ n5_ n6_; clear hb hbox hg; have hnb30 := NB373_374.out; have hnc30 := NB374_373.out; have hcz31_0 : w29.cell? ⟨gb373, 0, none⟩ = some (.int .i64 a0_0) := (blk_cell BK373.out 0).trans rfl; have hcz31_1 : w29.cell? ⟨gb373, 1, none⟩ = some (.int .u64 a0_1) := (blk_cell BK373.out 1).trans rfl; have hfz31_0 := blk_frozen BK373.out 0; have hfz31_1 := blk_frozen BK373.out 1) | ((with_reducible refine gate_callee (f := 69) rfl ?_); refine goesL_ (some 19) rfl rfl Try.func69 (by kernel_rfl) rfl #[.agg #[.int .i64 a0_0, .int .u64 a0_1], .int .i64 (wrap64 (a1))] rfl argt ?_; (with_reducible refine (wide_Int_Mul.calls k a0_0 a0_1 (wrap64 (a1)) t375 t376 false _ A9.out).mono ?_); rintro e w32 ⟨rfl, hb⟩; refine ⟨_, rfl, ?_⟩; have n0_ := blkb BK373 hb; have n1_ := blkb BK374 hb; have n2_ := belb HB hb; clear BK373; clear BK374; clear HB; have BK373 := n0_; have BK374 := n1_; have HB := n2_; clear n0_ n1_ n2_; (try clear hb); (try clear hb2); (try clear hk); (try clear hi)) | ((with_reducible refine gate_dst (N := 8) rfl ?_); refine box_event ?hg (N := 8) ?hd (cs := #[.int .i64 0, .int .u64 0]) (t := 59) ?hr ?_; (case hd => rfl); (case hg => rfl); (case hr => first | (go_simp; done) | (go_simp; rfl)); intro gb378 hg w33 hbox hb; have n0_ := blkb BK373 hb; have n1_ := blkb BK374 hb; have n2_ := belb HB hb; have n3_ := Aside0.mk (hbox); have n4_ := bels HB hg; have n5_ := bels HB hg; have n6_ := blkl BK373 hg; have n7_ := blkg BK373 hg; have n8_ := blkl BK374 hg; have n9_ := blkg BK374 hg; clear BK373; clear BK374; clear HB; have BK373 := n0_; have BK374 := n1_; have HB := n2_; have BK378 := n3_; have GW378 := n4_; have GE378 := n5_; have NB373_378 := n6_; have NB378_373 := n7_; have NB374_378 := n8_; have NB378_374 := n9_; clear n0_ n1_ n2_ n3_ n4_ n5_ n6_ n7_ n8_ n9_; clear hb hbox hg; have hnb34 := NB378_373.out; have hnc34 := NB373_378.out; have hnb35 := NB378_374.out; have hnc35 := NB374_378.out; have hcz36_0 : w33.cell? ⟨gb378, 0, none⟩ = some (.int .i64 0) := (blk_cell BK378.out 0).trans rfl; have hcz36_1 : w33.cell? ⟨gb378, 1, none⟩ = some (.int .u64 0) := (blk_cell BK378.out 1).trans rfl; have hfz36_0 := blk_frozen BK378.out 0; have hfz36_1 := blk_frozen BK378.out 1; have hcz37_0 : w33.cell? ⟨gb374, 0, none⟩ = some (.int .i64 0) := (blk_cell BK374.out 0).trans rfl; have hcz37_1 : w33.cell? ⟨gb374, 1, none⟩ = some (.int .u64 0) := (blk_cell BK374.out 1).trans rfl; have hfz37_0 := blk_frozen BK374.out 0; have hfz37_1 := blk_frozen BK374.out 1))
   refine bodyPost_ret (results_ct rfl _ _ gb374 59 #[.int .i64 0, .int .u64 0] (0, 0) _ rfl (by (with_reducible repeat (first | refine blk_drewN ?_ _ | refine blk_drew ?_ | refine blk_alloc ?_ _)); refine blk_put (cs := #[.int .i64 0, .int .u64 0]) ?_ 1 _ rfl; (with_reducible repeat (first | refine blk_drewN ?_ _ | refine blk_drew ?_ | refine blk_alloc ?_ _)); refine blk_put (cs := #[.int .i64 0, .int .u64 0]) ?_ 0 _ rfl; (with_reducible repeat (first | refine blk_drewN ?_ _ | refine blk_drew ?_ | refine blk_alloc ?_ _)); refine blk_far ?_ NB374_378.out _; (with_reducible repeat (first | refine blk_drewN ?_ _ | refine blk_drew ?_ | refine blk_alloc ?_ _)); refine blk_far ?_ NB374_378.out _; (with_reducible repeat (first | refine blk_drewN ?_ _ | refine blk_drew ?_ | refine blk_alloc ?_ _)); exact BK374.out) Try.underlying59 rfl (by kernel_rfl)) rfl ?_
   exact ⟨by first | rfl | (simp [errW_none, errW_some] <;> rfl) | (simp [*, errW_none, errW_some] <;> rfl), by repeat (first | (with_reducible first | exact HB.out | apply below_alloc | apply pw_below_drewN | apply below_drew1 | refine below_set ?_ GE373.out | refine below_set ?_ GE374.out | refine below_set ?_ GE378.out) | exact HB.out)⟩

end Go.Proofs.Ytimgiiceipjpaaa.Print
