/- What each Go function that is named below answers, as a Lean function, and that its walk comes to just that: for whatever arguments that function gives an answer for. Written by a program of this session (wip/mkpr.py, pr.sh). -/
import Derived.Test.YtimgiiceipjpaaaPrint0
import Derived.Test.YtimgiiceipjpaaaPrint24
import Derived.Test.YtimgiiceipjpaaaPrint25
import Derived.Test.YtimgiiceipjpaaaPrint26
namespace Go.Proofs.Ytimgiiceipjpaaa.Print
open Go.RowKit Go.Proofs.YtimgiiceipjpaaaW.PrintWords Go.Proofs.YtimgiiceipjpaaaW.PrintLast Go.Proofs.YtimgiiceipjpaaaW.PrintMore
attribute [local go_sem] max2_int min2_int max_two min_two max_three min_three max_four min_four   -- for this text's walks alone
open Go.Proofs.Ytimgiiceipjpaaa.Bits Go.Proofs.Ytimgiiceipjpaaa.Short
attribute [local go_sem] add64_run0 sub64_run0 add64_run sub64_run
set_option linter.unusedVariables false
set_option linter.unusedSimpArgs false

/-! ### turnstoneref03_Since: function 21 -/
def turnstoneref03_Since.f (k : Nat) (a0 : Int) (a1 : Int) : Option (Bool × List Int) := (turnstoneref01_U.f k a0).bind fun bt480 => ((turnstoneref01_U.f k a1).bind fun bt484 => ((turnstoneref01_Sub.f k bt480.1 bt480.2 bt484.1 bt484.2).bind fun bt488 => ((turnstoneref01_Power.f k 63).bind fun bt493 => ((turnstoneref01_Cmp.f k bt488.1 bt488.2 bt493.1 bt493.2).bind fun t497 => (if t497 ≥ 0 then ((turnstoneref01_Power.f k 64).bind fun bt498 => ((turnstoneref01_Sub.f k bt488.1 bt488.2 bt498.1 bt498.2).bind fun bt502 => (some (bt502.1, bt502.2)))) else ((turnstoneref01_Power.f k 63).bind fun bt506 => ((turnstoneref01_Neg.f k bt506.1 bt506.2).bind fun bt510 => ((turnstoneref01_Cmp.f k bt488.1 bt488.2 bt510.1 bt510.2).bind fun t514 => (if t514 < 0 then ((turnstoneref01_Power.f k 64).bind fun bt515 => ((turnstoneref01_Add.f k bt488.1 bt488.2 bt515.1 bt515.2).bind fun bt519 => (some (bt519.1, bt519.2)))) else (some (bt488.1, bt488.2)))))))))))
theorem turnstoneref03_Since.mono : ∀ a0 a1 k, LeO (turnstoneref03_Since.f k a0 a1) (turnstoneref03_Since.f (k + 1) a0 a1) := by
 intro a0 a1 k
 unfold turnstoneref03_Since.f
 repeat' first
   | (with_reducible exact turnstoneref01_Add.mono _ _ _ _ _)
   | (with_reducible exact turnstoneref01_Cmp.mono _ _ _ _ _)
   | (with_reducible exact turnstoneref01_Neg.mono _ _ _)
   | (with_reducible exact turnstoneref01_Power.mono _ _)
   | (with_reducible exact turnstoneref01_Sub.mono _ _ _ _ _)
   | (with_reducible exact turnstoneref01_U.mono _ _)
   | (with_reducible exact LeO.refl _)
   | (with_reducible exact LeO.none _)
   | (with_reducible refine LeO.ite ?_ ?_)
   | (with_reducible refine LeO.bind ?_ (fun _ => ?_))
   | exact turnstoneref01_Add.mono _ _ _ _ _
   | exact turnstoneref01_Cmp.mono _ _ _ _ _
   | exact turnstoneref01_Neg.mono _ _ _
   | exact turnstoneref01_Power.mono _ _
   | exact turnstoneref01_Sub.mono _ _ _ _ _
   | exact turnstoneref01_U.mono _ _
   | exact LeO.none _
   | refine LeO.ite ?_ ?_
   | refine LeO.bind ?_ (fun _ => ?_)
set_option maxHeartbeats 8000000 in
set_option maxRecDepth 100000 in
theorem turnstoneref03_Since.calls (k : Nat) (a0 : Int) (a1 : Int) (r1 : Bool) (r2 : List Int) (w : World) (h : turnstoneref03_Since.f k a0 a1 = some (r1, r2)) :
  Calls Try.prog 21 #[.int .u64 a0, .int .u64 a1] w fun e w' => ∃ v1_ : Value, e = .returned (.agg #[.bool r1, v1_]) ∧ Kd.V (Kd.int .i64) 3 w' w.heap.size (fun k_ => (w.heap.size ≤ k_)) v1_ r2 ∧ Below w.heap.size w w' := by
 have hu28 := Try.underlying28
 have HB := Aside0.mk (Below.refl w.heap.size w)
 have H : ((turnstoneref01_U.f k a0).bind fun bt480 => ((turnstoneref01_U.f k a1).bind fun bt484 => ((turnstoneref01_Sub.f k bt480.1 bt480.2 bt484.1 bt484.2).bind fun bt488 => ((turnstoneref01_Power.f k 63).bind fun bt493 => ((turnstoneref01_Cmp.f k bt488.1 bt488.2 bt493.1 bt493.2).bind fun t497 => (if t497 ≥ 0 then ((turnstoneref01_Power.f k 64).bind fun bt498 => ((turnstoneref01_Sub.f k bt488.1 bt488.2 bt498.1 bt498.2).bind fun bt502 => (some (bt502.1, bt502.2)))) else ((turnstoneref01_Power.f k 63).bind fun bt506 => ((turnstoneref01_Neg.f k bt506.1 bt506.2).bind fun bt510 => ((turnstoneref01_Cmp.f k bt488.1 bt488.2 bt510.1 bt510.2).bind fun t514 => (if t514 < 0 then ((turnstoneref01_Power.f k 64).bind fun bt515 => ((turnstoneref01_Add.f k bt488.1 bt488.2 bt515.1 bt515.2).bind fun bt519 => (some (bt519.1, bt519.2)))) else (some (bt488.1, bt488.2)))))))))))) = some (r1, r2) := h
 clear h
 replace H := Option.bind_eq_some_iff.mp H
 obtain ⟨⟨t480, t481⟩, A30, H⟩ := H
 replace H : ((turnstoneref01_U.f k a1).bind fun bt484 => ((turnstoneref01_Sub.f k t480 t481 bt484.1 bt484.2).bind fun bt488 => ((turnstoneref01_Power.f k 63).bind fun bt493 => ((turnstoneref01_Cmp.f k bt488.1 bt488.2 bt493.1 bt493.2).bind fun t497 => (if t497 ≥ 0 then ((turnstoneref01_Power.f k 64).bind fun bt498 => ((turnstoneref01_Sub.f k bt488.1 bt488.2 bt498.1 bt498.2).bind fun bt502 => (some (bt502.1, bt502.2)))) else ((turnstoneref01_Power.f k 63).bind fun bt506 => ((turnstoneref01_Neg.f k bt506.1 bt506.2).bind fun bt510 => ((turnstoneref01_Cmp.f k bt488.1 bt488.2 bt510.1 bt510.2).bind fun t514 => (if t514 < 0 then ((turnstoneref01_Power.f k 64).bind fun bt515 => ((turnstoneref01_Add.f k bt488.1 bt488.2 bt515.1 bt515.2).bind fun bt519 => (some (bt519.1, bt519.2)))) else (some (bt488.1, bt488.2))))))))))) = some (r1, r2) := H
 have A3 := Aside0.mk A30
 clear A30
 replace H := Option.bind_eq_some_iff.mp H
 obtain ⟨⟨t484, t485⟩, A40, H⟩ := H
 replace H : ((turnstoneref01_Sub.f k t480 t481 t484 t485).bind fun bt488 => ((turnstoneref01_Power.f k 63).bind fun bt493 => ((turnstoneref01_Cmp.f k bt488.1 bt488.2 bt493.1 bt493.2).bind fun t497 => (if t497 ≥ 0 then ((turnstoneref01_Power.f k 64).bind fun bt498 => ((turnstoneref01_Sub.f k bt488.1 bt488.2 bt498.1 bt498.2).bind fun bt502 => (some (bt502.1, bt502.2)))) else ((turnstoneref01_Power.f k 63).bind fun bt506 => ((turnstoneref01_Neg.f k bt506.1 bt506.2).bind fun bt510 => ((turnstoneref01_Cmp.f k bt488.1 bt488.2 bt510.1 bt510.2).bind fun t514 => (if t514 < 0 then ((turnstoneref01_Power.f k 64).bind fun bt515 => ((turnstoneref01_Add.f k bt488.1 bt488.2 bt515.1 bt515.2).bind fun bt519 => (some (bt519.1, bt519.2)))) else (some (bt488.1, bt488.2)))))))))) = some (r1, r2) := H
 have A4 := Aside0.mk A40
 clear A40
 replace H := Option.bind_eq_some_iff.mp H
 obtain ⟨⟨t488, t489⟩, A50, H⟩ := H
 replace H : ((turnstoneref01_Power.f k 63).bind fun bt493 => ((turnstoneref01_Cmp.f k t488 t489 bt493.1 bt493.2).bind fun t497 => (if t497 ≥ 0 then ((turnstoneref01_Power.f k 64).bind fun bt498 => ((turnstoneref01_Sub.f k t488 t489 bt498.1 bt498.2).bind fun bt502 => (some (bt502.1, bt502.2)))) else ((turnstoneref01_Power.f k 63).bind fun bt506 => ((turnstoneref01_Neg.f k bt506.1 bt506.2).bind fun bt510 => ((turnstoneref01_Cmp.f k t488 t489 bt510.1 bt510.2).bind fun t514 => (if t514 < 0 then ((turnstoneref01_Power.f k 64).bind fun bt515 => ((turnstoneref01_Add.f k t488 t489 bt515.1 bt515.2).bind fun bt519 => (some (bt519.1, bt519.2)))) else (some (t488, t489))))))))) = some (r1, r2) := H
 have A5 := Aside0.mk A50
 clear A50
 replace H := Option.bind_eq_some_iff.mp H
 obtain ⟨⟨t493, t494⟩, A60, H⟩ := H
 replace H : ((turnstoneref01_Cmp.f k t488 t489 t493 t494).bind fun t497 => (if t497 ≥ 0 then ((turnstoneref01_Power.f k 64).bind fun bt498 => ((turnstoneref01_Sub.f k t488 t489 bt498.1 bt498.2).bind fun bt502 => (some (bt502.1, bt502.2)))) else ((turnstoneref01_Power.f k 63).bind fun bt506 => ((turnstoneref01_Neg.f k bt506.1 bt506.2).bind fun bt510 => ((turnstoneref01_Cmp.f k t488 t489 bt510.1 bt510.2).bind fun t514 => (if t514 < 0 then ((turnstoneref01_Power.f k 64).bind fun bt515 => ((turnstoneref01_Add.f k t488 t489 bt515.1 bt515.2).bind fun bt519 => (some (bt519.1, bt519.2)))) else (some (t488, t489)))))))) = some (r1, r2) := H
 have A6 := Aside0.mk A60
 clear A60
 replace H := Option.bind_eq_some_iff.mp H
 obtain ⟨t497, A70, H⟩ := H
 replace H : (if t497 ≥ 0 then ((turnstoneref01_Power.f k 64).bind fun bt498 => ((turnstoneref01_Sub.f k t488 t489 bt498.1 bt498.2).bind fun bt502 => (some (bt502.1, bt502.2)))) else ((turnstoneref01_Power.f k 63).bind fun bt506 => ((turnstoneref01_Neg.f k bt506.1 bt506.2).bind fun bt510 => ((turnstoneref01_Cmp.f k t488 t489 bt510.1 bt510.2).bind fun t514 => (if t514 < 0 then ((turnstoneref01_Power.f k 64).bind fun bt515 => ((turnstoneref01_Add.f k t488 t489 bt515.1 bt515.2).bind fun bt519 => (some (bt519.1, bt519.2)))) else (some (t488, t489))))))) = some (r1, r2) := H
 have A7 := Aside0.mk A70
 clear A70
 by_cases c8 : t497 ≥ 0
 ·rw [if_pos c8] at H
  have c8b0 : decide (0 ≤ t497) = true := decide_eq_true c8
  clear c8
  replace H := Option.bind_eq_some_iff.mp H
  obtain ⟨⟨t498, t499⟩, A90, H⟩ := H
  replace H : ((turnstoneref01_Sub.f k t488 t489 t498 t499).bind fun bt502 => (some (bt502.1, bt502.2))) = some (r1, r2) := H
  have A9 := Aside0.mk A90
  clear A90
  replace H := Option.bind_eq_some_iff.mp H
  obtain ⟨⟨t502, t503⟩, A100, H⟩ := H
  replace H : (some (t502, t503)) = some (r1, r2) := H
  have A10 := Aside0.mk A100
  clear A100
  simp only [Option.some.injEq, Prod.mk.injEq] at H
  obtain ⟨rfl, rfl⟩ := H
  go_enter Try.func21, Try.ntmps21
  try go_wp2_with (first | ((with_reducible refine gate_dst (N := 4) rfl ?_); refine box_event ?hg (N := 4) ?hd (cs := #[.bool false, .slice none 0 0]) (t := 28) ?hr ?_; (case hd => rfl); (case hg => rfl); (case hr => first | (go_simp; done) | (go_simp; rfl)); intro gb479 hg w11 hbox hb; have n0_ := belb HB hb; have n1_ := Aside0.mk (hbox); have n2_ := bels HB hg; have n3_ := bels HB hg; clear HB; have HB := n0_; have BK479 := n1_; have GW479 := n2_; have GE479 := n3_; clear n0_ n1_ n2_ n3_; clear hb hbox hg) | ((with_reducible refine gate_callee (f := 24) rfl ?_); refine goesL_ (some 7) rfl rfl Try.func24 (by kernel_rfl) rfl #[.int .u64 a0] rfl argt ?_; (with_reducible refine (turnstoneref01_U.calls k a0 t480 t481 _ A3.out).mono ?_); rintro e w12 ⟨v482, rfl, ho0, hb⟩; refine ⟨_, rfl, ?_⟩; have n0_ := Aside0.mk (Kd.R_lower (Kd.R_newM (M := fun k_ => (w.heap.size ≤ k_)) ho0 (below_size (belt HB)) (fun k_ h_ => h_)) (below_size (belt HB))); have n1_ := blkb BK479 hb; have n2_ := belb HB hb; clear BK479; clear HB; have HO483 := n0_; have BK479 := n1_; have HB := n2_; clear n0_ n1_ n2_; (try clear hb); (try clear hb2); (try clear hk); (try clear hi); (try clear ho0)) | ((with_reducible refine gate_callee (f := 24) rfl ?_); refine goesL_ (some 9) rfl rfl Try.func24 (by kernel_rfl) rfl #[.int .u64 a1] rfl argt ?_; (with_reducible refine (turnstoneref01_U.calls k a1 t484 t485 _ A4.out).mono ?_); rintro e w13 ⟨v486, rfl, ho0, hb⟩; refine ⟨_, rfl, ?_⟩; have n0_ := Aside0.mk (Kd.R_elder' (rt HO483) (Kd.R_base ho0) hb); have n1_ := Aside0.mk (Kd.R_lower (Kd.R_new' (Kd.R_newM (M := fun k_ => (w.heap.size ≤ k_)) ho0 (below_size (belt HB)) (fun k_ h_ => h_)) (Kd.R_lt (rt HO483))) (below_size (belt HB))); have n2_ := blkb BK479 hb; have n3_ := belb HB hb; clear HO483; clear BK479; clear HB; have HO483 := n0_; have HO487 := n1_; have BK479 := n2_; have HB := n3_; clear n0_ n1_ n2_ n3_; (try clear hb); (try clear hb2); (try clear hk); (try clear hi); (try clear ho0); obtain ⟨Ao14, co14, eo14⟩ := Kd.R_slice HO483.out; subst eo14; obtain ⟨Ao15, co15, eo15⟩ := Kd.R_slice HO487.out; subst eo15) | ((with_reducible refine gate_callee (f := 43) rfl ?_); refine goesL_ (some 10) rfl rfl Try.func43 (by kernel_rfl) rfl #[.agg #[.bool t480, .slice Ao14 t481.length co14], .agg #[.bool t484, .slice Ao15 t485.length co15]] rfl argt ?_; (with_reducible refine (turnstoneref01_Sub.calls k t480 _ _ t481 t484 (fun k_ => some k_ = (.slice Ao15 t485.length co15 : Value).ownBlock) _ _ t485 t488 t489 _ ?side1 ?side2 ?side3 A5.out).mono ?_); (case side1 => repeat (first | exact (Kd.R_reads' HO483.out).2.2 | (with_reducible refine Kd.C_alloc ?_ _) | (with_reducible refine Kd.C_drewN ?_ _) | (with_reducible refine Kd.C_drew ?_))); (case side2 => exact (Kd.R_reads' HO483.out).2.1); (case side3 => exact Kd.R_V (Kd.R_tight rfl (Kd.R_types (HO487.out) BK479.out (by decide)))); rintro e w16 ⟨v490, rfl, ho0, hb⟩; refine ⟨_, rfl, ?_⟩; have n0_ := rb HO483 hb; have n1_ := rb HO487 hb; have n2_ := Aside0.mk (Kd.V_lower (Kd.V_mono (ok' := fun k_ => (w.heap.size ≤ k_) ∧ some k_ ≠ (.slice Ao14 t481.length co14 : Value).ownBlock ∧ k_ ≠ gb479) ho0 (fun k_ hk_ => ⟨Or.elim hk_ (fun hs_ => ((Kd.R_types (HO487.out) BK479.out (by decide)).1 k_ hs_.symm).1.1.1) (fun hn_ => (Nat.le_trans (below_size (belt HB)) hn_)), Or.elim hk_ (fun hs_ => ((Kd.R_types (HO487.out) BK479.out (by decide)).1 k_ hs_.symm).1.2) (fun hn_ => (Kd.fresh' (Kd.R_lt (rt HO483)) k_ hn_)), Or.elim hk_ (fun hs_ => ((Kd.R_types (HO487.out) BK479.out (by decide)).1 k_ hs_.symm).2) (fun hn_ => (Kd.freshB (blkt BK479) k_ hn_))⟩)) (below_size (belt HB))); have n3_ := blkb BK479 hb; have n4_ := belb HB hb; clear HO483; clear HO487; clear BK479; clear HB; have HO483 := n0_; have HO487 := n1_; have HO491 := n2_; have BK479 := n3_; have HB := n4_; clear n0_ n1_ n2_ n3_ n4_; (try clear hb); (try clear hb2); (try clear hk); (try clear hi); (try clear ho0)) | ((with_reducible refine gate_dst (N := 5) rfl ?_); refine box_event ?hg (N := 5) ?hd (cs := #[.bool false, .slice none 0 0]) (t := 28) ?hr ?_; (case hd => rfl); (case hg => rfl); (case hr => first | (go_simp; done) | (go_simp; rfl)); intro gb492 hg w17 hbox hb; have n0_ := rb HO483 hb; have n1_ := rb HO487 hb; have n2_ := Aside0.mk (Kd.V_below (Kd.V_elderB (vt HO491) gb492 (Nat.le_of_eq hg.symm)) hb); have n3_ := blkb BK479 hb; have n4_ := belb HB hb; have n5_ := Aside0.mk (hbox); have n6_ := bels HB hg; have n7_ := bels HB hg; have n8_ := blkl BK479 hg; have n9_ := blkg BK479 hg; clear HO483; clear HO487; clear HO491; clear BK479; clear HB; have HO483 := n0_; have HO487 := n1_; have HO491 := n2_; have BK479 := n3_; have HB := n4_; have BK492 := n5_; have GW492 := n6_; have GE492 := n7_; have NB479_492 := n8_; have NB492_479 := n9_; clear n0_ n1_ n2_ n3_ n4_ n5_ n6_ n7_ n8_ n9_; clear hb hbox hg; have hnb18 := NB492_479.out; have hnc18 := NB479_492.out; have hcz19_0 : w17.cell? ⟨gb492, 0, none⟩ = some (.bool false) := (blk_cell BK492.out 0).trans rfl; have hcz19_1 : w17.cell? ⟨gb492, 1, none⟩ = some (.slice none 0 0) := (blk_cell BK492.out 1).trans rfl; have hfz19_0 := blk_frozen BK492.out 0; have hfz19_1 := blk_frozen BK492.out 1; obtain ⟨Ao20, co20, eo20⟩ := Kd.V_slice HO491.out; subst eo20))
  have n0_ : Aside0 (Kd.R (Kd.int .i64) 3 ((w17.setCell ⟨gb492, 0, none⟩ (.bool t488)).setCell ⟨gb492, 1, none⟩ (.slice Ao20 t489.length co20)) w.heap.size (fun k_ => (w.heap.size ≤ k_) ∧ some k_ ≠ (.slice Ao15 t485.length co15 : Value).ownBlock) (.slice Ao14 t481.length co14) t481) := ⟨by (with_reducible repeat (first | apply Kd.R_alloc | apply Kd.R_drewN | apply Kd.R_drew)); exact Kd.R_mono (Kd.R_far (p := ⟨gb492, 1, none⟩) (Kd.R_far (p := ⟨gb492, 0, none⟩) (Kd.R_types HO483.out BK492.out (by decide)) (fun _ hk => hk.2) (.bool t488)) (fun _ hk => hk.2) (.slice Ao20 t489.length co20)) (fun _ hk => ⟨hk.1.1.1, hk.1.2⟩)⟩
  have n1_ : Aside0 (Kd.R (Kd.int .i64) 3 ((w17.setCell ⟨gb492, 0, none⟩ (.bool t488)).setCell ⟨gb492, 1, none⟩ (.slice Ao20 t489.length co20)) w.heap.size (fun k_ => (w.heap.size ≤ k_) ∧ some k_ ≠ (.slice Ao14 t481.length co14 : Value).ownBlock) (.slice Ao15 t485.length co15) t485) := ⟨by (with_reducible repeat (first | apply Kd.R_alloc | apply Kd.R_drewN | apply Kd.R_drew)); exact Kd.R_mono (Kd.R_far (p := ⟨gb492, 1, none⟩) (Kd.R_far (p := ⟨gb492, 0, none⟩) (Kd.R_types HO487.out BK492.out (by decide)) (fun _ hk => hk.2) (.bool t488)) (fun _ hk => hk.2) (.slice Ao20 t489.length co20)) (fun _ hk => ⟨hk.1.1.1, hk.1.2⟩)⟩
  have n2_ : Aside0 (Kd.V (Kd.int .i64) 3 ((w17.setCell ⟨gb492, 0, none⟩ (.bool t488)).setCell ⟨gb492, 1, none⟩ (.slice Ao20 t489.length co20)) w.heap.size (fun k_ => (w.heap.size ≤ k_) ∧ some k_ ≠ (.slice Ao14 t481.length co14 : Value).ownBlock ∧ k_ ≠ gb479 ∧ k_ ≠ gb492) (.slice Ao20 t489.length co20) t489) := ⟨by (with_reducible repeat (first | apply Kd.V_alloc | apply Kd.V_drewN | apply Kd.V_drew)); exact Kd.V_mono (Kd.V_far (p := ⟨gb492, 1, none⟩) (Kd.V_far (p := ⟨gb492, 0, none⟩) (Kd.V_mono HO491.out (fun k_ hk => (⟨hk, hk.2⟩ : _ ∧ k_ ≠ gb492))) (fun _ hk => hk.2) (.bool t488)) (fun _ hk => hk.2) (.slice Ao20 t489.length co20)) (fun _ hk => ⟨hk.1.1.1, ⟨hk.1.1.2.1, ⟨hk.1.1.2.2, hk.1.2⟩⟩⟩)⟩
  have n3_ : Aside0 (((w17.setCell ⟨gb492, 0, none⟩ (.bool t488)).setCell ⟨gb492, 1, none⟩ (.slice Ao20 t489.length co20)).heap[gb479]? = some (.cells #[.bool false, .slice none 0 0] 28 (0, 0))) := ⟨by (with_reducible repeat (first | refine blk_drewN ?_ _ | refine blk_drew ?_ | refine blk_alloc ?_ _)); refine blk_far ?_ NB479_492.out _; (with_reducible repeat (first | refine blk_drewN ?_ _ | refine blk_drew ?_ | refine blk_alloc ?_ _)); refine blk_far ?_ NB479_492.out _; (with_reducible repeat (first | refine blk_drewN ?_ _ | refine blk_drew ?_ | refine blk_alloc ?_ _)); exact BK479.out⟩
  have n4_ : Aside0 (((w17.setCell ⟨gb492, 0, none⟩ (.bool t488)).setCell ⟨gb492, 1, none⟩ (.slice Ao20 t489.length co20)).heap[gb492]? = some (.cells #[.bool t488, .slice Ao20 t489.length co20] 28 (0, 0))) := ⟨by (with_reducible repeat (first | refine blk_drewN ?_ _ | refine blk_drew ?_ | refine blk_alloc ?_ _)); refine blk_put (cs := #[.bool t488, .slice none 0 0]) ?_ 1 _ rfl; (with_reducible repeat (first | refine blk_drewN ?_ _ | refine blk_drew ?_ | refine blk_alloc ?_ _)); refine blk_put (cs := #[.bool false, .slice none 0 0]) ?_ 0 _ rfl; (with_reducible repeat (first | refine blk_drewN ?_ _ | refine blk_drew ?_ | refine blk_alloc ?_ _)); exact BK492.out⟩
  have n5_ : Aside0 (Below w.heap.size w ((w17.setCell ⟨gb492, 0, none⟩ (.bool t488)).setCell ⟨gb492, 1, none⟩ (.slice Ao20 t489.length co20))) := ⟨by repeat (first | (with_reducible first | exact HB.out | apply below_alloc | apply pw_below_drewN | apply below_drew1 | refine below_set ?_ GE479.out | refine below_set ?_ GE492.out) | exact HB.out)⟩
  (try clear HO483)
  (try clear HO487)
  (try clear HO491)
  (try clear BK479)
  (try clear BK492)
  (try clear HB)
  generalize ((w17.setCell ⟨gb492, 0, none⟩ (.bool t488)).setCell ⟨gb492, 1, none⟩ (.slice Ao20 t489.length co20)) = w21 at n0_ n1_ n2_ n3_ n4_ n5_ ⊢
  have HO483 := n0_
  have HO487 := n1_
  have HO491 := n2_
  have BK479 := n3_
  have BK492 := n4_
  have HB := n5_
  clear n0_ n1_ n2_ n3_ n4_ n5_
  have n0_ := Aside0.mk (Kd.R_drew HO483.out)
  have n1_ := Aside0.mk (Kd.R_drew HO487.out)
  have n2_ := Aside0.mk (Kd.V_drew HO491.out)
  have n3_ := Aside0.mk (blk_drew BK479.out)
  have n4_ := Aside0.mk (blk_drew BK492.out)
  have n5_ := Aside0.mk (below_drew1 HB.out)
  clear HO483
  clear HO487
  clear HO491
  clear BK479
  clear BK492
  clear HB
  have HO483 := n0_
  have HO487 := n1_
  have HO491 := n2_
  have BK479 := n3_
  have BK492 := n4_
  have HB := n5_
  clear n0_ n1_ n2_ n3_ n4_ n5_
  refine start_ (n := 4) (S := fun w' => w'.cell? ⟨gb492, 0, none⟩ = some (.bool t488) ∧ w'.cell? ⟨gb492, 1, none⟩ = some (.slice Ao20 t489.length co20)) (ds := []) #[false, false, false, false] (by kernel_rfl) rfl rfl ⟨(blk_cell BK492.out 0).trans rfl, (blk_cell BK492.out 1).trans rfl⟩ (fun hHeld => ?_)
  generalize w21.drew = w22 at HO483 HO487 HO491 BK479 BK492 HB hHeld ⊢
  refine take_ (i := 0) (N := some 11) (v := ?_) (a' := ?_) #[true, false, false, false] rfl rfl (by kernel_rfl) (fun _ _ _ h => h) (Or.inl ⟨by rfl, ?_⟩) hHeld ?_ ?_
  rotate_left
  ·rintro w' ⟨s0, s1⟩
   go_simp
   with_reducible rfl
  rotate_left
  ·simp only [Act.put, List.setIfInBounds_toArray, List.set_cons_zero, List.set_cons_succ, i64_w, i32_w]
   rfl
  refine one_ (i := 1) (N := some 12) #[true, true, false, false] rfl rfl (by kernel_rfl) (by decide) (fun K hK => ?_)
  refine goes_ Try.func60 (by kernel_rfl) rfl #[.int .i64 63] (by rfl) rfl rfl argt ?_
  with_reducible refine (turnstoneref01_Power.calls k 63 t493 t494 _ A6.out).mono ?_
  rintro e w23 ⟨v495, rfl, ho0, hb⟩
  refine ⟨_, rfl, ?_⟩
  have n0_ := rb HO483 hb
  have n1_ := rb HO487 hb
  have n2_ := vb HO491 hb
  have n3_ := Aside0.mk (Kd.V_lower (Kd.V_mono (ok' := fun k_ => (w.heap.size ≤ k_) ∧ some k_ ≠ (.slice Ao14 t481.length co14 : Value).ownBlock ∧ some k_ ≠ (.slice Ao15 t485.length co15 : Value).ownBlock ∧ k_ ≠ gb479 ∧ k_ ≠ gb492) ho0 (fun k_ hk_ => ⟨(Nat.le_trans (below_size (belt HB)) hk_), (Kd.fresh' (Kd.R_lt (rt HO483)) k_ hk_), (Kd.fresh' (Kd.R_lt (rt HO487)) k_ hk_), (Kd.freshB (blkt BK479) k_ hk_), (Kd.freshB (blkt BK492) k_ hk_)⟩)) (below_size (belt HB)))
  have n4_ := blkb BK479 hb
  have n5_ := blkb BK492 hb
  have n6_ := belb HB hb
  clear HO483
  clear HO487
  clear HO491
  clear BK479
  clear BK492
  clear HB
  have HO483 := n0_
  have HO487 := n1_
  have HO491 := n2_
  have HO496 := n3_
  have BK479 := n4_
  have BK492 := n5_
  have HB := n6_
  clear n0_ n1_ n2_ n3_ n4_ n5_ n6_
  (try clear hb)
  (try clear hb2)
  (try clear hk)
  (try clear hi)
  (try clear ho0)
  obtain ⟨Ao24, co24, eo24⟩ := Kd.V_slice HO496.out
  (first | subst eo24 | (injection eo24 with f1_ f2_ f3_; have f4_ := f1_.symm; have f5_ := f3_.symm; clear f1_ f2_ f3_; subst f4_; subst f5_))
  refine hK.out _ _ ⟨(blk_cell BK492.out 0).trans rfl, (blk_cell BK492.out 1).trans rfl⟩ (fun hHeld => ?_)
  clear hK K
  refine norm_ (a' := ?_) ?_ ?_
  rotate_left
  ·show Act.put _ (some 12) _ = _
   simp only [Act.put, List.setIfInBounds_toArray, List.set_cons_zero, List.set_cons_succ, i64_w, i32_w]
   rfl
  refine one_ (i := 2) (N := some 13) #[true, true, true, false] rfl rfl (by kernel_rfl) (by decide) (fun K hK => ?_)
  refine goes_ Try.func18 (by kernel_rfl) rfl #[.agg #[.bool t488, .slice Ao20 t489.length co20], .agg #[.bool t493, .slice Ao24 t494.length co24]] (by rfl) rfl rfl argt ?_
  with_reducible refine (turnstoneref01_Cmp.calls k t488 _ _ t489 t493 _ _ t494 t497 _ ?side1 ?side2 ?side3 ?side4 A7.out).mono ?_
  (case side1 => repeat (first | exact (Kd.V_reads' HO491.out).2.2 | (with_reducible refine Kd.C_alloc ?_ _) | (with_reducible refine Kd.C_drewN ?_ _) | (with_reducible refine Kd.C_drew ?_)))
  (case side2 => exact (Kd.V_reads' HO491.out).2.1)
  (case side3 => repeat (first | exact (Kd.V_reads' HO496.out).2.2 | (with_reducible refine Kd.C_alloc ?_ _) | (with_reducible refine Kd.C_drewN ?_ _) | (with_reducible refine Kd.C_drew ?_)))
  (case side4 => exact (Kd.V_reads' HO496.out).2.1)
  rintro e w25 ⟨rfl, hb⟩
  refine ⟨_, rfl, ?_⟩
  have n0_ := rb HO483 hb
  have n1_ := rb HO487 hb
  have n2_ := vb HO491 hb
  have n3_ := vb HO496 hb
  have n4_ := blkb BK479 hb
  have n5_ := blkb BK492 hb
  have n6_ := belb HB hb
  clear HO483
  clear HO487
  clear HO491
  clear HO496
  clear BK479
  clear BK492
  clear HB
  have HO483 := n0_
  have HO487 := n1_
  have HO491 := n2_
  have HO496 := n3_
  have BK479 := n4_
  have BK492 := n5_
  have HB := n6_
  clear n0_ n1_ n2_ n3_ n4_ n5_ n6_
  (try clear hb)
  (try clear hb2)
  (try clear hk)
  (try clear hi)
  refine hK.out _ _ ⟨(blk_cell BK492.out 0).trans rfl, (blk_cell BK492.out 1).trans rfl⟩ (fun hHeld => ?_)
  clear hK K
  refine norm_ (a' := ?_) ?_ ?_
  rotate_left
  ·show Act.put _ (some 13) _ = _
   simp only [Act.put, List.setIfInBounds_toArray, List.set_cons_zero, List.set_cons_succ, i64_w, i32_w]
   rfl
  refine pure_ (i := 3) (N := some 14) (v := ?_) (a' := ?_) #[true, true, true, true] rfl rfl (by kernel_rfl) (fun _ _ _ h => h) (Or.inl ⟨by rfl, ?_⟩) ?_ ?_
  rotate_left
  ·intro w'
   go_simp
   with_reducible rfl
  rotate_left
  ·simp only [Act.put, List.setIfInBounds_toArray, List.set_cons_zero, List.set_cons_succ, i64_w, i32_w]
   rfl
  refine done_ (by kernel_rfl) ?_
  try go_wp2
  have n0_ := Aside0.mk (Kd.R_drew HO483.out)
  have n1_ := Aside0.mk (Kd.R_drew HO487.out)
  have n2_ := Aside0.mk (Kd.V_drew HO491.out)
  have n3_ := Aside0.mk (Kd.V_drew HO496.out)
  have n4_ := Aside0.mk (blk_drew BK479.out)
  have n5_ := Aside0.mk (blk_drew BK492.out)
  have n6_ := Aside0.mk (below_drew1 HB.out)
  clear HO483
  clear HO487
  clear HO491
  clear HO496
  clear BK479
  clear BK492
  clear HB
  have HO483 := n0_
  have HO487 := n1_
  have HO491 := n2_
  have HO496 := n3_
  have BK479 := n4_
  have BK492 := n5_
  have HB := n6_
  clear n0_ n1_ n2_ n3_ n4_ n5_ n6_
  refine start_ (n := 4) (S := fun w' => w'.cell? ⟨gb492, 0, none⟩ = some (.bool t488) ∧ w'.cell? ⟨gb492, 1, none⟩ = some (.slice Ao20 t489.length co20)) (ds := []) #[false, false, false, false] (by kernel_rfl) rfl rfl ⟨(blk_cell BK492.out 0).trans rfl, (blk_cell BK492.out 1).trans rfl⟩ (fun hHeld => ?_)
  generalize w25.drew = w26 at HO483 HO487 HO491 HO496 BK479 BK492 HB hHeld ⊢
  refine take_ (i := 0) (N := some 15) (v := ?_) (a' := ?_) #[true, false, false, false] rfl rfl (by kernel_rfl) (fun _ _ _ h => h) (Or.inl ⟨by rfl, ?_⟩) hHeld ?_ ?_
  rotate_left
  ·rintro w' ⟨s0, s1⟩
   go_simp
   with_reducible rfl
  rotate_left
  ·simp only [Act.put, List.setIfInBounds_toArray, List.set_cons_zero, List.set_cons_succ, i64_w, i32_w]
   rfl
  refine one_ (i := 1) (N := some 16) #[true, true, false, false] rfl rfl (by kernel_rfl) (by decide) (fun K hK => ?_)
  refine goes_ Try.func60 (by kernel_rfl) rfl #[.int .i64 64] (by rfl) rfl rfl argt ?_
  with_reducible refine (turnstoneref01_Power.calls k 64 t498 t499 _ A9.out).mono ?_
  rintro e w27 ⟨v500, rfl, ho0, hb⟩
  refine ⟨_, rfl, ?_⟩
  have n0_ := rb HO483 hb
  have n1_ := rb HO487 hb
  have n2_ := vb HO491 hb
  have n3_ := vb HO496 hb
  have n4_ := Aside0.mk (Kd.V_lower (Kd.V_mono (ok' := fun k_ => (w.heap.size ≤ k_) ∧ some k_ ≠ (.slice Ao14 t481.length co14 : Value).ownBlock ∧ some k_ ≠ (.slice Ao15 t485.length co15 : Value).ownBlock ∧ k_ ≠ gb479 ∧ k_ ≠ gb492) ho0 (fun k_ hk_ => ⟨(Nat.le_trans (below_size (belt HB)) hk_), (Kd.fresh' (Kd.R_lt (rt HO483)) k_ hk_), (Kd.fresh' (Kd.R_lt (rt HO487)) k_ hk_), (Kd.freshB (blkt BK479) k_ hk_), (Kd.freshB (blkt BK492) k_ hk_)⟩)) (below_size (belt HB)))
  have n5_ := blkb BK479 hb
  have n6_ := blkb BK492 hb
  have n7_ := belb HB hb
  clear HO483
  clear HO487
  clear HO491
  clear HO496
  clear BK479
  clear BK492
  clear HB
  have HO483 := n0_
  have HO487 := n1_
  have HO491 := n2_
  have HO496 := n3_
  have HO501 := n4_
  have BK479 := n5_
  have BK492 := n6_
  have HB := n7_
  clear n0_ n1_ n2_ n3_ n4_ n5_ n6_ n7_
  (try clear hb)
  (try clear hb2)
  (try clear hk)
  (try clear hi)
  (try clear ho0)
  obtain ⟨Ao28, co28, eo28⟩ := Kd.V_slice HO501.out
  (first | subst eo28 | (injection eo28 with f1_ f2_ f3_; have f4_ := f1_.symm; have f5_ := f3_.symm; clear f1_ f2_ f3_; subst f4_; subst f5_))
  refine hK.out _ _ ⟨(blk_cell BK492.out 0).trans rfl, (blk_cell BK492.out 1).trans rfl⟩ (fun hHeld => ?_)
  clear hK K
  refine norm_ (a' := ?_) ?_ ?_
  rotate_left
  ·show Act.put _ (some 16) _ = _
   simp only [Act.put, List.setIfInBounds_toArray, List.set_cons_zero, List.set_cons_succ, i64_w, i32_w]
   rfl
  refine one_ (i := 2) (N := some 17) #[true, true, true, false] rfl rfl (by kernel_rfl) (by decide) (fun K hK => ?_)
  refine goes_ Try.func43 (by kernel_rfl) rfl #[.agg #[.bool t488, .slice Ao20 t489.length co20], .agg #[.bool t498, .slice Ao28 t499.length co28]] (by rfl) rfl rfl argt ?_
  with_reducible refine (turnstoneref01_Sub.calls k t488 _ _ t489 t498 (fun k_ => ((w.heap.size ≤ k_) ∧ (some k_ ≠ (.slice Ao14 t481.length co14 : Value).ownBlock ∧ (some k_ ≠ (.slice Ao15 t485.length co15 : Value).ownBlock ∧ (k_ ≠ gb479 ∧ k_ ≠ gb492))))) _ _ t499 t502 t503 _ ?side1 ?side2 ?side3 A10.out).mono ?_
  (case side1 => repeat (first | exact (Kd.V_reads' HO491.out).2.2 | (with_reducible refine Kd.C_alloc ?_ _) | (with_reducible refine Kd.C_drewN ?_ _) | (with_reducible refine Kd.C_drew ?_)))
  (case side2 => exact (Kd.V_reads' HO491.out).2.1)
  (case side3 => exact HO501.out)
  rintro e w29 ⟨v504, rfl, ho0, hb⟩
  refine ⟨_, rfl, ?_⟩
  have n0_ := rb HO483 hb
  have n1_ := rb HO487 hb
  have n2_ := vb HO491 hb
  have n3_ := vb HO496 hb
  have n4_ := vb HO501 hb
  have n5_ := Aside0.mk (Kd.V_lower (Kd.V_mono (ok' := fun k_ => (w.heap.size ≤ k_) ∧ some k_ ≠ (.slice Ao14 t481.length co14 : Value).ownBlock ∧ some k_ ≠ (.slice Ao15 t485.length co15 : Value).ownBlock ∧ k_ ≠ gb479 ∧ k_ ≠ gb492) ho0 (fun k_ hk_ => ⟨Or.elim hk_ (fun hs_ => hs_.1) (fun hn_ => (Nat.le_trans (below_size (belt HB)) hn_)), Or.elim hk_ (fun hs_ => hs_.2.1) (fun hn_ => (Kd.fresh' (Kd.R_lt (rt HO483)) k_ hn_)), Or.elim hk_ (fun hs_ => hs_.2.2.1) (fun hn_ => (Kd.fresh' (Kd.R_lt (rt HO487)) k_ hn_)), Or.elim hk_ (fun hs_ => hs_.2.2.2.1) (fun hn_ => (Kd.freshB (blkt BK479) k_ hn_)), Or.elim hk_ (fun hs_ => hs_.2.2.2.2) (fun hn_ => (Kd.freshB (blkt BK492) k_ hn_))⟩)) (below_size (belt HB)))
  have n6_ := blkb BK479 hb
  have n7_ := blkb BK492 hb
  have n8_ := belb HB hb
  clear HO483
  clear HO487
  clear HO491
  clear HO496
  clear HO501
  clear BK479
  clear BK492
  clear HB
  have HO483 := n0_
  have HO487 := n1_
  have HO491 := n2_
  have HO496 := n3_
  have HO501 := n4_
  have HO505 := n5_
  have BK479 := n6_
  have BK492 := n7_
  have HB := n8_
  clear n0_ n1_ n2_ n3_ n4_ n5_ n6_ n7_ n8_
  (try clear hb)
  (try clear hb2)
  (try clear hk)
  (try clear hi)
  (try clear ho0)
  obtain ⟨Ao31, co31, eo31⟩ := Kd.V_slice HO505.out
  (first | subst eo31 | (injection eo31 with f1_ f2_ f3_; have f4_ := f1_.symm; have f5_ := f3_.symm; clear f1_ f2_ f3_; subst f4_; subst f5_))
  refine hK.out _ _ ⟨(blk_cell BK492.out 0).trans rfl, (blk_cell BK492.out 1).trans rfl⟩ (fun hHeld => ?_)
  clear hK K
  refine norm_ (a' := ?_) ?_ ?_
  rotate_left
  ·show Act.put _ (some 17) _ = _
   simp only [Act.put, List.setIfInBounds_toArray, List.set_cons_zero, List.set_cons_succ, i64_w, i32_w]
   rfl
  refine one_ (i := 3) (N := none) #[true, true, true, true] rfl rfl (by kernel_rfl) (by decide) (fun K hK => ?_)
  have hs30 : w29.cell? ⟨gb479, 0, none⟩ = some (.bool false) := (blk_cell BK479.out 0).trans rfl
  have hfs30 := blk_frozen BK479.out 0
  have hns30_1 := NB492_479.out
  have hms30_1 := NB479_492.out
  have hs32 : w29.cell? ⟨gb479, 1, none⟩ = some (.slice none 0 0) := (blk_cell BK479.out 1).trans rfl
  have hfs32 := blk_frozen BK479.out 1
  have hns32_1 := NB492_479.out
  have hms32_1 := NB479_492.out
  refine skip_ (w1 := ?_) (by rfl) rfl ?_ ?_
  rotate_left
  ·go_simp
   rfl
  refine hK.out _ _ ⟨((cell_far (p := ⟨gb479, _, none⟩) NB492_479.out _).trans (((cell_far (p := ⟨gb479, _, none⟩) NB492_479.out _).trans (hHeld.1)))), ((cell_far (p := ⟨gb479, _, none⟩) NB492_479.out _).trans (((cell_far (p := ⟨gb479, _, none⟩) NB492_479.out _).trans (hHeld.2))))⟩ (fun hHeld => ?_)
  clear hK K
  refine done_ (by kernel_rfl) ?_
  try go_wp2
  refine bodyPost_ret (results_cell_row rfl _ _ gb479 28 #[.bool t502, .slice Ao31 t503.length co31] (0, 0) _ rfl (by (with_reducible repeat (first | refine blk_drewN ?_ _ | refine blk_drew ?_ | refine blk_alloc ?_ _)); refine blk_put (cs := #[.bool t502, .slice none 0 0]) ?_ 1 _ rfl; (with_reducible repeat (first | refine blk_drewN ?_ _ | refine blk_drew ?_ | refine blk_alloc ?_ _)); refine blk_put (cs := #[.bool false, .slice none 0 0]) ?_ 0 _ rfl; (with_reducible repeat (first | refine blk_drewN ?_ _ | refine blk_drew ?_ | refine blk_alloc ?_ _)); exact BK479.out) Try.underlying28 rfl (by kernel_rfl)) rfl ?_
  exact ⟨_, by first | rfl | (simp [errW_none, errW_some] <;> rfl) | (simp [*, errW_none, errW_some] <;> rfl), by (with_reducible repeat (first | apply Kd.V_alloc | apply Kd.V_drewN | apply Kd.V_drew)); exact Kd.V_mono (Kd.V_far (p := ⟨gb479, 1, none⟩) (Kd.V_far (p := ⟨gb479, 0, none⟩) (Kd.V_mono HO505.out (fun k_ hk => (⟨hk, hk.2.2.2.1⟩ : _ ∧ k_ ≠ gb479))) (fun _ hk => hk.2) (.bool t502)) (fun _ hk => hk.2) (.slice Ao31 t503.length co31)) (fun _ hk => hk.1.1), by repeat (first | (with_reducible first | exact HB.out | apply below_alloc | apply pw_below_drewN | apply below_drew1 | refine below_set ?_ GE479.out | refine below_set ?_ GE492.out) | exact HB.out)⟩
 ·rw [if_neg c8] at H
  have c8b0 : decide (0 ≤ t497) = false := decide_eq_false c8
  clear c8
  replace H := Option.bind_eq_some_iff.mp H
  obtain ⟨⟨t506, t507⟩, A330, H⟩ := H
  replace H : ((turnstoneref01_Neg.f k t506 t507).bind fun bt510 => ((turnstoneref01_Cmp.f k t488 t489 bt510.1 bt510.2).bind fun t514 => (if t514 < 0 then ((turnstoneref01_Power.f k 64).bind fun bt515 => ((turnstoneref01_Add.f k t488 t489 bt515.1 bt515.2).bind fun bt519 => (some (bt519.1, bt519.2)))) else (some (t488, t489))))) = some (r1, r2) := H
  have A33 := Aside0.mk A330
  clear A330
  replace H := Option.bind_eq_some_iff.mp H
  obtain ⟨⟨t510, t511⟩, A340, H⟩ := H
  replace H : ((turnstoneref01_Cmp.f k t488 t489 t510 t511).bind fun t514 => (if t514 < 0 then ((turnstoneref01_Power.f k 64).bind fun bt515 => ((turnstoneref01_Add.f k t488 t489 bt515.1 bt515.2).bind fun bt519 => (some (bt519.1, bt519.2)))) else (some (t488, t489)))) = some (r1, r2) := H
  have A34 := Aside0.mk A340
  clear A340
  replace H := Option.bind_eq_some_iff.mp H
  obtain ⟨t514, A350, H⟩ := H
  replace H : (if t514 < 0 then ((turnstoneref01_Power.f k 64).bind fun bt515 => ((turnstoneref01_Add.f k t488 t489 bt515.1 bt515.2).bind fun bt519 => (some (bt519.1, bt519.2)))) else (some (t488, t489))) = some (r1, r2) := H
  have A35 := Aside0.mk A350
  clear A350
  by_cases c36 : t514 < 0
  ·rw [if_pos c36] at H
   have c36b0 : decide (t514 < 0) = true := decide_eq_true c36
   clear c36
   replace H := Option.bind_eq_some_iff.mp H
   obtain ⟨⟨t515, t516⟩, A370, H⟩ := H
   replace H : ((turnstoneref01_Add.f k t488 t489 t515 t516).bind fun bt519 => (some (bt519.1, bt519.2))) = some (r1, r2) := H
   have A37 := Aside0.mk A370
   clear A370
   replace H := Option.bind_eq_some_iff.mp H
   obtain ⟨⟨t519, t520⟩, A380, H⟩ := H
   replace H : (some (t519, t520)) = some (r1, r2) := H
   have A38 := Aside0.mk A380
   clear A380
   simp only [Option.some.injEq, Prod.mk.injEq] at H
   obtain ⟨rfl, rfl⟩ := H
   go_enter Try.func21, Try.ntmps21
   try go_wp2_with (first | ((with_reducible refine gate_dst (N := 4) rfl ?_); refine box_event ?hg (N := 4) ?hd (cs := #[.bool false, .slice none 0 0]) (t := 28) ?hr ?_; (case hd => rfl); (case hg => rfl); (case hr => first | (go_simp; done) | (go_simp; rfl)); intro gb479 hg w39 hbox hb; have n0_ := belb HB hb; have n1_ := Aside0.mk (hbox); have n2_ := bels HB hg; have n3_ := bels HB hg; clear HB; have HB := n0_; have BK479 := n1_; have GW479 := n2_; have GE479 := n3_; clear n0_ n1_ n2_ n3_; clear hb hbox hg) | ((with_reducible refine gate_callee (f := 24) rfl ?_); refine goesL_ (some 7) rfl rfl Try.func24 (by kernel_rfl) rfl #[.int .u64 a0] rfl argt ?_; (with_reducible refine (turnstoneref01_U.calls k a0 t480 t481 _ A3.out).mono ?_); rintro e w40 ⟨v482, rfl, ho0, hb⟩; refine ⟨_, rfl, ?_⟩; have n0_ := Aside0.mk (Kd.R_lower (Kd.R_newM (M := fun k_ => (w.heap.size ≤ k_)) ho0 (below_size (belt HB)) (fun k_ h_ => h_)) (below_size (belt HB))); have n1_ := blkb BK479 hb; have n2_ := belb HB hb; clear BK479; clear HB; have HO483 := n0_; have BK479 := n1_; have HB := n2_; clear n0_ n1_ n2_; (try clear hb); (try clear hb2); (try clear hk); (try clear hi); (try clear ho0)) | ((with_reducible refine gate_callee (f := 24) rfl ?_); refine goesL_ (some 9) rfl rfl Try.func24 (by kernel_rfl) rfl #[.int .u64 a1] rfl argt ?_; (with_reducible refine (turnstoneref01_U.calls k a1 t484 t485 _ A4.out).mono ?_); rintro e w41 ⟨v486, rfl, ho0, hb⟩; refine ⟨_, rfl, ?_⟩; have n0_ := Aside0.mk (Kd.R_elder' (rt HO483) (Kd.R_base ho0) hb); have n1_ := Aside0.mk (Kd.R_lower (Kd.R_new' (Kd.R_newM (M := fun k_ => (w.heap.size ≤ k_)) ho0 (below_size (belt HB)) (fun k_ h_ => h_)) (Kd.R_lt (rt HO483))) (below_size (belt HB))); have n2_ := blkb BK479 hb; have n3_ := belb HB hb; clear HO483; clear BK479; clear HB; have HO483 := n0_; have HO487 := n1_; have BK479 := n2_; have HB := n3_; clear n0_ n1_ n2_ n3_; (try clear hb); (try clear hb2); (try clear hk); (try clear hi); (try clear ho0); obtain ⟨Ao42, co42, eo42⟩ := Kd.R_slice HO483.out; subst eo42; obtain ⟨Ao43, co43, eo43⟩ := Kd.R_slice HO487.out; subst eo43) | ((with_reducible refine gate_callee (f := 43) rfl ?_); refine goesL_ (some 10) rfl rfl Try.func43 (by kernel_rfl) rfl #[.agg #[.bool t480, .slice Ao42 t481.length co42], .agg #[.bool t484, .slice Ao43 t485.length co43]] rfl argt ?_; (with_reducible refine (turnstoneref01_Sub.calls k t480 _ _ t481 t484 (fun k_ => some k_ = (.slice Ao43 t485.length co43 : Value).ownBlock) _ _ t485 t488 t489 _ ?side1 ?side2 ?side3 A5.out).mono ?_); (case side1 => repeat (first | exact (Kd.R_reads' HO483.out).2.2 | (with_reducible refine Kd.C_alloc ?_ _) | (with_reducible refine Kd.C_drewN ?_ _) | (with_reducible refine Kd.C_drew ?_))); (case side2 => exact (Kd.R_reads' HO483.out).2.1); (case side3 => exact Kd.R_V (Kd.R_tight rfl (Kd.R_types (HO487.out) BK479.out (by decide)))); rintro e w44 ⟨v490, rfl, ho0, hb⟩; refine ⟨_, rfl, ?_⟩; have n0_ := rb HO483 hb; have n1_ := rb HO487 hb; have n2_ := Aside0.mk (Kd.V_lower (Kd.V_mono (ok' := fun k_ => (w.heap.size ≤ k_) ∧ some k_ ≠ (.slice Ao42 t481.length co42 : Value).ownBlock ∧ k_ ≠ gb479) ho0 (fun k_ hk_ => ⟨Or.elim hk_ (fun hs_ => ((Kd.R_types (HO487.out) BK479.out (by decide)).1 k_ hs_.symm).1.1.1) (fun hn_ => (Nat.le_trans (below_size (belt HB)) hn_)), Or.elim hk_ (fun hs_ => ((Kd.R_types (HO487.out) BK479.out (by decide)).1 k_ hs_.symm).1.2) (fun hn_ => (Kd.fresh' (Kd.R_lt (rt HO483)) k_ hn_)), Or.elim hk_ (fun hs_ => ((Kd.R_types (HO487.out) BK479.out (by decide)).1 k_ hs_.symm).2) (fun hn_ => (Kd.freshB (blkt BK479) k_ hn_))⟩)) (below_size (belt HB))); have n3_ := blkb BK479 hb; have n4_ := belb HB hb; clear HO483; clear HO487; clear BK479; clear HB; have HO483 := n0_; have HO487 := n1_; have HO491 := n2_; have BK479 := n3_; have HB := n4_; clear n0_ n1_ n2_ n3_ n4_; (try clear hb); (try clear hb2); (try clear hk); (try clear hi); (try clear ho0)) | ((with_reducible refine gate_dst (N := 5) rfl ?_); refine box_event ?hg (N := 5) ?hd (cs := #[.bool false, .slice none 0 0]) (t := 28) ?hr ?_; (case hd => rfl); (case hg => rfl); (case hr => first | (go_simp; done) | (go_simp; rfl)); intro gb492 hg w45 hbox hb; have n0_ := rb HO483 hb; have n1_ := rb HO487 hb; have n2_ := Aside0.mk (Kd.V_below (Kd.V_elderB (vt HO491) gb492 (Nat.le_of_eq hg.symm)) hb); have n3_ := blkb BK479 hb; have n4_ := belb HB hb; have n5_ := Aside0.mk (hbox); have n6_ := bels HB hg; have n7_ := bels HB hg; have n8_ := blkl BK479 hg; have n9_ := blkg BK479 hg; clear HO483; clear HO487; clear HO491; clear BK479; clear HB; have HO483 := n0_; have HO487 := n1_; have HO491 := n2_; have BK479 := n3_; have HB := n4_; have BK492 := n5_; have GW492 := n6_; have GE492 := n7_; have NB479_492 := n8_; have NB492_479 := n9_; clear n0_ n1_ n2_ n3_ n4_ n5_ n6_ n7_ n8_ n9_; clear hb hbox hg; have hnb46 := NB492_479.out; have hnc46 := NB479_492.out; have hcz47_0 : w45.cell? ⟨gb492, 0, none⟩ = some (.bool false) := (blk_cell BK492.out 0).trans rfl; have hcz47_1 : w45.cell? ⟨gb492, 1, none⟩ = some (.slice none 0 0) := (blk_cell BK492.out 1).trans rfl; have hfz47_0 := blk_frozen BK492.out 0; have hfz47_1 := blk_frozen BK492.out 1; obtain ⟨Ao48, co48, eo48⟩ := Kd.V_slice HO491.out; subst eo48))
   have n0_ : Aside0 (Kd.R (Kd.int .i64) 3 ((w45.setCell ⟨gb492, 0, none⟩ (.bool t488)).setCell ⟨gb492, 1, none⟩ (.slice Ao48 t489.length co48)) w.heap.size (fun k_ => (w.heap.size ≤ k_) ∧ some k_ ≠ (.slice Ao43 t485.length co43 : Value).ownBlock) (.slice Ao42 t481.length co42) t481) := ⟨by (with_reducible repeat (first | apply Kd.R_alloc | apply Kd.R_drewN | apply Kd.R_drew)); exact Kd.R_mono (Kd.R_far (p := ⟨gb492, 1, none⟩) (Kd.R_far (p := ⟨gb492, 0, none⟩) (Kd.R_types HO483.out BK492.out (by decide)) (fun _ hk => hk.2) (.bool t488)) (fun _ hk => hk.2) (.slice Ao48 t489.length co48)) (fun _ hk => ⟨hk.1.1.1, hk.1.2⟩)⟩
   have n1_ : Aside0 (Kd.R (Kd.int .i64) 3 ((w45.setCell ⟨gb492, 0, none⟩ (.bool t488)).setCell ⟨gb492, 1, none⟩ (.slice Ao48 t489.length co48)) w.heap.size (fun k_ => (w.heap.size ≤ k_) ∧ some k_ ≠ (.slice Ao42 t481.length co42 : Value).ownBlock) (.slice Ao43 t485.length co43) t485) := ⟨by (with_reducible repeat (first | apply Kd.R_alloc | apply Kd.R_drewN | apply Kd.R_drew)); exact Kd.R_mono (Kd.R_far (p := ⟨gb492, 1, none⟩) (Kd.R_far (p := ⟨gb492, 0, none⟩) (Kd.R_types HO487.out BK492.out (by decide)) (fun _ hk => hk.2) (.bool t488)) (fun _ hk => hk.2) (.slice Ao48 t489.length co48)) (fun _ hk => ⟨hk.1.1.1, hk.1.2⟩)⟩
   have n2_ : Aside0 (Kd.V (Kd.int .i64) 3 ((w45.setCell ⟨gb492, 0, none⟩ (.bool t488)).setCell ⟨gb492, 1, none⟩ (.slice Ao48 t489.length co48)) w.heap.size (fun k_ => (w.heap.size ≤ k_) ∧ some k_ ≠ (.slice Ao42 t481.length co42 : Value).ownBlock ∧ k_ ≠ gb479 ∧ k_ ≠ gb492) (.slice Ao48 t489.length co48) t489) := ⟨by (with_reducible repeat (first | apply Kd.V_alloc | apply Kd.V_drewN | apply Kd.V_drew)); exact Kd.V_mono (Kd.V_far (p := ⟨gb492, 1, none⟩) (Kd.V_far (p := ⟨gb492, 0, none⟩) (Kd.V_mono HO491.out (fun k_ hk => (⟨hk, hk.2⟩ : _ ∧ k_ ≠ gb492))) (fun _ hk => hk.2) (.bool t488)) (fun _ hk => hk.2) (.slice Ao48 t489.length co48)) (fun _ hk => ⟨hk.1.1.1, ⟨hk.1.1.2.1, ⟨hk.1.1.2.2, hk.1.2⟩⟩⟩)⟩
   have n3_ : Aside0 (((w45.setCell ⟨gb492, 0, none⟩ (.bool t488)).setCell ⟨gb492, 1, none⟩ (.slice Ao48 t489.length co48)).heap[gb479]? = some (.cells #[.bool false, .slice none 0 0] 28 (0, 0))) := ⟨by (with_reducible repeat (first | refine blk_drewN ?_ _ | refine blk_drew ?_ | refine blk_alloc ?_ _)); refine blk_far ?_ NB479_492.out _; (with_reducible repeat (first | refine blk_drewN ?_ _ | refine blk_drew ?_ | refine blk_alloc ?_ _)); refine blk_far ?_ NB479_492.out _; (with_reducible repeat (first | refine blk_drewN ?_ _ | refine blk_drew ?_ | refine blk_alloc ?_ _)); exact BK479.out⟩
   have n4_ : Aside0 (((w45.setCell ⟨gb492, 0, none⟩ (.bool t488)).setCell ⟨gb492, 1, none⟩ (.slice Ao48 t489.length co48)).heap[gb492]? = some (.cells #[.bool t488, .slice Ao48 t489.length co48] 28 (0, 0))) := ⟨by (with_reducible repeat (first | refine blk_drewN ?_ _ | refine blk_drew ?_ | refine blk_alloc ?_ _)); refine blk_put (cs := #[.bool t488, .slice none 0 0]) ?_ 1 _ rfl; (with_reducible repeat (first | refine blk_drewN ?_ _ | refine blk_drew ?_ | refine blk_alloc ?_ _)); refine blk_put (cs := #[.bool false, .slice none 0 0]) ?_ 0 _ rfl; (with_reducible repeat (first | refine blk_drewN ?_ _ | refine blk_drew ?_ | refine blk_alloc ?_ _)); exact BK492.out⟩
   have n5_ : Aside0 (Below w.heap.size w ((w45.setCell ⟨gb492, 0, none⟩ (.bool t488)).setCell ⟨gb492, 1, none⟩ (.slice Ao48 t489.length co48))) := ⟨by repeat (first | (with_reducible first | exact HB.out | apply below_alloc | apply pw_below_drewN | apply below_drew1 | refine below_set ?_ GE479.out | refine below_set ?_ GE492.out) | exact HB.out)⟩
   (try clear HO483)
   (try clear HO487)
   (try clear HO491)
   (try clear BK479)
   (try clear BK492)
   (try clear HB)
   generalize ((w45.setCell ⟨gb492, 0, none⟩ (.bool t488)).setCell ⟨gb492, 1, none⟩ (.slice Ao48 t489.length co48)) = w49 at n0_ n1_ n2_ n3_ n4_ n5_ ⊢
   have HO483 := n0_
   have HO487 := n1_
   have HO491 := n2_
   have BK479 := n3_
   have BK492 := n4_
   have HB := n5_
   clear n0_ n1_ n2_ n3_ n4_ n5_
   have n0_ := Aside0.mk (Kd.R_drew HO483.out)
   have n1_ := Aside0.mk (Kd.R_drew HO487.out)
   have n2_ := Aside0.mk (Kd.V_drew HO491.out)
   have n3_ := Aside0.mk (blk_drew BK479.out)
   have n4_ := Aside0.mk (blk_drew BK492.out)
   have n5_ := Aside0.mk (below_drew1 HB.out)
   clear HO483
   clear HO487
   clear HO491
   clear BK479
   clear BK492
   clear HB
   have HO483 := n0_
   have HO487 := n1_
   have HO491 := n2_
   have BK479 := n3_
   have BK492 := n4_
   have HB := n5_
   clear n0_ n1_ n2_ n3_ n4_ n5_
   refine start_ (n := 4) (S := fun w' => w'.cell? ⟨gb492, 0, none⟩ = some (.bool t488) ∧ w'.cell? ⟨gb492, 1, none⟩ = some (.slice Ao48 t489.length co48)) (ds := []) #[false, false, false, false] (by kernel_rfl) rfl rfl ⟨(blk_cell BK492.out 0).trans rfl, (blk_cell BK492.out 1).trans rfl⟩ (fun hHeld => ?_)
   generalize w49.drew = w50 at HO483 HO487 HO491 BK479 BK492 HB hHeld ⊢
   refine take_ (i := 0) (N := some 11) (v := ?_) (a' := ?_) #[true, false, false, false] rfl rfl (by kernel_rfl) (fun _ _ _ h => h) (Or.inl ⟨by rfl, ?_⟩) hHeld ?_ ?_
   rotate_left
   ·rintro w' ⟨s0, s1⟩
    go_simp
    with_reducible rfl
   rotate_left
   ·simp only [Act.put, List.setIfInBounds_toArray, List.set_cons_zero, List.set_cons_succ, i64_w, i32_w]
    rfl
   refine one_ (i := 1) (N := some 12) #[true, true, false, false] rfl rfl (by kernel_rfl) (by decide) (fun K hK => ?_)
   refine goes_ Try.func60 (by kernel_rfl) rfl #[.int .i64 63] (by rfl) rfl rfl argt ?_
   with_reducible refine (turnstoneref01_Power.calls k 63 t493 t494 _ A6.out).mono ?_
   rintro e w51 ⟨v495, rfl, ho0, hb⟩
   refine ⟨_, rfl, ?_⟩
   have n0_ := rb HO483 hb
   have n1_ := rb HO487 hb
   have n2_ := vb HO491 hb
   have n3_ := Aside0.mk (Kd.V_lower (Kd.V_mono (ok' := fun k_ => (w.heap.size ≤ k_) ∧ some k_ ≠ (.slice Ao42 t481.length co42 : Value).ownBlock ∧ some k_ ≠ (.slice Ao43 t485.length co43 : Value).ownBlock ∧ k_ ≠ gb479 ∧ k_ ≠ gb492) ho0 (fun k_ hk_ => ⟨(Nat.le_trans (below_size (belt HB)) hk_), (Kd.fresh' (Kd.R_lt (rt HO483)) k_ hk_), (Kd.fresh' (Kd.R_lt (rt HO487)) k_ hk_), (Kd.freshB (blkt BK479) k_ hk_), (Kd.freshB (blkt BK492) k_ hk_)⟩)) (below_size (belt HB)))
   have n4_ := blkb BK479 hb
   have n5_ := blkb BK492 hb
   have n6_ := belb HB hb
   clear HO483
   clear HO487
   clear HO491
   clear BK479
   clear BK492
   clear HB
   have HO483 := n0_
   have HO487 := n1_
   have HO491 := n2_
   have HO496 := n3_
   have BK479 := n4_
   have BK492 := n5_
   have HB := n6_
   clear n0_ n1_ n2_ n3_ n4_ n5_ n6_
   (try clear hb)
   (try clear hb2)
   (try clear hk)
   (try clear hi)
   (try clear ho0)
   obtain ⟨Ao52, co52, eo52⟩ := Kd.V_slice HO496.out
   (first | subst eo52 | (injection eo52 with f1_ f2_ f3_; have f4_ := f1_.symm; have f5_ := f3_.symm; clear f1_ f2_ f3_; subst f4_; subst f5_))
   refine hK.out _ _ ⟨(blk_cell BK492.out 0).trans rfl, (blk_cell BK492.out 1).trans rfl⟩ (fun hHeld => ?_)
   clear hK K
   refine norm_ (a' := ?_) ?_ ?_
   rotate_left
   ·show Act.put _ (some 12) _ = _
    simp only [Act.put, List.setIfInBounds_toArray, List.set_cons_zero, List.set_cons_succ, i64_w, i32_w]
    rfl
   refine one_ (i := 2) (N := some 13) #[true, true, true, false] rfl rfl (by kernel_rfl) (by decide) (fun K hK => ?_)
   refine goes_ Try.func18 (by kernel_rfl) rfl #[.agg #[.bool t488, .slice Ao48 t489.length co48], .agg #[.bool t493, .slice Ao52 t494.length co52]] (by rfl) rfl rfl argt ?_
   with_reducible refine (turnstoneref01_Cmp.calls k t488 _ _ t489 t493 _ _ t494 t497 _ ?side1 ?side2 ?side3 ?side4 A7.out).mono ?_
   (case side1 => repeat (first | exact (Kd.V_reads' HO491.out).2.2 | (with_reducible refine Kd.C_alloc ?_ _) | (with_reducible refine Kd.C_drewN ?_ _) | (with_reducible refine Kd.C_drew ?_)))
   (case side2 => exact (Kd.V_reads' HO491.out).2.1)
   (case side3 => repeat (first | exact (Kd.V_reads' HO496.out).2.2 | (with_reducible refine Kd.C_alloc ?_ _) | (with_reducible refine Kd.C_drewN ?_ _) | (with_reducible refine Kd.C_drew ?_)))
   (case side4 => exact (Kd.V_reads' HO496.out).2.1)
   rintro e w53 ⟨rfl, hb⟩
   refine ⟨_, rfl, ?_⟩
   have n0_ := rb HO483 hb
   have n1_ := rb HO487 hb
   have n2_ := vb HO491 hb
   have n3_ := vb HO496 hb
   have n4_ := blkb BK479 hb
   have n5_ := blkb BK492 hb
   have n6_ := belb HB hb
   clear HO483
   clear HO487
   clear HO491
   clear HO496
   clear BK479
   clear BK492
   clear HB
   have HO483 := n0_
   have HO487 := n1_
   have HO491 := n2_
   have HO496 := n3_
   have BK479 := n4_
   have BK492 := n5_
   have HB := n6_
   clear n0_ n1_ n2_ n3_ n4_ n5_ n6_
   (try clear hb)
   (try clear hb2)
   (try clear hk)
   (try clear hi)
   refine hK.out _ _ ⟨(blk_cell BK492.out 0).trans rfl, (blk_cell BK492.out 1).trans rfl⟩ (fun hHeld => ?_)
   clear hK K
   refine norm_ (a' := ?_) ?_ ?_
   rotate_left
   ·show Act.put _ (some 13) _ = _
    simp only [Act.put, List.setIfInBounds_toArray, List.set_cons_zero, List.set_cons_succ, i64_w, i32_w]
    rfl
   refine pure_ (i := 3) (N := some 14) (v := ?_) (a' := ?_) #[true, true, true, true] rfl rfl (by kernel_rfl) (fun _ _ _ h => h) (Or.inl ⟨by rfl, ?_⟩) ?_ ?_
   rotate_left
   ·intro w'
    go_simp
    with_reducible rfl
   rotate_left
   ·simp only [Act.put, List.setIfInBounds_toArray, List.set_cons_zero, List.set_cons_succ, i64_w, i32_w]
    rfl
   refine done_ (by kernel_rfl) ?_
   try go_wp2
   have n0_ := Aside0.mk (Kd.R_drew HO483.out)
   have n1_ := Aside0.mk (Kd.R_drew HO487.out)
   have n2_ := Aside0.mk (Kd.V_drew HO491.out)
   have n3_ := Aside0.mk (Kd.V_drew HO496.out)
   have n4_ := Aside0.mk (blk_drew BK479.out)
   have n5_ := Aside0.mk (blk_drew BK492.out)
   have n6_ := Aside0.mk (below_drew1 HB.out)
   clear HO483
   clear HO487
   clear HO491
   clear HO496
   clear BK479
   clear BK492
   clear HB
   have HO483 := n0_
   have HO487 := n1_
   have HO491 := n2_
   have HO496 := n3_
   have BK479 := n4_
   have BK492 := n5_
   have HB := n6_
   clear n0_ n1_ n2_ n3_ n4_ n5_ n6_
   refine start_ (n := 5) (S := fun w' => w'.cell? ⟨gb492, 0, none⟩ = some (.bool t488) ∧ w'.cell? ⟨gb492, 1, none⟩ = some (.slice Ao48 t489.length co48)) (ds := []) #[false, false, false, false, false] (by kernel_rfl) rfl rfl ⟨(blk_cell BK492.out 0).trans rfl, (blk_cell BK492.out 1).trans rfl⟩ (fun hHeld => ?_)
   generalize w53.drew = w54 at HO483 HO487 HO491 HO496 BK479 BK492 HB hHeld ⊢
   refine take_ (i := 0) (N := some 18) (v := ?_) (a' := ?_) #[true, false, false, false, false] rfl rfl (by kernel_rfl) (fun _ _ _ h => h) (Or.inl ⟨by rfl, ?_⟩) hHeld ?_ ?_
   rotate_left
   ·rintro w' ⟨s0, s1⟩
    go_simp
    with_reducible rfl
   rotate_left
   ·simp only [Act.put, List.setIfInBounds_toArray, List.set_cons_zero, List.set_cons_succ, i64_w, i32_w]
    rfl
   refine one_ (i := 1) (N := some 19) #[true, true, false, false, false] rfl rfl (by kernel_rfl) (by decide) (fun K hK => ?_)
   refine goes_ Try.func60 (by kernel_rfl) rfl #[.int .i64 63] (by rfl) rfl rfl argt ?_
   with_reducible refine (turnstoneref01_Power.calls k 63 t506 t507 _ A33.out).mono ?_
   rintro e w55 ⟨v508, rfl, ho0, hb⟩
   refine ⟨_, rfl, ?_⟩
   have n0_ := rb HO483 hb
   have n1_ := rb HO487 hb
   have n2_ := vb HO491 hb
   have n3_ := vb HO496 hb
   have n4_ := Aside0.mk (Kd.V_lower (Kd.V_mono (ok' := fun k_ => (w.heap.size ≤ k_) ∧ some k_ ≠ (.slice Ao42 t481.length co42 : Value).ownBlock ∧ some k_ ≠ (.slice Ao43 t485.length co43 : Value).ownBlock ∧ k_ ≠ gb479 ∧ k_ ≠ gb492) ho0 (fun k_ hk_ => ⟨(Nat.le_trans (below_size (belt HB)) hk_), (Kd.fresh' (Kd.R_lt (rt HO483)) k_ hk_), (Kd.fresh' (Kd.R_lt (rt HO487)) k_ hk_), (Kd.freshB (blkt BK479) k_ hk_), (Kd.freshB (blkt BK492) k_ hk_)⟩)) (below_size (belt HB)))
   have n5_ := blkb BK479 hb
   have n6_ := blkb BK492 hb
   have n7_ := belb HB hb
   clear HO483
   clear HO487
   clear HO491
   clear HO496
   clear BK479
   clear BK492
   clear HB
   have HO483 := n0_
   have HO487 := n1_
   have HO491 := n2_
   have HO496 := n3_
   have HO509 := n4_
   have BK479 := n5_
   have BK492 := n6_
   have HB := n7_
   clear n0_ n1_ n2_ n3_ n4_ n5_ n6_ n7_
   (try clear hb)
   (try clear hb2)
   (try clear hk)
   (try clear hi)
   (try clear ho0)
   obtain ⟨Ao56, co56, eo56⟩ := Kd.V_slice HO509.out
   (first | subst eo56 | (injection eo56 with f1_ f2_ f3_; have f4_ := f1_.symm; have f5_ := f3_.symm; clear f1_ f2_ f3_; subst f4_; subst f5_))
   refine hK.out _ _ ⟨(blk_cell BK492.out 0).trans rfl, (blk_cell BK492.out 1).trans rfl⟩ (fun hHeld => ?_)
   clear hK K
   refine norm_ (a' := ?_) ?_ ?_
   rotate_left
   ·show Act.put _ (some 19) _ = _
    simp only [Act.put, List.setIfInBounds_toArray, List.set_cons_zero, List.set_cons_succ, i64_w, i32_w]
    rfl
   refine one_ (i := 2) (N := some 20) #[true, true, true, false, false] rfl rfl (by kernel_rfl) (by decide) (fun K hK => ?_)
   refine goes_ Try.func61 (by kernel_rfl) rfl #[.agg #[.bool t506, .slice Ao56 t507.length co56]] (by rfl) rfl rfl argt ?_
   with_reducible refine (turnstoneref01_Neg.calls k t506 (fun k_ => ((w.heap.size ≤ k_) ∧ (some k_ ≠ (.slice Ao42 t481.length co42 : Value).ownBlock ∧ (some k_ ≠ (.slice Ao43 t485.length co43 : Value).ownBlock ∧ (k_ ≠ gb479 ∧ k_ ≠ gb492))))) _ _ t507 t510 t511 _ ?side1 A34.out).mono ?_
   (case side1 => exact HO509.out)
   rintro e w57 ⟨v512, rfl, ho0, hb⟩
   refine ⟨_, rfl, ?_⟩
   have n0_ := rb HO483 hb
   have n1_ := rb HO487 hb
   have n2_ := vb HO491 hb
   have n3_ := vb HO496 hb
   have n4_ := vb HO509 hb
   have n5_ := Aside0.mk (Kd.V_lower (Kd.V_mono (ok' := fun k_ => (w.heap.size ≤ k_) ∧ some k_ ≠ (.slice Ao42 t481.length co42 : Value).ownBlock ∧ some k_ ≠ (.slice Ao43 t485.length co43 : Value).ownBlock ∧ k_ ≠ gb479 ∧ k_ ≠ gb492) ho0 (fun k_ hk_ => ⟨Or.elim hk_ (fun hs_ => hs_.1) (fun hn_ => (Nat.le_trans (below_size (belt HB)) hn_)), Or.elim hk_ (fun hs_ => hs_.2.1) (fun hn_ => (Kd.fresh' (Kd.R_lt (rt HO483)) k_ hn_)), Or.elim hk_ (fun hs_ => hs_.2.2.1) (fun hn_ => (Kd.fresh' (Kd.R_lt (rt HO487)) k_ hn_)), Or.elim hk_ (fun hs_ => hs_.2.2.2.1) (fun hn_ => (Kd.freshB (blkt BK479) k_ hn_)), Or.elim hk_ (fun hs_ => hs_.2.2.2.2) (fun hn_ => (Kd.freshB (blkt BK492) k_ hn_))⟩)) (below_size (belt HB)))
   have n6_ := blkb BK479 hb
   have n7_ := blkb BK492 hb
   have n8_ := belb HB hb
   clear HO483
   clear HO487
   clear HO491
   clear HO496
   clear HO509
   clear BK479
   clear BK492
   clear HB
   have HO483 := n0_
   have HO487 := n1_
   have HO491 := n2_
   have HO496 := n3_
   have HO509 := n4_
   have HO513 := n5_
   have BK479 := n6_
   have BK492 := n7_
   have HB := n8_
   clear n0_ n1_ n2_ n3_ n4_ n5_ n6_ n7_ n8_
   (try clear hb)
   (try clear hb2)
   (try clear hk)
   (try clear hi)
   (try clear ho0)
   obtain ⟨Ao58, co58, eo58⟩ := Kd.V_slice HO513.out
   (first | subst eo58 | (injection eo58 with f1_ f2_ f3_; have f4_ := f1_.symm; have f5_ := f3_.symm; clear f1_ f2_ f3_; subst f4_; subst f5_))
   refine hK.out _ _ ⟨(blk_cell BK492.out 0).trans rfl, (blk_cell BK492.out 1).trans rfl⟩ (fun hHeld => ?_)
   clear hK K
   refine norm_ (a' := ?_) ?_ ?_
   rotate_left
   ·show Act.put _ (some 20) _ = _
    simp only [Act.put, List.setIfInBounds_toArray, List.set_cons_zero, List.set_cons_succ, i64_w, i32_w]
    rfl
   refine one_ (i := 3) (N := some 21) #[true, true, true, true, false] rfl rfl (by kernel_rfl) (by decide) (fun K hK => ?_)
   refine goes_ Try.func18 (by kernel_rfl) rfl #[.agg #[.bool t488, .slice Ao48 t489.length co48], .agg #[.bool t510, .slice Ao58 t511.length co58]] (by rfl) rfl rfl argt ?_
   with_reducible refine (turnstoneref01_Cmp.calls k t488 _ _ t489 t510 _ _ t511 t514 _ ?side1 ?side2 ?side3 ?side4 A35.out).mono ?_
   (case side1 => repeat (first | exact (Kd.V_reads' HO491.out).2.2 | (with_reducible refine Kd.C_alloc ?_ _) | (with_reducible refine Kd.C_drewN ?_ _) | (with_reducible refine Kd.C_drew ?_)))
   (case side2 => exact (Kd.V_reads' HO491.out).2.1)
   (case side3 => repeat (first | exact (Kd.V_reads' HO513.out).2.2 | (with_reducible refine Kd.C_alloc ?_ _) | (with_reducible refine Kd.C_drewN ?_ _) | (with_reducible refine Kd.C_drew ?_)))
   (case side4 => exact (Kd.V_reads' HO513.out).2.1)
   rintro e w59 ⟨rfl, hb⟩
   refine ⟨_, rfl, ?_⟩
   have n0_ := rb HO483 hb
   have n1_ := rb HO487 hb
   have n2_ := vb HO491 hb
   have n3_ := vb HO496 hb
   have n4_ := vb HO509 hb
   have n5_ := vb HO513 hb
   have n6_ := blkb BK479 hb
   have n7_ := blkb BK492 hb
   have n8_ := belb HB hb
   clear HO483
   clear HO487
   clear HO491
   clear HO496
   clear HO509
   clear HO513
   clear BK479
   clear BK492
   clear HB
   have HO483 := n0_
   have HO487 := n1_
   have HO491 := n2_
   have HO496 := n3_
   have HO509 := n4_
   have HO513 := n5_
   have BK479 := n6_
   have BK492 := n7_
   have HB := n8_
   clear n0_ n1_ n2_ n3_ n4_ n5_ n6_ n7_ n8_
   (try clear hb)
   (try clear hb2)
   (try clear hk)
   (try clear hi)
   refine hK.out _ _ ⟨(blk_cell BK492.out 0).trans rfl, (blk_cell BK492.out 1).trans rfl⟩ (fun hHeld => ?_)
   clear hK K
   refine norm_ (a' := ?_) ?_ ?_
   rotate_left
   ·show Act.put _ (some 21) _ = _
    simp only [Act.put, List.setIfInBounds_toArray, List.set_cons_zero, List.set_cons_succ, i64_w, i32_w]
    rfl
   refine pure_ (i := 4) (N := some 22) (v := ?_) (a' := ?_) #[true, true, true, true, true] rfl rfl (by kernel_rfl) (fun _ _ _ h => h) (Or.inl ⟨by rfl, ?_⟩) ?_ ?_
   rotate_left
   ·intro w'
    go_simp
    with_reducible rfl
   rotate_left
   ·simp only [Act.put, List.setIfInBounds_toArray, List.set_cons_zero, List.set_cons_succ, i64_w, i32_w]
    rfl
   refine done_ (by kernel_rfl) ?_
   try go_wp2
   have n0_ := Aside0.mk (Kd.R_drew HO483.out)
   have n1_ := Aside0.mk (Kd.R_drew HO487.out)
   have n2_ := Aside0.mk (Kd.V_drew HO491.out)
   have n3_ := Aside0.mk (Kd.V_drew HO496.out)
   have n4_ := Aside0.mk (Kd.V_drew HO509.out)
   have n5_ := Aside0.mk (Kd.V_drew HO513.out)
   have n6_ := Aside0.mk (blk_drew BK479.out)
   have n7_ := Aside0.mk (blk_drew BK492.out)
   have n8_ := Aside0.mk (below_drew1 HB.out)
   clear HO483
   clear HO487
   clear HO491
   clear HO496
   clear HO509
   clear HO513
   clear BK479
   clear BK492
   clear HB
   have HO483 := n0_
   have HO487 := n1_
   have HO491 := n2_
   have HO496 := n3_
   have HO509 := n4_
   have HO513 := n5_
   have BK479 := n6_
   have BK492 := n7_
   have HB := n8_
   clear n0_ n1_ n2_ n3_ n4_ n5_ n6_ n7_ n8_
   refine start_ (n := 4) (S := fun w' => w'.cell? ⟨gb492, 0, none⟩ = some (.bool t488) ∧ w'.cell? ⟨gb492, 1, none⟩ = some (.slice Ao48 t489.length co48)) (ds := []) #[false, false, false, false] (by kernel_rfl) rfl rfl ⟨(blk_cell BK492.out 0).trans rfl, (blk_cell BK492.out 1).trans rfl⟩ (fun hHeld => ?_)
   generalize w59.drew = w60 at HO483 HO487 HO491 HO496 HO509 HO513 BK479 BK492 HB hHeld ⊢
   refine take_ (i := 0) (N := some 23) (v := ?_) (a' := ?_) #[true, false, false, false] rfl rfl (by kernel_rfl) (fun _ _ _ h => h) (Or.inl ⟨by rfl, ?_⟩) hHeld ?_ ?_
   rotate_left
   ·rintro w' ⟨s0, s1⟩
    go_simp
    with_reducible rfl
   rotate_left
   ·simp only [Act.put, List.setIfInBounds_toArray, List.set_cons_zero, List.set_cons_succ, i64_w, i32_w]
    rfl
   refine one_ (i := 1) (N := some 24) #[true, true, false, false] rfl rfl (by kernel_rfl) (by decide) (fun K hK => ?_)
   refine goes_ Try.func60 (by kernel_rfl) rfl #[.int .i64 64] (by rfl) rfl rfl argt ?_
   with_reducible refine (turnstoneref01_Power.calls k 64 t515 t516 _ A37.out).mono ?_
   rintro e w61 ⟨v517, rfl, ho0, hb⟩
   refine ⟨_, rfl, ?_⟩
   have n0_ := rb HO483 hb
   have n1_ := rb HO487 hb
   have n2_ := vb HO491 hb
   have n3_ := vb HO496 hb
   have n4_ := vb HO509 hb
   have n5_ := vb HO513 hb
   have n6_ := Aside0.mk (Kd.V_lower (Kd.V_mono (ok' := fun k_ => (w.heap.size ≤ k_) ∧ some k_ ≠ (.slice Ao42 t481.length co42 : Value).ownBlock ∧ some k_ ≠ (.slice Ao43 t485.length co43 : Value).ownBlock ∧ k_ ≠ gb479 ∧ k_ ≠ gb492) ho0 (fun k_ hk_ => ⟨(Nat.le_trans (below_size (belt HB)) hk_), (Kd.fresh' (Kd.R_lt (rt HO483)) k_ hk_), (Kd.fresh' (Kd.R_lt (rt HO487)) k_ hk_), (Kd.freshB (blkt BK479) k_ hk_), (Kd.freshB (blkt BK492) k_ hk_)⟩)) (below_size (belt HB)))
   have n7_ := blkb BK479 hb
   have n8_ := blkb BK492 hb
   have n9_ := belb HB hb
   clear HO483
   clear HO487
   clear HO491
   clear HO496
   clear HO509
   clear HO513
   clear BK479
   clear BK492
   clear HB
   have HO483 := n0_
   have HO487 := n1_
   have HO491 := n2_
   have HO496 := n3_
   have HO509 := n4_
   have HO513 := n5_
   have HO518 := n6_
   have BK479 := n7_
   have BK492 := n8_
   have HB := n9_
   clear n0_ n1_ n2_ n3_ n4_ n5_ n6_ n7_ n8_ n9_
   (try clear hb)
   (try clear hb2)
   (try clear hk)
   (try clear hi)
   (try clear ho0)
   obtain ⟨Ao62, co62, eo62⟩ := Kd.V_slice HO518.out
   (first | subst eo62 | (injection eo62 with f1_ f2_ f3_; have f4_ := f1_.symm; have f5_ := f3_.symm; clear f1_ f2_ f3_; subst f4_; subst f5_))
   refine hK.out _ _ ⟨(blk_cell BK492.out 0).trans rfl, (blk_cell BK492.out 1).trans rfl⟩ (fun hHeld => ?_)
   clear hK K
   refine norm_ (a' := ?_) ?_ ?_
   rotate_left
   ·show Act.put _ (some 24) _ = _
    simp only [Act.put, List.setIfInBounds_toArray, List.set_cons_zero, List.set_cons_succ, i64_w, i32_w]
    rfl
   refine one_ (i := 2) (N := some 25) #[true, true, true, false] rfl rfl (by kernel_rfl) (by decide) (fun K hK => ?_)
   refine goes_ Try.func27 (by kernel_rfl) rfl #[.agg #[.bool t488, .slice Ao48 t489.length co48], .agg #[.bool t515, .slice Ao62 t516.length co62]] (by rfl) rfl rfl argt ?_
   with_reducible refine (turnstoneref01_Add.calls k t488 _ _ t489 t515 _ _ t516 t519 t520 _ ?side1 ?side2 ?side3 ?side4 A38.out).mono ?_
   (case side1 => repeat (first | exact (Kd.V_reads' HO491.out).2.2 | (with_reducible refine Kd.C_alloc ?_ _) | (with_reducible refine Kd.C_drewN ?_ _) | (with_reducible refine Kd.C_drew ?_)))
   (case side2 => exact (Kd.V_reads' HO491.out).2.1)
   (case side3 => repeat (first | exact (Kd.V_reads' HO518.out).2.2 | (with_reducible refine Kd.C_alloc ?_ _) | (with_reducible refine Kd.C_drewN ?_ _) | (with_reducible refine Kd.C_drew ?_)))
   (case side4 => exact (Kd.V_reads' HO518.out).2.1)
   rintro e w63 ⟨v521, rfl, ho0, hb⟩
   refine ⟨_, rfl, ?_⟩
   have n0_ := rb HO483 hb
   have n1_ := rb HO487 hb
   have n2_ := vb HO491 hb
   have n3_ := vb HO496 hb
   have n4_ := vb HO509 hb
   have n5_ := vb HO513 hb
   have n6_ := vb HO518 hb
   have n7_ := Aside0.mk (Kd.V_lower (Kd.V_mono (ok' := fun k_ => (w.heap.size ≤ k_) ∧ some k_ ≠ (.slice Ao42 t481.length co42 : Value).ownBlock ∧ some k_ ≠ (.slice Ao43 t485.length co43 : Value).ownBlock ∧ k_ ≠ gb479 ∧ k_ ≠ gb492) ho0 (fun k_ hk_ => ⟨(Nat.le_trans (below_size (belt HB)) hk_), (Kd.fresh' (Kd.R_lt (rt HO483)) k_ hk_), (Kd.fresh' (Kd.R_lt (rt HO487)) k_ hk_), (Kd.freshB (blkt BK479) k_ hk_), (Kd.freshB (blkt BK492) k_ hk_)⟩)) (below_size (belt HB)))
   have n8_ := blkb BK479 hb
   have n9_ := blkb BK492 hb
   have n10_ := belb HB hb
   clear HO483
   clear HO487
   clear HO491
   clear HO496
   clear HO509
   clear HO513
   clear HO518
   clear BK479
   clear BK492
   clear HB
   have HO483 := n0_
   have HO487 := n1_
   have HO491 := n2_
   have HO496 := n3_
   have HO509 := n4_
   have HO513 := n5_
   have HO518 := n6_
   have HO522 := n7_
   have BK479 := n8_
   have BK492 := n9_
   have HB := n10_
   clear n0_ n1_ n2_ n3_ n4_ n5_ n6_ n7_ n8_ n9_ n10_
   (try clear hb)
   (try clear hb2)
   (try clear hk)
   (try clear hi)
   (try clear ho0)
   obtain ⟨Ao65, co65, eo65⟩ := Kd.V_slice HO522.out
   (first | subst eo65 | (injection eo65 with f1_ f2_ f3_; have f4_ := f1_.symm; have f5_ := f3_.symm; clear f1_ f2_ f3_; subst f4_; subst f5_))
   refine hK.out _ _ ⟨(blk_cell BK492.out 0).trans rfl, (blk_cell BK492.out 1).trans rfl⟩ (fun hHeld => ?_)
   clear hK K
   refine norm_ (a' := ?_) ?_ ?_
   rotate_left
   ·show Act.put _ (some 25) _ = _
    simp only [Act.put, List.setIfInBounds_toArray, List.set_cons_zero, List.set_cons_succ, i64_w, i32_w]
    rfl
   refine one_ (i := 3) (N := none) #[true, true, true, true] rfl rfl (by kernel_rfl) (by decide) (fun K hK => ?_)
   have hs64 : w63.cell? ⟨gb479, 0, none⟩ = some (.bool false) := (blk_cell BK479.out 0).trans rfl
   have hfs64 := blk_frozen BK479.out 0
   have hns64_1 := NB492_479.out
   have hms64_1 := NB479_492.out
   have hs66 : w63.cell? ⟨gb479, 1, none⟩ = some (.slice none 0 0) := (blk_cell BK479.out 1).trans rfl
   have hfs66 := blk_frozen BK479.out 1
   have hns66_1 := NB492_479.out
   have hms66_1 := NB479_492.out
   refine skip_ (w1 := ?_) (by rfl) rfl ?_ ?_
   rotate_left
   ·go_simp
    rfl
   refine hK.out _ _ ⟨((cell_far (p := ⟨gb479, _, none⟩) NB492_479.out _).trans (((cell_far (p := ⟨gb479, _, none⟩) NB492_479.out _).trans (hHeld.1)))), ((cell_far (p := ⟨gb479, _, none⟩) NB492_479.out _).trans (((cell_far (p := ⟨gb479, _, none⟩) NB492_479.out _).trans (hHeld.2))))⟩ (fun hHeld => ?_)
   clear hK K
   refine done_ (by kernel_rfl) ?_
   try go_wp2
   refine bodyPost_ret (results_cell_row rfl _ _ gb479 28 #[.bool t519, .slice Ao65 t520.length co65] (0, 0) _ rfl (by (with_reducible repeat (first | refine blk_drewN ?_ _ | refine blk_drew ?_ | refine blk_alloc ?_ _)); refine blk_put (cs := #[.bool t519, .slice none 0 0]) ?_ 1 _ rfl; (with_reducible repeat (first | refine blk_drewN ?_ _ | refine blk_drew ?_ | refine blk_alloc ?_ _)); refine blk_put (cs := #[.bool false, .slice none 0 0]) ?_ 0 _ rfl; (with_reducible repeat (first | refine blk_drewN ?_ _ | refine blk_drew ?_ | refine blk_alloc ?_ _)); exact BK479.out) Try.underlying28 rfl (by kernel_rfl)) rfl ?_
   exact ⟨_, by first | rfl | (simp [errW_none, errW_some] <;> rfl) | (simp [*, errW_none, errW_some] <;> rfl), by (with_reducible repeat (first | apply Kd.V_alloc | apply Kd.V_drewN | apply Kd.V_drew)); exact Kd.V_mono (Kd.V_far (p := ⟨gb479, 1, none⟩) (Kd.V_far (p := ⟨gb479, 0, none⟩) (Kd.V_mono HO522.out (fun k_ hk => (⟨hk, hk.2.2.2.1⟩ : _ ∧ k_ ≠ gb479))) (fun _ hk => hk.2) (.bool t519)) (fun _ hk => hk.2) (.slice Ao65 t520.length co65)) (fun _ hk => hk.1.1), by repeat (first | (with_reducible first | exact HB.out | apply below_alloc | apply pw_below_drewN | apply below_drew1 | refine below_set ?_ GE479.out | refine below_set ?_ GE492.out) | exact HB.out)⟩
  ·rw [if_neg c36] at H
   have c36b0 : decide (t514 < 0) = false := decide_eq_false c36
   clear c36
   simp only [Option.some.injEq, Prod.mk.injEq] at H
   obtain ⟨rfl, rfl⟩ := H
   go_enter Try.func21, Try.ntmps21
   try go_wp2_with (first | ((with_reducible refine gate_dst (N := 4) rfl ?_); refine box_event ?hg (N := 4) ?hd (cs := #[.bool false, .slice none 0 0]) (t := 28) ?hr ?_; (case hd => rfl); (case hg => rfl); (case hr => first | (go_simp; done) | (go_simp; rfl)); intro gb479 hg w67 hbox hb; have n0_ := belb HB hb; have n1_ := Aside0.mk (hbox); have n2_ := bels HB hg; have n3_ := bels HB hg; clear HB; have HB := n0_; have BK479 := n1_; have GW479 := n2_; have GE479 := n3_; clear n0_ n1_ n2_ n3_; clear hb hbox hg) | ((with_reducible refine gate_callee (f := 24) rfl ?_); refine goesL_ (some 7) rfl rfl Try.func24 (by kernel_rfl) rfl #[.int .u64 a0] rfl argt ?_; (with_reducible refine (turnstoneref01_U.calls k a0 t480 t481 _ A3.out).mono ?_); rintro e w68 ⟨v482, rfl, ho0, hb⟩; refine ⟨_, rfl, ?_⟩; have n0_ := Aside0.mk (Kd.R_lower (Kd.R_newM (M := fun k_ => (w.heap.size ≤ k_)) ho0 (below_size (belt HB)) (fun k_ h_ => h_)) (below_size (belt HB))); have n1_ := blkb BK479 hb; have n2_ := belb HB hb; clear BK479; clear HB; have HO483 := n0_; have BK479 := n1_; have HB := n2_; clear n0_ n1_ n2_; (try clear hb); (try clear hb2); (try clear hk); (try clear hi); (try clear ho0)) | ((with_reducible refine gate_callee (f := 24) rfl ?_); refine goesL_ (some 9) rfl rfl Try.func24 (by kernel_rfl) rfl #[.int .u64 a1] rfl argt ?_; (with_reducible refine (turnstoneref01_U.calls k a1 t484 t485 _ A4.out).mono ?_); rintro e w69 ⟨v486, rfl, ho0, hb⟩; refine ⟨_, rfl, ?_⟩; have n0_ := Aside0.mk (Kd.R_elder' (rt HO483) (Kd.R_base ho0) hb); have n1_ := Aside0.mk (Kd.R_lower (Kd.R_new' (Kd.R_newM (M := fun k_ => (w.heap.size ≤ k_)) ho0 (below_size (belt HB)) (fun k_ h_ => h_)) (Kd.R_lt (rt HO483))) (below_size (belt HB))); have n2_ := blkb BK479 hb; have n3_ := belb HB hb; clear HO483; clear BK479; clear HB; have HO483 := n0_; have HO487 := n1_; have BK479 := n2_; have HB := n3_; clear n0_ n1_ n2_ n3_; (try clear hb); (try clear hb2); (try clear hk); (try clear hi); (try clear ho0); obtain ⟨Ao70, co70, eo70⟩ := Kd.R_slice HO483.out; subst eo70; obtain ⟨Ao71, co71, eo71⟩ := Kd.R_slice HO487.out; subst eo71) | ((with_reducible refine gate_callee (f := 43) rfl ?_); refine goesL_ (some 10) rfl rfl Try.func43 (by kernel_rfl) rfl #[.agg #[.bool t480, .slice Ao70 t481.length co70], .agg #[.bool t484, .slice Ao71 t485.length co71]] rfl argt ?_; (with_reducible refine (turnstoneref01_Sub.calls k t480 _ _ t481 t484 (fun k_ => some k_ = (.slice Ao71 t485.length co71 : Value).ownBlock) _ _ t485 t488 t489 _ ?side1 ?side2 ?side3 A5.out).mono ?_); (case side1 => repeat (first | exact (Kd.R_reads' HO483.out).2.2 | (with_reducible refine Kd.C_alloc ?_ _) | (with_reducible refine Kd.C_drewN ?_ _) | (with_reducible refine Kd.C_drew ?_))); (case side2 => exact (Kd.R_reads' HO483.out).2.1); (case side3 => exact Kd.R_V (Kd.R_tight rfl (Kd.R_types (HO487.out) BK479.out (by decide)))); rintro e w72 ⟨v490, rfl, ho0, hb⟩; refine ⟨_, rfl, ?_⟩; have n0_ := rb HO483 hb; have n1_ := rb HO487 hb; have n2_ := Aside0.mk (Kd.V_lower (Kd.V_mono (ok' := fun k_ => (w.heap.size ≤ k_) ∧ some k_ ≠ (.slice Ao70 t481.length co70 : Value).ownBlock ∧ k_ ≠ gb479) ho0 (fun k_ hk_ => ⟨Or.elim hk_ (fun hs_ => ((Kd.R_types (HO487.out) BK479.out (by decide)).1 k_ hs_.symm).1.1.1) (fun hn_ => (Nat.le_trans (below_size (belt HB)) hn_)), Or.elim hk_ (fun hs_ => ((Kd.R_types (HO487.out) BK479.out (by decide)).1 k_ hs_.symm).1.2) (fun hn_ => (Kd.fresh' (Kd.R_lt (rt HO483)) k_ hn_)), Or.elim hk_ (fun hs_ => ((Kd.R_types (HO487.out) BK479.out (by decide)).1 k_ hs_.symm).2) (fun hn_ => (Kd.freshB (blkt BK479) k_ hn_))⟩)) (below_size (belt HB))); have n3_ := blkb BK479 hb; have n4_ := belb HB hb; clear HO483; clear HO487; clear BK479; clear HB; have HO483 := n0_; have HO487 := n1_; have HO491 := n2_; have BK479 := n3_; have HB := n4_; clear n0_ n1_ n2_ n3_ n4_; (try clear hb); (try clear hb2); (try clear hk); (try clear hi); (try clear ho0)) | ((with_reducible refine gate_dst (N := 5) rfl ?_); refine box_event ?hg (N := 5) ?hd (cs := #[.bool false, .slice none 0 0]) (t := 28) ?hr ?_; (case hd => rfl); (case hg => rfl); (case hr => first | (go_simp; done) | (go_simp; rfl)); intro gb492 hg w73 hbox hb; have n0_ := rb HO483 hb; have n1_ := rb HO487 hb; have n2_ := Aside0.mk (Kd.V_below (Kd.V_elderB (vt HO491) gb492 (Nat.le_of_eq hg.symm)) hb); have n3_ := blkb BK479 hb; have n4_ := belb HB hb; have n5_ := Aside0.mk (hbox); have n6_ := bels HB hg; have n7_ := bels HB hg; have n8_ := blkl BK479 hg; have n9_ := blkg BK479 hg; clear HO483; clear HO487; clear HO491; clear BK479; clear HB; have HO483 := n0_; have HO487 := n1_; have HO491 := n2_; have BK479 := n3_; have HB := n4_; have BK492 := n5_; have GW492 := n6_; have GE492 := n7_; have NB479_492 := n8_; have NB492_479 := n9_; clear n0_ n1_ n2_ n3_ n4_ n5_ n6_ n7_ n8_ n9_; clear hb hbox hg; have hnb74 := NB492_479.out; have hnc74 := NB479_492.out; have hcz75_0 : w73.cell? ⟨gb492, 0, none⟩ = some (.bool false) := (blk_cell BK492.out 0).trans rfl; have hcz75_1 : w73.cell? ⟨gb492, 1, none⟩ = some (.slice none 0 0) := (blk_cell BK492.out 1).trans rfl; have hfz75_0 := blk_frozen BK492.out 0; have hfz75_1 := blk_frozen BK492.out 1; obtain ⟨Ao76, co76, eo76⟩ := Kd.V_slice HO491.out; subst eo76))
   have n0_ : Aside0 (Kd.R (Kd.int .i64) 3 ((w73.setCell ⟨gb492, 0, none⟩ (.bool t488)).setCell ⟨gb492, 1, none⟩ (.slice Ao76 t489.length co76)) w.heap.size (fun k_ => (w.heap.size ≤ k_) ∧ some k_ ≠ (.slice Ao71 t485.length co71 : Value).ownBlock) (.slice Ao70 t481.length co70) t481) := ⟨by (with_reducible repeat (first | apply Kd.R_alloc | apply Kd.R_drewN | apply Kd.R_drew)); exact Kd.R_mono (Kd.R_far (p := ⟨gb492, 1, none⟩) (Kd.R_far (p := ⟨gb492, 0, none⟩) (Kd.R_types HO483.out BK492.out (by decide)) (fun _ hk => hk.2) (.bool t488)) (fun _ hk => hk.2) (.slice Ao76 t489.length co76)) (fun _ hk => ⟨hk.1.1.1, hk.1.2⟩)⟩
   have n1_ : Aside0 (Kd.R (Kd.int .i64) 3 ((w73.setCell ⟨gb492, 0, none⟩ (.bool t488)).setCell ⟨gb492, 1, none⟩ (.slice Ao76 t489.length co76)) w.heap.size (fun k_ => (w.heap.size ≤ k_) ∧ some k_ ≠ (.slice Ao70 t481.length co70 : Value).ownBlock) (.slice Ao71 t485.length co71) t485) := ⟨by (with_reducible repeat (first | apply Kd.R_alloc | apply Kd.R_drewN | apply Kd.R_drew)); exact Kd.R_mono (Kd.R_far (p := ⟨gb492, 1, none⟩) (Kd.R_far (p := ⟨gb492, 0, none⟩) (Kd.R_types HO487.out BK492.out (by decide)) (fun _ hk => hk.2) (.bool t488)) (fun _ hk => hk.2) (.slice Ao76 t489.length co76)) (fun _ hk => ⟨hk.1.1.1, hk.1.2⟩)⟩
   have n2_ : Aside0 (Kd.V (Kd.int .i64) 3 ((w73.setCell ⟨gb492, 0, none⟩ (.bool t488)).setCell ⟨gb492, 1, none⟩ (.slice Ao76 t489.length co76)) w.heap.size (fun k_ => (w.heap.size ≤ k_) ∧ some k_ ≠ (.slice Ao70 t481.length co70 : Value).ownBlock ∧ k_ ≠ gb479 ∧ k_ ≠ gb492) (.slice Ao76 t489.length co76) t489) := ⟨by (with_reducible repeat (first | apply Kd.V_alloc | apply Kd.V_drewN | apply Kd.V_drew)); exact Kd.V_mono (Kd.V_far (p := ⟨gb492, 1, none⟩) (Kd.V_far (p := ⟨gb492, 0, none⟩) (Kd.V_mono HO491.out (fun k_ hk => (⟨hk, hk.2⟩ : _ ∧ k_ ≠ gb492))) (fun _ hk => hk.2) (.bool t488)) (fun _ hk => hk.2) (.slice Ao76 t489.length co76)) (fun _ hk => ⟨hk.1.1.1, ⟨hk.1.1.2.1, ⟨hk.1.1.2.2, hk.1.2⟩⟩⟩)⟩
   have n3_ : Aside0 (((w73.setCell ⟨gb492, 0, none⟩ (.bool t488)).setCell ⟨gb492, 1, none⟩ (.slice Ao76 t489.length co76)).heap[gb479]? = some (.cells #[.bool false, .slice none 0 0] 28 (0, 0))) := ⟨by (with_reducible repeat (first | refine blk_drewN ?_ _ | refine blk_drew ?_ | refine blk_alloc ?_ _)); refine blk_far ?_ NB479_492.out _; (with_reducible repeat (first | refine blk_drewN ?_ _ | refine blk_drew ?_ | refine blk_alloc ?_ _)); refine blk_far ?_ NB479_492.out _; (with_reducible repeat (first | refine blk_drewN ?_ _ | refine blk_drew ?_ | refine blk_alloc ?_ _)); exact BK479.out⟩
   have n4_ : Aside0 (((w73.setCell ⟨gb492, 0, none⟩ (.bool t488)).setCell ⟨gb492, 1, none⟩ (.slice Ao76 t489.length co76)).heap[gb492]? = some (.cells #[.bool t488, .slice Ao76 t489.length co76] 28 (0, 0))) := ⟨by (with_reducible repeat (first | refine blk_drewN ?_ _ | refine blk_drew ?_ | refine blk_alloc ?_ _)); refine blk_put (cs := #[.bool t488, .slice none 0 0]) ?_ 1 _ rfl; (with_reducible repeat (first | refine blk_drewN ?_ _ | refine blk_drew ?_ | refine blk_alloc ?_ _)); refine blk_put (cs := #[.bool false, .slice none 0 0]) ?_ 0 _ rfl; (with_reducible repeat (first | refine blk_drewN ?_ _ | refine blk_drew ?_ | refine blk_alloc ?_ _)); exact BK492.out⟩
   have n5_ : Aside0 (Below w.heap.size w ((w73.setCell ⟨gb492, 0, none⟩ (.bool t488)).setCell ⟨gb492, 1, none⟩ (.slice Ao76 t489.length co76))) := ⟨by repeat (first | (with_reducible first | exact HB.out | apply below_alloc | apply pw_below_drewN | apply below_drew1 | refine below_set ?_ GE479.out | refine below_set ?_ GE492.out) | exact HB.out)⟩
   (try clear HO483)
   (try clear HO487)
   (try clear HO491)
   (try clear BK479)
   (try clear BK492)
   (try clear HB)
   generalize ((w73.setCell ⟨gb492, 0, none⟩ (.bool t488)).setCell ⟨gb492, 1, none⟩ (.slice Ao76 t489.length co76)) = w77 at n0_ n1_ n2_ n3_ n4_ n5_ ⊢
   have HO483 := n0_
   have HO487 := n1_
   have HO491 := n2_
   have BK479 := n3_
   have BK492 := n4_
   have HB := n5_
   clear n0_ n1_ n2_ n3_ n4_ n5_
   have n0_ := Aside0.mk (Kd.R_drew HO483.out)
   have n1_ := Aside0.mk (Kd.R_drew HO487.out)
   have n2_ := Aside0.mk (Kd.V_drew HO491.out)
   have n3_ := Aside0.mk (blk_drew BK479.out)
   have n4_ := Aside0.mk (blk_drew BK492.out)
   have n5_ := Aside0.mk (below_drew1 HB.out)
   clear HO483
   clear HO487
   clear HO491
   clear BK479
   clear BK492
   clear HB
   have HO483 := n0_
   have HO487 := n1_
   have HO491 := n2_
   have BK479 := n3_
   have BK492 := n4_
   have HB := n5_
   clear n0_ n1_ n2_ n3_ n4_ n5_
   refine start_ (n := 4) (S := fun w' => w'.cell? ⟨gb492, 0, none⟩ = some (.bool t488) ∧ w'.cell? ⟨gb492, 1, none⟩ = some (.slice Ao76 t489.length co76)) (ds := []) #[false, false, false, false] (by kernel_rfl) rfl rfl ⟨(blk_cell BK492.out 0).trans rfl, (blk_cell BK492.out 1).trans rfl⟩ (fun hHeld => ?_)
   generalize w77.drew = w78 at HO483 HO487 HO491 BK479 BK492 HB hHeld ⊢
   refine take_ (i := 0) (N := some 11) (v := ?_) (a' := ?_) #[true, false, false, false] rfl rfl (by kernel_rfl) (fun _ _ _ h => h) (Or.inl ⟨by rfl, ?_⟩) hHeld ?_ ?_
   rotate_left
   ·rintro w' ⟨s0, s1⟩
    go_simp
    with_reducible rfl
   rotate_left
   ·simp only [Act.put, List.setIfInBounds_toArray, List.set_cons_zero, List.set_cons_succ, i64_w, i32_w]
    rfl
   refine one_ (i := 1) (N := some 12) #[true, true, false, false] rfl rfl (by kernel_rfl) (by decide) (fun K hK => ?_)
   refine goes_ Try.func60 (by kernel_rfl) rfl #[.int .i64 63] (by rfl) rfl rfl argt ?_
   with_reducible refine (turnstoneref01_Power.calls k 63 t493 t494 _ A6.out).mono ?_
   rintro e w79 ⟨v495, rfl, ho0, hb⟩
   refine ⟨_, rfl, ?_⟩
   have n0_ := rb HO483 hb
   have n1_ := rb HO487 hb
   have n2_ := vb HO491 hb
   have n3_ := Aside0.mk (Kd.V_lower (Kd.V_mono (ok' := fun k_ => (w.heap.size ≤ k_) ∧ some k_ ≠ (.slice Ao70 t481.length co70 : Value).ownBlock ∧ some k_ ≠ (.slice Ao71 t485.length co71 : Value).ownBlock ∧ k_ ≠ gb479 ∧ k_ ≠ gb492) ho0 (fun k_ hk_ => ⟨(Nat.le_trans (below_size (belt HB)) hk_), (Kd.fresh' (Kd.R_lt (rt HO483)) k_ hk_), (Kd.fresh' (Kd.R_lt (rt HO487)) k_ hk_), (Kd.freshB (blkt BK479) k_ hk_), (Kd.freshB (blkt BK492) k_ hk_)⟩)) (below_size (belt HB)))
   have n4_ := blkb BK479 hb
   have n5_ := blkb BK492 hb
   have n6_ := belb HB hb
   clear HO483
   clear HO487
   clear HO491
   clear BK479
   clear BK492
   clear HB
   have HO483 := n0_
   have HO487 := n1_
   have HO491 := n2_
   have HO496 := n3_
   have BK479 := n4_
   have BK492 := n5_
   have HB := n6_
   clear n0_ n1_ n2_ n3_ n4_ n5_ n6_
   (try clear hb)
   (try clear hb2)
   (try clear hk)
   (try clear hi)
   (try clear ho0)
   obtain ⟨Ao80, co80, eo80⟩ := Kd.V_slice HO496.out
   (first | subst eo80 | (injection eo80 with f1_ f2_ f3_; have f4_ := f1_.symm; have f5_ := f3_.symm; clear f1_ f2_ f3_; subst f4_; subst f5_))
   refine hK.out _ _ ⟨(blk_cell BK492.out 0).trans rfl, (blk_cell BK492.out 1).trans rfl⟩ (fun hHeld => ?_)
   clear hK K
   refine norm_ (a' := ?_) ?_ ?_
   rotate_left
   ·show Act.put _ (some 12) _ = _
    simp only [Act.put, List.setIfInBounds_toArray, List.set_cons_zero, List.set_cons_succ, i64_w, i32_w]
    rfl
   refine one_ (i := 2) (N := some 13) #[true, true, true, false] rfl rfl (by kernel_rfl) (by decide) (fun K hK => ?_)
   refine goes_ Try.func18 (by kernel_rfl) rfl #[.agg #[.bool t488, .slice Ao76 t489.length co76], .agg #[.bool t493, .slice Ao80 t494.length co80]] (by rfl) rfl rfl argt ?_
   with_reducible refine (turnstoneref01_Cmp.calls k t488 _ _ t489 t493 _ _ t494 t497 _ ?side1 ?side2 ?side3 ?side4 A7.out).mono ?_
   (case side1 => repeat (first | exact (Kd.V_reads' HO491.out).2.2 | (with_reducible refine Kd.C_alloc ?_ _) | (with_reducible refine Kd.C_drewN ?_ _) | (with_reducible refine Kd.C_drew ?_)))
   (case side2 => exact (Kd.V_reads' HO491.out).2.1)
   (case side3 => repeat (first | exact (Kd.V_reads' HO496.out).2.2 | (with_reducible refine Kd.C_alloc ?_ _) | (with_reducible refine Kd.C_drewN ?_ _) | (with_reducible refine Kd.C_drew ?_)))
   (case side4 => exact (Kd.V_reads' HO496.out).2.1)
   rintro e w81 ⟨rfl, hb⟩
   refine ⟨_, rfl, ?_⟩
   have n0_ := rb HO483 hb
   have n1_ := rb HO487 hb
   have n2_ := vb HO491 hb
   have n3_ := vb HO496 hb
   have n4_ := blkb BK479 hb
   have n5_ := blkb BK492 hb
   have n6_ := belb HB hb
   clear HO483
   clear HO487
   clear HO491
   clear HO496
   clear BK479
   clear BK492
   clear HB
   have HO483 := n0_
   have HO487 := n1_
   have HO491 := n2_
   have HO496 := n3_
   have BK479 := n4_
   have BK492 := n5_
   have HB := n6_
   clear n0_ n1_ n2_ n3_ n4_ n5_ n6_
   (try clear hb)
   (try clear hb2)
   (try clear hk)
   (try clear hi)
   refine hK.out _ _ ⟨(blk_cell BK492.out 0).trans rfl, (blk_cell BK492.out 1).trans rfl⟩ (fun hHeld => ?_)
   clear hK K
   refine norm_ (a' := ?_) ?_ ?_
   rotate_left
   ·show Act.put _ (some 13) _ = _
    simp only [Act.put, List.setIfInBounds_toArray, List.set_cons_zero, List.set_cons_succ, i64_w, i32_w]
    rfl
   refine pure_ (i := 3) (N := some 14) (v := ?_) (a' := ?_) #[true, true, true, true] rfl rfl (by kernel_rfl) (fun _ _ _ h => h) (Or.inl ⟨by rfl, ?_⟩) ?_ ?_
   rotate_left
   ·intro w'
    go_simp
    with_reducible rfl
   rotate_left
   ·simp only [Act.put, List.setIfInBounds_toArray, List.set_cons_zero, List.set_cons_succ, i64_w, i32_w]
    rfl
   refine done_ (by kernel_rfl) ?_
   try go_wp2
   have n0_ := Aside0.mk (Kd.R_drew HO483.out)
   have n1_ := Aside0.mk (Kd.R_drew HO487.out)
   have n2_ := Aside0.mk (Kd.V_drew HO491.out)
   have n3_ := Aside0.mk (Kd.V_drew HO496.out)
   have n4_ := Aside0.mk (blk_drew BK479.out)
   have n5_ := Aside0.mk (blk_drew BK492.out)
   have n6_ := Aside0.mk (below_drew1 HB.out)
   clear HO483
   clear HO487
   clear HO491
   clear HO496
   clear BK479
   clear BK492
   clear HB
   have HO483 := n0_
   have HO487 := n1_
   have HO491 := n2_
   have HO496 := n3_
   have BK479 := n4_
   have BK492 := n5_
   have HB := n6_
   clear n0_ n1_ n2_ n3_ n4_ n5_ n6_
   refine start_ (n := 5) (S := fun w' => w'.cell? ⟨gb492, 0, none⟩ = some (.bool t488) ∧ w'.cell? ⟨gb492, 1, none⟩ = some (.slice Ao76 t489.length co76)) (ds := []) #[false, false, false, false, false] (by kernel_rfl) rfl rfl ⟨(blk_cell BK492.out 0).trans rfl, (blk_cell BK492.out 1).trans rfl⟩ (fun hHeld => ?_)
   generalize w81.drew = w82 at HO483 HO487 HO491 HO496 BK479 BK492 HB hHeld ⊢
   refine take_ (i := 0) (N := some 18) (v := ?_) (a' := ?_) #[true, false, false, false, false] rfl rfl (by kernel_rfl) (fun _ _ _ h => h) (Or.inl ⟨by rfl, ?_⟩) hHeld ?_ ?_
   rotate_left
   ·rintro w' ⟨s0, s1⟩
    go_simp
    with_reducible rfl
   rotate_left
   ·simp only [Act.put, List.setIfInBounds_toArray, List.set_cons_zero, List.set_cons_succ, i64_w, i32_w]
    rfl
   refine one_ (i := 1) (N := some 19) #[true, true, false, false, false] rfl rfl (by kernel_rfl) (by decide) (fun K hK => ?_)
   refine goes_ Try.func60 (by kernel_rfl) rfl #[.int .i64 63] (by rfl) rfl rfl argt ?_
   with_reducible refine (turnstoneref01_Power.calls k 63 t506 t507 _ A33.out).mono ?_
   rintro e w83 ⟨v508, rfl, ho0, hb⟩
   refine ⟨_, rfl, ?_⟩
   have n0_ := rb HO483 hb
   have n1_ := rb HO487 hb
   have n2_ := vb HO491 hb
   have n3_ := vb HO496 hb
   have n4_ := Aside0.mk (Kd.V_lower (Kd.V_mono (ok' := fun k_ => (w.heap.size ≤ k_) ∧ some k_ ≠ (.slice Ao70 t481.length co70 : Value).ownBlock ∧ some k_ ≠ (.slice Ao71 t485.length co71 : Value).ownBlock ∧ k_ ≠ gb479 ∧ k_ ≠ gb492) ho0 (fun k_ hk_ => ⟨(Nat.le_trans (below_size (belt HB)) hk_), (Kd.fresh' (Kd.R_lt (rt HO483)) k_ hk_), (Kd.fresh' (Kd.R_lt (rt HO487)) k_ hk_), (Kd.freshB (blkt BK479) k_ hk_), (Kd.freshB (blkt BK492) k_ hk_)⟩)) (below_size (belt HB)))
   have n5_ := blkb BK479 hb
   have n6_ := blkb BK492 hb
   have n7_ := belb HB hb
   clear HO483
   clear HO487
   clear HO491
   clear HO496
   clear BK479
   clear BK492
   clear HB
   have HO483 := n0_
   have HO487 := n1_
   have HO491 := n2_
   have HO496 := n3_
   have HO509 := n4_
   have BK479 := n5_
   have BK492 := n6_
   have HB := n7_
   clear n0_ n1_ n2_ n3_ n4_ n5_ n6_ n7_
   (try clear hb)
   (try clear hb2)
   (try clear hk)
   (try clear hi)
   (try clear ho0)
   obtain ⟨Ao84, co84, eo84⟩ := Kd.V_slice HO509.out
   (first | subst eo84 | (injection eo84 with f1_ f2_ f3_; have f4_ := f1_.symm; have f5_ := f3_.symm; clear f1_ f2_ f3_; subst f4_; subst f5_))
   refine hK.out _ _ ⟨(blk_cell BK492.out 0).trans rfl, (blk_cell BK492.out 1).trans rfl⟩ (fun hHeld => ?_)
   clear hK K
   refine norm_ (a' := ?_) ?_ ?_
   rotate_left
   ·show Act.put _ (some 19) _ = _
    simp only [Act.put, List.setIfInBounds_toArray, List.set_cons_zero, List.set_cons_succ, i64_w, i32_w]
    rfl
   refine one_ (i := 2) (N := some 20) #[true, true, true, false, false] rfl rfl (by kernel_rfl) (by decide) (fun K hK => ?_)
   refine goes_ Try.func61 (by kernel_rfl) rfl #[.agg #[.bool t506, .slice Ao84 t507.length co84]] (by rfl) rfl rfl argt ?_
   with_reducible refine (turnstoneref01_Neg.calls k t506 (fun k_ => ((w.heap.size ≤ k_) ∧ (some k_ ≠ (.slice Ao70 t481.length co70 : Value).ownBlock ∧ (some k_ ≠ (.slice Ao71 t485.length co71 : Value).ownBlock ∧ (k_ ≠ gb479 ∧ k_ ≠ gb492))))) _ _ t507 t510 t511 _ ?side1 A34.out).mono ?_
   (case side1 => exact HO509.out)
   rintro e w85 ⟨v512, rfl, ho0, hb⟩
   refine ⟨_, rfl, ?_⟩
   have n0_ := rb HO483 hb
   have n1_ := rb HO487 hb
   have n2_ := vb HO491 hb
   have n3_ := vb HO496 hb
   have n4_ := vb HO509 hb
   have n5_ := Aside0.mk (Kd.V_lower (Kd.V_mono (ok' := fun k_ => (w.heap.size ≤ k_) ∧ some k_ ≠ (.slice Ao70 t481.length co70 : Value).ownBlock ∧ some k_ ≠ (.slice Ao71 t485.length co71 : Value).ownBlock ∧ k_ ≠ gb479 ∧ k_ ≠ gb492) ho0 (fun k_ hk_ => ⟨Or.elim hk_ (fun hs_ => hs_.1) (fun hn_ => (Nat.le_trans (below_size (belt HB)) hn_)), Or.elim hk_ (fun hs_ => hs_.2.1) (fun hn_ => (Kd.fresh' (Kd.R_lt (rt HO483)) k_ hn_)), Or.elim hk_ (fun hs_ => hs_.2.2.1) (fun hn_ => (Kd.fresh' (Kd.R_lt (rt HO487)) k_ hn_)), Or.elim hk_ (fun hs_ => hs_.2.2.2.1) (fun hn_ => (Kd.freshB (blkt BK479) k_ hn_)), Or.elim hk_ (fun hs_ => hs_.2.2.2.2) (fun hn_ => (Kd.freshB (blkt BK492) k_ hn_))⟩)) (below_size (belt HB)))
   have n6_ := blkb BK479 hb
   have n7_ := blkb BK492 hb
   have n8_ := belb HB hb
   clear HO483
   clear HO487
   clear HO491
   clear HO496
   clear HO509
   clear BK479
   clear BK492
   clear HB
   have HO483 := n0_
   have HO487 := n1_
   have HO491 := n2_
   have HO496 := n3_
   have HO509 := n4_
   have HO513 := n5_
   have BK479 := n6_
   have BK492 := n7_
   have HB := n8_
   clear n0_ n1_ n2_ n3_ n4_ n5_ n6_ n7_ n8_
   (try clear hb)
   (try clear hb2)
   (try clear hk)
   (try clear hi)
   (try clear ho0)
   obtain ⟨Ao86, co86, eo86⟩ := Kd.V_slice HO513.out
   (first | subst eo86 | (injection eo86 with f1_ f2_ f3_; have f4_ := f1_.symm; have f5_ := f3_.symm; clear f1_ f2_ f3_; subst f4_; subst f5_))
   refine hK.out _ _ ⟨(blk_cell BK492.out 0).trans rfl, (blk_cell BK492.out 1).trans rfl⟩ (fun hHeld => ?_)
   clear hK K
   refine norm_ (a' := ?_) ?_ ?_
   rotate_left
   ·show Act.put _ (some 20) _ = _
    simp only [Act.put, List.setIfInBounds_toArray, List.set_cons_zero, List.set_cons_succ, i64_w, i32_w]
    rfl
   refine one_ (i := 3) (N := some 21) #[true, true, true, true, false] rfl rfl (by kernel_rfl) (by decide) (fun K hK => ?_)
   refine goes_ Try.func18 (by kernel_rfl) rfl #[.agg #[.bool t488, .slice Ao76 t489.length co76], .agg #[.bool t510, .slice Ao86 t511.length co86]] (by rfl) rfl rfl argt ?_
   with_reducible refine (turnstoneref01_Cmp.calls k t488 _ _ t489 t510 _ _ t511 t514 _ ?side1 ?side2 ?side3 ?side4 A35.out).mono ?_
   (case side1 => repeat (first | exact (Kd.V_reads' HO491.out).2.2 | (with_reducible refine Kd.C_alloc ?_ _) | (with_reducible refine Kd.C_drewN ?_ _) | (with_reducible refine Kd.C_drew ?_)))
   (case side2 => exact (Kd.V_reads' HO491.out).2.1)
   (case side3 => repeat (first | exact (Kd.V_reads' HO513.out).2.2 | (with_reducible refine Kd.C_alloc ?_ _) | (with_reducible refine Kd.C_drewN ?_ _) | (with_reducible refine Kd.C_drew ?_)))
   (case side4 => exact (Kd.V_reads' HO513.out).2.1)
   rintro e w87 ⟨rfl, hb⟩
   refine ⟨_, rfl, ?_⟩
   have n0_ := rb HO483 hb
   have n1_ := rb HO487 hb
   have n2_ := vb HO491 hb
   have n3_ := vb HO496 hb
   have n4_ := vb HO509 hb
   have n5_ := vb HO513 hb
   have n6_ := blkb BK479 hb
   have n7_ := blkb BK492 hb
   have n8_ := belb HB hb
   clear HO483
   clear HO487
   clear HO491
   clear HO496
   clear HO509
   clear HO513
   clear BK479
   clear BK492
   clear HB
   have HO483 := n0_
   have HO487 := n1_
   have HO491 := n2_
   have HO496 := n3_
   have HO509 := n4_
   have HO513 := n5_
   have BK479 := n6_
   have BK492 := n7_
   have HB := n8_
   clear n0_ n1_ n2_ n3_ n4_ n5_ n6_ n7_ n8_
   (try clear hb)
   (try clear hb2)
   (try clear hk)
   (try clear hi)
   refine hK.out _ _ ⟨(blk_cell BK492.out 0).trans rfl, (blk_cell BK492.out 1).trans rfl⟩ (fun hHeld => ?_)
   clear hK K
   refine norm_ (a' := ?_) ?_ ?_
   rotate_left
   ·show Act.put _ (some 21) _ = _
    simp only [Act.put, List.setIfInBounds_toArray, List.set_cons_zero, List.set_cons_succ, i64_w, i32_w]
    rfl
   refine pure_ (i := 4) (N := some 22) (v := ?_) (a' := ?_) #[true, true, true, true, true] rfl rfl (by kernel_rfl) (fun _ _ _ h => h) (Or.inl ⟨by rfl, ?_⟩) ?_ ?_
   rotate_left
   ·intro w'
    go_simp
    with_reducible rfl
   rotate_left
   ·simp only [Act.put, List.setIfInBounds_toArray, List.set_cons_zero, List.set_cons_succ, i64_w, i32_w]
    rfl
   refine done_ (by kernel_rfl) ?_
   have hcz88_0 : w87.cell? ⟨gb492, 0, none⟩ = some (.bool t488) := (blk_cell BK492.out 0).trans rfl
   have hcz88_1 : w87.cell? ⟨gb492, 1, none⟩ = some (.slice Ao76 t489.length co76) := (blk_cell BK492.out 1).trans rfl
   have hfz88_0 := blk_frozen BK492.out 0
   have hfz88_1 := blk_frozen BK492.out 1
   have hcz89_0 : w87.cell? ⟨gb479, 0, none⟩ = some (.bool false) := (blk_cell BK479.out 0).trans rfl
   have hcz89_1 : w87.cell? ⟨gb479, 1, none⟩ = some (.slice none 0 0) := (blk_cell BK479.out 1).trans rfl
   have hfz89_0 := blk_frozen BK479.out 0
   have hfz89_1 := blk_frozen BK479.out 1
   try go_wp2
   refine bodyPost_ret (results_cell_row rfl _ _ gb479 28 #[.bool t488, .slice Ao76 t489.length co76] (0, 0) _ rfl (by (with_reducible repeat (first | refine blk_drewN ?_ _ | refine blk_drew ?_ | refine blk_alloc ?_ _)); refine blk_put (cs := #[.bool t488, .slice none 0 0]) ?_ 1 _ rfl; (with_reducible repeat (first | refine blk_drewN ?_ _ | refine blk_drew ?_ | refine blk_alloc ?_ _)); refine blk_put (cs := #[.bool false, .slice none 0 0]) ?_ 0 _ rfl; (with_reducible repeat (first | refine blk_drewN ?_ _ | refine blk_drew ?_ | refine blk_alloc ?_ _)); exact BK479.out) Try.underlying28 rfl (by kernel_rfl)) rfl ?_
   exact ⟨_, by first | rfl | (simp [errW_none, errW_some] <;> rfl) | (simp [*, errW_none, errW_some] <;> rfl), by (with_reducible repeat (first | apply Kd.V_alloc | apply Kd.V_drewN | apply Kd.V_drew)); exact Kd.V_mono (Kd.V_far (p := ⟨gb479, 1, none⟩) (Kd.V_far (p := ⟨gb479, 0, none⟩) (Kd.V_mono HO491.out (fun k_ hk => (⟨hk, hk.2.2.1⟩ : _ ∧ k_ ≠ gb479))) (fun _ hk => hk.2) (.bool t488)) (fun _ hk => hk.2) (.slice Ao76 t489.length co76)) (fun _ hk => hk.1.1), by repeat (first | (with_reducible first | exact HB.out | apply below_alloc | apply pw_below_drewN | apply below_drew1 | refine below_set ?_ GE479.out | refine below_set ?_ GE492.out) | exact HB.out)⟩

end Go.Proofs.Ytimgiiceipjpaaa.Print
