/- What each Go function that is named below answers, as a Lean function, and that its walk comes to just that: for whatever arguments that function gives an answer for. Written by a program of this session (wip/mkpr.py, pr.sh). -/
import Derived.Test.YtdfpkjdhndfcbaaPrint1000
import Derived.Test.YtdfpkjdhndfcbaaPrint1008
namespace Go.Proofs.Ytdfpkjdhndfcbaa.Print
open Go.RowKit Go.Proofs.YtdfpkjdhndfcbaaW.PrintWords Go.Proofs.YtdfpkjdhndfcbaaW.PrintLast Go.Proofs.YtdfpkjdhndfcbaaW.PrintMore
attribute [local go_sem] max2_int min2_int max_two min_two max_three min_three max_four min_four   -- for this text's walks alone
open Go.Proofs.Ytdfpkjdhndfcbaa.Bits Go.Proofs.Ytdfpkjdhndfcbaa.Short
attribute [local go_sem] add64_run0 sub64_run0 add64_run sub64_run
set_option linter.unusedVariables false
set_option linter.unusedSimpArgs false

/-! ### turnstoneref03_Since: function 27 -/
def turnstoneref03_Since.f (k : Nat) (a0 : Int) (a1 : Int) : Option (Bool × List Int) := (turnstoneref01_U.f k a0).bind fun bt280 => ((turnstoneref01_U.f k a1).bind fun bt284 => ((turnstoneref01_Sub.f k bt280.1 bt280.2 bt284.1 bt284.2).bind fun bt288 => ((turnstoneref01_Power.f k 63).bind fun bt293 => ((turnstoneref01_Cmp.f k bt288.1 bt288.2 bt293.1 bt293.2).bind fun t297 => (if t297 ≥ 0 then ((turnstoneref01_Power.f k 64).bind fun bt298 => ((turnstoneref01_Sub.f k bt288.1 bt288.2 bt298.1 bt298.2).bind fun bt302 => (some (bt302.1, bt302.2)))) else ((turnstoneref01_Power.f k 63).bind fun bt306 => ((turnstoneref01_Neg.f k bt306.1 bt306.2).bind fun bt310 => ((turnstoneref01_Cmp.f k bt288.1 bt288.2 bt310.1 bt310.2).bind fun t314 => (if t314 < 0 then ((turnstoneref01_Power.f k 64).bind fun bt315 => ((turnstoneref01_Add.f k bt288.1 bt288.2 bt315.1 bt315.2).bind fun bt319 => (some (bt319.1, bt319.2)))) else (some (bt288.1, bt288.2)))))))))))
theorem turnstoneref03_Since.mono : ∀ a0 a1 k, LeO (turnstoneref03_Since.f k a0 a1) (turnstoneref03_Since.f (k + 1) a0 a1) := by
 intro a0 a1 k
 unfold turnstoneref03_Since.f
 repeat' first
   | (with_reducible exact turnstoneref01_Add.mono _ _ _ _ _)
   | (with_reducible exact turnstoneref01_Cmp.mono _ _ _ _ _)
   | (with_reducible exact turnstoneref01_Neg.mono _ _ _)
   | (with_reducible exact turnstoneref01_Power.mono _ _)
   | (with_reducible exact turnstoneref01_Sub.mono _ _ _ _ _)
   | (with_reducible exact turnstoneref01_U.mono _ _)
   | (with_reducible exact LeO.refl _)
   | (with_reducible exact LeO.none _)
   | (with_reducible refine LeO.ite ?_ ?_)
   | (with_reducible refine LeO.bind ?_ (fun _ => ?_))
   | exact turnstoneref01_Add.mono _ _ _ _ _
   | exact turnstoneref01_Cmp.mono _ _ _ _ _
   | exact turnstoneref01_Neg.mono _ _ _
   | exact turnstoneref01_Power.mono _ _
   | exact turnstoneref01_Sub.mono _ _ _ _ _
   | exact turnstoneref01_U.mono _ _
   | exact LeO.none _
   | refine LeO.ite ?_ ?_
   | refine LeO.bind ?_ (fun _ => ?_)
set_option maxHeartbeats 8000000 in
set_option maxRecDepth 100000 in
theorem turnstoneref03_Since.calls (k : Nat) (a0 : Int) (a1 : Int) (r1 : Bool) (r2 : List Int) (w : World) (h : turnstoneref03_Since.f k a0 a1 = some (r1, r2)) :
  Calls Try.prog 27 #[.int .u64 a0, .int .u64 a1] w fun e w' => ∃ v1_ : Value, e = .returned (.agg #[.bool r1, v1_]) ∧ Kd.V (Kd.int .i64) 3 w' w.heap.size (fun k_ => (w.heap.size ≤ k_)) v1_ r2 ∧ Below w.heap.size w w' := by
 have hu49 := Try.underlying49
 have HB := Aside0.mk (Below.refl w.heap.size w)
 have H : ((turnstoneref01_U.f k a0).bind fun bt280 => ((turnstoneref01_U.f k a1).bind fun bt284 => ((turnstoneref01_Sub.f k bt280.1 bt280.2 bt284.1 bt284.2).bind fun bt288 => ((turnstoneref01_Power.f k 63).bind fun bt293 => ((turnstoneref01_Cmp.f k bt288.1 bt288.2 bt293.1 bt293.2).bind fun t297 => (if t297 ≥ 0 then ((turnstoneref01_Power.f k 64).bind fun bt298 => ((turnstoneref01_Sub.f k bt288.1 bt288.2 bt298.1 bt298.2).bind fun bt302 => (some (bt302.1, bt302.2)))) else ((turnstoneref01_Power.f k 63).bind fun bt306 => ((turnstoneref01_Neg.f k bt306.1 bt306.2).bind fun bt310 => ((turnstoneref01_Cmp.f k bt288.1 bt288.2 bt310.1 bt310.2).bind fun t314 => (if t314 < 0 then ((turnstoneref01_Power.f k 64).bind fun bt315 => ((turnstoneref01_Add.f k bt288.1 bt288.2 bt315.1 bt315.2).bind fun bt319 => (some (bt319.1, bt319.2)))) else (some (bt288.1, bt288.2)))))))))))) = some (r1, r2) := h
 clear h
 replace H := Option.bind_eq_some_iff.mp H
 obtain ⟨⟨t280, t281⟩, A30, H⟩ := H
 replace H : ((turnstoneref01_U.f k a1).bind fun bt284 => ((turnstoneref01_Sub.f k t280 t281 bt284.1 bt284.2).bind fun bt288 => ((turnstoneref01_Power.f k 63).bind fun bt293 => ((turnstoneref01_Cmp.f k bt288.1 bt288.2 bt293.1 bt293.2).bind fun t297 => (if t297 ≥ 0 then ((turnstoneref01_Power.f k 64).bind fun bt298 => ((turnstoneref01_Sub.f k bt288.1 bt288.2 bt298.1 bt298.2).bind fun bt302 => (some (bt302.1, bt302.2)))) else ((turnstoneref01_Power.f k 63).bind fun bt306 => ((turnstoneref01_Neg.f k bt306.1 bt306.2).bind fun bt310 => ((turnstoneref01_Cmp.f k bt288.1 bt288.2 bt310.1 bt310.2).bind fun t314 => (if t314 < 0 then ((turnstoneref01_Power.f k 64).bind fun bt315 => ((turnstoneref01_Add.f k bt288.1 bt288.2 bt315.1 bt315.2).bind fun bt319 => (some (bt319.1, bt319.2)))) else (some (bt288.1, bt288.2))))))))))) = some (r1, r2) := H
 have A3 := Aside0.mk A30
 clear A30
 replace H := Option.bind_eq_some_iff.mp H
 obtain ⟨⟨t284, t285⟩, A40, H⟩ := H
 replace H : ((turnstoneref01_Sub.f k t280 t281 t284 t285).bind fun bt288 => ((turnstoneref01_Power.f k 63).bind fun bt293 => ((turnstoneref01_Cmp.f k bt288.1 bt288.2 bt293.1 bt293.2).bind fun t297 => (if t297 ≥ 0 then ((turnstoneref01_Power.f k 64).bind fun bt298 => ((turnstoneref01_Sub.f k bt288.1 bt288.2 bt298.1 bt298.2).bind fun bt302 => (some (bt302.1, bt302.2)))) else ((turnstoneref01_Power.f k 63).bind fun bt306 => ((turnstoneref01_Neg.f k bt306.1 bt306.2).bind fun bt310 => ((turnstoneref01_Cmp.f k bt288.1 bt288.2 bt310.1 bt310.2).bind fun t314 => (if t314 < 0 then ((turnstoneref01_Power.f k 64).bind fun bt315 => ((turnstoneref01_Add.f k bt288.1 bt288.2 bt315.1 bt315.2).bind fun bt319 => (some (bt319.1, bt319.2)))) else (some (bt288.1, bt288.2)))))))))) = some (r1, r2) := H
 have A4 := Aside0.mk A40
 clear A40
 replace H := Option.bind_eq_some_iff.mp H
 obtain ⟨⟨t288, t289⟩, A50, H⟩ := H
 replace H : ((turnstoneref01_Power.f k 63).bind fun bt293 => ((turnstoneref01_Cmp.f k t288 t289 bt293.1 bt293.2).bind fun t297 => (if t297 ≥ 0 then ((turnstoneref01_Power.f k 64).bind fun bt298 => ((turnstoneref01_Sub.f k t288 t289 bt298.1 bt298.2).bind fun bt302 => (some (bt302.1, bt302.2)))) else ((turnstoneref01_Power.f k 63).bind fun bt306 => ((turnstoneref01_Neg.f k bt306.1 bt306.2).bind fun bt310 => ((turnstoneref01_Cmp.f k t288 t289 bt310.1 bt310.2).bind fun t314 => (if t314 < 0 then ((turnstoneref01_Power.f k 64).bind fun bt315 => ((turnstoneref01_Add.f k t288 t289 bt315.1 bt315.2).bind fun bt319 => (some (bt319.1, bt319.2)))) else (some (t288, t289))))))))) = some (r1, r2) := H
 have A5 := Aside0.mk A50
 clear A50
 replace H := Option.bind_eq_some_iff.mp H
 obtain ⟨⟨t293, t294⟩, A60, H⟩ := H
 replace H : ((turnstoneref01_Cmp.f k t288 t289 t293 t294).bind fun t297 => (if t297 ≥ 0 then ((turnstoneref01_Power.f k 64).bind fun bt298 => ((turnstoneref01_Sub.f k t288 t289 bt298.1 bt298.2).bind fun bt302 => (some (bt302.1, bt302.2)))) else ((turnstoneref01_Power.f k 63).bind fun bt306 => ((turnstoneref01_Neg.f k bt306.1 bt306.2).bind fun bt310 => ((turnstoneref01_Cmp.f k t288 t289 bt310.1 bt310.2).bind fun t314 => (if t314 < 0 then ((turnstoneref01_Power.f k 64).bind fun bt315 => ((turnstoneref01_Add.f k t288 t289 bt315.1 bt315.2).bind fun bt319 => (some (bt319.1, bt319.2)))) else (some (t288, t289)))))))) = some (r1, r2) := H
 have A6 := Aside0.mk A60
 clear A60
 replace H := Option.bind_eq_some_iff.mp H
 obtain ⟨t297, A70, H⟩ := H
 replace H : (if t297 ≥ 0 then ((turnstoneref01_Power.f k 64).bind fun bt298 => ((turnstoneref01_Sub.f k t288 t289 bt298.1 bt298.2).bind fun bt302 => (some (bt302.1, bt302.2)))) else ((turnstoneref01_Power.f k 63).bind fun bt306 => ((turnstoneref01_Neg.f k bt306.1 bt306.2).bind fun bt310 => ((turnstoneref01_Cmp.f k t288 t289 bt310.1 bt310.2).bind fun t314 => (if t314 < 0 then ((turnstoneref01_Power.f k 64).bind fun bt315 => ((turnstoneref01_Add.f k t288 t289 bt315.1 bt315.2).bind fun bt319 => (some (bt319.1, bt319.2)))) else (some (t288, t289))))))) = some (r1, r2) := H
 have A7 := Aside0.mk A70
 clear A70
 by_cases c8 : t297 ≥ 0
 ·rw [if_pos c8] at H
  have c8b0 : decide (0 ≤ t297) = true := decide_eq_true c8
  clear c8
  replace H := Option.bind_eq_some_iff.mp H
  obtain ⟨⟨t298, t299⟩, A90, H⟩ := H
  replace H : ((turnstoneref01_Sub.f k t288 t289 t298 t299).bind fun bt302 => (some (bt302.1, bt302.2))) = some (r1, r2) := H
  have A9 := Aside0.mk A90
  clear A90
  replace H := Option.bind_eq_some_iff.mp H
  obtain ⟨⟨t302, t303⟩, A100, H⟩ := H
  replace H : (some (t302, t303)) = some (r1, r2) := H
  have A10 := Aside0.mk A100
  clear A100
  simp only [Option.some.injEq, Prod.mk.injEq] at H
  obtain ⟨rfl, rfl⟩ := H
  go_enter Try.func27, Try.ntmps27
  try go_wp2_with (first | ((with_reducible refine gate_dst (N := 4) rfl ?_); refine box_event ?hg (N := 4) ?hd (cs := #[.bool false, .slice none 0 0]) (t := 49) ?hr ?_; (case hd => rfl); (case hg => rfl); (case hr => first | (go_simp; done) | (go_simp; rfl)); intro gb279 hg w11 hbox hb; have BK279 := Aside0.mk (hbox); have GW279 := bels HB hg; have GE279 := bels HB hg; replace HB := belb HB hb; clear hb hbox hg) | ((with_reducible refine gate_callee (f := 19) rfl ?_); refine goesL_ (some 7) rfl rfl Try.func19 (by kernel_rfl) rfl #[.int .u64 a0] rfl argt ?_; (with_reducible refine (turnstoneref01_U.calls k a0 t280 t281 _ A3.out).mono ?_); rintro e w12 ⟨v282, rfl, ho0, hb⟩; refine ⟨_, rfl, ?_⟩; have HO283 := Aside0.mk (Kd.R_lower (Kd.R_newM (M := fun k_ => (w.heap.size ≤ k_)) ho0 (below_size (belt HB)) (fun k_ h_ => h_)) (below_size (belt HB))); replace BK279 := blkb BK279 hb; replace HB := belb HB hb; (try clear hb); (try clear hb2); (try clear hk); (try clear hi); (try clear ho0)) | ((with_reducible refine gate_callee (f := 19) rfl ?_); refine goesL_ (some 9) rfl rfl Try.func19 (by kernel_rfl) rfl #[.int .u64 a1] rfl argt ?_; (with_reducible refine (turnstoneref01_U.calls k a1 t284 t285 _ A4.out).mono ?_); rintro e w13 ⟨v286, rfl, ho0, hb⟩; refine ⟨_, rfl, ?_⟩; have HO287 := Aside0.mk (Kd.R_lower (Kd.R_new' (Kd.R_newM (M := fun k_ => (w.heap.size ≤ k_)) ho0 (below_size (belt HB)) (fun k_ h_ => h_)) (Kd.R_lt (rt HO283))) (below_size (belt HB))); replace BK279 := blkb BK279 hb; replace HO283 := Aside0.mk (Kd.R_elder' (rt HO283) (Kd.R_base ho0) hb); replace HB := belb HB hb; (try clear hb); (try clear hb2); (try clear hk); (try clear hi); (try clear ho0); obtain ⟨Ao14, co14, eo14⟩ := Kd.R_slice HO283.out; subst eo14; obtain ⟨Ao15, co15, eo15⟩ := Kd.R_slice HO287.out; subst eo15) | ((with_reducible refine gate_callee (f := 34) rfl ?_); refine goesL_ (some 10) rfl rfl Try.func34 (by kernel_rfl) rfl #[.agg #[.bool t280, .slice Ao14 t281.length co14], .agg #[.bool t284, .slice Ao15 t285.length co15]] rfl argt ?_; (with_reducible refine (turnstoneref01_Sub.calls k t280 _ _ t281 t284 (fun k_ => some k_ = (.slice Ao15 t285.length co15 : Value).ownBlock) _ _ t285 t288 t289 _ ?side1 ?side2 ?side3 A5.out).mono ?_); (case side1 => repeat (first | exact (Kd.R_reads' HO283.out).2.2 | (with_reducible refine Kd.C_alloc ?_ _) | (with_reducible refine Kd.C_drewN ?_ _) | (with_reducible refine Kd.C_drew ?_))); (case side2 => exact (Kd.R_reads' HO283.out).2.1); (case side3 => exact Kd.R_V (Kd.R_tight rfl (Kd.R_types (HO287.out) BK279.out (by decide)))); rintro e w16 ⟨v290, rfl, ho0, hb⟩; refine ⟨_, rfl, ?_⟩; have HO291 := Aside0.mk (Kd.V_lower (Kd.V_mono (ok' := fun k_ => (w.heap.size ≤ k_) ∧ some k_ ≠ (.slice Ao14 t281.length co14 : Value).ownBlock ∧ k_ ≠ gb279) ho0 (fun k_ hk_ => ⟨Or.elim hk_ (fun hs_ => ((Kd.R_types (HO287.out) BK279.out (by decide)).1 k_ hs_.symm).1.1.1) (fun hn_ => (Nat.le_trans (below_size (belt HB)) hn_)), Or.elim hk_ (fun hs_ => ((Kd.R_types (HO287.out) BK279.out (by decide)).1 k_ hs_.symm).1.2) (fun hn_ => (Kd.fresh' (Kd.R_lt (rt HO283)) k_ hn_)), Or.elim hk_ (fun hs_ => ((Kd.R_types (HO287.out) BK279.out (by decide)).1 k_ hs_.symm).2) (fun hn_ => (Kd.freshB (blkt BK279) k_ hn_))⟩)) (below_size (belt HB))); replace HO283 := rb HO283 hb; replace HO287 := rb HO287 hb; replace BK279 := blkb BK279 hb; replace HB := belb HB hb; (try clear hb); (try clear hb2); (try clear hk); (try clear hi); (try clear ho0)) | ((with_reducible refine gate_dst (N := 5) rfl ?_); refine box_event ?hg (N := 5) ?hd (cs := #[.bool false, .slice none 0 0]) (t := 49) ?hr ?_; (case hd => rfl); (case hg => rfl); (case hr => first | (go_simp; done) | (go_simp; rfl)); intro gb292 hg w17 hbox hb; replace HO283 := rb HO283 hb; replace HO287 := rb HO287 hb; replace HO291 := Aside0.mk (Kd.V_below (Kd.V_elderB (vt HO291) gb292 (Nat.le_of_eq hg.symm)) hb); have BK292 := Aside0.mk (hbox); have GW292 := bels HB hg; have GE292 := bels HB hg; have NB279_292 := blkl BK279 hg; have NB292_279 := blkg BK279 hg; replace BK279 := blkb BK279 hb; replace HB := belb HB hb; clear hb hbox hg; have hnb18 := NB292_279.out; have hnc18 := NB279_292.out; have hcz19_0 : w17.cell? ⟨gb292, 0, none⟩ = some (.bool false) := bc BK292 0; have hcz19_1 : w17.cell? ⟨gb292, 1, none⟩ = some (.slice none 0 0) := bc BK292 1; have hfz19_0 := blk_frozen BK292.out 0; have hfz19_1 := blk_frozen BK292.out 1; obtain ⟨Ao20, co20, eo20⟩ := Kd.V_slice HO291.out; subst eo20))
  have n0_ : Aside0 (Kd.R (Kd.int .i64) 3 ((w17.setCell ⟨gb292, 0, none⟩ (.bool t288)).setCell ⟨gb292, 1, none⟩ (.slice Ao20 t289.length co20)) w.heap.size (fun k_ => (w.heap.size ≤ k_) ∧ some k_ ≠ (.slice Ao15 t285.length co15 : Value).ownBlock) (.slice Ao14 t281.length co14) t281) := ⟨by (with_reducible repeat (first | apply Kd.R_alloc | apply Kd.R_drewN | apply Kd.R_drew)); exact Kd.R_mono (Kd.R_far (p := ⟨gb292, 1, none⟩) (Kd.R_far (p := ⟨gb292, 0, none⟩) (Kd.R_types HO283.out BK292.out (by decide)) (fun _ hk => hk.2) (.bool t288)) (fun _ hk => hk.2) (.slice Ao20 t289.length co20)) (fun _ hk => ⟨hk.1.1.1, hk.1.2⟩)⟩
  have n1_ : Aside0 (Kd.R (Kd.int .i64) 3 ((w17.setCell ⟨gb292, 0, none⟩ (.bool t288)).setCell ⟨gb292, 1, none⟩ (.slice Ao20 t289.length co20)) w.heap.size (fun k_ => (w.heap.size ≤ k_) ∧ some k_ ≠ (.slice Ao14 t281.length co14 : Value).ownBlock) (.slice Ao15 t285.length co15) t285) := ⟨by (with_reducible repeat (first | apply Kd.R_alloc | apply Kd.R_drewN | apply Kd.R_drew)); exact Kd.R_mono (Kd.R_far (p := ⟨gb292, 1, none⟩) (Kd.R_far (p := ⟨gb292, 0, none⟩) (Kd.R_types HO287.out BK292.out (by decide)) (fun _ hk => hk.2) (.bool t288)) (fun _ hk => hk.2) (.slice Ao20 t289.length co20)) (fun _ hk => ⟨hk.1.1.1, hk.1.2⟩)⟩
  have n2_ : Aside0 (Kd.V (Kd.int .i64) 3 ((w17.setCell ⟨gb292, 0, none⟩ (.bool t288)).setCell ⟨gb292, 1, none⟩ (.slice Ao20 t289.length co20)) w.heap.size (fun k_ => (w.heap.size ≤ k_) ∧ some k_ ≠ (.slice Ao14 t281.length co14 : Value).ownBlock ∧ k_ ≠ gb279 ∧ k_ ≠ gb292) (.slice Ao20 t289.length co20) t289) := ⟨by (with_reducible repeat (first | apply Kd.V_alloc | apply Kd.V_drewN | apply Kd.V_drew)); exact Kd.V_mono (Kd.V_far (p := ⟨gb292, 1, none⟩) (Kd.V_far (p := ⟨gb292, 0, none⟩) (Kd.V_mono HO291.out (fun k_ hk => (⟨hk, hk.2⟩ : _ ∧ k_ ≠ gb292))) (fun _ hk => hk.2) (.bool t288)) (fun _ hk => hk.2) (.slice Ao20 t289.length co20)) (fun _ hk => ⟨hk.1.1.1, ⟨hk.1.1.2.1, ⟨hk.1.1.2.2, hk.1.2⟩⟩⟩)⟩
  have n3_ : Aside0 (((w17.setCell ⟨gb292, 0, none⟩ (.bool t288)).setCell ⟨gb292, 1, none⟩ (.slice Ao20 t289.length co20)).heap[gb279]? = some (.cells #[.bool false, .slice none 0 0] 49 (0, 0))) := ⟨by (with_reducible repeat (first | refine blk_drewN ?_ _ | refine blk_drew ?_ | refine blk_alloc ?_ _)); refine blk_far ?_ NB279_292.out _; (with_reducible repeat (first | refine blk_drewN ?_ _ | refine blk_drew ?_ | refine blk_alloc ?_ _)); refine blk_far ?_ NB279_292.out _; exact blkt BK279⟩
  have n4_ : Aside0 (((w17.setCell ⟨gb292, 0, none⟩ (.bool t288)).setCell ⟨gb292, 1, none⟩ (.slice Ao20 t289.length co20)).heap[gb292]? = some (.cells #[.bool t288, .slice Ao20 t289.length co20] 49 (0, 0))) := ⟨by (with_reducible repeat (first | refine blk_drewN ?_ _ | refine blk_drew ?_ | refine blk_alloc ?_ _)); refine blk_put (cs := #[.bool t288, .slice none 0 0]) ?_ 1 _ rfl; (with_reducible repeat (first | refine blk_drewN ?_ _ | refine blk_drew ?_ | refine blk_alloc ?_ _)); refine blk_put (cs := #[.bool false, .slice none 0 0]) ?_ 0 _ rfl; exact blkt BK292⟩
  have n5_ : Aside0 (Below w.heap.size w ((w17.setCell ⟨gb292, 0, none⟩ (.bool t288)).setCell ⟨gb292, 1, none⟩ (.slice Ao20 t289.length co20))) := ⟨belt HB⟩
  (try clear HO283)
  (try clear HO287)
  (try clear HO291)
  (try clear BK279)
  (try clear BK292)
  (try clear HB)
  generalize ((w17.setCell ⟨gb292, 0, none⟩ (.bool t288)).setCell ⟨gb292, 1, none⟩ (.slice Ao20 t289.length co20)) = w21 at n0_ n1_ n2_ n3_ n4_ n5_ ⊢
  have HO283 := n0_
  have HO287 := n1_
  have HO291 := n2_
  have BK279 := n3_
  have BK292 := n4_
  have HB := n5_
  clear n0_ n1_ n2_ n3_ n4_ n5_
  replace HO283 := Aside0.mk (Kd.R_drew HO283.out)
  replace HO287 := Aside0.mk (Kd.R_drew HO287.out)
  replace HO291 := Aside0.mk (Kd.V_drew HO291.out)
  replace BK279 := Aside0.mk (blk_drew BK279.out)
  replace BK292 := Aside0.mk (blk_drew BK292.out)
  replace HB := Aside0.mk (below_drew1 HB.out)
  refine start_ (n := 4) (S := fun w' => w'.cell? ⟨gb292, 0, none⟩ = some (.bool t288) ∧ w'.cell? ⟨gb292, 1, none⟩ = some (.slice Ao20 t289.length co20)) (ds := []) #[false, false, false, false] (by kernel_rfl) rfl rfl ⟨bc BK292 0, bc BK292 1⟩ (fun hHeld => ?_)
  generalize w21.drew = w22 at HO283 HO287 HO291 BK279 BK292 HB hHeld ⊢
  refine take_ (i := 0) (N := some 11) (v := ?_) (a' := ?_) #[true, false, false, false] rfl rfl (by kernel_rfl) (fun _ _ _ h => h) (Or.inl ⟨by rfl, ?_⟩) hHeld ?_ ?_
  rotate_left
  ·rintro w' ⟨s0, s1⟩
   go_simp
   with_reducible rfl
  rotate_left
  ·simp only [Act.put, List.setIfInBounds_toArray, List.set_cons_zero, List.set_cons_succ, i64_w, i32_w]
   rfl
  refine one_ (i := 1) (N := some 12) #[true, true, false, false] rfl rfl (by kernel_rfl) (by decide) (fun K hK => ?_)
  refine goes_ Try.func30 (by kernel_rfl) rfl #[.int .i64 63] (by rfl) rfl rfl argt ?_
  with_reducible refine (turnstoneref01_Power.calls k 63 t293 t294 _ A6.out).mono ?_
  rintro e w23 ⟨v295, rfl, ho0, hb⟩
  refine ⟨_, rfl, ?_⟩
  replace HO291 := vb HO291 hb
  have HO296 := Aside0.mk (Kd.V_lower (Kd.V_mono (ok' := fun k_ => (w.heap.size ≤ k_) ∧ some k_ ≠ (.slice Ao14 t281.length co14 : Value).ownBlock ∧ some k_ ≠ (.slice Ao15 t285.length co15 : Value).ownBlock ∧ k_ ≠ gb279 ∧ k_ ≠ gb292) ho0 (fun k_ hk_ => ⟨(Nat.le_trans (below_size (belt HB)) hk_), (Kd.fresh' (Kd.R_lt (rt HO283)) k_ hk_), (Kd.fresh' (Kd.R_lt (rt HO287)) k_ hk_), (Kd.freshB (blkt BK279) k_ hk_), (Kd.freshB (blkt BK292) k_ hk_)⟩)) (below_size (belt HB)))
  replace HO283 := rb HO283 hb
  replace HO287 := rb HO287 hb
  replace BK279 := blkb BK279 hb
  replace BK292 := blkb BK292 hb
  replace HB := belb HB hb
  (try clear hb)
  (try clear hb2)
  (try clear hk)
  (try clear hi)
  (try clear ho0)
  obtain ⟨Ao24, co24, eo24⟩ := Kd.V_slice HO296.out
  (first | subst eo24 | (injection eo24 with f1_ f2_ f3_; have f4_ := f1_.symm; have f5_ := f3_.symm; clear f1_ f2_ f3_; subst f4_; subst f5_))
  refine hK.out _ _ ⟨bc BK292 0, bc BK292 1⟩ (fun hHeld => ?_)
  clear hK K
  refine norm_ (a' := ?_) ?_ ?_
  rotate_left
  ·show Act.put _ (some 12) _ = _
   simp only [Act.put, List.setIfInBounds_toArray, List.set_cons_zero, List.set_cons_succ, i64_w, i32_w]
   rfl
  refine one_ (i := 2) (N := some 13) #[true, true, true, false] rfl rfl (by kernel_rfl) (by decide) (fun K hK => ?_)
  refine goes_ Try.func18 (by kernel_rfl) rfl #[.agg #[.bool t288, .slice Ao20 t289.length co20], .agg #[.bool t293, .slice Ao24 t294.length co24]] (by rfl) rfl rfl argt ?_
  with_reducible refine (turnstoneref01_Cmp.calls k t288 _ _ t289 t293 _ _ t294 t297 _ ?side1 ?side2 ?side3 ?side4 A7.out).mono ?_
  (case side1 => repeat (first | exact (Kd.V_reads' HO291.out).2.2 | (with_reducible refine Kd.C_alloc ?_ _) | (with_reducible refine Kd.C_drewN ?_ _) | (with_reducible refine Kd.C_drew ?_)))
  (case side2 => exact (Kd.V_reads' HO291.out).2.1)
  (case side3 => repeat (first | exact (Kd.V_reads' HO296.out).2.2 | (with_reducible refine Kd.C_alloc ?_ _) | (with_reducible refine Kd.C_drewN ?_ _) | (with_reducible refine Kd.C_drew ?_)))
  (case side4 => exact (Kd.V_reads' HO296.out).2.1)
  rintro e w25 ⟨rfl, hb⟩
  refine ⟨_, rfl, ?_⟩
  replace HO283 := rb HO283 hb
  replace HO287 := rb HO287 hb
  replace HO291 := vb HO291 hb
  replace HO296 := vb HO296 hb
  replace BK279 := blkb BK279 hb
  replace BK292 := blkb BK292 hb
  replace HB := belb HB hb
  (try clear hb)
  (try clear hb2)
  (try clear hk)
  (try clear hi)
  refine hK.out _ _ ⟨bc BK292 0, bc BK292 1⟩ (fun hHeld => ?_)
  clear hK K
  refine norm_ (a' := ?_) ?_ ?_
  rotate_left
  ·show Act.put _ (some 13) _ = _
   simp only [Act.put, List.setIfInBounds_toArray, List.set_cons_zero, List.set_cons_succ, i64_w, i32_w]
   rfl
  refine pure_ (i := 3) (N := some 14) (v := ?_) (a' := ?_) #[true, true, true, true] rfl rfl (by kernel_rfl) (fun _ _ _ h => h) (Or.inl ⟨by rfl, ?_⟩) ?_ ?_
  rotate_left
  ·intro w'
   go_simp
   with_reducible rfl
  rotate_left
  ·simp only [Act.put, List.setIfInBounds_toArray, List.set_cons_zero, List.set_cons_succ, i64_w, i32_w]
   rfl
  refine done_ (by kernel_rfl) ?_
  try go_wp2
  replace HO283 := Aside0.mk (Kd.R_drew HO283.out)
  replace HO287 := Aside0.mk (Kd.R_drew HO287.out)
  replace HO291 := Aside0.mk (Kd.V_drew HO291.out)
  replace HO296 := Aside0.mk (Kd.V_drew HO296.out)
  replace BK279 := Aside0.mk (blk_drew BK279.out)
  replace BK292 := Aside0.mk (blk_drew BK292.out)
  replace HB := Aside0.mk (below_drew1 HB.out)
  refine start_ (n := 4) (S := fun w' => w'.cell? ⟨gb292, 0, none⟩ = some (.bool t288) ∧ w'.cell? ⟨gb292, 1, none⟩ = some (.slice Ao20 t289.length co20)) (ds := []) #[false, false, false, false] (by kernel_rfl) rfl rfl ⟨bc BK292 0, bc BK292 1⟩ (fun hHeld => ?_)
  generalize w25.drew = w26 at HO283 HO287 HO291 HO296 BK279 BK292 HB hHeld ⊢
  refine take_ (i := 0) (N := some 15) (v := ?_) (a' := ?_) #[true, false, false, false] rfl rfl (by kernel_rfl) (fun _ _ _ h => h) (Or.inl ⟨by rfl, ?_⟩) hHeld ?_ ?_
  rotate_left
  ·rintro w' ⟨s0, s1⟩
   go_simp
   with_reducible rfl
  rotate_left
  ·simp only [Act.put, List.setIfInBounds_toArray, List.set_cons_zero, List.set_cons_succ, i64_w, i32_w]
   rfl
  refine one_ (i := 1) (N := some 16) #[true, true, false, false] rfl rfl (by kernel_rfl) (by decide) (fun K hK => ?_)
  refine goes_ Try.func30 (by kernel_rfl) rfl #[.int .i64 64] (by rfl) rfl rfl argt ?_
  with_reducible refine (turnstoneref01_Power.calls k 64 t298 t299 _ A9.out).mono ?_
  rintro e w27 ⟨v300, rfl, ho0, hb⟩
  refine ⟨_, rfl, ?_⟩
  replace HO291 := vb HO291 hb
  replace HO296 := vb HO296 hb
  have HO301 := Aside0.mk (Kd.V_lower (Kd.V_mono (ok' := fun k_ => (w.heap.size ≤ k_) ∧ some k_ ≠ (.slice Ao14 t281.length co14 : Value).ownBlock ∧ some k_ ≠ (.slice Ao15 t285.length co15 : Value).ownBlock ∧ k_ ≠ gb279 ∧ k_ ≠ gb292) ho0 (fun k_ hk_ => ⟨(Nat.le_trans (below_size (belt HB)) hk_), (Kd.fresh' (Kd.R_lt (rt HO283)) k_ hk_), (Kd.fresh' (Kd.R_lt (rt HO287)) k_ hk_), (Kd.freshB (blkt BK279) k_ hk_), (Kd.freshB (blkt BK292) k_ hk_)⟩)) (below_size (belt HB)))
  replace HO283 := rb HO283 hb
  replace HO287 := rb HO287 hb
  replace BK279 := blkb BK279 hb
  replace BK292 := blkb BK292 hb
  replace HB := belb HB hb
  (try clear hb)
  (try clear hb2)
  (try clear hk)
  (try clear hi)
  (try clear ho0)
  obtain ⟨Ao28, co28, eo28⟩ := Kd.V_slice HO301.out
  (first | subst eo28 | (injection eo28 with f1_ f2_ f3_; have f4_ := f1_.symm; have f5_ := f3_.symm; clear f1_ f2_ f3_; subst f4_; subst f5_))
  refine hK.out _ _ ⟨bc BK292 0, bc BK292 1⟩ (fun hHeld => ?_)
  clear hK K
  refine norm_ (a' := ?_) ?_ ?_
  rotate_left
  ·show Act.put _ (some 16) _ = _
   simp only [Act.put, List.setIfInBounds_toArray, List.set_cons_zero, List.set_cons_succ, i64_w, i32_w]
   rfl
  refine one_ (i := 2) (N := some 17) #[true, true, true, false] rfl rfl (by kernel_rfl) (by decide) (fun K hK => ?_)
  refine goes_ Try.func34 (by kernel_rfl) rfl #[.agg #[.bool t288, .slice Ao20 t289.length co20], .agg #[.bool t298, .slice Ao28 t299.length co28]] (by rfl) rfl rfl argt ?_
  with_reducible refine (turnstoneref01_Sub.calls k t288 _ _ t289 t298 (fun k_ => ((w.heap.size ≤ k_) ∧ (some k_ ≠ (.slice Ao14 t281.length co14 : Value).ownBlock ∧ (some k_ ≠ (.slice Ao15 t285.length co15 : Value).ownBlock ∧ (k_ ≠ gb279 ∧ k_ ≠ gb292))))) _ _ t299 t302 t303 _ ?side1 ?side2 ?side3 A10.out).mono ?_
  (case side1 => repeat (first | exact (Kd.V_reads' HO291.out).2.2 | (with_reducible refine Kd.C_alloc ?_ _) | (with_reducible refine Kd.C_drewN ?_ _) | (with_reducible refine Kd.C_drew ?_)))
  (case side2 => exact (Kd.V_reads' HO291.out).2.1)
  (case side3 => exact HO301.out)
  rintro e w29 ⟨v304, rfl, ho0, hb⟩
  refine ⟨_, rfl, ?_⟩
  replace HO291 := vb HO291 hb
  replace HO296 := vb HO296 hb
  replace HO301 := vb HO301 hb
  have HO305 := Aside0.mk (Kd.V_lower (Kd.V_mono (ok' := fun k_ => (w.heap.size ≤ k_) ∧ some k_ ≠ (.slice Ao14 t281.length co14 : Value).ownBlock ∧ some k_ ≠ (.slice Ao15 t285.length co15 : Value).ownBlock ∧ k_ ≠ gb279 ∧ k_ ≠ gb292) ho0 (fun k_ hk_ => ⟨Or.elim hk_ (fun hs_ => hs_.1) (fun hn_ => (Nat.le_trans (below_size (belt HB)) hn_)), Or.elim hk_ (fun hs_ => hs_.2.1) (fun hn_ => (Kd.fresh' (Kd.R_lt (rt HO283)) k_ hn_)), Or.elim hk_ (fun hs_ => hs_.2.2.1) (fun hn_ => (Kd.fresh' (Kd.R_lt (rt HO287)) k_ hn_)), Or.elim hk_ (fun hs_ => hs_.2.2.2.1) (fun hn_ => (Kd.freshB (blkt BK279) k_ hn_)), Or.elim hk_ (fun hs_ => hs_.2.2.2.2) (fun hn_ => (Kd.freshB (blkt BK292) k_ hn_))⟩)) (below_size (belt HB)))
  replace HO283 := rb HO283 hb
  replace HO287 := rb HO287 hb
  replace BK279 := blkb BK279 hb
  replace BK292 := blkb BK292 hb
  replace HB := belb HB hb
  (try clear hb)
  (try clear hb2)
  (try clear hk)
  (try clear hi)
  (try clear ho0)
  obtain ⟨Ao31, co31, eo31⟩ := Kd.V_slice HO305.out
  (first | subst eo31 | (injection eo31 with f1_ f2_ f3_; have f4_ := f1_.symm; have f5_ := f3_.symm; clear f1_ f2_ f3_; subst f4_; subst f5_))
  refine hK.out _ _ ⟨bc BK292 0, bc BK292 1⟩ (fun hHeld => ?_)
  clear hK K
  refine norm_ (a' := ?_) ?_ ?_
  rotate_left
  ·show Act.put _ (some 17) _ = _
   simp only [Act.put, List.setIfInBounds_toArray, List.set_cons_zero, List.set_cons_succ, i64_w, i32_w]
   rfl
  refine one_ (i := 3) (N := none) #[true, true, true, true] rfl rfl (by kernel_rfl) (by decide) (fun K hK => ?_)
  have hs30 : w29.cell? ⟨gb279, 0, none⟩ = some (.bool false) := bc BK279 0
  have hfs30 := blk_frozen BK279.out 0
  have hns30_1 := NB292_279.out
  have hms30_1 := NB279_292.out
  have hs32 : w29.cell? ⟨gb279, 1, none⟩ = some (.slice none 0 0) := bc BK279 1
  have hfs32 := blk_frozen BK279.out 1
  have hns32_1 := NB292_279.out
  have hms32_1 := NB279_292.out
  refine skip_ (w1 := ?_) (by rfl) rfl ?_ ?_
  rotate_left
  ·go_simp
   rfl
  refine hK.out _ _ ⟨((cell_far (p := ⟨gb279, _, none⟩) NB292_279.out _).trans (((cell_far (p := ⟨gb279, _, none⟩) NB292_279.out _).trans (hHeld.1)))), ((cell_far (p := ⟨gb279, _, none⟩) NB292_279.out _).trans (((cell_far (p := ⟨gb279, _, none⟩) NB292_279.out _).trans (hHeld.2))))⟩ (fun hHeld => ?_)
  clear hK K
  refine done_ (by kernel_rfl) ?_
  try go_wp2
  refine bodyPost_ret (results_cell_row rfl _ _ gb279 49 #[.bool t302, .slice Ao31 t303.length co31] (0, 0) _ rfl (by (with_reducible repeat (first | refine blk_drewN ?_ _ | refine blk_drew ?_ | refine blk_alloc ?_ _)); refine blk_put (cs := #[.bool t302, .slice none 0 0]) ?_ 1 _ rfl; (with_reducible repeat (first | refine blk_drewN ?_ _ | refine blk_drew ?_ | refine blk_alloc ?_ _)); refine blk_put (cs := #[.bool false, .slice none 0 0]) ?_ 0 _ rfl; exact blkt BK279) Try.underlying49 rfl (by kernel_rfl)) rfl ?_
  exact ⟨_, by first | rfl | (simp [errW_none, errW_some] <;> rfl) | (simp [*, errW_none, errW_some] <;> rfl), by (with_reducible repeat (first | apply Kd.V_alloc | apply Kd.V_drewN | apply Kd.V_drew)); exact Kd.V_mono (Kd.V_far (p := ⟨gb279, 1, none⟩) (Kd.V_far (p := ⟨gb279, 0, none⟩) (Kd.V_mono HO305.out (fun k_ hk => (⟨hk, hk.2.2.2.1⟩ : _ ∧ k_ ≠ gb279))) (fun _ hk => hk.2) (.bool t302)) (fun _ hk => hk.2) (.slice Ao31 t303.length co31)) (fun _ hk => hk.1.1), belt HB⟩
 rw [if_neg c8] at H
 have c8b0 : decide (0 ≤ t297) = false := decide_eq_false c8
 clear c8
 replace H := Option.bind_eq_some_iff.mp H
 obtain ⟨⟨t306, t307⟩, A330, H⟩ := H
 replace H : ((turnstoneref01_Neg.f k t306 t307).bind fun bt310 => ((turnstoneref01_Cmp.f k t288 t289 bt310.1 bt310.2).bind fun t314 => (if t314 < 0 then ((turnstoneref01_Power.f k 64).bind fun bt315 => ((turnstoneref01_Add.f k t288 t289 bt315.1 bt315.2).bind fun bt319 => (some (bt319.1, bt319.2)))) else (some (t288, t289))))) = some (r1, r2) := H
 have A33 := Aside0.mk A330
 clear A330
 replace H := Option.bind_eq_some_iff.mp H
 obtain ⟨⟨t310, t311⟩, A340, H⟩ := H
 replace H : ((turnstoneref01_Cmp.f k t288 t289 t310 t311).bind fun t314 => (if t314 < 0 then ((turnstoneref01_Power.f k 64).bind fun bt315 => ((turnstoneref01_Add.f k t288 t289 bt315.1 bt315.2).bind fun bt319 => (some (bt319.1, bt319.2)))) else (some (t288, t289)))) = some (r1, r2) := H
 have A34 := Aside0.mk A340
 clear A340
 replace H := Option.bind_eq_some_iff.mp H
 obtain ⟨t314, A350, H⟩ := H
 replace H : (if t314 < 0 then ((turnstoneref01_Power.f k 64).bind fun bt315 => ((turnstoneref01_Add.f k t288 t289 bt315.1 bt315.2).bind fun bt319 => (some (bt319.1, bt319.2)))) else (some (t288, t289))) = some (r1, r2) := H
 have A35 := Aside0.mk A350
 clear A350
 by_cases c36 : t314 < 0
 ·rw [if_pos c36] at H
  have c36b0 : decide (t314 < 0) = true := decide_eq_true c36
  clear c36
  replace H := Option.bind_eq_some_iff.mp H
  obtain ⟨⟨t315, t316⟩, A370, H⟩ := H
  replace H : ((turnstoneref01_Add.f k t288 t289 t315 t316).bind fun bt319 => (some (bt319.1, bt319.2))) = some (r1, r2) := H
  have A37 := Aside0.mk A370
  clear A370
  replace H := Option.bind_eq_some_iff.mp H
  obtain ⟨⟨t319, t320⟩, A380, H⟩ := H
  replace H : (some (t319, t320)) = some (r1, r2) := H
  have A38 := Aside0.mk A380
  clear A380
  simp only [Option.some.injEq, Prod.mk.injEq] at H
  obtain ⟨rfl, rfl⟩ := H
  go_enter Try.func27, Try.ntmps27
  try go_wp2_with (first | ((with_reducible refine gate_dst (N := 4) rfl ?_); refine box_event ?hg (N := 4) ?hd (cs := #[.bool false, .slice none 0 0]) (t := 49) ?hr ?_; (case hd => rfl); (case hg => rfl); (case hr => first | (go_simp; done) | (go_simp; rfl)); intro gb279 hg w39 hbox hb; have BK279 := Aside0.mk (hbox); have GW279 := bels HB hg; have GE279 := bels HB hg; replace HB := belb HB hb; clear hb hbox hg) | ((with_reducible refine gate_callee (f := 19) rfl ?_); refine goesL_ (some 7) rfl rfl Try.func19 (by kernel_rfl) rfl #[.int .u64 a0] rfl argt ?_; (with_reducible refine (turnstoneref01_U.calls k a0 t280 t281 _ A3.out).mono ?_); rintro e w40 ⟨v282, rfl, ho0, hb⟩; refine ⟨_, rfl, ?_⟩; have HO283 := Aside0.mk (Kd.R_lower (Kd.R_newM (M := fun k_ => (w.heap.size ≤ k_)) ho0 (below_size (belt HB)) (fun k_ h_ => h_)) (below_size (belt HB))); replace BK279 := blkb BK279 hb; replace HB := belb HB hb; (try clear hb); (try clear hb2); (try clear hk); (try clear hi); (try clear ho0)) | ((with_reducible refine gate_callee (f := 19) rfl ?_); refine goesL_ (some 9) rfl rfl Try.func19 (by kernel_rfl) rfl #[.int .u64 a1] rfl argt ?_; (with_reducible refine (turnstoneref01_U.calls k a1 t284 t285 _ A4.out).mono ?_); rintro e w41 ⟨v286, rfl, ho0, hb⟩; refine ⟨_, rfl, ?_⟩; have HO287 := Aside0.mk (Kd.R_lower (Kd.R_new' (Kd.R_newM (M := fun k_ => (w.heap.size ≤ k_)) ho0 (below_size (belt HB)) (fun k_ h_ => h_)) (Kd.R_lt (rt HO283))) (below_size (belt HB))); replace BK279 := blkb BK279 hb; replace HO283 := Aside0.mk (Kd.R_elder' (rt HO283) (Kd.R_base ho0) hb); replace HB := belb HB hb; (try clear hb); (try clear hb2); (try clear hk); (try clear hi); (try clear ho0); obtain ⟨Ao42, co42, eo42⟩ := Kd.R_slice HO283.out; subst eo42; obtain ⟨Ao43, co43, eo43⟩ := Kd.R_slice HO287.out; subst eo43) | ((with_reducible refine gate_callee (f := 34) rfl ?_); refine goesL_ (some 10) rfl rfl Try.func34 (by kernel_rfl) rfl #[.agg #[.bool t280, .slice Ao42 t281.length co42], .agg #[.bool t284, .slice Ao43 t285.length co43]] rfl argt ?_; (with_reducible refine (turnstoneref01_Sub.calls k t280 _ _ t281 t284 (fun k_ => some k_ = (.slice Ao43 t285.length co43 : Value).ownBlock) _ _ t285 t288 t289 _ ?side1 ?side2 ?side3 A5.out).mono ?_); (case side1 => repeat (first | exact (Kd.R_reads' HO283.out).2.2 | (with_reducible refine Kd.C_alloc ?_ _) | (with_reducible refine Kd.C_drewN ?_ _) | (with_reducible refine Kd.C_drew ?_))); (case side2 => exact (Kd.R_reads' HO283.out).2.1); (case side3 => exact Kd.R_V (Kd.R_tight rfl (Kd.R_types (HO287.out) BK279.out (by decide)))); rintro e w44 ⟨v290, rfl, ho0, hb⟩; refine ⟨_, rfl, ?_⟩; have HO291 := Aside0.mk (Kd.V_lower (Kd.V_mono (ok' := fun k_ => (w.heap.size ≤ k_) ∧ some k_ ≠ (.slice Ao42 t281.length co42 : Value).ownBlock ∧ k_ ≠ gb279) ho0 (fun k_ hk_ => ⟨Or.elim hk_ (fun hs_ => ((Kd.R_types (HO287.out) BK279.out (by decide)).1 k_ hs_.symm).1.1.1) (fun hn_ => (Nat.le_trans (below_size (belt HB)) hn_)), Or.elim hk_ (fun hs_ => ((Kd.R_types (HO287.out) BK279.out (by decide)).1 k_ hs_.symm).1.2) (fun hn_ => (Kd.fresh' (Kd.R_lt (rt HO283)) k_ hn_)), Or.elim hk_ (fun hs_ => ((Kd.R_types (HO287.out) BK279.out (by decide)).1 k_ hs_.symm).2) (fun hn_ => (Kd.freshB (blkt BK279) k_ hn_))⟩)) (below_size (belt HB))); replace HO283 := rb HO283 hb; replace HO287 := rb HO287 hb; replace BK279 := blkb BK279 hb; replace HB := belb HB hb; (try clear hb); (try clear hb2); (try clear hk); (try clear hi); (try clear ho0)) | ((with_reducible refine gate_dst (N := 5) rfl ?_); refine box_event ?hg (N := 5) ?hd (cs := #[.bool false, .slice none 0 0]) (t := 49) ?hr ?_; (case hd => rfl); (case hg => rfl); (case hr => first | (go_simp; done) | (go_simp; rfl)); intro gb292 hg w45 hbox hb; replace HO283 := rb HO283 hb; replace HO287 := rb HO287 hb; replace HO291 := Aside0.mk (Kd.V_below (Kd.V_elderB (vt HO291) gb292 (Nat.le_of_eq hg.symm)) hb); have BK292 := Aside0.mk (hbox); have GW292 := bels HB hg; have GE292 := bels HB hg; have NB279_292 := blkl BK279 hg; have NB292_279 := blkg BK279 hg; replace BK279 := blkb BK279 hb; replace HB := belb HB hb; clear hb hbox hg; have hnb46 := NB292_279.out; have hnc46 := NB279_292.out; have hcz47_0 : w45.cell? ⟨gb292, 0, none⟩ = some (.bool false) := bc BK292 0; have hcz47_1 : w45.cell? ⟨gb292, 1, none⟩ = some (.slice none 0 0) := bc BK292 1; have hfz47_0 := blk_frozen BK292.out 0; have hfz47_1 := blk_frozen BK292.out 1; obtain ⟨Ao48, co48, eo48⟩ := Kd.V_slice HO291.out; subst eo48))
  have n0_ : Aside0 (Kd.R (Kd.int .i64) 3 ((w45.setCell ⟨gb292, 0, none⟩ (.bool t288)).setCell ⟨gb292, 1, none⟩ (.slice Ao48 t289.length co48)) w.heap.size (fun k_ => (w.heap.size ≤ k_) ∧ some k_ ≠ (.slice Ao43 t285.length co43 : Value).ownBlock) (.slice Ao42 t281.length co42) t281) := ⟨by (with_reducible repeat (first | apply Kd.R_alloc | apply Kd.R_drewN | apply Kd.R_drew)); exact Kd.R_mono (Kd.R_far (p := ⟨gb292, 1, none⟩) (Kd.R_far (p := ⟨gb292, 0, none⟩) (Kd.R_types HO283.out BK292.out (by decide)) (fun _ hk => hk.2) (.bool t288)) (fun _ hk => hk.2) (.slice Ao48 t289.length co48)) (fun _ hk => ⟨hk.1.1.1, hk.1.2⟩)⟩
  have n1_ : Aside0 (Kd.R (Kd.int .i64) 3 ((w45.setCell ⟨gb292, 0, none⟩ (.bool t288)).setCell ⟨gb292, 1, none⟩ (.slice Ao48 t289.length co48)) w.heap.size (fun k_ => (w.heap.size ≤ k_) ∧ some k_ ≠ (.slice Ao42 t281.length co42 : Value).ownBlock) (.slice Ao43 t285.length co43) t285) := ⟨by (with_reducible repeat (first | apply Kd.R_alloc | apply Kd.R_drewN | apply Kd.R_drew)); exact Kd.R_mono (Kd.R_far (p := ⟨gb292, 1, none⟩) (Kd.R_far (p := ⟨gb292, 0, none⟩) (Kd.R_types HO287.out BK292.out (by decide)) (fun _ hk => hk.2) (.bool t288)) (fun _ hk => hk.2) (.slice Ao48 t289.length co48)) (fun _ hk => ⟨hk.1.1.1, hk.1.2⟩)⟩
  have n2_ : Aside0 (Kd.V (Kd.int .i64) 3 ((w45.setCell ⟨gb292, 0, none⟩ (.bool t288)).setCell ⟨gb292, 1, none⟩ (.slice Ao48 t289.length co48)) w.heap.size (fun k_ => (w.heap.size ≤ k_) ∧ some k_ ≠ (.slice Ao42 t281.length co42 : Value).ownBlock ∧ k_ ≠ gb279 ∧ k_ ≠ gb292) (.slice Ao48 t289.length co48) t289) := ⟨by (with_reducible repeat (first | apply Kd.V_alloc | apply Kd.V_drewN | apply Kd.V_drew)); exact Kd.V_mono (Kd.V_far (p := ⟨gb292, 1, none⟩) (Kd.V_far (p := ⟨gb292, 0, none⟩) (Kd.V_mono HO291.out (fun k_ hk => (⟨hk, hk.2⟩ : _ ∧ k_ ≠ gb292))) (fun _ hk => hk.2) (.bool t288)) (fun _ hk => hk.2) (.slice Ao48 t289.length co48)) (fun _ hk => ⟨hk.1.1.1, ⟨hk.1.1.2.1, ⟨hk.1.1.2.2, hk.1.2⟩⟩⟩)⟩
  have n3_ : Aside0 (((w45.setCell ⟨gb292, 0, none⟩ (.bool t288)).setCell ⟨gb292, 1, none⟩ (.slice Ao48 t289.length co48)).heap[gb279]? = some (.cells #[.bool false, .slice none 0 0] 49 (0, 0))) := ⟨by (with_reducible repeat (first | refine blk_drewN ?_ _ | refine blk_drew ?_ | refine blk_alloc ?_ _)); refine blk_far ?_ NB279_292.out _; (with_reducible repeat (first | refine blk_drewN ?_ _ | refine blk_drew ?_ | refine blk_alloc ?_ _)); refine blk_far ?_ NB279_292.out _; exact blkt BK279⟩
  have n4_ : Aside0 (((w45.setCell ⟨gb292, 0, none⟩ (.bool t288)).setCell ⟨gb292, 1, none⟩ (.slice Ao48 t289.length co48)).heap[gb292]? = some (.cells #[.bool t288, .slice Ao48 t289.length co48] 49 (0, 0))) := ⟨by (with_reducible repeat (first | refine blk_drewN ?_ _ | refine blk_drew ?_ | refine blk_alloc ?_ _)); refine blk_put (cs := #[.bool t288, .slice none 0 0]) ?_ 1 _ rfl; (with_reducible repeat (first | refine blk_drewN ?_ _ | refine blk_drew ?_ | refine blk_alloc ?_ _)); refine blk_put (cs := #[.bool false, .slice none 0 0]) ?_ 0 _ rfl; exact blkt BK292⟩
  have n5_ : Aside0 (Below w.heap.size w ((w45.setCell ⟨gb292, 0, none⟩ (.bool t288)).setCell ⟨gb292, 1, none⟩ (.slice Ao48 t289.length co48))) := ⟨belt HB⟩
  (try clear HO283)
  (try clear HO287)
  (try clear HO291)
  (try clear BK279)
  (try clear BK292)
  (try clear HB)
  generalize ((w45.setCell ⟨gb292, 0, none⟩ (.bool t288)).setCell ⟨gb292, 1, none⟩ (.slice Ao48 t289.length co48)) = w49 at n0_ n1_ n2_ n3_ n4_ n5_ ⊢
  have HO283 := n0_
  have HO287 := n1_
  have HO291 := n2_
  have BK279 := n3_
  have BK292 := n4_
  have HB := n5_
  clear n0_ n1_ n2_ n3_ n4_ n5_
  replace HO283 := Aside0.mk (Kd.R_drew HO283.out)
  replace HO287 := Aside0.mk (Kd.R_drew HO287.out)
  replace HO291 := Aside0.mk (Kd.V_drew HO291.out)
  replace BK279 := Aside0.mk (blk_drew BK279.out)
  replace BK292 := Aside0.mk (blk_drew BK292.out)
  replace HB := Aside0.mk (below_drew1 HB.out)
  refine start_ (n := 4) (S := fun w' => w'.cell? ⟨gb292, 0, none⟩ = some (.bool t288) ∧ w'.cell? ⟨gb292, 1, none⟩ = some (.slice Ao48 t289.length co48)) (ds := []) #[false, false, false, false] (by kernel_rfl) rfl rfl ⟨bc BK292 0, bc BK292 1⟩ (fun hHeld => ?_)
  generalize w49.drew = w50 at HO283 HO287 HO291 BK279 BK292 HB hHeld ⊢
  refine take_ (i := 0) (N := some 11) (v := ?_) (a' := ?_) #[true, false, false, false] rfl rfl (by kernel_rfl) (fun _ _ _ h => h) (Or.inl ⟨by rfl, ?_⟩) hHeld ?_ ?_
  rotate_left
  ·rintro w' ⟨s0, s1⟩
   go_simp
   with_reducible rfl
  rotate_left
  ·simp only [Act.put, List.setIfInBounds_toArray, List.set_cons_zero, List.set_cons_succ, i64_w, i32_w]
   rfl
  refine one_ (i := 1) (N := some 12) #[true, true, false, false] rfl rfl (by kernel_rfl) (by decide) (fun K hK => ?_)
  refine goes_ Try.func30 (by kernel_rfl) rfl #[.int .i64 63] (by rfl) rfl rfl argt ?_
  with_reducible refine (turnstoneref01_Power.calls k 63 t293 t294 _ A6.out).mono ?_
  rintro e w51 ⟨v295, rfl, ho0, hb⟩
  refine ⟨_, rfl, ?_⟩
  replace HO291 := vb HO291 hb
  have HO296 := Aside0.mk (Kd.V_lower (Kd.V_mono (ok' := fun k_ => (w.heap.size ≤ k_) ∧ some k_ ≠ (.slice Ao42 t281.length co42 : Value).ownBlock ∧ some k_ ≠ (.slice Ao43 t285.length co43 : Value).ownBlock ∧ k_ ≠ gb279 ∧ k_ ≠ gb292) ho0 (fun k_ hk_ => ⟨(Nat.le_trans (below_size (belt HB)) hk_), (Kd.fresh' (Kd.R_lt (rt HO283)) k_ hk_), (Kd.fresh' (Kd.R_lt (rt HO287)) k_ hk_), (Kd.freshB (blkt BK279) k_ hk_), (Kd.freshB (blkt BK292) k_ hk_)⟩)) (below_size (belt HB)))
  replace HO283 := rb HO283 hb
  replace HO287 := rb HO287 hb
  replace BK279 := blkb BK279 hb
  replace BK292 := blkb BK292 hb
  replace HB := belb HB hb
  (try clear hb)
  (try clear hb2)
  (try clear hk)
  (try clear hi)
  (try clear ho0)
  obtain ⟨Ao52, co52, eo52⟩ := Kd.V_slice HO296.out
  (first | subst eo52 | (injection eo52 with f1_ f2_ f3_; have f4_ := f1_.symm; have f5_ := f3_.symm; clear f1_ f2_ f3_; subst f4_; subst f5_))
  refine hK.out _ _ ⟨bc BK292 0, bc BK292 1⟩ (fun hHeld => ?_)
  clear hK K
  refine norm_ (a' := ?_) ?_ ?_
  rotate_left
  ·show Act.put _ (some 12) _ = _
   simp only [Act.put, List.setIfInBounds_toArray, List.set_cons_zero, List.set_cons_succ, i64_w, i32_w]
   rfl
  refine one_ (i := 2) (N := some 13) #[true, true, true, false] rfl rfl (by kernel_rfl) (by decide) (fun K hK => ?_)
  refine goes_ Try.func18 (by kernel_rfl) rfl #[.agg #[.bool t288, .slice Ao48 t289.length co48], .agg #[.bool t293, .slice Ao52 t294.length co52]] (by rfl) rfl rfl argt ?_
  with_reducible refine (turnstoneref01_Cmp.calls k t288 _ _ t289 t293 _ _ t294 t297 _ ?side1 ?side2 ?side3 ?side4 A7.out).mono ?_
  (case side1 => repeat (first | exact (Kd.V_reads' HO291.out).2.2 | (with_reducible refine Kd.C_alloc ?_ _) | (with_reducible refine Kd.C_drewN ?_ _) | (with_reducible refine Kd.C_drew ?_)))
  (case side2 => exact (Kd.V_reads' HO291.out).2.1)
  (case side3 => repeat (first | exact (Kd.V_reads' HO296.out).2.2 | (with_reducible refine Kd.C_alloc ?_ _) | (with_reducible refine Kd.C_drewN ?_ _) | (with_reducible refine Kd.C_drew ?_)))
  (case side4 => exact (Kd.V_reads' HO296.out).2.1)
  rintro e w53 ⟨rfl, hb⟩
  refine ⟨_, rfl, ?_⟩
  replace HO283 := rb HO283 hb
  replace HO287 := rb HO287 hb
  replace HO291 := vb HO291 hb
  replace HO296 := vb HO296 hb
  replace BK279 := blkb BK279 hb
  replace BK292 := blkb BK292 hb
  replace HB := belb HB hb
  (try clear hb)
  (try clear hb2)
  (try clear hk)
  (try clear hi)
  refine hK.out _ _ ⟨bc BK292 0, bc BK292 1⟩ (fun hHeld => ?_)
  clear hK K
  refine norm_ (a' := ?_) ?_ ?_
  rotate_left
  ·show Act.put _ (some 13) _ = _
   simp only [Act.put, List.setIfInBounds_toArray, List.set_cons_zero, List.set_cons_succ, i64_w, i32_w]
   rfl
  refine pure_ (i := 3) (N := some 14) (v := ?_) (a' := ?_) #[true, true, true, true] rfl rfl (by kernel_rfl) (fun _ _ _ h => h) (Or.inl ⟨by rfl, ?_⟩) ?_ ?_
  rotate_left
  ·intro w'
   go_simp
   with_reducible rfl
  rotate_left
  ·simp only [Act.put, List.setIfInBounds_toArray, List.set_cons_zero, List.set_cons_succ, i64_w, i32_w]
   rfl
  refine done_ (by kernel_rfl) ?_
  try go_wp2
  replace HO283 := Aside0.mk (Kd.R_drew HO283.out)
  replace HO287 := Aside0.mk (Kd.R_drew HO287.out)
  replace HO291 := Aside0.mk (Kd.V_drew HO291.out)
  replace HO296 := Aside0.mk (Kd.V_drew HO296.out)
  replace BK279 := Aside0.mk (blk_drew BK279.out)
  replace BK292 := Aside0.mk (blk_drew BK292.out)
  replace HB := Aside0.mk (below_drew1 HB.out)
  refine start_ (n := 5) (S := fun w' => w'.cell? ⟨gb292, 0, none⟩ = some (.bool t288) ∧ w'.cell? ⟨gb292, 1, none⟩ = some (.slice Ao48 t289.length co48)) (ds := []) #[false, false, false, false, false] (by kernel_rfl) rfl rfl ⟨bc BK292 0, bc BK292 1⟩ (fun hHeld => ?_)
  generalize w53.drew = w54 at HO283 HO287 HO291 HO296 BK279 BK292 HB hHeld ⊢
  refine take_ (i := 0) (N := some 18) (v := ?_) (a' := ?_) #[true, false, false, false, false] rfl rfl (by kernel_rfl) (fun _ _ _ h => h) (Or.inl ⟨by rfl, ?_⟩) hHeld ?_ ?_
  rotate_left
  ·rintro w' ⟨s0, s1⟩
   go_simp
   with_reducible rfl
  rotate_left
  ·simp only [Act.put, List.setIfInBounds_toArray, List.set_cons_zero, List.set_cons_succ, i64_w, i32_w]
   rfl
  refine one_ (i := 1) (N := some 19) #[true, true, false, false, false] rfl rfl (by kernel_rfl) (by decide) (fun K hK => ?_)
  refine goes_ Try.func30 (by kernel_rfl) rfl #[.int .i64 63] (by rfl) rfl rfl argt ?_
  with_reducible refine (turnstoneref01_Power.calls k 63 t306 t307 _ A33.out).mono ?_
  rintro e w55 ⟨v308, rfl, ho0, hb⟩
  refine ⟨_, rfl, ?_⟩
  replace HO291 := vb HO291 hb
  replace HO296 := vb HO296 hb
  have HO309 := Aside0.mk (Kd.V_lower (Kd.V_mono (ok' := fun k_ => (w.heap.size ≤ k_) ∧ some k_ ≠ (.slice Ao42 t281.length co42 : Value).ownBlock ∧ some k_ ≠ (.slice Ao43 t285.length co43 : Value).ownBlock ∧ k_ ≠ gb279 ∧ k_ ≠ gb292) ho0 (fun k_ hk_ => ⟨(Nat.le_trans (below_size (belt HB)) hk_), (Kd.fresh' (Kd.R_lt (rt HO283)) k_ hk_), (Kd.fresh' (Kd.R_lt (rt HO287)) k_ hk_), (Kd.freshB (blkt BK279) k_ hk_), (Kd.freshB (blkt BK292) k_ hk_)⟩)) (below_size (belt HB)))
  replace HO283 := rb HO283 hb
  replace HO287 := rb HO287 hb
  replace BK279 := blkb BK279 hb
  replace BK292 := blkb BK292 hb
  replace HB := belb HB hb
  (try clear hb)
  (try clear hb2)
  (try clear hk)
  (try clear hi)
  (try clear ho0)
  obtain ⟨Ao56, co56, eo56⟩ := Kd.V_slice HO309.out
  (first | subst eo56 | (injection eo56 with f1_ f2_ f3_; have f4_ := f1_.symm; have f5_ := f3_.symm; clear f1_ f2_ f3_; subst f4_; subst f5_))
  refine hK.out _ _ ⟨bc BK292 0, bc BK292 1⟩ (fun hHeld => ?_)
  clear hK K
  refine norm_ (a' := ?_) ?_ ?_
  rotate_left
  ·show Act.put _ (some 19) _ = _
   simp only [Act.put, List.setIfInBounds_toArray, List.set_cons_zero, List.set_cons_succ, i64_w, i32_w]
   rfl
  refine one_ (i := 2) (N := some 20) #[true, true, true, false, false] rfl rfl (by kernel_rfl) (by decide) (fun K hK => ?_)
  refine goes_ Try.func40 (by kernel_rfl) rfl #[.agg #[.bool t306, .slice Ao56 t307.length co56]] (by rfl) rfl rfl argt ?_
  with_reducible refine (turnstoneref01_Neg.calls k t306 (fun k_ => ((w.heap.size ≤ k_) ∧ (some k_ ≠ (.slice Ao42 t281.length co42 : Value).ownBlock ∧ (some k_ ≠ (.slice Ao43 t285.length co43 : Value).ownBlock ∧ (k_ ≠ gb279 ∧ k_ ≠ gb292))))) _ _ t307 t310 t311 _ ?side1 A34.out).mono ?_
  (case side1 => exact HO309.out)
  rintro e w57 ⟨v312, rfl, ho0, hb⟩
  refine ⟨_, rfl, ?_⟩
  replace HO291 := vb HO291 hb
  replace HO296 := vb HO296 hb
  replace HO309 := vb HO309 hb
  have HO313 := Aside0.mk (Kd.V_lower (Kd.V_mono (ok' := fun k_ => (w.heap.size ≤ k_) ∧ some k_ ≠ (.slice Ao42 t281.length co42 : Value).ownBlock ∧ some k_ ≠ (.slice Ao43 t285.length co43 : Value).ownBlock ∧ k_ ≠ gb279 ∧ k_ ≠ gb292) ho0 (fun k_ hk_ => ⟨Or.elim hk_ (fun hs_ => hs_.1) (fun hn_ => (Nat.le_trans (below_size (belt HB)) hn_)), Or.elim hk_ (fun hs_ => hs_.2.1) (fun hn_ => (Kd.fresh' (Kd.R_lt (rt HO283)) k_ hn_)), Or.elim hk_ (fun hs_ => hs_.2.2.1) (fun hn_ => (Kd.fresh' (Kd.R_lt (rt HO287)) k_ hn_)), Or.elim hk_ (fun hs_ => hs_.2.2.2.1) (fun hn_ => (Kd.freshB (blkt BK279) k_ hn_)), Or.elim hk_ (fun hs_ => hs_.2.2.2.2) (fun hn_ => (Kd.freshB (blkt BK292) k_ hn_))⟩)) (below_size (belt HB)))
  replace HO283 := rb HO283 hb
  replace HO287 := rb HO287 hb
  replace BK279 := blkb BK279 hb
  replace BK292 := blkb BK292 hb
  replace HB := belb HB hb
  (try clear hb)
  (try clear hb2)
  (try clear hk)
  (try clear hi)
  (try clear ho0)
  obtain ⟨Ao58, co58, eo58⟩ := Kd.V_slice HO313.out
  (first | subst eo58 | (injection eo58 with f1_ f2_ f3_; have f4_ := f1_.symm; have f5_ := f3_.symm; clear f1_ f2_ f3_; subst f4_; subst f5_))
  refine hK.out _ _ ⟨bc BK292 0, bc BK292 1⟩ (fun hHeld => ?_)
  clear hK K
  refine norm_ (a' := ?_) ?_ ?_
  rotate_left
  ·show Act.put _ (some 20) _ = _
   simp only [Act.put, List.setIfInBounds_toArray, List.set_cons_zero, List.set_cons_succ, i64_w, i32_w]
   rfl
  refine one_ (i := 3) (N := some 21) #[true, true, true, true, false] rfl rfl (by kernel_rfl) (by decide) (fun K hK => ?_)
  refine goes_ Try.func18 (by kernel_rfl) rfl #[.agg #[.bool t288, .slice Ao48 t289.length co48], .agg #[.bool t310, .slice Ao58 t311.length co58]] (by rfl) rfl rfl argt ?_
  with_reducible refine (turnstoneref01_Cmp.calls k t288 _ _ t289 t310 _ _ t311 t314 _ ?side1 ?side2 ?side3 ?side4 A35.out).mono ?_
  (case side1 => repeat (first | exact (Kd.V_reads' HO291.out).2.2 | (with_reducible refine Kd.C_alloc ?_ _) | (with_reducible refine Kd.C_drewN ?_ _) | (with_reducible refine Kd.C_drew ?_)))
  (case side2 => exact (Kd.V_reads' HO291.out).2.1)
  (case side3 => repeat (first | exact (Kd.V_reads' HO313.out).2.2 | (with_reducible refine Kd.C_alloc ?_ _) | (with_reducible refine Kd.C_drewN ?_ _) | (with_reducible refine Kd.C_drew ?_)))
  (case side4 => exact (Kd.V_reads' HO313.out).2.1)
  rintro e w59 ⟨rfl, hb⟩
  refine ⟨_, rfl, ?_⟩
  replace HO283 := rb HO283 hb
  replace HO287 := rb HO287 hb
  replace HO291 := vb HO291 hb
  replace HO296 := vb HO296 hb
  replace HO309 := vb HO309 hb
  replace HO313 := vb HO313 hb
  replace BK279 := blkb BK279 hb
  replace BK292 := blkb BK292 hb
  replace HB := belb HB hb
  (try clear hb)
  (try clear hb2)
  (try clear hk)
  (try clear hi)
  refine hK.out _ _ ⟨bc BK292 0, bc BK292 1⟩ (fun hHeld => ?_)
  clear hK K
  refine norm_ (a' := ?_) ?_ ?_
  rotate_left
  ·show Act.put _ (some 21) _ = _
   simp only [Act.put, List.setIfInBounds_toArray, List.set_cons_zero, List.set_cons_succ, i64_w, i32_w]
   rfl
  refine pure_ (i := 4) (N := some 22) (v := ?_) (a' := ?_) #[true, true, true, true, true] rfl rfl (by kernel_rfl) (fun _ _ _ h => h) (Or.inl ⟨by rfl, ?_⟩) ?_ ?_
  rotate_left
  ·intro w'
   go_simp
   with_reducible rfl
  rotate_left
  ·simp only [Act.put, List.setIfInBounds_toArray, List.set_cons_zero, List.set_cons_succ, i64_w, i32_w]
   rfl
  refine done_ (by kernel_rfl) ?_
  try go_wp2
  replace HO283 := Aside0.mk (Kd.R_drew HO283.out)
  replace HO287 := Aside0.mk (Kd.R_drew HO287.out)
  replace HO291 := Aside0.mk (Kd.V_drew HO291.out)
  replace HO296 := Aside0.mk (Kd.V_drew HO296.out)
  replace HO309 := Aside0.mk (Kd.V_drew HO309.out)
  replace HO313 := Aside0.mk (Kd.V_drew HO313.out)
  replace BK279 := Aside0.mk (blk_drew BK279.out)
  replace BK292 := Aside0.mk (blk_drew BK292.out)
  replace HB := Aside0.mk (below_drew1 HB.out)
  refine start_ (n := 4) (S := fun w' => w'.cell? ⟨gb292, 0, none⟩ = some (.bool t288) ∧ w'.cell? ⟨gb292, 1, none⟩ = some (.slice Ao48 t289.length co48)) (ds := []) #[false, false, false, false] (by kernel_rfl) rfl rfl ⟨bc BK292 0, bc BK292 1⟩ (fun hHeld => ?_)
  generalize w59.drew = w60 at HO283 HO287 HO291 HO296 HO309 HO313 BK279 BK292 HB hHeld ⊢
  refine take_ (i := 0) (N := some 23) (v := ?_) (a' := ?_) #[true, false, false, false] rfl rfl (by kernel_rfl) (fun _ _ _ h => h) (Or.inl ⟨by rfl, ?_⟩) hHeld ?_ ?_
  rotate_left
  ·rintro w' ⟨s0, s1⟩
   go_simp
   with_reducible rfl
  rotate_left
  ·simp only [Act.put, List.setIfInBounds_toArray, List.set_cons_zero, List.set_cons_succ, i64_w, i32_w]
   rfl
  refine one_ (i := 1) (N := some 24) #[true, true, false, false] rfl rfl (by kernel_rfl) (by decide) (fun K hK => ?_)
  refine goes_ Try.func30 (by kernel_rfl) rfl #[.int .i64 64] (by rfl) rfl rfl argt ?_
  with_reducible refine (turnstoneref01_Power.calls k 64 t315 t316 _ A37.out).mono ?_
  rintro e w61 ⟨v317, rfl, ho0, hb⟩
  refine ⟨_, rfl, ?_⟩
  replace HO291 := vb HO291 hb
  replace HO296 := vb HO296 hb
  replace HO309 := vb HO309 hb
  replace HO313 := vb HO313 hb
  have HO318 := Aside0.mk (Kd.V_lower (Kd.V_mono (ok' := fun k_ => (w.heap.size ≤ k_) ∧ some k_ ≠ (.slice Ao42 t281.length co42 : Value).ownBlock ∧ some k_ ≠ (.slice Ao43 t285.length co43 : Value).ownBlock ∧ k_ ≠ gb279 ∧ k_ ≠ gb292) ho0 (fun k_ hk_ => ⟨(Nat.le_trans (below_size (belt HB)) hk_), (Kd.fresh' (Kd.R_lt (rt HO283)) k_ hk_), (Kd.fresh' (Kd.R_lt (rt HO287)) k_ hk_), (Kd.freshB (blkt BK279) k_ hk_), (Kd.freshB (blkt BK292) k_ hk_)⟩)) (below_size (belt HB)))
  replace HO283 := rb HO283 hb
  replace HO287 := rb HO287 hb
  replace BK279 := blkb BK279 hb
  replace BK292 := blkb BK292 hb
  replace HB := belb HB hb
  (try clear hb)
  (try clear hb2)
  (try clear hk)
  (try clear hi)
  (try clear ho0)
  obtain ⟨Ao62, co62, eo62⟩ := Kd.V_slice HO318.out
  (first | subst eo62 | (injection eo62 with f1_ f2_ f3_; have f4_ := f1_.symm; have f5_ := f3_.symm; clear f1_ f2_ f3_; subst f4_; subst f5_))
  refine hK.out _ _ ⟨bc BK292 0, bc BK292 1⟩ (fun hHeld => ?_)
  clear hK K
  refine norm_ (a' := ?_) ?_ ?_
  rotate_left
  ·show Act.put _ (some 24) _ = _
   simp only [Act.put, List.setIfInBounds_toArray, List.set_cons_zero, List.set_cons_succ, i64_w, i32_w]
   rfl
  refine one_ (i := 2) (N := some 25) #[true, true, true, false] rfl rfl (by kernel_rfl) (by decide) (fun K hK => ?_)
  refine goes_ Try.func41 (by kernel_rfl) rfl #[.agg #[.bool t288, .slice Ao48 t289.length co48], .agg #[.bool t315, .slice Ao62 t316.length co62]] (by rfl) rfl rfl argt ?_
  with_reducible refine (turnstoneref01_Add.calls k t288 _ _ t289 t315 _ _ t316 t319 t320 _ ?side1 ?side2 ?side3 ?side4 A38.out).mono ?_
  (case side1 => repeat (first | exact (Kd.V_reads' HO291.out).2.2 | (with_reducible refine Kd.C_alloc ?_ _) | (with_reducible refine Kd.C_drewN ?_ _) | (with_reducible refine Kd.C_drew ?_)))
  (case side2 => exact (Kd.V_reads' HO291.out).2.1)
  (case side3 => repeat (first | exact (Kd.V_reads' HO318.out).2.2 | (with_reducible refine Kd.C_alloc ?_ _) | (with_reducible refine Kd.C_drewN ?_ _) | (with_reducible refine Kd.C_drew ?_)))
  (case side4 => exact (Kd.V_reads' HO318.out).2.1)
  rintro e w63 ⟨v321, rfl, ho0, hb⟩
  refine ⟨_, rfl, ?_⟩
  replace HO291 := vb HO291 hb
  replace HO296 := vb HO296 hb
  replace HO309 := vb HO309 hb
  replace HO313 := vb HO313 hb
  replace HO318 := vb HO318 hb
  have HO322 := Aside0.mk (Kd.V_lower (Kd.V_mono (ok' := fun k_ => (w.heap.size ≤ k_) ∧ some k_ ≠ (.slice Ao42 t281.length co42 : Value).ownBlock ∧ some k_ ≠ (.slice Ao43 t285.length co43 : Value).ownBlock ∧ k_ ≠ gb279 ∧ k_ ≠ gb292) ho0 (fun k_ hk_ => ⟨(Nat.le_trans (below_size (belt HB)) hk_), (Kd.fresh' (Kd.R_lt (rt HO283)) k_ hk_), (Kd.fresh' (Kd.R_lt (rt HO287)) k_ hk_), (Kd.freshB (blkt BK279) k_ hk_), (Kd.freshB (blkt BK292) k_ hk_)⟩)) (below_size (belt HB)))
  replace HO283 := rb HO283 hb
  replace HO287 := rb HO287 hb
  replace BK279 := blkb BK279 hb
  replace BK292 := blkb BK292 hb
  replace HB := belb HB hb
  (try clear hb)
  (try clear hb2)
  (try clear hk)
  (try clear hi)
  (try clear ho0)
  obtain ⟨Ao65, co65, eo65⟩ := Kd.V_slice HO322.out
  (first | subst eo65 | (injection eo65 with f1_ f2_ f3_; have f4_ := f1_.symm; have f5_ := f3_.symm; clear f1_ f2_ f3_; subst f4_; subst f5_))
  refine hK.out _ _ ⟨bc BK292 0, bc BK292 1⟩ (fun hHeld => ?_)
  clear hK K
  refine norm_ (a' := ?_) ?_ ?_
  rotate_left
  ·show Act.put _ (some 25) _ = _
   simp only [Act.put, List.setIfInBounds_toArray, List.set_cons_zero, List.set_cons_succ, i64_w, i32_w]
   rfl
  refine one_ (i := 3) (N := none) #[true, true, true, true] rfl rfl (by kernel_rfl) (by decide) (fun K hK => ?_)
  have hs64 : w63.cell? ⟨gb279, 0, none⟩ = some (.bool false) := bc BK279 0
  have hfs64 := blk_frozen BK279.out 0
  have hns64_1 := NB292_279.out
  have hms64_1 := NB279_292.out
  have hs66 : w63.cell? ⟨gb279, 1, none⟩ = some (.slice none 0 0) := bc BK279 1
  have hfs66 := blk_frozen BK279.out 1
  have hns66_1 := NB292_279.out
  have hms66_1 := NB279_292.out
  refine skip_ (w1 := ?_) (by rfl) rfl ?_ ?_
  rotate_left
  ·go_simp
   rfl
  refine hK.out _ _ ⟨((cell_far (p := ⟨gb279, _, none⟩) NB292_279.out _).trans (((cell_far (p := ⟨gb279, _, none⟩) NB292_279.out _).trans (hHeld.1)))), ((cell_far (p := ⟨gb279, _, none⟩) NB292_279.out _).trans (((cell_far (p := ⟨gb279, _, none⟩) NB292_279.out _).trans (hHeld.2))))⟩ (fun hHeld => ?_)
  clear hK K
  refine done_ (by kernel_rfl) ?_
  try go_wp2
  refine bodyPost_ret (results_cell_row rfl _ _ gb279 49 #[.bool t319, .slice Ao65 t320.length co65] (0, 0) _ rfl (by (with_reducible repeat (first | refine blk_drewN ?_ _ | refine blk_drew ?_ | refine blk_alloc ?_ _)); refine blk_put (cs := #[.bool t319, .slice none 0 0]) ?_ 1 _ rfl; (with_reducible repeat (first | refine blk_drewN ?_ _ | refine blk_drew ?_ | refine blk_alloc ?_ _)); refine blk_put (cs := #[.bool false, .slice none 0 0]) ?_ 0 _ rfl; exact blkt BK279) Try.underlying49 rfl (by kernel_rfl)) rfl ?_
  exact ⟨_, by first | rfl | (simp [errW_none, errW_some] <;> rfl) | (simp [*, errW_none, errW_some] <;> rfl), by (with_reducible repeat (first | apply Kd.V_alloc | apply Kd.V_drewN | apply Kd.V_drew)); exact Kd.V_mono (Kd.V_far (p := ⟨gb279, 1, none⟩) (Kd.V_far (p := ⟨gb279, 0, none⟩) (Kd.V_mono HO322.out (fun k_ hk => (⟨hk, hk.2.2.2.1⟩ : _ ∧ k_ ≠ gb279))) (fun _ hk => hk.2) (.bool t319)) (fun _ hk => hk.2) (.slice Ao65 t320.length co65)) (fun _ hk => hk.1.1), belt HB⟩
 rw [if_neg c36] at H
 have c36b0 : decide (t314 < 0) = false := decide_eq_false c36
 clear c36
 simp only [Option.some.injEq, Prod.mk.injEq] at H
 obtain ⟨rfl, rfl⟩ := H
 go_enter Try.func27, Try.ntmps27
 try go_wp2_with (first | ((with_reducible refine gate_dst (N := 4) rfl ?_); refine box_event ?hg (N := 4) ?hd (cs := #[.bool false, .slice none 0 0]) (t := 49) ?hr ?_; (case hd => rfl); (case hg => rfl); (case hr => first | (go_simp; done) | (go_simp; rfl)); intro gb279 hg w67 hbox hb; have BK279 := Aside0.mk (hbox); have GW279 := bels HB hg; have GE279 := bels HB hg; replace HB := belb HB hb; clear hb hbox hg) | ((with_reducible refine gate_callee (f := 19) rfl ?_); refine goesL_ (some 7) rfl rfl Try.func19 (by kernel_rfl) rfl #[.int .u64 a0] rfl argt ?_; (with_reducible refine (turnstoneref01_U.calls k a0 t280 t281 _ A3.out).mono ?_); rintro e w68 ⟨v282, rfl, ho0, hb⟩; refine ⟨_, rfl, ?_⟩; have HO283 := Aside0.mk (Kd.R_lower (Kd.R_newM (M := fun k_ => (w.heap.size ≤ k_)) ho0 (below_size (belt HB)) (fun k_ h_ => h_)) (below_size (belt HB))); replace BK279 := blkb BK279 hb; replace HB := belb HB hb; (try clear hb); (try clear hb2); (try clear hk); (try clear hi); (try clear ho0)) | ((with_reducible refine gate_callee (f := 19) rfl ?_); refine goesL_ (some 9) rfl rfl Try.func19 (by kernel_rfl) rfl #[.int .u64 a1] rfl argt ?_; (with_reducible refine (turnstoneref01_U.calls k a1 t284 t285 _ A4.out).mono ?_); rintro e w69 ⟨v286, rfl, ho0, hb⟩; refine ⟨_, rfl, ?_⟩; have HO287 := Aside0.mk (Kd.R_lower (Kd.R_new' (Kd.R_newM (M := fun k_ => (w.heap.size ≤ k_)) ho0 (below_size (belt HB)) (fun k_ h_ => h_)) (Kd.R_lt (rt HO283))) (below_size (belt HB))); replace BK279 := blkb BK279 hb; replace HO283 := Aside0.mk (Kd.R_elder' (rt HO283) (Kd.R_base ho0) hb); replace HB := belb HB hb; (try clear hb); (try clear hb2); (try clear hk); (try clear hi); (try clear ho0); obtain ⟨Ao70, co70, eo70⟩ := Kd.R_slice HO283.out; subst eo70; obtain ⟨Ao71, co71, eo71⟩ := Kd.R_slice HO287.out; subst eo71) | ((with_reducible refine gate_callee (f := 34) rfl ?_); refine goesL_ (some 10) rfl rfl Try.func34 (by kernel_rfl) rfl #[.agg #[.bool t280, .slice Ao70 t281.length co70], .agg #[.bool t284, .slice Ao71 t285.length co71]] rfl argt ?_; (with_reducible refine (turnstoneref01_Sub.calls k t280 _ _ t281 t284 (fun k_ => some k_ = (.slice Ao71 t285.length co71 : Value).ownBlock) _ _ t285 t288 t289 _ ?side1 ?side2 ?side3 A5.out).mono ?_); (case side1 => repeat (first | exact (Kd.R_reads' HO283.out).2.2 | (with_reducible refine Kd.C_alloc ?_ _) | (with_reducible refine Kd.C_drewN ?_ _) | (with_reducible refine Kd.C_drew ?_))); (case side2 => exact (Kd.R_reads' HO283.out).2.1); (case side3 => exact Kd.R_V (Kd.R_tight rfl (Kd.R_types (HO287.out) BK279.out (by decide)))); rintro e w72 ⟨v290, rfl, ho0, hb⟩; refine ⟨_, rfl, ?_⟩; have HO291 := Aside0.mk (Kd.V_lower (Kd.V_mono (ok' := fun k_ => (w.heap.size ≤ k_) ∧ some k_ ≠ (.slice Ao70 t281.length co70 : Value).ownBlock ∧ k_ ≠ gb279) ho0 (fun k_ hk_ => ⟨Or.elim hk_ (fun hs_ => ((Kd.R_types (HO287.out) BK279.out (by decide)).1 k_ hs_.symm).1.1.1) (fun hn_ => (Nat.le_trans (below_size (belt HB)) hn_)), Or.elim hk_ (fun hs_ => ((Kd.R_types (HO287.out) BK279.out (by decide)).1 k_ hs_.symm).1.2) (fun hn_ => (Kd.fresh' (Kd.R_lt (rt HO283)) k_ hn_)), Or.elim hk_ (fun hs_ => ((Kd.R_types (HO287.out) BK279.out (by decide)).1 k_ hs_.symm).2) (fun hn_ => (Kd.freshB (blkt BK279) k_ hn_))⟩)) (below_size (belt HB))); replace HO283 := rb HO283 hb; replace HO287 := rb HO287 hb; replace BK279 := blkb BK279 hb; replace HB := belb HB hb; (try clear hb); (try clear hb2); (try clear hk); (try clear hi); (try clear ho0)) | ((with_reducible refine gate_dst (N := 5) rfl ?_); refine box_event ?hg (N := 5) ?hd (cs := #[.bool false, .slice none 0 0]) (t := 49) ?hr ?_; (case hd => rfl); (case hg => rfl); (case hr => first | (go_simp; done) | (go_simp; rfl)); intro gb292 hg w73 hbox hb; replace HO283 := rb HO283 hb; replace HO287 := rb HO287 hb; replace HO291 := Aside0.mk (Kd.V_below (Kd.V_elderB (vt HO291) gb292 (Nat.le_of_eq hg.symm)) hb); have BK292 := Aside0.mk (hbox); have GW292 := bels HB hg; have GE292 := bels HB hg; have NB279_292 := blkl BK279 hg; have NB292_279 := blkg BK279 hg; replace BK279 := blkb BK279 hb; replace HB := belb HB hb; clear hb hbox hg; have hnb74 := NB292_279.out; have hnc74 := NB279_292.out; have hcz75_0 : w73.cell? ⟨gb292, 0, none⟩ = some (.bool false) := bc BK292 0; have hcz75_1 : w73.cell? ⟨gb292, 1, none⟩ = some (.slice none 0 0) := bc BK292 1; have hfz75_0 := blk_frozen BK292.out 0; have hfz75_1 := blk_frozen BK292.out 1; obtain ⟨Ao76, co76, eo76⟩ := Kd.V_slice HO291.out; subst eo76))
 have n0_ : Aside0 (Kd.R (Kd.int .i64) 3 ((w73.setCell ⟨gb292, 0, none⟩ (.bool t288)).setCell ⟨gb292, 1, none⟩ (.slice Ao76 t289.length co76)) w.heap.size (fun k_ => (w.heap.size ≤ k_) ∧ some k_ ≠ (.slice Ao71 t285.length co71 : Value).ownBlock) (.slice Ao70 t281.length co70) t281) := ⟨by (with_reducible repeat (first | apply Kd.R_alloc | apply Kd.R_drewN | apply Kd.R_drew)); exact Kd.R_mono (Kd.R_far (p := ⟨gb292, 1, none⟩) (Kd.R_far (p := ⟨gb292, 0, none⟩) (Kd.R_types HO283.out BK292.out (by decide)) (fun _ hk => hk.2) (.bool t288)) (fun _ hk => hk.2) (.slice Ao76 t289.length co76)) (fun _ hk => ⟨hk.1.1.1, hk.1.2⟩)⟩
 have n1_ : Aside0 (Kd.R (Kd.int .i64) 3 ((w73.setCell ⟨gb292, 0, none⟩ (.bool t288)).setCell ⟨gb292, 1, none⟩ (.slice Ao76 t289.length co76)) w.heap.size (fun k_ => (w.heap.size ≤ k_) ∧ some k_ ≠ (.slice Ao70 t281.length co70 : Value).ownBlock) (.slice Ao71 t285.length co71) t285) := ⟨by (with_reducible repeat (first | apply Kd.R_alloc | apply Kd.R_drewN | apply Kd.R_drew)); exact Kd.R_mono (Kd.R_far (p := ⟨gb292, 1, none⟩) (Kd.R_far (p := ⟨gb292, 0, none⟩) (Kd.R_types HO287.out BK292.out (by decide)) (fun _ hk => hk.2) (.bool t288)) (fun _ hk => hk.2) (.slice Ao76 t289.length co76)) (fun _ hk => ⟨hk.1.1.1, hk.1.2⟩)⟩
 have n2_ : Aside0 (Kd.V (Kd.int .i64) 3 ((w73.setCell ⟨gb292, 0, none⟩ (.bool t288)).setCell ⟨gb292, 1, none⟩ (.slice Ao76 t289.length co76)) w.heap.size (fun k_ => (w.heap.size ≤ k_) ∧ some k_ ≠ (.slice Ao70 t281.length co70 : Value).ownBlock ∧ k_ ≠ gb279 ∧ k_ ≠ gb292) (.slice Ao76 t289.length co76) t289) := ⟨by (with_reducible repeat (first | apply Kd.V_alloc | apply Kd.V_drewN | apply Kd.V_drew)); exact Kd.V_mono (Kd.V_far (p := ⟨gb292, 1, none⟩) (Kd.V_far (p := ⟨gb292, 0, none⟩) (Kd.V_mono HO291.out (fun k_ hk => (⟨hk, hk.2⟩ : _ ∧ k_ ≠ gb292))) (fun _ hk => hk.2) (.bool t288)) (fun _ hk => hk.2) (.slice Ao76 t289.length co76)) (fun _ hk => ⟨hk.1.1.1, ⟨hk.1.1.2.1, ⟨hk.1.1.2.2, hk.1.2⟩⟩⟩)⟩
 have n3_ : Aside0 (((w73.setCell ⟨gb292, 0, none⟩ (.bool t288)).setCell ⟨gb292, 1, none⟩ (.slice Ao76 t289.length co76)).heap[gb279]? = some (.cells #[.bool false, .slice none 0 0] 49 (0, 0))) := ⟨by (with_reducible repeat (first | refine blk_drewN ?_ _ | refine blk_drew ?_ | refine blk_alloc ?_ _)); refine blk_far ?_ NB279_292.out _; (with_reducible repeat (first | refine blk_drewN ?_ _ | refine blk_drew ?_ | refine blk_alloc ?_ _)); refine blk_far ?_ NB279_292.out _; exact blkt BK279⟩
 have n4_ : Aside0 (((w73.setCell ⟨gb292, 0, none⟩ (.bool t288)).setCell ⟨gb292, 1, none⟩ (.slice Ao76 t289.length co76)).heap[gb292]? = some (.cells #[.bool t288, .slice Ao76 t289.length co76] 49 (0, 0))) := ⟨by (with_reducible repeat (first | refine blk_drewN ?_ _ | refine blk_drew ?_ | refine blk_alloc ?_ _)); refine blk_put (cs := #[.bool t288, .slice none 0 0]) ?_ 1 _ rfl; (with_reducible repeat (first | refine blk_drewN ?_ _ | refine blk_drew ?_ | refine blk_alloc ?_ _)); refine blk_put (cs := #[.bool false, .slice none 0 0]) ?_ 0 _ rfl; exact blkt BK292⟩
 have n5_ : Aside0 (Below w.heap.size w ((w73.setCell ⟨gb292, 0, none⟩ (.bool t288)).setCell ⟨gb292, 1, none⟩ (.slice Ao76 t289.length co76))) := ⟨belt HB⟩
 (try clear HO283)
 (try clear HO287)
 (try clear HO291)
 (try clear BK279)
 (try clear BK292)
 (try clear HB)
 generalize ((w73.setCell ⟨gb292, 0, none⟩ (.bool t288)).setCell ⟨gb292, 1, none⟩ (.slice Ao76 t289.length co76)) = w77 at n0_ n1_ n2_ n3_ n4_ n5_ ⊢
 have HO283 := n0_
 have HO287 := n1_
 have HO291 := n2_
 have BK279 := n3_
 have BK292 := n4_
 have HB := n5_
 clear n0_ n1_ n2_ n3_ n4_ n5_
 replace HO283 := Aside0.mk (Kd.R_drew HO283.out)
 replace HO287 := Aside0.mk (Kd.R_drew HO287.out)
 replace HO291 := Aside0.mk (Kd.V_drew HO291.out)
 replace BK279 := Aside0.mk (blk_drew BK279.out)
 replace BK292 := Aside0.mk (blk_drew BK292.out)
 replace HB := Aside0.mk (below_drew1 HB.out)
 refine start_ (n := 4) (S := fun w' => w'.cell? ⟨gb292, 0, none⟩ = some (.bool t288) ∧ w'.cell? ⟨gb292, 1, none⟩ = some (.slice Ao76 t289.length co76)) (ds := []) #[false, false, false, false] (by kernel_rfl) rfl rfl ⟨bc BK292 0, bc BK292 1⟩ (fun hHeld => ?_)
 generalize w77.drew = w78 at HO283 HO287 HO291 BK279 BK292 HB hHeld ⊢
 refine take_ (i := 0) (N := some 11) (v := ?_) (a' := ?_) #[true, false, false, false] rfl rfl (by kernel_rfl) (fun _ _ _ h => h) (Or.inl ⟨by rfl, ?_⟩) hHeld ?_ ?_
 rotate_left
 ·rintro w' ⟨s0, s1⟩
  go_simp
  with_reducible rfl
 rotate_left
 ·simp only [Act.put, List.setIfInBounds_toArray, List.set_cons_zero, List.set_cons_succ, i64_w, i32_w]
  rfl
 refine one_ (i := 1) (N := some 12) #[true, true, false, false] rfl rfl (by kernel_rfl) (by decide) (fun K hK => ?_)
 refine goes_ Try.func30 (by kernel_rfl) rfl #[.int .i64 63] (by rfl) rfl rfl argt ?_
 with_reducible refine (turnstoneref01_Power.calls k 63 t293 t294 _ A6.out).mono ?_
 rintro e w79 ⟨v295, rfl, ho0, hb⟩
 refine ⟨_, rfl, ?_⟩
 replace HO291 := vb HO291 hb
 have HO296 := Aside0.mk (Kd.V_lower (Kd.V_mono (ok' := fun k_ => (w.heap.size ≤ k_) ∧ some k_ ≠ (.slice Ao70 t281.length co70 : Value).ownBlock ∧ some k_ ≠ (.slice Ao71 t285.length co71 : Value).ownBlock ∧ k_ ≠ gb279 ∧ k_ ≠ gb292) ho0 (fun k_ hk_ => ⟨(Nat.le_trans (below_size (belt HB)) hk_), (Kd.fresh' (Kd.R_lt (rt HO283)) k_ hk_), (Kd.fresh' (Kd.R_lt (rt HO287)) k_ hk_), (Kd.freshB (blkt BK279) k_ hk_), (Kd.freshB (blkt BK292) k_ hk_)⟩)) (below_size (belt HB)))
 replace HO283 := rb HO283 hb
 replace HO287 := rb HO287 hb
 replace BK279 := blkb BK279 hb
 replace BK292 := blkb BK292 hb
 replace HB := belb HB hb
 (try clear hb)
 (try clear hb2)
 (try clear hk)
 (try clear hi)
 (try clear ho0)
 obtain ⟨Ao80, co80, eo80⟩ := Kd.V_slice HO296.out
 (first | subst eo80 | (injection eo80 with f1_ f2_ f3_; have f4_ := f1_.symm; have f5_ := f3_.symm; clear f1_ f2_ f3_; subst f4_; subst f5_))
 refine hK.out _ _ ⟨bc BK292 0, bc BK292 1⟩ (fun hHeld => ?_)
 clear hK K
 refine norm_ (a' := ?_) ?_ ?_
 rotate_left
 ·show Act.put _ (some 12) _ = _
  simp only [Act.put, List.setIfInBounds_toArray, List.set_cons_zero, List.set_cons_succ, i64_w, i32_w]
  rfl
 refine one_ (i := 2) (N := some 13) #[true, true, true, false] rfl rfl (by kernel_rfl) (by decide) (fun K hK => ?_)
 refine goes_ Try.func18 (by kernel_rfl) rfl #[.agg #[.bool t288, .slice Ao76 t289.length co76], .agg #[.bool t293, .slice Ao80 t294.length co80]] (by rfl) rfl rfl argt ?_
 with_reducible refine (turnstoneref01_Cmp.calls k t288 _ _ t289 t293 _ _ t294 t297 _ ?side1 ?side2 ?side3 ?side4 A7.out).mono ?_
 (case side1 => repeat (first | exact (Kd.V_reads' HO291.out).2.2 | (with_reducible refine Kd.C_alloc ?_ _) | (with_reducible refine Kd.C_drewN ?_ _) | (with_reducible refine Kd.C_drew ?_)))
 (case side2 => exact (Kd.V_reads' HO291.out).2.1)
 (case side3 => repeat (first | exact (Kd.V_reads' HO296.out).2.2 | (with_reducible refine Kd.C_alloc ?_ _) | (with_reducible refine Kd.C_drewN ?_ _) | (with_reducible refine Kd.C_drew ?_)))
 (case side4 => exact (Kd.V_reads' HO296.out).2.1)
 rintro e w81 ⟨rfl, hb⟩
 refine ⟨_, rfl, ?_⟩
 replace HO283 := rb HO283 hb
 replace HO287 := rb HO287 hb
 replace HO291 := vb HO291 hb
 replace HO296 := vb HO296 hb
 replace BK279 := blkb BK279 hb
 replace BK292 := blkb BK292 hb
 replace HB := belb HB hb
 (try clear hb)
 (try clear hb2)
 (try clear hk)
 (try clear hi)
 refine hK.out _ _ ⟨bc BK292 0, bc BK292 1⟩ (fun hHeld => ?_)
 clear hK K
 refine norm_ (a' := ?_) ?_ ?_
 rotate_left
 ·show Act.put _ (some 13) _ = _
  simp only [Act.put, List.setIfInBounds_toArray, List.set_cons_zero, List.set_cons_succ, i64_w, i32_w]
  rfl
 refine pure_ (i := 3) (N := some 14) (v := ?_) (a' := ?_) #[true, true, true, true] rfl rfl (by kernel_rfl) (fun _ _ _ h => h) (Or.inl ⟨by rfl, ?_⟩) ?_ ?_
 rotate_left
 ·intro w'
  go_simp
  with_reducible rfl
 rotate_left
 ·simp only [Act.put, List.setIfInBounds_toArray, List.set_cons_zero, List.set_cons_succ, i64_w, i32_w]
  rfl
 refine done_ (by kernel_rfl) ?_
 try go_wp2
 replace HO283 := Aside0.mk (Kd.R_drew HO283.out)
 replace HO287 := Aside0.mk (Kd.R_drew HO287.out)
 replace HO291 := Aside0.mk (Kd.V_drew HO291.out)
 replace HO296 := Aside0.mk (Kd.V_drew HO296.out)
 replace BK279 := Aside0.mk (blk_drew BK279.out)
 replace BK292 := Aside0.mk (blk_drew BK292.out)
 replace HB := Aside0.mk (below_drew1 HB.out)
 refine start_ (n := 5) (S := fun w' => w'.cell? ⟨gb292, 0, none⟩ = some (.bool t288) ∧ w'.cell? ⟨gb292, 1, none⟩ = some (.slice Ao76 t289.length co76)) (ds := []) #[false, false, false, false, false] (by kernel_rfl) rfl rfl ⟨bc BK292 0, bc BK292 1⟩ (fun hHeld => ?_)
 generalize w81.drew = w82 at HO283 HO287 HO291 HO296 BK279 BK292 HB hHeld ⊢
 refine take_ (i := 0) (N := some 18) (v := ?_) (a' := ?_) #[true, false, false, false, false] rfl rfl (by kernel_rfl) (fun _ _ _ h => h) (Or.inl ⟨by rfl, ?_⟩) hHeld ?_ ?_
 rotate_left
 ·rintro w' ⟨s0, s1⟩
  go_simp
  with_reducible rfl
 rotate_left
 ·simp only [Act.put, List.setIfInBounds_toArray, List.set_cons_zero, List.set_cons_succ, i64_w, i32_w]
  rfl
 refine one_ (i := 1) (N := some 19) #[true, true, false, false, false] rfl rfl (by kernel_rfl) (by decide) (fun K hK => ?_)
 refine goes_ Try.func30 (by kernel_rfl) rfl #[.int .i64 63] (by rfl) rfl rfl argt ?_
 with_reducible refine (turnstoneref01_Power.calls k 63 t306 t307 _ A33.out).mono ?_
 rintro e w83 ⟨v308, rfl, ho0, hb⟩
 refine ⟨_, rfl, ?_⟩
 replace HO291 := vb HO291 hb
 replace HO296 := vb HO296 hb
 have HO309 := Aside0.mk (Kd.V_lower (Kd.V_mono (ok' := fun k_ => (w.heap.size ≤ k_) ∧ some k_ ≠ (.slice Ao70 t281.length co70 : Value).ownBlock ∧ some k_ ≠ (.slice Ao71 t285.length co71 : Value).ownBlock ∧ k_ ≠ gb279 ∧ k_ ≠ gb292) ho0 (fun k_ hk_ => ⟨(Nat.le_trans (below_size (belt HB)) hk_), (Kd.fresh' (Kd.R_lt (rt HO283)) k_ hk_), (Kd.fresh' (Kd.R_lt (rt HO287)) k_ hk_), (Kd.freshB (blkt BK279) k_ hk_), (Kd.freshB (blkt BK292) k_ hk_)⟩)) (below_size (belt HB)))
 replace HO283 := rb HO283 hb
 replace HO287 := rb HO287 hb
 replace BK279 := blkb BK279 hb
 replace BK292 := blkb BK292 hb
 replace HB := belb HB hb
 (try clear hb)
 (try clear hb2)
 (try clear hk)
 (try clear hi)
 (try clear ho0)
 obtain ⟨Ao84, co84, eo84⟩ := Kd.V_slice HO309.out
 (first | subst eo84 | (injection eo84 with f1_ f2_ f3_; have f4_ := f1_.symm; have f5_ := f3_.symm; clear f1_ f2_ f3_; subst f4_; subst f5_))
 refine hK.out _ _ ⟨bc BK292 0, bc BK292 1⟩ (fun hHeld => ?_)
 clear hK K
 refine norm_ (a' := ?_) ?_ ?_
 rotate_left
 ·show Act.put _ (some 19) _ = _
  simp only [Act.put, List.setIfInBounds_toArray, List.set_cons_zero, List.set_cons_succ, i64_w, i32_w]
  rfl
 refine one_ (i := 2) (N := some 20) #[true, true, true, false, false] rfl rfl (by kernel_rfl) (by decide) (fun K hK => ?_)
 refine goes_ Try.func40 (by kernel_rfl) rfl #[.agg #[.bool t306, .slice Ao84 t307.length co84]] (by rfl) rfl rfl argt ?_
 with_reducible refine (turnstoneref01_Neg.calls k t306 (fun k_ => ((w.heap.size ≤ k_) ∧ (some k_ ≠ (.slice Ao70 t281.length co70 : Value).ownBlock ∧ (some k_ ≠ (.slice Ao71 t285.length co71 : Value).ownBlock ∧ (k_ ≠ gb279 ∧ k_ ≠ gb292))))) _ _ t307 t310 t311 _ ?side1 A34.out).mono ?_
 (case side1 => exact HO309.out)
 rintro e w85 ⟨v312, rfl, ho0, hb⟩
 refine ⟨_, rfl, ?_⟩
 replace HO291 := vb HO291 hb
 replace HO296 := vb HO296 hb
 replace HO309 := vb HO309 hb
 have HO313 := Aside0.mk (Kd.V_lower (Kd.V_mono (ok' := fun k_ => (w.heap.size ≤ k_) ∧ some k_ ≠ (.slice Ao70 t281.length co70 : Value).ownBlock ∧ some k_ ≠ (.slice Ao71 t285.length co71 : Value).ownBlock ∧ k_ ≠ gb279 ∧ k_ ≠ gb292) ho0 (fun k_ hk_ => ⟨Or.elim hk_ (fun hs_ => hs_.1) (fun hn_ => (Nat.le_trans (below_size (belt HB)) hn_)), Or.elim hk_ (fun hs_ => hs_.2.1) (fun hn_ => (Kd.fresh' (Kd.R_lt (rt HO283)) k_ hn_)), Or.elim hk_ (fun hs_ => hs_.2.2.1) (fun hn_ => (Kd.fresh' (Kd.R_lt (rt HO287)) k_ hn_)), Or.elim hk_ (fun hs_ => hs_.2.2.2.1) (fun hn_ => (Kd.freshB (blkt BK279) k_ hn_)), Or.elim hk_ (fun hs_ => hs_.2.2.2.2) (fun hn_ => (Kd.freshB (blkt BK292) k_ hn_))⟩)) (below_size (belt HB)))
 replace HO283 := rb HO283 hb
 replace HO287 := rb HO287 hb
 replace BK279 := blkb BK279 hb
 replace BK292 := blkb BK292 hb
 replace HB := belb HB hb
 (try clear hb)
 (try clear hb2)
 (try clear hk)
 (try clear hi)
 (try clear ho0)
 obtain ⟨Ao86, co86, eo86⟩ := Kd.V_slice HO313.out
 (first | subst eo86 | (injection eo86 with f1_ f2_ f3_; have f4_ := f1_.symm; have f5_ := f3_.symm; clear f1_ f2_ f3_; subst f4_; subst f5_))
 refine hK.out _ _ ⟨bc BK292 0, bc BK292 1⟩ (fun hHeld => ?_)
 clear hK K
 refine norm_ (a' := ?_) ?_ ?_
 rotate_left
 ·show Act.put _ (some 20) _ = _
  simp only [Act.put, List.setIfInBounds_toArray, List.set_cons_zero, List.set_cons_succ, i64_w, i32_w]
  rfl
 refine one_ (i := 3) (N := some 21) #[true, true, true, true, false] rfl rfl (by kernel_rfl) (by decide) (fun K hK => ?_)
 refine goes_ Try.func18 (by kernel_rfl) rfl #[.agg #[.bool t288, .slice Ao76 t289.length co76], .agg #[.bool t310, .slice Ao86 t311.length co86]] (by rfl) rfl rfl argt ?_
 with_reducible refine (turnstoneref01_Cmp.calls k t288 _ _ t289 t310 _ _ t311 t314 _ ?side1 ?side2 ?side3 ?side4 A35.out).mono ?_
 (case side1 => repeat (first | exact (Kd.V_reads' HO291.out).2.2 | (with_reducible refine Kd.C_alloc ?_ _) | (with_reducible refine Kd.C_drewN ?_ _) | (with_reducible refine Kd.C_drew ?_)))
 (case side2 => exact (Kd.V_reads' HO291.out).2.1)
 (case side3 => repeat (first | exact (Kd.V_reads' HO313.out).2.2 | (with_reducible refine Kd.C_alloc ?_ _) | (with_reducible refine Kd.C_drewN ?_ _) | (with_reducible refine Kd.C_drew ?_)))
 (case side4 => exact (Kd.V_reads' HO313.out).2.1)
 rintro e w87 ⟨rfl, hb⟩
 refine ⟨_, rfl, ?_⟩
 replace HO283 := rb HO283 hb
 replace HO287 := rb HO287 hb
 replace HO291 := vb HO291 hb
 replace HO296 := vb HO296 hb
 replace HO309 := vb HO309 hb
 replace HO313 := vb HO313 hb
 replace BK279 := blkb BK279 hb
 replace BK292 := blkb BK292 hb
 replace HB := belb HB hb
 (try clear hb)
 (try clear hb2)
 (try clear hk)
 (try clear hi)
 refine hK.out _ _ ⟨bc BK292 0, bc BK292 1⟩ (fun hHeld => ?_)
 clear hK K
 refine norm_ (a' := ?_) ?_ ?_
 rotate_left
 ·show Act.put _ (some 21) _ = _
  simp only [Act.put, List.setIfInBounds_toArray, List.set_cons_zero, List.set_cons_succ, i64_w, i32_w]
  rfl
 refine pure_ (i := 4) (N := some 22) (v := ?_) (a' := ?_) #[true, true, true, true, true] rfl rfl (by kernel_rfl) (fun _ _ _ h => h) (Or.inl ⟨by rfl, ?_⟩) ?_ ?_
 rotate_left
 ·intro w'
  go_simp
  with_reducible rfl
 rotate_left
 ·simp only [Act.put, List.setIfInBounds_toArray, List.set_cons_zero, List.set_cons_succ, i64_w, i32_w]
  rfl
 refine done_ (by kernel_rfl) ?_
 have hcz88_0 : w87.cell? ⟨gb292, 0, none⟩ = some (.bool t288) := bc BK292 0
 have hcz88_1 : w87.cell? ⟨gb292, 1, none⟩ = some (.slice Ao76 t289.length co76) := bc BK292 1
 have hfz88_0 := blk_frozen BK292.out 0
 have hfz88_1 := blk_frozen BK292.out 1
 have hcz89_0 : w87.cell? ⟨gb279, 0, none⟩ = some (.bool false) := bc BK279 0
 have hcz89_1 : w87.cell? ⟨gb279, 1, none⟩ = some (.slice none 0 0) := bc BK279 1
 have hfz89_0 := blk_frozen BK279.out 0
 have hfz89_1 := blk_frozen BK279.out 1
 try go_wp2
 refine bodyPost_ret (results_cell_row rfl _ _ gb279 49 #[.bool t288, .slice Ao76 t289.length co76] (0, 0) _ rfl (by (with_reducible repeat (first | refine blk_drewN ?_ _ | refine blk_drew ?_ | refine blk_alloc ?_ _)); refine blk_put (cs := #[.bool t288, .slice none 0 0]) ?_ 1 _ rfl; (with_reducible repeat (first | refine blk_drewN ?_ _ | refine blk_drew ?_ | refine blk_alloc ?_ _)); refine blk_put (cs := #[.bool false, .slice none 0 0]) ?_ 0 _ rfl; exact blkt BK279) Try.underlying49 rfl (by kernel_rfl)) rfl ?_
 exact ⟨_, by first | rfl | (simp [errW_none, errW_some] <;> rfl) | (simp [*, errW_none, errW_some] <;> rfl), by (with_reducible repeat (first | apply Kd.V_alloc | apply Kd.V_drewN | apply Kd.V_drew)); exact Kd.V_mono (Kd.V_far (p := ⟨gb279, 1, none⟩) (Kd.V_far (p := ⟨gb279, 0, none⟩) (Kd.V_mono HO291.out (fun k_ hk => (⟨hk, hk.2.2.1⟩ : _ ∧ k_ ≠ gb279))) (fun _ hk => hk.2) (.bool t288)) (fun _ hk => hk.2) (.slice Ao76 t289.length co76)) (fun _ hk => hk.1.1), belt HB⟩


/-! ### turnstoneref04_Right: function 28 -/
def turnstoneref04_Right.f (a0_0 : Int) (a0_1 : Int) (a0_2 : Int) : Option (Bool) := if a0_2 ≥ 1 then (if a0_2 ≤ 1048576 then (some (decide (a0_1 < a0_2))) else (some false)) else (some false)
set_option maxHeartbeats 8000000 in
set_option maxRecDepth 100000 in
theorem turnstoneref04_Right.calls (a0_0 : Int) (a0_1 : Int) (a0_2 : Int) (r : Bool) (w : World) (h : turnstoneref04_Right.f a0_0 a0_1 a0_2 = some r) :
  Calls Try.prog 28 #[.agg #[.int .u64 a0_0, .int .u32 a0_1, .int .u32 a0_2]] w fun e w' => e = .returned (.bool r) ∧ Below w.heap.size w w' := by
 have hu36 := Try.underlying36
 have HB := Aside0.mk (Below.refl w.heap.size w)
 have H : (if a0_2 ≥ 1 then (if a0_2 ≤ 1048576 then (some (decide (a0_1 < a0_2))) else (some false)) else (some false)) = some r := h
 clear h
 by_cases c2 : a0_2 ≥ 1
 ·rw [if_pos c2] at H
  have c2b0 : decide (1 ≤ a0_2) = true := decide_eq_true c2
  clear c2
  by_cases c3 : a0_2 ≤ 1048576
  ·rw [if_pos c3] at H
   have c3b0 : decide (a0_2 ≤ 1048576) = true := decide_eq_true c3
   clear c3
   obtain rfl := Option.some.inj H
   go_enter Try.func28, Try.ntmps28
   go_wp2_with (first | ((with_reducible refine gate_dst (N := 1) rfl ?_); refine box_event ?hg (N := 1) ?hd (cs := #[.int .u64 a0_0, .int .u32 a0_1, .int .u32 a0_2]) (t := 36) ?hr ?_; (case hd => rfl); (case hg => rfl); (case hr => first | (go_simp; done) | (go_simp; rfl)); intro gb323 hg w4 hbox hb; have BK323 := Aside0.mk (hbox); have GW323 := bels HB hg; have GE323 := bels HB hg; replace HB := belb HB hb; clear hb hbox hg; have hcz5_0 : w4.cell? ⟨gb323, 0, none⟩ = some (.int .u64 a0_0) := bc BK323 0; have hcz5_1 : w4.cell? ⟨gb323, 1, none⟩ = some (.int .u32 a0_1) := bc BK323 1; have hcz5_2 : w4.cell? ⟨gb323, 2, none⟩ = some (.int .u32 a0_2) := bc BK323 2; have hfz5_0 := blk_frozen BK323.out 0; have hfz5_1 := blk_frozen BK323.out 1; have hfz5_2 := blk_frozen BK323.out 2))
   go_ret
   exact ⟨by first | rfl | (simp [errW_none, errW_some] <;> rfl) | (simp [*, errW_none, errW_some] <;> rfl), belt HB⟩
  rw [if_neg c3] at H
  have c3b0 : decide (a0_2 ≤ 1048576) = false := decide_eq_false c3
  clear c3
  obtain rfl := Option.some.inj H
  go_enter Try.func28, Try.ntmps28
  go_wp2_with (first | ((with_reducible refine gate_dst (N := 1) rfl ?_); refine box_event ?hg (N := 1) ?hd (cs := #[.int .u64 a0_0, .int .u32 a0_1, .int .u32 a0_2]) (t := 36) ?hr ?_; (case hd => rfl); (case hg => rfl); (case hr => first | (go_simp; done) | (go_simp; rfl)); intro gb323 hg w6 hbox hb; have BK323 := Aside0.mk (hbox); have GW323 := bels HB hg; have GE323 := bels HB hg; replace HB := belb HB hb; clear hb hbox hg; have hcz7_0 : w6.cell? ⟨gb323, 0, none⟩ = some (.int .u64 a0_0) := bc BK323 0; have hcz7_1 : w6.cell? ⟨gb323, 1, none⟩ = some (.int .u32 a0_1) := bc BK323 1; have hcz7_2 : w6.cell? ⟨gb323, 2, none⟩ = some (.int .u32 a0_2) := bc BK323 2; have hfz7_0 := blk_frozen BK323.out 0; have hfz7_1 := blk_frozen BK323.out 1; have hfz7_2 := blk_frozen BK323.out 2))
  go_ret
  exact ⟨by first | rfl | (simp [errW_none, errW_some] <;> rfl) | (simp [*, errW_none, errW_some] <;> rfl), belt HB⟩
 rw [if_neg c2] at H
 have c2b0 : decide (1 ≤ a0_2) = false := decide_eq_false c2
 clear c2
 obtain rfl := Option.some.inj H
 go_enter Try.func28, Try.ntmps28
 go_wp2_with (first | ((with_reducible refine gate_dst (N := 1) rfl ?_); refine box_event ?hg (N := 1) ?hd (cs := #[.int .u64 a0_0, .int .u32 a0_1, .int .u32 a0_2]) (t := 36) ?hr ?_; (case hd => rfl); (case hg => rfl); (case hr => first | (go_simp; done) | (go_simp; rfl)); intro gb323 hg w8 hbox hb; have BK323 := Aside0.mk (hbox); have GW323 := bels HB hg; have GE323 := bels HB hg; replace HB := belb HB hb; clear hb hbox hg; have hcz9_0 : w8.cell? ⟨gb323, 0, none⟩ = some (.int .u64 a0_0) := bc BK323 0; have hcz9_1 : w8.cell? ⟨gb323, 1, none⟩ = some (.int .u32 a0_1) := bc BK323 1; have hcz9_2 : w8.cell? ⟨gb323, 2, none⟩ = some (.int .u32 a0_2) := bc BK323 2; have hfz9_0 := blk_frozen BK323.out 0; have hfz9_1 := blk_frozen BK323.out 1; have hfz9_2 := blk_frozen BK323.out 2))
 go_ret
 exact ⟨by first | rfl | (simp [errW_none, errW_some] <;> rfl) | (simp [*, errW_none, errW_some] <;> rfl), belt HB⟩


/-! ### turnstoneref05_Right: function 12 -/
def turnstoneref05_Right.f (k : Nat) (a0_0 : Int) (a0_1 : Int) (a0_2 : Int) (a0_3 : Int) (a0_4 : Int) (a0_5 : Int) (a0_6 : Int) : Option (Bool) := (turnstoneref03_Since.f k a0_4 a0_0).bind fun bt325 => ((turnstoneref04_Right.f a0_0 a0_1 a0_2).bind fun t330 => (if t330 = true then ((turnstoneref04_Right.f a0_4 a0_5 a0_6).bind fun t331 => (if t331 = true then (if a0_2 = a0_6 then (if a0_3 > 0 then ((turnstoneref01_Sign.f bt325.1 bt325.2).bind fun t332 => (if t332 ≥ 0 then ((turnstoneref01_Power.f k 60).bind fun bt333 => ((turnstoneref01_Cmp.f k bt325.1 bt325.2 bt333.1 bt333.2).bind fun t337 => (some (decide (t337 ≤ 0))))) else (some false))) else (some false)) else (some false)) else (some false))) else (some false)))
theorem turnstoneref05_Right.mono : ∀ a0 a1 a2 a3 a4 a5 a6 k, LeO (turnstoneref05_Right.f k a0 a1 a2 a3 a4 a5 a6) (turnstoneref05_Right.f (k + 1) a0 a1 a2 a3 a4 a5 a6) := by
 intro a0 a1 a2 a3 a4 a5 a6 k
 unfold turnstoneref05_Right.f
 repeat' first
   | (with_reducible exact turnstoneref01_Cmp.mono _ _ _ _ _)
   | (with_reducible exact turnstoneref01_Power.mono _ _)
   | (with_reducible exact turnstoneref03_Since.mono _ _ _)
   | (with_reducible exact LeO.refl _)
   | (with_reducible exact LeO.none _)
   | (with_reducible refine LeO.ite ?_ ?_)
   | (with_reducible refine LeO.bind ?_ (fun _ => ?_))
   | exact turnstoneref01_Cmp.mono _ _ _ _ _
   | exact turnstoneref01_Power.mono _ _
   | exact turnstoneref03_Since.mono _ _ _
   | exact LeO.none _
   | refine LeO.ite ?_ ?_
   | refine LeO.bind ?_ (fun _ => ?_)
def turnstoneref05_Right.T2 : Bool × List (List Nat × List Nat) := (true, [([], []), ([0], [0]), ([1], [1]), ([2, 2], [2]), ([3], [3]), ([4, 3], [3, 4]), ([5, 3, 3], [3, 5]), ([3, 6], [3, 6]), ([7, 6], [7]), ([8], [8]), ([9, 8], [8, 9]), ([10, 8], [8, 10]), ([8], [8]), ([12, 8], [8, 12]), ([13, 8], [8, 13]), ([11, 14, 8], [8, 11, 14]), ([8, 15], [8, 15]), ([16, 8], [16]), ([17], [17]), ([18, 17], [17, 18]), ([19, 17], [17, 19]), ([17, 20], [17, 20]), ([21, 17], [21]), ([22], [22]), ([23, 22, 22], [22, 23]), ([24, 22], [22, 24]), ([22, 25], [22, 25]), ([26, 24], [26]), ([27], [27]), ([27, 27], [27]), ([28, 29, 29, 27], [27, 28, 29]), ([30, 27], [27, 30]), ([27, 31], [27, 31]), ([32, 30, 0, 1, 2, 3, 4, 5, 6, 7, 8, 9, 10, 11, 12, 13, 14, 15, 16, 17, 18, 19, 20, 21, 22, 23, 24, 25, 26, 27, 28, 29, 30, 31, 32], [32])])
def turnstoneref05_Right.B2 : List Nat := [0, 1, 3, 7, 15, 31, 63, 127, 255, 511, 1023, 2047, 511, 4607, 12799, 32767, 65535, 131071, 262143, 524287, 1048575, 2097151, 4194303, 8388607, 16777215, 33554431, 67108863, 134217727, 268435455, 268435455, 1073741823, 2147483647, 4294967295, 8589934591]
theorem turnstoneref05_Right.tab2 : rtab .any (opsOf Try.f12 2) = turnstoneref05_Right.T2 := by kernel_rfl
theorem turnstoneref05_Right.bits2 : waitsOk turnstoneref05_Right.T2.2 turnstoneref05_Right.B2 = true := by kernel_rfl
set_option maxHeartbeats 8000000 in
set_option maxRecDepth 100000 in
theorem turnstoneref05_Right.calls (k : Nat) (a0_0 : Int) (a0_1 : Int) (a0_2 : Int) (a0_3 : Int) (a0_4 : Int) (a0_5 : Int) (a0_6 : Int) (r : Bool) (w : World) (h : turnstoneref05_Right.f k a0_0 a0_1 a0_2 a0_3 a0_4 a0_5 a0_6 = some r) :
  Calls Try.prog 12 #[.agg #[.int .u64 a0_0, .int .u32 a0_1, .int .u32 a0_2, .int .i64 a0_3, .int .u64 a0_4, .int .u32 a0_5, .int .u32 a0_6]] w fun e w' => e = .returned (.bool r) ∧ Below w.heap.size w w' := by
 have hu38 := Try.underlying38
 have hu49 := Try.underlying49
 have hu36 := Try.underlying36
 have HB := Aside0.mk (Below.refl w.heap.size w)
 have H : ((turnstoneref03_Since.f k a0_4 a0_0).bind fun bt325 => ((turnstoneref04_Right.f a0_0 a0_1 a0_2).bind fun t330 => (if t330 = true then ((turnstoneref04_Right.f a0_4 a0_5 a0_6).bind fun t331 => (if t331 = true then (if a0_2 = a0_6 then (if a0_3 > 0 then ((turnstoneref01_Sign.f bt325.1 bt325.2).bind fun t332 => (if t332 ≥ 0 then ((turnstoneref01_Power.f k 60).bind fun bt333 => ((turnstoneref01_Cmp.f k bt325.1 bt325.2 bt333.1 bt333.2).bind fun t337 => (some (decide (t337 ≤ 0))))) else (some false))) else (some false)) else (some false)) else (some false))) else (some false)))) = some r := h
 clear h
 replace H := Option.bind_eq_some_iff.mp H
 obtain ⟨⟨t325, t326⟩, A20, H⟩ := H
 replace H : ((turnstoneref04_Right.f a0_0 a0_1 a0_2).bind fun t330 => (if t330 = true then ((turnstoneref04_Right.f a0_4 a0_5 a0_6).bind fun t331 => (if t331 = true then (if a0_2 = a0_6 then (if a0_3 > 0 then ((turnstoneref01_Sign.f t325 t326).bind fun t332 => (if t332 ≥ 0 then ((turnstoneref01_Power.f k 60).bind fun bt333 => ((turnstoneref01_Cmp.f k t325 t326 bt333.1 bt333.2).bind fun t337 => (some (decide (t337 ≤ 0))))) else (some false))) else (some false)) else (some false)) else (some false))) else (some false))) = some r := H
 have A2 := Aside0.mk A20
 clear A20
 replace H := Option.bind_eq_some_iff.mp H
 obtain ⟨t330, A30, H⟩ := H
 replace H : (if t330 = true then ((turnstoneref04_Right.f a0_4 a0_5 a0_6).bind fun t331 => (if t331 = true then (if a0_2 = a0_6 then (if a0_3 > 0 then ((turnstoneref01_Sign.f t325 t326).bind fun t332 => (if t332 ≥ 0 then ((turnstoneref01_Power.f k 60).bind fun bt333 => ((turnstoneref01_Cmp.f k t325 t326 bt333.1 bt333.2).bind fun t337 => (some (decide (t337 ≤ 0))))) else (some false))) else (some false)) else (some false)) else (some false))) else (some false)) = some r := H
 have A3 := Aside0.mk A30
 clear A30
 by_cases c4 : t330 = true
 ·subst c4
  have H1 : ((turnstoneref04_Right.f a0_4 a0_5 a0_6).bind fun t331 => (if t331 = true then (if a0_2 = a0_6 then (if a0_3 > 0 then ((turnstoneref01_Sign.f t325 t326).bind fun t332 => (if t332 ≥ 0 then ((turnstoneref01_Power.f k 60).bind fun bt333 => ((turnstoneref01_Cmp.f k t325 t326 bt333.1 bt333.2).bind fun t337 => (some (decide (t337 ≤ 0))))) else (some false))) else (some false)) else (some false)) else (some false))) = some r := by rw [if_pos rfl] at H; exact H
  clear H
  have H := H1
  clear H1
  replace H := Option.bind_eq_some_iff.mp H
  obtain ⟨t331, A50, H⟩ := H
  replace H : (if t331 = true then (if a0_2 = a0_6 then (if a0_3 > 0 then ((turnstoneref01_Sign.f t325 t326).bind fun t332 => (if t332 ≥ 0 then ((turnstoneref01_Power.f k 60).bind fun bt333 => ((turnstoneref01_Cmp.f k t325 t326 bt333.1 bt333.2).bind fun t337 => (some (decide (t337 ≤ 0))))) else (some false))) else (some false)) else (some false)) else (some false)) = some r := H
  have A5 := Aside0.mk A50
  clear A50
  by_cases c6 : t331 = true
  ·subst c6
   have H1 : (if a0_2 = a0_6 then (if a0_3 > 0 then ((turnstoneref01_Sign.f t325 t326).bind fun t332 => (if t332 ≥ 0 then ((turnstoneref01_Power.f k 60).bind fun bt333 => ((turnstoneref01_Cmp.f k t325 t326 bt333.1 bt333.2).bind fun t337 => (some (decide (t337 ≤ 0))))) else (some false))) else (some false)) else (some false)) = some r := by rw [if_pos rfl] at H; exact H
   clear H
   have H := H1
   clear H1
   by_cases c7 : a0_2 = a0_6
   ·rw [if_pos c7] at H
    have c7b0 : (a0_2 == a0_6) = true := beq_iff_eq.mpr c7
    have c7b1 : (a0_2 != a0_6) = false := bne_eq_false_iff_eq.mpr c7
    clear c7
    by_cases c8 : a0_3 > 0
    ·rw [if_pos c8] at H
     have c8b0 : decide (0 < a0_3) = true := decide_eq_true c8
     clear c8
     replace H := Option.bind_eq_some_iff.mp H
     obtain ⟨t332, A90, H⟩ := H
     replace H : (if t332 ≥ 0 then ((turnstoneref01_Power.f k 60).bind fun bt333 => ((turnstoneref01_Cmp.f k t325 t326 bt333.1 bt333.2).bind fun t337 => (some (decide (t337 ≤ 0))))) else (some false)) = some r := H
     have A9 := Aside0.mk A90
     clear A90
     by_cases c10 : t332 ≥ 0
     ·rw [if_pos c10] at H
      have c10b0 : decide (0 ≤ t332) = true := decide_eq_true c10
      clear c10
      replace H := Option.bind_eq_some_iff.mp H
      obtain ⟨⟨t333, t334⟩, A110, H⟩ := H
      replace H : ((turnstoneref01_Cmp.f k t325 t326 t333 t334).bind fun t337 => (some (decide (t337 ≤ 0)))) = some r := H
      have A11 := Aside0.mk A110
      clear A110
      replace H := Option.bind_eq_some_iff.mp H
      obtain ⟨t337, A120, H⟩ := H
      replace H : (some (decide (t337 ≤ 0))) = some r := H
      have A12 := Aside0.mk A120
      clear A120
      obtain rfl := Option.some.inj H
      go_enter Try.func12, Try.ntmps12
      try go_wp2_with (first | ((with_reducible refine gate_dst (N := 1) rfl ?_); refine box_event ?hg (N := 1) ?hd (cs := #[.int .u64 a0_0, .int .u32 a0_1, .int .u32 a0_2, .int .i64 a0_3, .int .u64 a0_4, .int .u32 a0_5, .int .u32 a0_6]) (t := 38) ?hr ?_; (case hd => rfl); (case hg => rfl); (case hr => first | (go_simp; done) | (go_simp; rfl)); intro gb324 hg w13 hbox hb; have BK324 := Aside0.mk (hbox); have GW324 := bels HB hg; have GE324 := bels HB hg; replace HB := belb HB hb; clear hb hbox hg; have hcz14_0 : w13.cell? ⟨gb324, 0, none⟩ = some (.int .u64 a0_0) := bc BK324 0; have hcz14_1 : w13.cell? ⟨gb324, 1, none⟩ = some (.int .u32 a0_1) := bc BK324 1; have hcz14_2 : w13.cell? ⟨gb324, 2, none⟩ = some (.int .u32 a0_2) := bc BK324 2; have hcz14_3 : w13.cell? ⟨gb324, 3, none⟩ = some (.int .i64 a0_3) := bc BK324 3; have hcz14_4 : w13.cell? ⟨gb324, 4, none⟩ = some (.int .u64 a0_4) := bc BK324 4; have hcz14_5 : w13.cell? ⟨gb324, 5, none⟩ = some (.int .u32 a0_5) := bc BK324 5; have hcz14_6 : w13.cell? ⟨gb324, 6, none⟩ = some (.int .u32 a0_6) := bc BK324 6; have hfz14_0 := blk_frozen BK324.out 0; have hfz14_1 := blk_frozen BK324.out 1; have hfz14_2 := blk_frozen BK324.out 2; have hfz14_3 := blk_frozen BK324.out 3; have hfz14_4 := blk_frozen BK324.out 4; have hfz14_5 := blk_frozen BK324.out 5; have hfz14_6 := blk_frozen BK324.out 6) | ((with_reducible refine gate_callee (f := 27) rfl ?_); refine goesL_ (some 10) rfl rfl Try.func27 (by kernel_rfl) rfl #[.int .u64 a0_4, .int .u64 a0_0] rfl argt ?_; (with_reducible refine (turnstoneref03_Since.calls k a0_4 a0_0 t325 t326 _ A2.out).mono ?_); rintro e w15 ⟨v327, rfl, ho0, hb⟩; refine ⟨_, rfl, ?_⟩; have HO328 := Aside0.mk (Kd.V_lower (Kd.V_mono (ok' := fun k_ => k_ ≠ gb324) ho0 (fun k_ hk_ => (Kd.freshB (blkt BK324) k_ hk_))) (below_size (belt HB))); replace BK324 := blkb BK324 hb; replace HB := belb HB hb; (try clear hb); (try clear hb2); (try clear hk); (try clear hi); (try clear ho0)) | ((with_reducible refine gate_dst (N := 3) rfl ?_); refine box_event ?hg (N := 3) ?hd (cs := #[.bool false, .slice none 0 0]) (t := 49) ?hr ?_; (case hd => rfl); (case hg => rfl); (case hr => first | (go_simp; done) | (go_simp; rfl)); intro gb329 hg w16 hbox hb; replace HO328 := Aside0.mk (Kd.V_below (Kd.V_elderB (vt HO328) gb329 (Nat.le_of_eq hg.symm)) hb); have BK329 := Aside0.mk (hbox); have GW329 := bels HB hg; have GE329 := bels HB hg; have NB324_329 := blkl BK324 hg; have NB329_324 := blkg BK324 hg; replace BK324 := blkb BK324 hb; replace HB := belb HB hb; clear hb hbox hg; have hnb17 := NB329_324.out; have hnc17 := NB324_329.out; have hcz18_0 : w16.cell? ⟨gb329, 0, none⟩ = some (.bool false) := bc BK329 0; have hcz18_1 : w16.cell? ⟨gb329, 1, none⟩ = some (.slice none 0 0) := bc BK329 1; have hfz18_0 := blk_frozen BK329.out 0; have hfz18_1 := blk_frozen BK329.out 1; obtain ⟨Ao19, co19, eo19⟩ := Kd.V_slice HO328.out; subst eo19))
      have n0_ : Aside0 (Kd.V (Kd.int .i64) 3 ((w16.setCell ⟨gb329, 0, none⟩ (.bool t325)).setCell ⟨gb329, 1, none⟩ (.slice Ao19 t326.length co19)) w.heap.size (fun k_ => k_ ≠ gb324 ∧ k_ ≠ gb329) (.slice Ao19 t326.length co19) t326) := ⟨by (with_reducible repeat (first | apply Kd.V_alloc | apply Kd.V_drewN | apply Kd.V_drew)); exact Kd.V_mono (Kd.V_far (p := ⟨gb329, 1, none⟩) (Kd.V_far (p := ⟨gb329, 0, none⟩) (Kd.V_mono HO328.out (fun k_ hk => (⟨hk, hk.2⟩ : _ ∧ k_ ≠ gb329))) (fun _ hk => hk.2) (.bool t325)) (fun _ hk => hk.2) (.slice Ao19 t326.length co19)) (fun _ hk => ⟨hk.1.1, hk.1.2⟩)⟩
      have n1_ : Aside0 (((w16.setCell ⟨gb329, 0, none⟩ (.bool t325)).setCell ⟨gb329, 1, none⟩ (.slice Ao19 t326.length co19)).heap[gb324]? = some (.cells #[.int .u64 a0_0, .int .u32 a0_1, .int .u32 a0_2, .int .i64 a0_3, .int .u64 a0_4, .int .u32 a0_5, .int .u32 a0_6] 38 (0, 0))) := ⟨by (with_reducible repeat (first | refine blk_drewN ?_ _ | refine blk_drew ?_ | refine blk_alloc ?_ _)); refine blk_far ?_ NB324_329.out _; (with_reducible repeat (first | refine blk_drewN ?_ _ | refine blk_drew ?_ | refine blk_alloc ?_ _)); refine blk_far ?_ NB324_329.out _; exact blkt BK324⟩
      have n2_ : Aside0 (((w16.setCell ⟨gb329, 0, none⟩ (.bool t325)).setCell ⟨gb329, 1, none⟩ (.slice Ao19 t326.length co19)).heap[gb329]? = some (.cells #[.bool t325, .slice Ao19 t326.length co19] 49 (0, 0))) := ⟨by (with_reducible repeat (first | refine blk_drewN ?_ _ | refine blk_drew ?_ | refine blk_alloc ?_ _)); refine blk_put (cs := #[.bool t325, .slice none 0 0]) ?_ 1 _ rfl; (with_reducible repeat (first | refine blk_drewN ?_ _ | refine blk_drew ?_ | refine blk_alloc ?_ _)); refine blk_put (cs := #[.bool false, .slice none 0 0]) ?_ 0 _ rfl; exact blkt BK329⟩
      have n3_ : Aside0 (Below w.heap.size w ((w16.setCell ⟨gb329, 0, none⟩ (.bool t325)).setCell ⟨gb329, 1, none⟩ (.slice Ao19 t326.length co19))) := ⟨belt HB⟩
      (try clear HO328)
      (try clear BK324)
      (try clear BK329)
      (try clear HB)
      generalize ((w16.setCell ⟨gb329, 0, none⟩ (.bool t325)).setCell ⟨gb329, 1, none⟩ (.slice Ao19 t326.length co19)) = w20 at n0_ n1_ n2_ n3_ ⊢
      have HO328 := n0_
      have BK324 := n1_
      have BK329 := n2_
      have HB := n3_
      clear n0_ n1_ n2_ n3_
      replace HO328 := Aside0.mk (Kd.V_drew HO328.out)
      replace BK324 := Aside0.mk (blk_drew BK324.out)
      replace BK329 := Aside0.mk (blk_drew BK329.out)
      replace HB := Aside0.mk (below_drew1 HB.out)
      refine start_ (n := 34) (S := fun w' => w'.cell? ⟨gb324, 0, none⟩ = some (.int .u64 a0_0) ∧ w'.cell? ⟨gb324, 1, none⟩ = some (.int .u32 a0_1) ∧ w'.cell? ⟨gb324, 2, none⟩ = some (.int .u32 a0_2) ∧ w'.cell? ⟨gb324, 3, none⟩ = some (.int .i64 a0_3) ∧ w'.cell? ⟨gb324, 4, none⟩ = some (.int .u64 a0_4) ∧ w'.cell? ⟨gb324, 5, none⟩ = some (.int .u32 a0_5) ∧ w'.cell? ⟨gb324, 6, none⟩ = some (.int .u32 a0_6) ∧ w'.cell? ⟨gb329, 0, none⟩ = some (.bool t325) ∧ w'.cell? ⟨gb329, 1, none⟩ = some (.slice Ao19 t326.length co19)) (ds := []) #[false, false, false, false, false, false, false, false, false, false, false, false, false, false, false, false, false, false, false, false, false, false, false, false, false, false, false, false, false, false, false, false, false, false] (by kernel_rfl) rfl rfl ⟨bc BK324 0, bc BK324 1, bc BK324 2, bc BK324 3, bc BK324 4, bc BK324 5, bc BK324 6, bc BK329 0, bc BK329 1⟩ (fun hHeld => ?_); refine with_tabW turnstoneref05_Right.tab2 turnstoneref05_Right.bits2 (fun HT_ HW_ => ?_)
      generalize w20.drew = w21 at HO328 BK324 BK329 HB hHeld ⊢
      refine pure_ (i := 0) (N := some 11) (v := ?_) (a' := ?_) #[true, false, false, false, false, false, false, false, false, false, false, false, false, false, false, false, false, false, false, false, false, false, false, false, false, false, false, false, false, false, false, false, false, false] rfl rfl (any_of HT_.out (by kernel_rfl)) (fun _ _ _ h => h) (Or.inl ⟨by rfl, ?_⟩) ?_ ?_
      rotate_left
      ·intro w'
       go_simp
       with_reducible rfl
      rotate_left
      ·simp only [Act.put, List.setIfInBounds_toArray, List.set_cons_zero, List.set_cons_succ, i64_w, i32_w]
       rfl
      refine take_ (i := 1) (N := some 12) (v := ?_) (a' := ?_) #[true, true, false, false, false, false, false, false, false, false, false, false, false, false, false, false, false, false, false, false, false, false, false, false, false, false, false, false, false, false, false, false, false, false] rfl rfl (take_ofW HT_.out HW_.out (by kernel_rfl)) (fun _ _ _ h => h) (Or.inl ⟨by rfl, ?_⟩) hHeld ?_ ?_
      rotate_left
      ·rintro w' ⟨s0, s1, s2, s3, s4, s5, s6, s7, s8⟩
       go_simp
       with_reducible rfl
      rotate_left
      ·simp only [Act.put, List.setIfInBounds_toArray, List.set_cons_zero, List.set_cons_succ, i64_w, i32_w]
       rfl
      refine one_ (i := 2) (N := some 13) #[true, true, true, false, false, false, false, false, false, false, false, false, false, false, false, false, false, false, false, false, false, false, false, false, false, false, false, false, false, false, false, false, false, false] rfl rfl (one_of HT_.out (by kernel_rfl)) (by decide) (fun K hK => ?_)
      refine goes_ Try.func28 (by kernel_rfl) rfl #[.agg #[.int .u64 a0_0, .int .u32 a0_1, .int .u32 a0_2]] (by rfl) rfl rfl argt ?_
      with_reducible refine (turnstoneref04_Right.calls a0_0 a0_1 a0_2 true _ A3.out).mono ?_
      rintro e w22 ⟨rfl, hb⟩
      refine ⟨_, rfl, ?_⟩
      replace HO328 := vb HO328 hb
      replace BK324 := blkb BK324 hb
      replace BK329 := blkb BK329 hb
      replace HB := belb HB hb
      (try clear hb)
      (try clear hb2)
      (try clear hk)
      (try clear hi)
      refine hK.out _ _ ⟨bc BK324 0, bc BK324 1, bc BK324 2, bc BK324 3, bc BK324 4, bc BK324 5, bc BK324 6, bc BK329 0, bc BK329 1⟩ (fun hHeld => ?_)
      clear hK K
      refine norm_ (a' := ?_) ?_ ?_
      rotate_left
      ·show Act.put _ (some 13) _ = _
       simp only [Act.put, List.setIfInBounds_toArray, List.set_cons_zero, List.set_cons_succ, i64_w, i32_w]
       rfl
      refine pure_ (i := 3) (N := some 14) (v := ?_) (a' := ?_) #[true, true, true, true, false, false, false, false, false, false, false, false, false, false, false, false, false, false, false, false, false, false, false, false, false, false, false, false, false, false, false, false, false, false] rfl rfl (any_of HT_.out (by kernel_rfl)) (fun _ _ _ h => h) (Or.inl ⟨by rfl, ?_⟩) ?_ ?_
      rotate_left
      ·intro w'
       go_simp
       with_reducible rfl
      rotate_left
      ·simp only [Act.put, List.setIfInBounds_toArray, List.set_cons_zero, List.set_cons_succ, i64_w, i32_w]
       rfl
      refine pure_ (i := 4) (N := some 15) (v := ?_) (a' := ?_) #[true, true, true, true, true, false, false, false, false, false, false, false, false, false, false, false, false, false, false, false, false, false, false, false, false, false, false, false, false, false, false, false, false, false] rfl rfl (any_of HT_.out (by kernel_rfl)) (fun _ _ _ h => h) (Or.inl ⟨by rfl, ?_⟩) ?_ ?_
      rotate_left
      ·intro w'
       go_simp
       with_reducible rfl
      rotate_left
      ·simp only [Act.put, List.setIfInBounds_toArray, List.set_cons_zero, List.set_cons_succ, i64_w, i32_w]
       rfl
      refine take_ (i := 5) (N := some 16) (v := ?_) (a' := ?_) #[true, true, true, true, true, true, false, false, false, false, false, false, false, false, false, false, false, false, false, false, false, false, false, false, false, false, false, false, false, false, false, false, false, false] rfl rfl (take_ofW HT_.out HW_.out (by kernel_rfl)) (fun _ _ _ h => h) (Or.inl ⟨by rfl, ?_⟩) hHeld ?_ ?_
      rotate_left
      ·rintro w' ⟨s0, s1, s2, s3, s4, s5, s6, s7, s8⟩
       go_simp
       with_reducible rfl
      rotate_left
      ·simp only [Act.put, List.setIfInBounds_toArray, List.set_cons_zero, List.set_cons_succ, i64_w, i32_w]
       rfl
      refine one_ (i := 6) (N := some 17) #[true, true, true, true, true, true, true, false, false, false, false, false, false, false, false, false, false, false, false, false, false, false, false, false, false, false, false, false, false, false, false, false, false, false] rfl rfl (one_of HT_.out (by kernel_rfl)) (by decide) (fun K hK => ?_)
      refine goes_ Try.func28 (by kernel_rfl) rfl #[.agg #[.int .u64 a0_4, .int .u32 a0_5, .int .u32 a0_6]] (by rfl) rfl rfl argt ?_
      with_reducible refine (turnstoneref04_Right.calls a0_4 a0_5 a0_6 true _ A5.out).mono ?_
      rintro e w23 ⟨rfl, hb⟩
      refine ⟨_, rfl, ?_⟩
      replace HO328 := vb HO328 hb
      replace BK324 := blkb BK324 hb
      replace BK329 := blkb BK329 hb
      replace HB := belb HB hb
      (try clear hb)
      (try clear hb2)
      (try clear hk)
      (try clear hi)
      refine hK.out _ _ ⟨bc BK324 0, bc BK324 1, bc BK324 2, bc BK324 3, bc BK324 4, bc BK324 5, bc BK324 6, bc BK329 0, bc BK329 1⟩ (fun hHeld => ?_)
      clear hK K
      refine norm_ (a' := ?_) ?_ ?_
      rotate_left
      ·show Act.put _ (some 17) _ = _
       simp only [Act.put, List.setIfInBounds_toArray, List.set_cons_zero, List.set_cons_succ, i64_w, i32_w]
       rfl
      refine pure_ (i := 7) (N := some 18) (v := ?_) (a' := ?_) #[true, true, true, true, true, true, true, true, false, false, false, false, false, false, false, false, false, false, false, false, false, false, false, false, false, false, false, false, false, false, false, false, false, false] rfl rfl (any_of HT_.out (by kernel_rfl)) (fun _ _ _ h => h) (Or.inl ⟨by rfl, ?_⟩) ?_ ?_
      rotate_left
      ·intro w'
       go_simp
       with_reducible rfl
      rotate_left
      ·simp only [Act.put, List.setIfInBounds_toArray, List.set_cons_zero, List.set_cons_succ, i64_w, i32_w]
       rfl
      refine pure_ (i := 8) (N := some 19) (v := ?_) (a' := ?_) #[true, true, true, true, true, true, true, true, true, false, false, false, false, false, false, false, false, false, false, false, false, false, false, false, false, false, false, false, false, false, false, false, false, false] rfl rfl (any_of HT_.out (by kernel_rfl)) (fun _ _ _ h => h) (Or.inl ⟨by rfl, ?_⟩) ?_ ?_
      rotate_left
      ·intro w'
       go_simp
       with_reducible rfl
      rotate_left
      ·simp only [Act.put, List.setIfInBounds_toArray, List.set_cons_zero, List.set_cons_succ, i64_w, i32_w]
       rfl
      refine pure_ (i := 9) (N := some 20) (v := ?_) (a' := ?_) #[true, true, true, true, true, true, true, true, true, true, false, false, false, false, false, false, false, false, false, false, false, false, false, false, false, false, false, false, false, false, false, false, false, false] rfl rfl (any_of HT_.out (by kernel_rfl)) (fun _ _ _ h => h) (Or.inl ⟨by rfl, ?_⟩) ?_ ?_
      rotate_left
      ·intro w'
       go_simp
       with_reducible rfl
      rotate_left
      ·simp only [Act.put, List.setIfInBounds_toArray, List.set_cons_zero, List.set_cons_succ, i64_w, i32_w]
       rfl
      refine pure_ (i := 10) (N := some 21) (v := ?_) (a' := ?_) #[true, true, true, true, true, true, true, true, true, true, true, false, false, false, false, false, false, false, false, false, false, false, false, false, false, false, false, false, false, false, false, false, false, false] rfl rfl (any_of HT_.out (by kernel_rfl)) (fun _ _ _ h => h) (Or.inl ⟨by rfl, ?_⟩) ?_ ?_
      rotate_left
      ·intro w'
       go_simp
       with_reducible rfl
      rotate_left
      ·simp only [Act.put, List.setIfInBounds_toArray, List.set_cons_zero, List.set_cons_succ, i64_w, i32_w]
       rfl
      refine pure_ (i := 12) (N := some 23) (v := ?_) (a' := ?_) #[true, true, true, true, true, true, true, true, true, true, true, false, true, false, false, false, false, false, false, false, false, false, false, false, false, false, false, false, false, false, false, false, false, false] rfl rfl (any_of HT_.out (by kernel_rfl)) (fun _ _ _ h => h) (Or.inl ⟨by rfl, ?_⟩) ?_ ?_
      rotate_left
      ·intro w'
       go_simp
       with_reducible rfl
      rotate_left
      ·simp only [Act.put, List.setIfInBounds_toArray, List.set_cons_zero, List.set_cons_succ, i64_w, i32_w]
       rfl
      refine pure_ (i := 13) (N := some 24) (v := ?_) (a' := ?_) #[true, true, true, true, true, true, true, true, true, true, true, false, true, true, false, false, false, false, false, false, false, false, false, false, false, false, false, false, false, false, false, false, false, false] rfl rfl (any_of HT_.out (by kernel_rfl)) (fun _ _ _ h => h) (Or.inl ⟨by rfl, ?_⟩) ?_ ?_
      rotate_left
      ·intro w'
       go_simp
       with_reducible rfl
      rotate_left
      ·simp only [Act.put, List.setIfInBounds_toArray, List.set_cons_zero, List.set_cons_succ, i64_w, i32_w]
       rfl
      refine take_ (i := 11) (N := some 22) (v := ?_) (a' := ?_) #[true, true, true, true, true, true, true, true, true, true, true, true, true, true, false, false, false, false, false, false, false, false, false, false, false, false, false, false, false, false, false, false, false, false] rfl rfl (take_ofW HT_.out HW_.out (by kernel_rfl)) (fun _ _ _ h => h) (Or.inl ⟨by rfl, ?_⟩) hHeld ?_ ?_
      rotate_left
      ·rintro w' ⟨s0, s1, s2, s3, s4, s5, s6, s7, s8⟩
       go_simp
       with_reducible rfl
      rotate_left
      ·simp only [Act.put, List.setIfInBounds_toArray, List.set_cons_zero, List.set_cons_succ, i64_w, i32_w]
       rfl
      refine take_ (i := 14) (N := some 25) (v := ?_) (a' := ?_) #[true, true, true, true, true, true, true, true, true, true, true, true, true, true, true, false, false, false, false, false, false, false, false, false, false, false, false, false, false, false, false, false, false, false] rfl rfl (take_ofW HT_.out HW_.out (by kernel_rfl)) (fun _ _ _ h => h) (Or.inl ⟨by rfl, ?_⟩) hHeld ?_ ?_
      rotate_left
      ·rintro w' ⟨s0, s1, s2, s3, s4, s5, s6, s7, s8⟩
       go_simp
       with_reducible rfl
      rotate_left
      ·simp only [Act.put, List.setIfInBounds_toArray, List.set_cons_zero, List.set_cons_succ, i64_w, i32_w]
       rfl
      refine pure_ (i := 15) (N := some 26) (v := ?_) (a' := ?_) #[true, true, true, true, true, true, true, true, true, true, true, true, true, true, true, true, false, false, false, false, false, false, false, false, false, false, false, false, false, false, false, false, false, false] rfl rfl (any_of HT_.out (by kernel_rfl)) (fun _ _ _ h => h) (Or.inl ⟨by rfl, ?_⟩) ?_ ?_
      rotate_left
      ·intro w'
       go_simp
       with_reducible rfl
      rotate_left
      ·simp only [Act.put, List.setIfInBounds_toArray, List.set_cons_zero, List.set_cons_succ, i64_w, i32_w]
       rfl
      refine pure_ (i := 16) (N := some 27) (v := ?_) (a' := ?_) #[true, true, true, true, true, true, true, true, true, true, true, true, true, true, true, true, true, false, false, false, false, false, false, false, false, false, false, false, false, false, false, false, false, false] rfl rfl (any_of HT_.out (by kernel_rfl)) (fun _ _ _ h => h) (Or.inl ⟨by rfl, ?_⟩) ?_ ?_
      rotate_left
      ·intro w'
       go_simp
       with_reducible rfl
      rotate_left
      ·simp only [Act.put, List.setIfInBounds_toArray, List.set_cons_zero, List.set_cons_succ, i64_w, i32_w]
       rfl
      refine pure_ (i := 17) (N := some 28) (v := ?_) (a' := ?_) #[true, true, true, true, true, true, true, true, true, true, true, true, true, true, true, true, true, true, false, false, false, false, false, false, false, false, false, false, false, false, false, false, false, false] rfl rfl (any_of HT_.out (by kernel_rfl)) (fun _ _ _ h => h) (Or.inl ⟨by rfl, ?_⟩) ?_ ?_
      rotate_left
      ·intro w'
       go_simp
       with_reducible rfl
      rotate_left
      ·simp only [Act.put, List.setIfInBounds_toArray, List.set_cons_zero, List.set_cons_succ, i64_w, i32_w]
       rfl
      refine pure_ (i := 18) (N := some 29) (v := ?_) (a' := ?_) #[true, true, true, true, true, true, true, true, true, true, true, true, true, true, true, true, true, true, true, false, false, false, false, false, false, false, false, false, false, false, false, false, false, false] rfl rfl (any_of HT_.out (by kernel_rfl)) (fun _ _ _ h => h) (Or.inl ⟨by rfl, ?_⟩) ?_ ?_
      rotate_left
      ·intro w'
       go_simp
       with_reducible rfl
      rotate_left
      ·simp only [Act.put, List.setIfInBounds_toArray, List.set_cons_zero, List.set_cons_succ, i64_w, i32_w]
       rfl
      refine take_ (i := 19) (N := some 30) (v := ?_) (a' := ?_) #[true, true, true, true, true, true, true, true, true, true, true, true, true, true, true, true, true, true, true, true, false, false, false, false, false, false, false, false, false, false, false, false, false, false] rfl rfl (take_ofW HT_.out HW_.out (by kernel_rfl)) (fun _ _ _ h => h) (Or.inl ⟨by rfl, ?_⟩) hHeld ?_ ?_
      rotate_left
      ·rintro w' ⟨s0, s1, s2, s3, s4, s5, s6, s7, s8⟩
       go_simp
       with_reducible rfl
      rotate_left
      ·simp only [Act.put, List.setIfInBounds_toArray, List.set_cons_zero, List.set_cons_succ, i64_w, i32_w]
       rfl
      refine pure_ (i := 20) (N := some 31) (v := ?_) (a' := ?_) #[true, true, true, true, true, true, true, true, true, true, true, true, true, true, true, true, true, true, true, true, true, false, false, false, false, false, false, false, false, false, false, false, false, false] rfl rfl (any_of HT_.out (by kernel_rfl)) (fun _ _ _ h => h) (Or.inl ⟨by rfl, ?_⟩) ?_ ?_
      rotate_left
      ·intro w'
       go_simp
       with_reducible rfl
      rotate_left
      ·simp only [Act.put, List.setIfInBounds_toArray, List.set_cons_zero, List.set_cons_succ, i64_w, i32_w]
       rfl
      refine pure_ (i := 21) (N := some 32) (v := ?_) (a' := ?_) #[true, true, true, true, true, true, true, true, true, true, true, true, true, true, true, true, true, true, true, true, true, true, false, false, false, false, false, false, false, false, false, false, false, false] rfl rfl (any_of HT_.out (by kernel_rfl)) (fun _ _ _ h => h) (Or.inl ⟨by rfl, ?_⟩) ?_ ?_
      rotate_left
      ·intro w'
       go_simp
       with_reducible rfl
      rotate_left
      ·simp only [Act.put, List.setIfInBounds_toArray, List.set_cons_zero, List.set_cons_succ, i64_w, i32_w]
       rfl
      refine pure_ (i := 22) (N := some 33) (v := ?_) (a' := ?_) #[true, true, true, true, true, true, true, true, true, true, true, true, true, true, true, true, true, true, true, true, true, true, true, false, false, false, false, false, false, false, false, false, false, false] rfl rfl (any_of HT_.out (by kernel_rfl)) (fun _ _ _ h => h) (Or.inl ⟨by rfl, ?_⟩) ?_ ?_
      rotate_left
      ·intro w'
       go_simp
       with_reducible rfl
      rotate_left
      ·simp only [Act.put, List.setIfInBounds_toArray, List.set_cons_zero, List.set_cons_succ, i64_w, i32_w]
       rfl
      refine take_ (i := 23) (N := some 34) (v := ?_) (a' := ?_) #[true, true, true, true, true, true, true, true, true, true, true, true, true, true, true, true, true, true, true, true, true, true, true, true, false, false, false, false, false, false, false, false, false, false] rfl rfl (take_ofW HT_.out HW_.out (by kernel_rfl)) (fun _ _ _ h => h) (Or.inl ⟨by rfl, ?_⟩) hHeld ?_ ?_
      rotate_left
      ·rintro w' ⟨s0, s1, s2, s3, s4, s5, s6, s7, s8⟩
       go_simp
       with_reducible rfl
      rotate_left
      ·simp only [Act.put, List.setIfInBounds_toArray, List.set_cons_zero, List.set_cons_succ, i64_w, i32_w]
       rfl
      refine one_ (i := 24) (N := some 35) #[true, true, true, true, true, true, true, true, true, true, true, true, true, true, true, true, true, true, true, true, true, true, true, true, true, false, false, false, false, false, false, false, false, false] rfl rfl (one_of HT_.out (by kernel_rfl)) (by decide) (fun K hK => ?_)
      refine goes_ Try.func29 (by kernel_rfl) rfl #[.agg #[.bool t325, .slice Ao19 t326.length co19]] (by rfl) rfl rfl argt ?_
      with_reducible refine (turnstoneref01_Sign.calls t325 _ _ t326 t332 _ ?side1 ?side2 A9.out).mono ?_
      (case side1 => repeat (first | exact (Kd.V_reads' HO328.out).2.2 | (with_reducible refine Kd.C_alloc ?_ _) | (with_reducible refine Kd.C_drewN ?_ _) | (with_reducible refine Kd.C_drew ?_)))
      (case side2 => exact (Kd.V_reads' HO328.out).2.1)
      rintro e w24 ⟨rfl, hb⟩
      refine ⟨_, rfl, ?_⟩
      replace HO328 := vb HO328 hb
      replace BK324 := blkb BK324 hb
      replace BK329 := blkb BK329 hb
      replace HB := belb HB hb
      (try clear hb)
      (try clear hb2)
      (try clear hk)
      (try clear hi)
      refine hK.out _ _ ⟨bc BK324 0, bc BK324 1, bc BK324 2, bc BK324 3, bc BK324 4, bc BK324 5, bc BK324 6, bc BK329 0, bc BK329 1⟩ (fun hHeld => ?_)
      clear hK K
      refine norm_ (a' := ?_) ?_ ?_
      rotate_left
      ·show Act.put _ (some 35) _ = _
       simp only [Act.put, List.setIfInBounds_toArray, List.set_cons_zero, List.set_cons_succ, i64_w, i32_w]
       rfl
      refine pure_ (i := 25) (N := some 36) (v := ?_) (a' := ?_) #[true, true, true, true, true, true, true, true, true, true, true, true, true, true, true, true, true, true, true, true, true, true, true, true, true, true, false, false, false, false, false, false, false, false] rfl rfl (any_of HT_.out (by kernel_rfl)) (fun _ _ _ h => h) (Or.inl ⟨by rfl, ?_⟩) ?_ ?_
      rotate_left
      ·intro w'
       go_simp
       with_reducible rfl
      rotate_left
      ·simp only [Act.put, List.setIfInBounds_toArray, List.set_cons_zero, List.set_cons_succ, i64_w, i32_w]
       rfl
      refine pure_ (i := 26) (N := some 37) (v := ?_) (a' := ?_) #[true, true, true, true, true, true, true, true, true, true, true, true, true, true, true, true, true, true, true, true, true, true, true, true, true, true, true, false, false, false, false, false, false, false] rfl rfl (any_of HT_.out (by kernel_rfl)) (fun _ _ _ h => h) (Or.inl ⟨by rfl, ?_⟩) ?_ ?_
      rotate_left
      ·intro w'
       go_simp
       with_reducible rfl
      rotate_left
      ·simp only [Act.put, List.setIfInBounds_toArray, List.set_cons_zero, List.set_cons_succ, i64_w, i32_w]
       rfl
      refine pure_ (i := 27) (N := some 38) (v := ?_) (a' := ?_) #[true, true, true, true, true, true, true, true, true, true, true, true, true, true, true, true, true, true, true, true, true, true, true, true, true, true, true, true, false, false, false, false, false, false] rfl rfl (any_of HT_.out (by kernel_rfl)) (fun _ _ _ h => h) (Or.inl ⟨by rfl, ?_⟩) ?_ ?_
      rotate_left
      ·intro w'
       go_simp
       with_reducible rfl
      rotate_left
      ·simp only [Act.put, List.setIfInBounds_toArray, List.set_cons_zero, List.set_cons_succ, i64_w, i32_w]
       rfl
      refine take_ (i := 28) (N := some 39) (v := ?_) (a' := ?_) #[true, true, true, true, true, true, true, true, true, true, true, true, true, true, true, true, true, true, true, true, true, true, true, true, true, true, true, true, true, false, false, false, false, false] rfl rfl (take_ofW HT_.out HW_.out (by kernel_rfl)) (fun _ _ _ h => h) (Or.inl ⟨by rfl, ?_⟩) hHeld ?_ ?_
      rotate_left
      ·rintro w' ⟨s0, s1, s2, s3, s4, s5, s6, s7, s8⟩
       go_simp
       with_reducible rfl
      rotate_left
      ·simp only [Act.put, List.setIfInBounds_toArray, List.set_cons_zero, List.set_cons_succ, i64_w, i32_w]
       rfl
      refine one_ (i := 29) (N := some 40) #[true, true, true, true, true, true, true, true, true, true, true, true, true, true, true, true, true, true, true, true, true, true, true, true, true, true, true, true, true, true, false, false, false, false] rfl rfl (one_of HT_.out (by kernel_rfl)) (by decide) (fun K hK => ?_)
      refine goes_ Try.func30 (by kernel_rfl) rfl #[.int .i64 60] (by rfl) rfl rfl argt ?_
      with_reducible refine (turnstoneref01_Power.calls k 60 t333 t334 _ A11.out).mono ?_
      rintro e w25 ⟨v335, rfl, ho0, hb⟩
      refine ⟨_, rfl, ?_⟩
      replace HO328 := vb HO328 hb
      have HO336 := Aside0.mk (Kd.V_lower (Kd.V_mono (ok' := fun k_ => k_ ≠ gb324 ∧ k_ ≠ gb329) ho0 (fun k_ hk_ => ⟨(Kd.freshB (blkt BK324) k_ hk_), (Kd.freshB (blkt BK329) k_ hk_)⟩)) (below_size (belt HB)))
      replace BK324 := blkb BK324 hb
      replace BK329 := blkb BK329 hb
      replace HB := belb HB hb
      (try clear hb)
      (try clear hb2)
      (try clear hk)
      (try clear hi)
      (try clear ho0)
      obtain ⟨Ao26, co26, eo26⟩ := Kd.V_slice HO336.out
      (first | subst eo26 | (injection eo26 with f1_ f2_ f3_; have f4_ := f1_.symm; have f5_ := f3_.symm; clear f1_ f2_ f3_; subst f4_; subst f5_))
      refine hK.out _ _ ⟨bc BK324 0, bc BK324 1, bc BK324 2, bc BK324 3, bc BK324 4, bc BK324 5, bc BK324 6, bc BK329 0, bc BK329 1⟩ (fun hHeld => ?_)
      clear hK K
      refine norm_ (a' := ?_) ?_ ?_
      rotate_left
      ·show Act.put _ (some 40) _ = _
       simp only [Act.put, List.setIfInBounds_toArray, List.set_cons_zero, List.set_cons_succ, i64_w, i32_w]
       rfl
      refine one_ (i := 30) (N := some 41) #[true, true, true, true, true, true, true, true, true, true, true, true, true, true, true, true, true, true, true, true, true, true, true, true, true, true, true, true, true, true, true, false, false, false] rfl rfl (one_of HT_.out (by kernel_rfl)) (by decide) (fun K hK => ?_)
      refine goes_ Try.func18 (by kernel_rfl) rfl #[.agg #[.bool t325, .slice Ao19 t326.length co19], .agg #[.bool t333, .slice Ao26 t334.length co26]] (by rfl) rfl rfl argt ?_
      with_reducible refine (turnstoneref01_Cmp.calls k t325 _ _ t326 t333 _ _ t334 t337 _ ?side1 ?side2 ?side3 ?side4 A12.out).mono ?_
      (case side1 => repeat (first | exact (Kd.V_reads' HO328.out).2.2 | (with_reducible refine Kd.C_alloc ?_ _) | (with_reducible refine Kd.C_drewN ?_ _) | (with_reducible refine Kd.C_drew ?_)))
      (case side2 => exact (Kd.V_reads' HO328.out).2.1)
      (case side3 => repeat (first | exact (Kd.V_reads' HO336.out).2.2 | (with_reducible refine Kd.C_alloc ?_ _) | (with_reducible refine Kd.C_drewN ?_ _) | (with_reducible refine Kd.C_drew ?_)))
      (case side4 => exact (Kd.V_reads' HO336.out).2.1)
      rintro e w27 ⟨rfl, hb⟩
      refine ⟨_, rfl, ?_⟩
      replace HO328 := vb HO328 hb
      replace HO336 := vb HO336 hb
      replace BK324 := blkb BK324 hb
      replace BK329 := blkb BK329 hb
      replace HB := belb HB hb
      (try clear hb)
      (try clear hb2)
      (try clear hk)
      (try clear hi)
      refine hK.out _ _ ⟨bc BK324 0, bc BK324 1, bc BK324 2, bc BK324 3, bc BK324 4, bc BK324 5, bc BK324 6, bc BK329 0, bc BK329 1⟩ (fun hHeld => ?_)
      clear hK K
      refine norm_ (a' := ?_) ?_ ?_
      rotate_left
      ·show Act.put _ (some 41) _ = _
       simp only [Act.put, List.setIfInBounds_toArray, List.set_cons_zero, List.set_cons_succ, i64_w, i32_w]
       rfl
      refine pure_ (i := 31) (N := some 42) (v := ?_) (a' := ?_) #[true, true, true, true, true, true, true, true, true, true, true, true, true, true, true, true, true, true, true, true, true, true, true, true, true, true, true, true, true, true, true, true, false, false] rfl rfl (any_of HT_.out (by kernel_rfl)) (fun _ _ _ h => h) (Or.inl ⟨by rfl, ?_⟩) ?_ ?_
      rotate_left
      ·intro w'
       go_simp
       with_reducible rfl
      rotate_left
      ·simp only [Act.put, List.setIfInBounds_toArray, List.set_cons_zero, List.set_cons_succ, i64_w, i32_w]
       rfl
      refine pure_ (i := 32) (N := some 43) (v := ?_) (a' := ?_) #[true, true, true, true, true, true, true, true, true, true, true, true, true, true, true, true, true, true, true, true, true, true, true, true, true, true, true, true, true, true, true, true, true, false] rfl rfl (any_of HT_.out (by kernel_rfl)) (fun _ _ _ h => h) (Or.inl ⟨by rfl, ?_⟩) ?_ ?_
      rotate_left
      ·intro w'
       go_simp
       with_reducible rfl
      rotate_left
      ·simp only [Act.put, List.setIfInBounds_toArray, List.set_cons_zero, List.set_cons_succ, i64_w, i32_w]
       rfl
      refine pure_ (i := 33) (N := some 2) (v := ?_) (a' := ?_) #[true, true, true, true, true, true, true, true, true, true, true, true, true, true, true, true, true, true, true, true, true, true, true, true, true, true, true, true, true, true, true, true, true, true] rfl rfl (any_of HT_.out (by kernel_rfl)) (fun _ _ _ h => h) (Or.inl ⟨by rfl, ?_⟩) ?_ ?_
      rotate_left
      ·intro w'
       go_simp
       with_reducible rfl
      rotate_left
      ·simp only [Act.put, List.setIfInBounds_toArray, List.set_cons_zero, List.set_cons_succ, i64_w, i32_w]
       rfl
      refine done_ (done_of HT_.out (by kernel_rfl)) ?_
      try go_wp2
      go_ret
      exact ⟨by first | rfl | (simp [errW_none, errW_some] <;> rfl) | (simp [*, errW_none, errW_some] <;> rfl), belt HB⟩
     rw [if_neg c10] at H
     have c10b0 : decide (0 ≤ t332) = false := decide_eq_false c10
     clear c10
     obtain rfl := Option.some.inj H
     go_enter Try.func12, Try.ntmps12
     try go_wp2_with (first | ((with_reducible refine gate_dst (N := 1) rfl ?_); refine box_event ?hg (N := 1) ?hd (cs := #[.int .u64 a0_0, .int .u32 a0_1, .int .u32 a0_2, .int .i64 a0_3, .int .u64 a0_4, .int .u32 a0_5, .int .u32 a0_6]) (t := 38) ?hr ?_; (case hd => rfl); (case hg => rfl); (case hr => first | (go_simp; done) | (go_simp; rfl)); intro gb324 hg w28 hbox hb; have BK324 := Aside0.mk (hbox); have GW324 := bels HB hg; have GE324 := bels HB hg; replace HB := belb HB hb; clear hb hbox hg; have hcz29_0 : w28.cell? ⟨gb324, 0, none⟩ = some (.int .u64 a0_0) := bc BK324 0; have hcz29_1 : w28.cell? ⟨gb324, 1, none⟩ = some (.int .u32 a0_1) := bc BK324 1; have hcz29_2 : w28.cell? ⟨gb324, 2, none⟩ = some (.int .u32 a0_2) := bc BK324 2; have hcz29_3 : w28.cell? ⟨gb324, 3, none⟩ = some (.int .i64 a0_3) := bc BK324 3; have hcz29_4 : w28.cell? ⟨gb324, 4, none⟩ = some (.int .u64 a0_4) := bc BK324 4; have hcz29_5 : w28.cell? ⟨gb324, 5, none⟩ = some (.int .u32 a0_5) := bc BK324 5; have hcz29_6 : w28.cell? ⟨gb324, 6, none⟩ = some (.int .u32 a0_6) := bc BK324 6; have hfz29_0 := blk_frozen BK324.out 0; have hfz29_1 := blk_frozen BK324.out 1; have hfz29_2 := blk_frozen BK324.out 2; have hfz29_3 := blk_frozen BK324.out 3; have hfz29_4 := blk_frozen BK324.out 4; have hfz29_5 := blk_frozen BK324.out 5; have hfz29_6 := blk_frozen BK324.out 6) | ((with_reducible refine gate_callee (f := 27) rfl ?_); refine goesL_ (some 10) rfl rfl Try.func27 (by kernel_rfl) rfl #[.int .u64 a0_4, .int .u64 a0_0] rfl argt ?_; (with_reducible refine (turnstoneref03_Since.calls k a0_4 a0_0 t325 t326 _ A2.out).mono ?_); rintro e w30 ⟨v327, rfl, ho0, hb⟩; refine ⟨_, rfl, ?_⟩; have HO328 := Aside0.mk (Kd.V_lower (Kd.V_mono (ok' := fun k_ => k_ ≠ gb324) ho0 (fun k_ hk_ => (Kd.freshB (blkt BK324) k_ hk_))) (below_size (belt HB))); replace BK324 := blkb BK324 hb; replace HB := belb HB hb; (try clear hb); (try clear hb2); (try clear hk); (try clear hi); (try clear ho0)) | ((with_reducible refine gate_dst (N := 3) rfl ?_); refine box_event ?hg (N := 3) ?hd (cs := #[.bool false, .slice none 0 0]) (t := 49) ?hr ?_; (case hd => rfl); (case hg => rfl); (case hr => first | (go_simp; done) | (go_simp; rfl)); intro gb329 hg w31 hbox hb; replace HO328 := Aside0.mk (Kd.V_below (Kd.V_elderB (vt HO328) gb329 (Nat.le_of_eq hg.symm)) hb); have BK329 := Aside0.mk (hbox); have GW329 := bels HB hg; have GE329 := bels HB hg; have NB324_329 := blkl BK324 hg; have NB329_324 := blkg BK324 hg; replace BK324 := blkb BK324 hb; replace HB := belb HB hb; clear hb hbox hg; have hnb32 := NB329_324.out; have hnc32 := NB324_329.out; have hcz33_0 : w31.cell? ⟨gb329, 0, none⟩ = some (.bool false) := bc BK329 0; have hcz33_1 : w31.cell? ⟨gb329, 1, none⟩ = some (.slice none 0 0) := bc BK329 1; have hfz33_0 := blk_frozen BK329.out 0; have hfz33_1 := blk_frozen BK329.out 1; obtain ⟨Ao34, co34, eo34⟩ := Kd.V_slice HO328.out; subst eo34))
     have n0_ : Aside0 (Kd.V (Kd.int .i64) 3 ((w31.setCell ⟨gb329, 0, none⟩ (.bool t325)).setCell ⟨gb329, 1, none⟩ (.slice Ao34 t326.length co34)) w.heap.size (fun k_ => k_ ≠ gb324 ∧ k_ ≠ gb329) (.slice Ao34 t326.length co34) t326) := ⟨by (with_reducible repeat (first | apply Kd.V_alloc | apply Kd.V_drewN | apply Kd.V_drew)); exact Kd.V_mono (Kd.V_far (p := ⟨gb329, 1, none⟩) (Kd.V_far (p := ⟨gb329, 0, none⟩) (Kd.V_mono HO328.out (fun k_ hk => (⟨hk, hk.2⟩ : _ ∧ k_ ≠ gb329))) (fun _ hk => hk.2) (.bool t325)) (fun _ hk => hk.2) (.slice Ao34 t326.length co34)) (fun _ hk => ⟨hk.1.1, hk.1.2⟩)⟩
     have n1_ : Aside0 (((w31.setCell ⟨gb329, 0, none⟩ (.bool t325)).setCell ⟨gb329, 1, none⟩ (.slice Ao34 t326.length co34)).heap[gb324]? = some (.cells #[.int .u64 a0_0, .int .u32 a0_1, .int .u32 a0_2, .int .i64 a0_3, .int .u64 a0_4, .int .u32 a0_5, .int .u32 a0_6] 38 (0, 0))) := ⟨by (with_reducible repeat (first | refine blk_drewN ?_ _ | refine blk_drew ?_ | refine blk_alloc ?_ _)); refine blk_far ?_ NB324_329.out _; (with_reducible repeat (first | refine blk_drewN ?_ _ | refine blk_drew ?_ | refine blk_alloc ?_ _)); refine blk_far ?_ NB324_329.out _; exact blkt BK324⟩
     have n2_ : Aside0 (((w31.setCell ⟨gb329, 0, none⟩ (.bool t325)).setCell ⟨gb329, 1, none⟩ (.slice Ao34 t326.length co34)).heap[gb329]? = some (.cells #[.bool t325, .slice Ao34 t326.length co34] 49 (0, 0))) := ⟨by (with_reducible repeat (first | refine blk_drewN ?_ _ | refine blk_drew ?_ | refine blk_alloc ?_ _)); refine blk_put (cs := #[.bool t325, .slice none 0 0]) ?_ 1 _ rfl; (with_reducible repeat (first | refine blk_drewN ?_ _ | refine blk_drew ?_ | refine blk_alloc ?_ _)); refine blk_put (cs := #[.bool false, .slice none 0 0]) ?_ 0 _ rfl; exact blkt BK329⟩
     have n3_ : Aside0 (Below w.heap.size w ((w31.setCell ⟨gb329, 0, none⟩ (.bool t325)).setCell ⟨gb329, 1, none⟩ (.slice Ao34 t326.length co34))) := ⟨belt HB⟩
     (try clear HO328)
     (try clear BK324)
     (try clear BK329)
     (try clear HB)
     generalize ((w31.setCell ⟨gb329, 0, none⟩ (.bool t325)).setCell ⟨gb329, 1, none⟩ (.slice Ao34 t326.length co34)) = w35 at n0_ n1_ n2_ n3_ ⊢
     have HO328 := n0_
     have BK324 := n1_
     have BK329 := n2_
     have HB := n3_
     clear n0_ n1_ n2_ n3_
     replace HO328 := Aside0.mk (Kd.V_drew HO328.out)
     replace BK324 := Aside0.mk (blk_drew BK324.out)
     replace BK329 := Aside0.mk (blk_drew BK329.out)
     replace HB := Aside0.mk (below_drew1 HB.out)
     refine start_ (n := 34) (S := fun w' => w'.cell? ⟨gb324, 0, none⟩ = some (.int .u64 a0_0) ∧ w'.cell? ⟨gb324, 1, none⟩ = some (.int .u32 a0_1) ∧ w'.cell? ⟨gb324, 2, none⟩ = some (.int .u32 a0_2) ∧ w'.cell? ⟨gb324, 3, none⟩ = some (.int .i64 a0_3) ∧ w'.cell? ⟨gb324, 4, none⟩ = some (.int .u64 a0_4) ∧ w'.cell? ⟨gb324, 5, none⟩ = some (.int .u32 a0_5) ∧ w'.cell? ⟨gb324, 6, none⟩ = some (.int .u32 a0_6) ∧ w'.cell? ⟨gb329, 0, none⟩ = some (.bool t325) ∧ w'.cell? ⟨gb329, 1, none⟩ = some (.slice Ao34 t326.length co34)) (ds := []) #[false, false, false, false, false, false, false, false, false, false, false, false, false, false, false, false, false, false, false, false, false, false, false, false, false, false, false, false, false, false, false, false, false, false] (by kernel_rfl) rfl rfl ⟨bc BK324 0, bc BK324 1, bc BK324 2, bc BK324 3, bc BK324 4, bc BK324 5, bc BK324 6, bc BK329 0, bc BK329 1⟩ (fun hHeld => ?_); refine with_tabW turnstoneref05_Right.tab2 turnstoneref05_Right.bits2 (fun HT_ HW_ => ?_)
     generalize w35.drew = w36 at HO328 BK324 BK329 HB hHeld ⊢
     refine pure_ (i := 0) (N := some 11) (v := ?_) (a' := ?_) #[true, false, false, false, false, false, false, false, false, false, false, false, false, false, false, false, false, false, false, false, false, false, false, false, false, false, false, false, false, false, false, false, false, false] rfl rfl (any_of HT_.out (by kernel_rfl)) (fun _ _ _ h => h) (Or.inl ⟨by rfl, ?_⟩) ?_ ?_
     rotate_left
     ·intro w'
      go_simp
      with_reducible rfl
     rotate_left
     ·simp only [Act.put, List.setIfInBounds_toArray, List.set_cons_zero, List.set_cons_succ, i64_w, i32_w]
      rfl
     refine take_ (i := 1) (N := some 12) (v := ?_) (a' := ?_) #[true, true, false, false, false, false, false, false, false, false, false, false, false, false, false, false, false, false, false, false, false, false, false, false, false, false, false, false, false, false, false, false, false, false] rfl rfl (take_ofW HT_.out HW_.out (by kernel_rfl)) (fun _ _ _ h => h) (Or.inl ⟨by rfl, ?_⟩) hHeld ?_ ?_
     rotate_left
     ·rintro w' ⟨s0, s1, s2, s3, s4, s5, s6, s7, s8⟩
      go_simp
      with_reducible rfl
     rotate_left
     ·simp only [Act.put, List.setIfInBounds_toArray, List.set_cons_zero, List.set_cons_succ, i64_w, i32_w]
      rfl
     refine one_ (i := 2) (N := some 13) #[true, true, true, false, false, false, false, false, false, false, false, false, false, false, false, false, false, false, false, false, false, false, false, false, false, false, false, false, false, false, false, false, false, false] rfl rfl (one_of HT_.out (by kernel_rfl)) (by decide) (fun K hK => ?_)
     refine goes_ Try.func28 (by kernel_rfl) rfl #[.agg #[.int .u64 a0_0, .int .u32 a0_1, .int .u32 a0_2]] (by rfl) rfl rfl argt ?_
     with_reducible refine (turnstoneref04_Right.calls a0_0 a0_1 a0_2 true _ A3.out).mono ?_
     rintro e w37 ⟨rfl, hb⟩
     refine ⟨_, rfl, ?_⟩
     replace HO328 := vb HO328 hb
     replace BK324 := blkb BK324 hb
     replace BK329 := blkb BK329 hb
     replace HB := belb HB hb
     (try clear hb)
     (try clear hb2)
     (try clear hk)
     (try clear hi)
     refine hK.out _ _ ⟨bc BK324 0, bc BK324 1, bc BK324 2, bc BK324 3, bc BK324 4, bc BK324 5, bc BK324 6, bc BK329 0, bc BK329 1⟩ (fun hHeld => ?_)
     clear hK K
     refine norm_ (a' := ?_) ?_ ?_
     rotate_left
     ·show Act.put _ (some 13) _ = _
      simp only [Act.put, List.setIfInBounds_toArray, List.set_cons_zero, List.set_cons_succ, i64_w, i32_w]
      rfl
     refine pure_ (i := 3) (N := some 14) (v := ?_) (a' := ?_) #[true, true, true, true, false, false, false, false, false, false, false, false, false, false, false, false, false, false, false, false, false, false, false, false, false, false, false, false, false, false, false, false, false, false] rfl rfl (any_of HT_.out (by kernel_rfl)) (fun _ _ _ h => h) (Or.inl ⟨by rfl, ?_⟩) ?_ ?_
     rotate_left
     ·intro w'
      go_simp
      with_reducible rfl
     rotate_left
     ·simp only [Act.put, List.setIfInBounds_toArray, List.set_cons_zero, List.set_cons_succ, i64_w, i32_w]
      rfl
     refine pure_ (i := 4) (N := some 15) (v := ?_) (a' := ?_) #[true, true, true, true, true, false, false, false, false, false, false, false, false, false, false, false, false, false, false, false, false, false, false, false, false, false, false, false, false, false, false, false, false, false] rfl rfl (any_of HT_.out (by kernel_rfl)) (fun _ _ _ h => h) (Or.inl ⟨by rfl, ?_⟩) ?_ ?_
     rotate_left
     ·intro w'
      go_simp
      with_reducible rfl
     rotate_left
     ·simp only [Act.put, List.setIfInBounds_toArray, List.set_cons_zero, List.set_cons_succ, i64_w, i32_w]
      rfl
     refine take_ (i := 5) (N := some 16) (v := ?_) (a' := ?_) #[true, true, true, true, true, true, false, false, false, false, false, false, false, false, false, false, false, false, false, false, false, false, false, false, false, false, false, false, false, false, false, false, false, false] rfl rfl (take_ofW HT_.out HW_.out (by kernel_rfl)) (fun _ _ _ h => h) (Or.inl ⟨by rfl, ?_⟩) hHeld ?_ ?_
     rotate_left
     ·rintro w' ⟨s0, s1, s2, s3, s4, s5, s6, s7, s8⟩
      go_simp
      with_reducible rfl
     rotate_left
     ·simp only [Act.put, List.setIfInBounds_toArray, List.set_cons_zero, List.set_cons_succ, i64_w, i32_w]
      rfl
     refine one_ (i := 6) (N := some 17) #[true, true, true, true, true, true, true, false, false, false, false, false, false, false, false, false, false, false, false, false, false, false, false, false, false, false, false, false, false, false, false, false, false, false] rfl rfl (one_of HT_.out (by kernel_rfl)) (by decide) (fun K hK => ?_)
     refine goes_ Try.func28 (by kernel_rfl) rfl #[.agg #[.int .u64 a0_4, .int .u32 a0_5, .int .u32 a0_6]] (by rfl) rfl rfl argt ?_
     with_reducible refine (turnstoneref04_Right.calls a0_4 a0_5 a0_6 true _ A5.out).mono ?_
     rintro e w38 ⟨rfl, hb⟩
     refine ⟨_, rfl, ?_⟩
     replace HO328 := vb HO328 hb
     replace BK324 := blkb BK324 hb
     replace BK329 := blkb BK329 hb
     replace HB := belb HB hb
     (try clear hb)
     (try clear hb2)
     (try clear hk)
     (try clear hi)
     refine hK.out _ _ ⟨bc BK324 0, bc BK324 1, bc BK324 2, bc BK324 3, bc BK324 4, bc BK324 5, bc BK324 6, bc BK329 0, bc BK329 1⟩ (fun hHeld => ?_)
     clear hK K
     refine norm_ (a' := ?_) ?_ ?_
     rotate_left
     ·show Act.put _ (some 17) _ = _
      simp only [Act.put, List.setIfInBounds_toArray, List.set_cons_zero, List.set_cons_succ, i64_w, i32_w]
      rfl
     refine pure_ (i := 7) (N := some 18) (v := ?_) (a' := ?_) #[true, true, true, true, true, true, true, true, false, false, false, false, false, false, false, false, false, false, false, false, false, false, false, false, false, false, false, false, false, false, false, false, false, false] rfl rfl (any_of HT_.out (by kernel_rfl)) (fun _ _ _ h => h) (Or.inl ⟨by rfl, ?_⟩) ?_ ?_
     rotate_left
     ·intro w'
      go_simp
      with_reducible rfl
     rotate_left
     ·simp only [Act.put, List.setIfInBounds_toArray, List.set_cons_zero, List.set_cons_succ, i64_w, i32_w]
      rfl
     refine pure_ (i := 8) (N := some 19) (v := ?_) (a' := ?_) #[true, true, true, true, true, true, true, true, true, false, false, false, false, false, false, false, false, false, false, false, false, false, false, false, false, false, false, false, false, false, false, false, false, false] rfl rfl (any_of HT_.out (by kernel_rfl)) (fun _ _ _ h => h) (Or.inl ⟨by rfl, ?_⟩) ?_ ?_
     rotate_left
     ·intro w'
      go_simp
      with_reducible rfl
     rotate_left
     ·simp only [Act.put, List.setIfInBounds_toArray, List.set_cons_zero, List.set_cons_succ, i64_w, i32_w]
      rfl
     refine pure_ (i := 9) (N := some 20) (v := ?_) (a' := ?_) #[true, true, true, true, true, true, true, true, true, true, false, false, false, false, false, false, false, false, false, false, false, false, false, false, false, false, false, false, false, false, false, false, false, false] rfl rfl (any_of HT_.out (by kernel_rfl)) (fun _ _ _ h => h) (Or.inl ⟨by rfl, ?_⟩) ?_ ?_
     rotate_left
     ·intro w'
      go_simp
      with_reducible rfl
     rotate_left
     ·simp only [Act.put, List.setIfInBounds_toArray, List.set_cons_zero, List.set_cons_succ, i64_w, i32_w]
      rfl
     refine pure_ (i := 10) (N := some 21) (v := ?_) (a' := ?_) #[true, true, true, true, true, true, true, true, true, true, true, false, false, false, false, false, false, false, false, false, false, false, false, false, false, false, false, false, false, false, false, false, false, false] rfl rfl (any_of HT_.out (by kernel_rfl)) (fun _ _ _ h => h) (Or.inl ⟨by rfl, ?_⟩) ?_ ?_
     rotate_left
     ·intro w'
      go_simp
      with_reducible rfl
     rotate_left
     ·simp only [Act.put, List.setIfInBounds_toArray, List.set_cons_zero, List.set_cons_succ, i64_w, i32_w]
      rfl
     refine pure_ (i := 12) (N := some 23) (v := ?_) (a' := ?_) #[true, true, true, true, true, true, true, true, true, true, true, false, true, false, false, false, false, false, false, false, false, false, false, false, false, false, false, false, false, false, false, false, false, false] rfl rfl (any_of HT_.out (by kernel_rfl)) (fun _ _ _ h => h) (Or.inl ⟨by rfl, ?_⟩) ?_ ?_
     rotate_left
     ·intro w'
      go_simp
      with_reducible rfl
     rotate_left
     ·simp only [Act.put, List.setIfInBounds_toArray, List.set_cons_zero, List.set_cons_succ, i64_w, i32_w]
      rfl
     refine pure_ (i := 13) (N := some 24) (v := ?_) (a' := ?_) #[true, true, true, true, true, true, true, true, true, true, true, false, true, true, false, false, false, false, false, false, false, false, false, false, false, false, false, false, false, false, false, false, false, false] rfl rfl (any_of HT_.out (by kernel_rfl)) (fun _ _ _ h => h) (Or.inl ⟨by rfl, ?_⟩) ?_ ?_
     rotate_left
     ·intro w'
      go_simp
      with_reducible rfl
     rotate_left
     ·simp only [Act.put, List.setIfInBounds_toArray, List.set_cons_zero, List.set_cons_succ, i64_w, i32_w]
      rfl
     refine take_ (i := 11) (N := some 22) (v := ?_) (a' := ?_) #[true, true, true, true, true, true, true, true, true, true, true, true, true, true, false, false, false, false, false, false, false, false, false, false, false, false, false, false, false, false, false, false, false, false] rfl rfl (take_ofW HT_.out HW_.out (by kernel_rfl)) (fun _ _ _ h => h) (Or.inl ⟨by rfl, ?_⟩) hHeld ?_ ?_
     rotate_left
     ·rintro w' ⟨s0, s1, s2, s3, s4, s5, s6, s7, s8⟩
      go_simp
      with_reducible rfl
     rotate_left
     ·simp only [Act.put, List.setIfInBounds_toArray, List.set_cons_zero, List.set_cons_succ, i64_w, i32_w]
      rfl
     refine take_ (i := 14) (N := some 25) (v := ?_) (a' := ?_) #[true, true, true, true, true, true, true, true, true, true, true, true, true, true, true, false, false, false, false, false, false, false, false, false, false, false, false, false, false, false, false, false, false, false] rfl rfl (take_ofW HT_.out HW_.out (by kernel_rfl)) (fun _ _ _ h => h) (Or.inl ⟨by rfl, ?_⟩) hHeld ?_ ?_
     rotate_left
     ·rintro w' ⟨s0, s1, s2, s3, s4, s5, s6, s7, s8⟩
      go_simp
      with_reducible rfl
     rotate_left
     ·simp only [Act.put, List.setIfInBounds_toArray, List.set_cons_zero, List.set_cons_succ, i64_w, i32_w]
      rfl
     refine pure_ (i := 15) (N := some 26) (v := ?_) (a' := ?_) #[true, true, true, true, true, true, true, true, true, true, true, true, true, true, true, true, false, false, false, false, false, false, false, false, false, false, false, false, false, false, false, false, false, false] rfl rfl (any_of HT_.out (by kernel_rfl)) (fun _ _ _ h => h) (Or.inl ⟨by rfl, ?_⟩) ?_ ?_
     rotate_left
     ·intro w'
      go_simp
      with_reducible rfl
     rotate_left
     ·simp only [Act.put, List.setIfInBounds_toArray, List.set_cons_zero, List.set_cons_succ, i64_w, i32_w]
      rfl
     refine pure_ (i := 16) (N := some 27) (v := ?_) (a' := ?_) #[true, true, true, true, true, true, true, true, true, true, true, true, true, true, true, true, true, false, false, false, false, false, false, false, false, false, false, false, false, false, false, false, false, false] rfl rfl (any_of HT_.out (by kernel_rfl)) (fun _ _ _ h => h) (Or.inl ⟨by rfl, ?_⟩) ?_ ?_
     rotate_left
     ·intro w'
      go_simp
      with_reducible rfl
     rotate_left
     ·simp only [Act.put, List.setIfInBounds_toArray, List.set_cons_zero, List.set_cons_succ, i64_w, i32_w]
      rfl
     refine pure_ (i := 17) (N := some 28) (v := ?_) (a' := ?_) #[true, true, true, true, true, true, true, true, true, true, true, true, true, true, true, true, true, true, false, false, false, false, false, false, false, false, false, false, false, false, false, false, false, false] rfl rfl (any_of HT_.out (by kernel_rfl)) (fun _ _ _ h => h) (Or.inl ⟨by rfl, ?_⟩) ?_ ?_
     rotate_left
     ·intro w'
      go_simp
      with_reducible rfl
     rotate_left
     ·simp only [Act.put, List.setIfInBounds_toArray, List.set_cons_zero, List.set_cons_succ, i64_w, i32_w]
      rfl
     refine pure_ (i := 18) (N := some 29) (v := ?_) (a' := ?_) #[true, true, true, true, true, true, true, true, true, true, true, true, true, true, true, true, true, true, true, false, false, false, false, false, false, false, false, false, false, false, false, false, false, false] rfl rfl (any_of HT_.out (by kernel_rfl)) (fun _ _ _ h => h) (Or.inl ⟨by rfl, ?_⟩) ?_ ?_
     rotate_left
     ·intro w'
      go_simp
      with_reducible rfl
     rotate_left
     ·simp only [Act.put, List.setIfInBounds_toArray, List.set_cons_zero, List.set_cons_succ, i64_w, i32_w]
      rfl
     refine take_ (i := 19) (N := some 30) (v := ?_) (a' := ?_) #[true, true, true, true, true, true, true, true, true, true, true, true, true, true, true, true, true, true, true, true, false, false, false, false, false, false, false, false, false, false, false, false, false, false] rfl rfl (take_ofW HT_.out HW_.out (by kernel_rfl)) (fun _ _ _ h => h) (Or.inl ⟨by rfl, ?_⟩) hHeld ?_ ?_
     rotate_left
     ·rintro w' ⟨s0, s1, s2, s3, s4, s5, s6, s7, s8⟩
      go_simp
      with_reducible rfl
     rotate_left
     ·simp only [Act.put, List.setIfInBounds_toArray, List.set_cons_zero, List.set_cons_succ, i64_w, i32_w]
      rfl
     refine pure_ (i := 20) (N := some 31) (v := ?_) (a' := ?_) #[true, true, true, true, true, true, true, true, true, true, true, true, true, true, true, true, true, true, true, true, true, false, false, false, false, false, false, false, false, false, false, false, false, false] rfl rfl (any_of HT_.out (by kernel_rfl)) (fun _ _ _ h => h) (Or.inl ⟨by rfl, ?_⟩) ?_ ?_
     rotate_left
     ·intro w'
      go_simp
      with_reducible rfl
     rotate_left
     ·simp only [Act.put, List.setIfInBounds_toArray, List.set_cons_zero, List.set_cons_succ, i64_w, i32_w]
      rfl
     refine pure_ (i := 21) (N := some 32) (v := ?_) (a' := ?_) #[true, true, true, true, true, true, true, true, true, true, true, true, true, true, true, true, true, true, true, true, true, true, false, false, false, false, false, false, false, false, false, false, false, false] rfl rfl (any_of HT_.out (by kernel_rfl)) (fun _ _ _ h => h) (Or.inl ⟨by rfl, ?_⟩) ?_ ?_
     rotate_left
     ·intro w'
      go_simp
      with_reducible rfl
     rotate_left
     ·simp only [Act.put, List.setIfInBounds_toArray, List.set_cons_zero, List.set_cons_succ, i64_w, i32_w]
      rfl
     refine pure_ (i := 22) (N := some 33) (v := ?_) (a' := ?_) #[true, true, true, true, true, true, true, true, true, true, true, true, true, true, true, true, true, true, true, true, true, true, true, false, false, false, false, false, false, false, false, false, false, false] rfl rfl (any_of HT_.out (by kernel_rfl)) (fun _ _ _ h => h) (Or.inl ⟨by rfl, ?_⟩) ?_ ?_
     rotate_left
     ·intro w'
      go_simp
      with_reducible rfl
     rotate_left
     ·simp only [Act.put, List.setIfInBounds_toArray, List.set_cons_zero, List.set_cons_succ, i64_w, i32_w]
      rfl
     refine take_ (i := 23) (N := some 34) (v := ?_) (a' := ?_) #[true, true, true, true, true, true, true, true, true, true, true, true, true, true, true, true, true, true, true, true, true, true, true, true, false, false, false, false, false, false, false, false, false, false] rfl rfl (take_ofW HT_.out HW_.out (by kernel_rfl)) (fun _ _ _ h => h) (Or.inl ⟨by rfl, ?_⟩) hHeld ?_ ?_
     rotate_left
     ·rintro w' ⟨s0, s1, s2, s3, s4, s5, s6, s7, s8⟩
      go_simp
      with_reducible rfl
     rotate_left
     ·simp only [Act.put, List.setIfInBounds_toArray, List.set_cons_zero, List.set_cons_succ, i64_w, i32_w]
      rfl
     refine one_ (i := 24) (N := some 35) #[true, true, true, true, true, true, true, true, true, true, true, true, true, true, true, true, true, true, true, true, true, true, true, true, true, false, false, false, false, false, false, false, false, false] rfl rfl (one_of HT_.out (by kernel_rfl)) (by decide) (fun K hK => ?_)
     refine goes_ Try.func29 (by kernel_rfl) rfl #[.agg #[.bool t325, .slice Ao34 t326.length co34]] (by rfl) rfl rfl argt ?_
     with_reducible refine (turnstoneref01_Sign.calls t325 _ _ t326 t332 _ ?side1 ?side2 A9.out).mono ?_
     (case side1 => repeat (first | exact (Kd.V_reads' HO328.out).2.2 | (with_reducible refine Kd.C_alloc ?_ _) | (with_reducible refine Kd.C_drewN ?_ _) | (with_reducible refine Kd.C_drew ?_)))
     (case side2 => exact (Kd.V_reads' HO328.out).2.1)
     rintro e w39 ⟨rfl, hb⟩
     refine ⟨_, rfl, ?_⟩
     replace HO328 := vb HO328 hb
     replace BK324 := blkb BK324 hb
     replace BK329 := blkb BK329 hb
     replace HB := belb HB hb
     (try clear hb)
     (try clear hb2)
     (try clear hk)
     (try clear hi)
     refine hK.out _ _ ⟨bc BK324 0, bc BK324 1, bc BK324 2, bc BK324 3, bc BK324 4, bc BK324 5, bc BK324 6, bc BK329 0, bc BK329 1⟩ (fun hHeld => ?_)
     clear hK K
     refine norm_ (a' := ?_) ?_ ?_
     rotate_left
     ·show Act.put _ (some 35) _ = _
      simp only [Act.put, List.setIfInBounds_toArray, List.set_cons_zero, List.set_cons_succ, i64_w, i32_w]
      rfl
     refine pure_ (i := 25) (N := some 36) (v := ?_) (a' := ?_) #[true, true, true, true, true, true, true, true, true, true, true, true, true, true, true, true, true, true, true, true, true, true, true, true, true, true, false, false, false, false, false, false, false, false] rfl rfl (any_of HT_.out (by kernel_rfl)) (fun _ _ _ h => h) (Or.inl ⟨by rfl, ?_⟩) ?_ ?_
     rotate_left
     ·intro w'
      go_simp
      with_reducible rfl
     rotate_left
     ·simp only [Act.put, List.setIfInBounds_toArray, List.set_cons_zero, List.set_cons_succ, i64_w, i32_w]
      rfl
     refine pure_ (i := 26) (N := some 37) (v := ?_) (a' := ?_) #[true, true, true, true, true, true, true, true, true, true, true, true, true, true, true, true, true, true, true, true, true, true, true, true, true, true, true, false, false, false, false, false, false, false] rfl rfl (any_of HT_.out (by kernel_rfl)) (fun _ _ _ h => h) (Or.inl ⟨by rfl, ?_⟩) ?_ ?_
     rotate_left
     ·intro w'
      go_simp
      with_reducible rfl
     rotate_left
     ·simp only [Act.put, List.setIfInBounds_toArray, List.set_cons_zero, List.set_cons_succ, i64_w, i32_w]
      rfl
     refine pure_ (i := 27) (N := some 38) (v := ?_) (a' := ?_) #[true, true, true, true, true, true, true, true, true, true, true, true, true, true, true, true, true, true, true, true, true, true, true, true, true, true, true, true, false, false, false, false, false, false] rfl rfl (any_of HT_.out (by kernel_rfl)) (fun _ _ _ h => h) (Or.inl ⟨by rfl, ?_⟩) ?_ ?_
     rotate_left
     ·intro w'
      go_simp
      with_reducible rfl
     rotate_left
     ·simp only [Act.put, List.setIfInBounds_toArray, List.set_cons_zero, List.set_cons_succ, i64_w, i32_w]
      rfl
     refine pure_ (i := 28) (N := some 39) (v := undef) (a' := ?_) #[true, true, true, true, true, true, true, true, true, true, true, true, true, true, true, true, true, true, true, true, true, true, true, true, true, true, true, true, true, false, false, false, false, false] rfl rfl (any_of HT_.out (by kernel_rfl)) (fun _ _ _ h => h) (Or.inr ⟨by rfl, rfl⟩) ?_ ?_
     rotate_left
     ·simp only [Act.put, List.setIfInBounds_toArray, List.set_cons_zero, List.set_cons_succ, i64_w, i32_w]
      rfl
     refine pure_ (i := 29) (N := some 40) (v := undef) (a' := ?_) #[true, true, true, true, true, true, true, true, true, true, true, true, true, true, true, true, true, true, true, true, true, true, true, true, true, true, true, true, true, true, false, false, false, false] rfl rfl (any_of HT_.out (by kernel_rfl)) (fun _ _ _ h => h) (Or.inr ⟨by rfl, rfl⟩) ?_ ?_
     rotate_left
     ·simp only [Act.put, List.setIfInBounds_toArray, List.set_cons_zero, List.set_cons_succ, i64_w, i32_w]
      rfl
     refine pure_ (i := 30) (N := some 41) (v := undef) (a' := ?_) #[true, true, true, true, true, true, true, true, true, true, true, true, true, true, true, true, true, true, true, true, true, true, true, true, true, true, true, true, true, true, true, false, false, false] rfl rfl (any_of HT_.out (by kernel_rfl)) (fun _ _ _ h => h) (Or.inr ⟨by rfl, rfl⟩) ?_ ?_
     rotate_left
     ·simp only [Act.put, List.setIfInBounds_toArray, List.set_cons_zero, List.set_cons_succ, i64_w, i32_w]
      rfl
     refine pure_ (i := 31) (N := some 42) (v := undef) (a' := ?_) #[true, true, true, true, true, true, true, true, true, true, true, true, true, true, true, true, true, true, true, true, true, true, true, true, true, true, true, true, true, true, true, true, false, false] rfl rfl (any_of HT_.out (by kernel_rfl)) (fun _ _ _ h => h) (Or.inr ⟨by rfl, rfl⟩) ?_ ?_
     rotate_left
     ·simp only [Act.put, List.setIfInBounds_toArray, List.set_cons_zero, List.set_cons_succ, i64_w, i32_w]
      rfl
     refine pure_ (i := 32) (N := some 43) (v := ?_) (a' := ?_) #[true, true, true, true, true, true, true, true, true, true, true, true, true, true, true, true, true, true, true, true, true, true, true, true, true, true, true, true, true, true, true, true, true, false] rfl rfl (any_of HT_.out (by kernel_rfl)) (fun _ _ _ h => h) (Or.inl ⟨by rfl, ?_⟩) ?_ ?_
     rotate_left
     ·intro w'
      go_simp
      with_reducible rfl
     rotate_left
     ·simp only [Act.put, List.setIfInBounds_toArray, List.set_cons_zero, List.set_cons_succ, i64_w, i32_w]
      rfl
     refine pure_ (i := 33) (N := some 2) (v := ?_) (a' := ?_) #[true, true, true, true, true, true, true, true, true, true, true, true, true, true, true, true, true, true, true, true, true, true, true, true, true, true, true, true, true, true, true, true, true, true] rfl rfl (any_of HT_.out (by kernel_rfl)) (fun _ _ _ h => h) (Or.inl ⟨by rfl, ?_⟩) ?_ ?_
     rotate_left
     ·intro w'
      go_simp
      with_reducible rfl
     rotate_left
     ·simp only [Act.put, List.setIfInBounds_toArray, List.set_cons_zero, List.set_cons_succ, i64_w, i32_w]
      rfl
     refine done_ (done_of HT_.out (by kernel_rfl)) ?_
     try go_wp2
     go_ret
     exact ⟨by first | rfl | (simp [errW_none, errW_some] <;> rfl) | (simp [*, errW_none, errW_some] <;> rfl), belt HB⟩
    rw [if_neg c8] at H
    have c8b0 : decide (0 < a0_3) = false := decide_eq_false c8
    clear c8
    obtain rfl := Option.some.inj H
    go_enter Try.func12, Try.ntmps12
    try go_wp2_with (first | ((with_reducible refine gate_dst (N := 1) rfl ?_); refine box_event ?hg (N := 1) ?hd (cs := #[.int .u64 a0_0, .int .u32 a0_1, .int .u32 a0_2, .int .i64 a0_3, .int .u64 a0_4, .int .u32 a0_5, .int .u32 a0_6]) (t := 38) ?hr ?_; (case hd => rfl); (case hg => rfl); (case hr => first | (go_simp; done) | (go_simp; rfl)); intro gb324 hg w40 hbox hb; have BK324 := Aside0.mk (hbox); have GW324 := bels HB hg; have GE324 := bels HB hg; replace HB := belb HB hb; clear hb hbox hg; have hcz41_0 : w40.cell? ⟨gb324, 0, none⟩ = some (.int .u64 a0_0) := bc BK324 0; have hcz41_1 : w40.cell? ⟨gb324, 1, none⟩ = some (.int .u32 a0_1) := bc BK324 1; have hcz41_2 : w40.cell? ⟨gb324, 2, none⟩ = some (.int .u32 a0_2) := bc BK324 2; have hcz41_3 : w40.cell? ⟨gb324, 3, none⟩ = some (.int .i64 a0_3) := bc BK324 3; have hcz41_4 : w40.cell? ⟨gb324, 4, none⟩ = some (.int .u64 a0_4) := bc BK324 4; have hcz41_5 : w40.cell? ⟨gb324, 5, none⟩ = some (.int .u32 a0_5) := bc BK324 5; have hcz41_6 : w40.cell? ⟨gb324, 6, none⟩ = some (.int .u32 a0_6) := bc BK324 6; have hfz41_0 := blk_frozen BK324.out 0; have hfz41_1 := blk_frozen BK324.out 1; have hfz41_2 := blk_frozen BK324.out 2; have hfz41_3 := blk_frozen BK324.out 3; have hfz41_4 := blk_frozen BK324.out 4; have hfz41_5 := blk_frozen BK324.out 5; have hfz41_6 := blk_frozen BK324.out 6) | ((with_reducible refine gate_callee (f := 27) rfl ?_); refine goesL_ (some 10) rfl rfl Try.func27 (by kernel_rfl) rfl #[.int .u64 a0_4, .int .u64 a0_0] rfl argt ?_; (with_reducible refine (turnstoneref03_Since.calls k a0_4 a0_0 t325 t326 _ A2.out).mono ?_); rintro e w42 ⟨v327, rfl, ho0, hb⟩; refine ⟨_, rfl, ?_⟩; have HO328 := Aside0.mk (Kd.V_lower (Kd.V_mono (ok' := fun k_ => k_ ≠ gb324) ho0 (fun k_ hk_ => (Kd.freshB (blkt BK324) k_ hk_))) (below_size (belt HB))); replace BK324 := blkb BK324 hb; replace HB := belb HB hb; (try clear hb); (try clear hb2); (try clear hk); (try clear hi); (try clear ho0)) | ((with_reducible refine gate_dst (N := 3) rfl ?_); refine box_event ?hg (N := 3) ?hd (cs := #[.bool false, .slice none 0 0]) (t := 49) ?hr ?_; (case hd => rfl); (case hg => rfl); (case hr => first | (go_simp; done) | (go_simp; rfl)); intro gb329 hg w43 hbox hb; replace HO328 := Aside0.mk (Kd.V_below (Kd.V_elderB (vt HO328) gb329 (Nat.le_of_eq hg.symm)) hb); have BK329 := Aside0.mk (hbox); have GW329 := bels HB hg; have GE329 := bels HB hg; have NB324_329 := blkl BK324 hg; have NB329_324 := blkg BK324 hg; replace BK324 := blkb BK324 hb; replace HB := belb HB hb; clear hb hbox hg; have hnb44 := NB329_324.out; have hnc44 := NB324_329.out; have hcz45_0 : w43.cell? ⟨gb329, 0, none⟩ = some (.bool false) := bc BK329 0; have hcz45_1 : w43.cell? ⟨gb329, 1, none⟩ = some (.slice none 0 0) := bc BK329 1; have hfz45_0 := blk_frozen BK329.out 0; have hfz45_1 := blk_frozen BK329.out 1; obtain ⟨Ao46, co46, eo46⟩ := Kd.V_slice HO328.out; subst eo46))
    have n0_ : Aside0 (Kd.V (Kd.int .i64) 3 ((w43.setCell ⟨gb329, 0, none⟩ (.bool t325)).setCell ⟨gb329, 1, none⟩ (.slice Ao46 t326.length co46)) w.heap.size (fun k_ => k_ ≠ gb324 ∧ k_ ≠ gb329) (.slice Ao46 t326.length co46) t326) := ⟨by (with_reducible repeat (first | apply Kd.V_alloc | apply Kd.V_drewN | apply Kd.V_drew)); exact Kd.V_mono (Kd.V_far (p := ⟨gb329, 1, none⟩) (Kd.V_far (p := ⟨gb329, 0, none⟩) (Kd.V_mono HO328.out (fun k_ hk => (⟨hk, hk.2⟩ : _ ∧ k_ ≠ gb329))) (fun _ hk => hk.2) (.bool t325)) (fun _ hk => hk.2) (.slice Ao46 t326.length co46)) (fun _ hk => ⟨hk.1.1, hk.1.2⟩)⟩
    have n1_ : Aside0 (((w43.setCell ⟨gb329, 0, none⟩ (.bool t325)).setCell ⟨gb329, 1, none⟩ (.slice Ao46 t326.length co46)).heap[gb324]? = some (.cells #[.int .u64 a0_0, .int .u32 a0_1, .int .u32 a0_2, .int .i64 a0_3, .int .u64 a0_4, .int .u32 a0_5, .int .u32 a0_6] 38 (0, 0))) := ⟨by (with_reducible repeat (first | refine blk_drewN ?_ _ | refine blk_drew ?_ | refine blk_alloc ?_ _)); refine blk_far ?_ NB324_329.out _; (with_reducible repeat (first | refine blk_drewN ?_ _ | refine blk_drew ?_ | refine blk_alloc ?_ _)); refine blk_far ?_ NB324_329.out _; exact blkt BK324⟩
    have n2_ : Aside0 (((w43.setCell ⟨gb329, 0, none⟩ (.bool t325)).setCell ⟨gb329, 1, none⟩ (.slice Ao46 t326.length co46)).heap[gb329]? = some (.cells #[.bool t325, .slice Ao46 t326.length co46] 49 (0, 0))) := ⟨by (with_reducible repeat (first | refine blk_drewN ?_ _ | refine blk_drew ?_ | refine blk_alloc ?_ _)); refine blk_put (cs := #[.bool t325, .slice none 0 0]) ?_ 1 _ rfl; (with_reducible repeat (first | refine blk_drewN ?_ _ | refine blk_drew ?_ | refine blk_alloc ?_ _)); refine blk_put (cs := #[.bool false, .slice none 0 0]) ?_ 0 _ rfl; exact blkt BK329⟩
    have n3_ : Aside0 (Below w.heap.size w ((w43.setCell ⟨gb329, 0, none⟩ (.bool t325)).setCell ⟨gb329, 1, none⟩ (.slice Ao46 t326.length co46))) := ⟨belt HB⟩
    (try clear HO328)
    (try clear BK324)
    (try clear BK329)
    (try clear HB)
    generalize ((w43.setCell ⟨gb329, 0, none⟩ (.bool t325)).setCell ⟨gb329, 1, none⟩ (.slice Ao46 t326.length co46)) = w47 at n0_ n1_ n2_ n3_ ⊢
    have HO328 := n0_
    have BK324 := n1_
    have BK329 := n2_
    have HB := n3_
    clear n0_ n1_ n2_ n3_
    replace HO328 := Aside0.mk (Kd.V_drew HO328.out)
    replace BK324 := Aside0.mk (blk_drew BK324.out)
    replace BK329 := Aside0.mk (blk_drew BK329.out)
    replace HB := Aside0.mk (below_drew1 HB.out)
    refine start_ (n := 34) (S := fun w' => w'.cell? ⟨gb324, 0, none⟩ = some (.int .u64 a0_0) ∧ w'.cell? ⟨gb324, 1, none⟩ = some (.int .u32 a0_1) ∧ w'.cell? ⟨gb324, 2, none⟩ = some (.int .u32 a0_2) ∧ w'.cell? ⟨gb324, 3, none⟩ = some (.int .i64 a0_3) ∧ w'.cell? ⟨gb324, 4, none⟩ = some (.int .u64 a0_4) ∧ w'.cell? ⟨gb324, 5, none⟩ = some (.int .u32 a0_5) ∧ w'.cell? ⟨gb324, 6, none⟩ = some (.int .u32 a0_6)) (ds := []) #[false, false, false, false, false, false, false, false, false, false, false, false, false, false, false, false, false, false, false, false, false, false, false, false, false, false, false, false, false, false, false, false, false, false] (by kernel_rfl) rfl rfl ⟨bc BK324 0, bc BK324 1, bc BK324 2, bc BK324 3, bc BK324 4, bc BK324 5, bc BK324 6⟩ (fun hHeld => ?_); refine with_tabW turnstoneref05_Right.tab2 turnstoneref05_Right.bits2 (fun HT_ HW_ => ?_)
    generalize w47.drew = w48 at HO328 BK324 BK329 HB hHeld ⊢
    refine pure_ (i := 0) (N := some 11) (v := ?_) (a' := ?_) #[true, false, false, false, false, false, false, false, false, false, false, false, false, false, false, false, false, false, false, false, false, false, false, false, false, false, false, false, false, false, false, false, false, false] rfl rfl (any_of HT_.out (by kernel_rfl)) (fun _ _ _ h => h) (Or.inl ⟨by rfl, ?_⟩) ?_ ?_
    rotate_left
    ·intro w'
     go_simp
     with_reducible rfl
    rotate_left
    ·simp only [Act.put, List.setIfInBounds_toArray, List.set_cons_zero, List.set_cons_succ, i64_w, i32_w]
     rfl
    refine take_ (i := 1) (N := some 12) (v := ?_) (a' := ?_) #[true, true, false, false, false, false, false, false, false, false, false, false, false, false, false, false, false, false, false, false, false, false, false, false, false, false, false, false, false, false, false, false, false, false] rfl rfl (take_ofW HT_.out HW_.out (by kernel_rfl)) (fun _ _ _ h => h) (Or.inl ⟨by rfl, ?_⟩) hHeld ?_ ?_
    rotate_left
    ·rintro w' ⟨s0, s1, s2, s3, s4, s5, s6⟩
     go_simp
     with_reducible rfl
    rotate_left
    ·simp only [Act.put, List.setIfInBounds_toArray, List.set_cons_zero, List.set_cons_succ, i64_w, i32_w]
     rfl
    refine one_ (i := 2) (N := some 13) #[true, true, true, false, false, false, false, false, false, false, false, false, false, false, false, false, false, false, false, false, false, false, false, false, false, false, false, false, false, false, false, false, false, false] rfl rfl (one_of HT_.out (by kernel_rfl)) (by decide) (fun K hK => ?_)
    refine goes_ Try.func28 (by kernel_rfl) rfl #[.agg #[.int .u64 a0_0, .int .u32 a0_1, .int .u32 a0_2]] (by rfl) rfl rfl argt ?_
    with_reducible refine (turnstoneref04_Right.calls a0_0 a0_1 a0_2 true _ A3.out).mono ?_
    rintro e w49 ⟨rfl, hb⟩
    refine ⟨_, rfl, ?_⟩
    replace HO328 := vb HO328 hb
    replace BK324 := blkb BK324 hb
    replace BK329 := blkb BK329 hb
    replace HB := belb HB hb
    (try clear hb)
    (try clear hb2)
    (try clear hk)
    (try clear hi)
    refine hK.out _ _ ⟨bc BK324 0, bc BK324 1, bc BK324 2, bc BK324 3, bc BK324 4, bc BK324 5, bc BK324 6⟩ (fun hHeld => ?_)
    clear hK K
    refine norm_ (a' := ?_) ?_ ?_
    rotate_left
    ·show Act.put _ (some 13) _ = _
     simp only [Act.put, List.setIfInBounds_toArray, List.set_cons_zero, List.set_cons_succ, i64_w, i32_w]
     rfl
    refine pure_ (i := 3) (N := some 14) (v := ?_) (a' := ?_) #[true, true, true, true, false, false, false, false, false, false, false, false, false, false, false, false, false, false, false, false, false, false, false, false, false, false, false, false, false, false, false, false, false, false] rfl rfl (any_of HT_.out (by kernel_rfl)) (fun _ _ _ h => h) (Or.inl ⟨by rfl, ?_⟩) ?_ ?_
    rotate_left
    ·intro w'
     go_simp
     with_reducible rfl
    rotate_left
    ·simp only [Act.put, List.setIfInBounds_toArray, List.set_cons_zero, List.set_cons_succ, i64_w, i32_w]
     rfl
    refine pure_ (i := 4) (N := some 15) (v := ?_) (a' := ?_) #[true, true, true, true, true, false, false, false, false, false, false, false, false, false, false, false, false, false, false, false, false, false, false, false, false, false, false, false, false, false, false, false, false, false] rfl rfl (any_of HT_.out (by kernel_rfl)) (fun _ _ _ h => h) (Or.inl ⟨by rfl, ?_⟩) ?_ ?_
    rotate_left
    ·intro w'
     go_simp
     with_reducible rfl
    rotate_left
    ·simp only [Act.put, List.setIfInBounds_toArray, List.set_cons_zero, List.set_cons_succ, i64_w, i32_w]
     rfl
    refine take_ (i := 5) (N := some 16) (v := ?_) (a' := ?_) #[true, true, true, true, true, true, false, false, false, false, false, false, false, false, false, false, false, false, false, false, false, false, false, false, false, false, false, false, false, false, false, false, false, false] rfl rfl (take_ofW HT_.out HW_.out (by kernel_rfl)) (fun _ _ _ h => h) (Or.inl ⟨by rfl, ?_⟩) hHeld ?_ ?_
    rotate_left
    ·rintro w' ⟨s0, s1, s2, s3, s4, s5, s6⟩
     go_simp
     with_reducible rfl
    rotate_left
    ·simp only [Act.put, List.setIfInBounds_toArray, List.set_cons_zero, List.set_cons_succ, i64_w, i32_w]
     rfl
    refine one_ (i := 6) (N := some 17) #[true, true, true, true, true, true, true, false, false, false, false, false, false, false, false, false, false, false, false, false, false, false, false, false, false, false, false, false, false, false, false, false, false, false] rfl rfl (one_of HT_.out (by kernel_rfl)) (by decide) (fun K hK => ?_)
    refine goes_ Try.func28 (by kernel_rfl) rfl #[.agg #[.int .u64 a0_4, .int .u32 a0_5, .int .u32 a0_6]] (by rfl) rfl rfl argt ?_
    with_reducible refine (turnstoneref04_Right.calls a0_4 a0_5 a0_6 true _ A5.out).mono ?_
    rintro e w50 ⟨rfl, hb⟩
    refine ⟨_, rfl, ?_⟩
    replace HO328 := vb HO328 hb
    replace BK324 := blkb BK324 hb
    replace BK329 := blkb BK329 hb
    replace HB := belb HB hb
    (try clear hb)
    (try clear hb2)
    (try clear hk)
    (try clear hi)
    refine hK.out _ _ ⟨bc BK324 0, bc BK324 1, bc BK324 2, bc BK324 3, bc BK324 4, bc BK324 5, bc BK324 6⟩ (fun hHeld => ?_)
    clear hK K
    refine norm_ (a' := ?_) ?_ ?_
    rotate_left
    ·show Act.put _ (some 17) _ = _
     simp only [Act.put, List.setIfInBounds_toArray, List.set_cons_zero, List.set_cons_succ, i64_w, i32_w]
     rfl
    refine pure_ (i := 7) (N := some 18) (v := ?_) (a' := ?_) #[true, true, true, true, true, true, true, true, false, false, false, false, false, false, false, false, false, false, false, false, false, false, false, false, false, false, false, false, false, false, false, false, false, false] rfl rfl (any_of HT_.out (by kernel_rfl)) (fun _ _ _ h => h) (Or.inl ⟨by rfl, ?_⟩) ?_ ?_
    rotate_left
    ·intro w'
     go_simp
     with_reducible rfl
    rotate_left
    ·simp only [Act.put, List.setIfInBounds_toArray, List.set_cons_zero, List.set_cons_succ, i64_w, i32_w]
     rfl
    refine pure_ (i := 8) (N := some 19) (v := ?_) (a' := ?_) #[true, true, true, true, true, true, true, true, true, false, false, false, false, false, false, false, false, false, false, false, false, false, false, false, false, false, false, false, false, false, false, false, false, false] rfl rfl (any_of HT_.out (by kernel_rfl)) (fun _ _ _ h => h) (Or.inl ⟨by rfl, ?_⟩) ?_ ?_
    rotate_left
    ·intro w'
     go_simp
     with_reducible rfl
    rotate_left
    ·simp only [Act.put, List.setIfInBounds_toArray, List.set_cons_zero, List.set_cons_succ, i64_w, i32_w]
     rfl
    refine pure_ (i := 9) (N := some 20) (v := ?_) (a' := ?_) #[true, true, true, true, true, true, true, true, true, true, false, false, false, false, false, false, false, false, false, false, false, false, false, false, false, false, false, false, false, false, false, false, false, false] rfl rfl (any_of HT_.out (by kernel_rfl)) (fun _ _ _ h => h) (Or.inl ⟨by rfl, ?_⟩) ?_ ?_
    rotate_left
    ·intro w'
     go_simp
     with_reducible rfl
    rotate_left
    ·simp only [Act.put, List.setIfInBounds_toArray, List.set_cons_zero, List.set_cons_succ, i64_w, i32_w]
     rfl
    refine pure_ (i := 10) (N := some 21) (v := ?_) (a' := ?_) #[true, true, true, true, true, true, true, true, true, true, true, false, false, false, false, false, false, false, false, false, false, false, false, false, false, false, false, false, false, false, false, false, false, false] rfl rfl (any_of HT_.out (by kernel_rfl)) (fun _ _ _ h => h) (Or.inl ⟨by rfl, ?_⟩) ?_ ?_
    rotate_left
    ·intro w'
     go_simp
     with_reducible rfl
    rotate_left
    ·simp only [Act.put, List.setIfInBounds_toArray, List.set_cons_zero, List.set_cons_succ, i64_w, i32_w]
     rfl
    refine pure_ (i := 12) (N := some 23) (v := ?_) (a' := ?_) #[true, true, true, true, true, true, true, true, true, true, true, false, true, false, false, false, false, false, false, false, false, false, false, false, false, false, false, false, false, false, false, false, false, false] rfl rfl (any_of HT_.out (by kernel_rfl)) (fun _ _ _ h => h) (Or.inl ⟨by rfl, ?_⟩) ?_ ?_
    rotate_left
    ·intro w'
     go_simp
     with_reducible rfl
    rotate_left
    ·simp only [Act.put, List.setIfInBounds_toArray, List.set_cons_zero, List.set_cons_succ, i64_w, i32_w]
     rfl
    refine pure_ (i := 13) (N := some 24) (v := ?_) (a' := ?_) #[true, true, true, true, true, true, true, true, true, true, true, false, true, true, false, false, false, false, false, false, false, false, false, false, false, false, false, false, false, false, false, false, false, false] rfl rfl (any_of HT_.out (by kernel_rfl)) (fun _ _ _ h => h) (Or.inl ⟨by rfl, ?_⟩) ?_ ?_
    rotate_left
    ·intro w'
     go_simp
     with_reducible rfl
    rotate_left
    ·simp only [Act.put, List.setIfInBounds_toArray, List.set_cons_zero, List.set_cons_succ, i64_w, i32_w]
     rfl
    refine take_ (i := 11) (N := some 22) (v := ?_) (a' := ?_) #[true, true, true, true, true, true, true, true, true, true, true, true, true, true, false, false, false, false, false, false, false, false, false, false, false, false, false, false, false, false, false, false, false, false] rfl rfl (take_ofW HT_.out HW_.out (by kernel_rfl)) (fun _ _ _ h => h) (Or.inl ⟨by rfl, ?_⟩) hHeld ?_ ?_
    rotate_left
    ·rintro w' ⟨s0, s1, s2, s3, s4, s5, s6⟩
     go_simp
     with_reducible rfl
    rotate_left
    ·simp only [Act.put, List.setIfInBounds_toArray, List.set_cons_zero, List.set_cons_succ, i64_w, i32_w]
     rfl
    refine take_ (i := 14) (N := some 25) (v := ?_) (a' := ?_) #[true, true, true, true, true, true, true, true, true, true, true, true, true, true, true, false, false, false, false, false, false, false, false, false, false, false, false, false, false, false, false, false, false, false] rfl rfl (take_ofW HT_.out HW_.out (by kernel_rfl)) (fun _ _ _ h => h) (Or.inl ⟨by rfl, ?_⟩) hHeld ?_ ?_
    rotate_left
    ·rintro w' ⟨s0, s1, s2, s3, s4, s5, s6⟩
     go_simp
     with_reducible rfl
    rotate_left
    ·simp only [Act.put, List.setIfInBounds_toArray, List.set_cons_zero, List.set_cons_succ, i64_w, i32_w]
     rfl
    refine pure_ (i := 15) (N := some 26) (v := ?_) (a' := ?_) #[true, true, true, true, true, true, true, true, true, true, true, true, true, true, true, true, false, false, false, false, false, false, false, false, false, false, false, false, false, false, false, false, false, false] rfl rfl (any_of HT_.out (by kernel_rfl)) (fun _ _ _ h => h) (Or.inl ⟨by rfl, ?_⟩) ?_ ?_
    rotate_left
    ·intro w'
     go_simp
     with_reducible rfl
    rotate_left
    ·simp only [Act.put, List.setIfInBounds_toArray, List.set_cons_zero, List.set_cons_succ, i64_w, i32_w]
     rfl
    refine pure_ (i := 16) (N := some 27) (v := ?_) (a' := ?_) #[true, true, true, true, true, true, true, true, true, true, true, true, true, true, true, true, true, false, false, false, false, false, false, false, false, false, false, false, false, false, false, false, false, false] rfl rfl (any_of HT_.out (by kernel_rfl)) (fun _ _ _ h => h) (Or.inl ⟨by rfl, ?_⟩) ?_ ?_
    rotate_left
    ·intro w'
     go_simp
     with_reducible rfl
    rotate_left
    ·simp only [Act.put, List.setIfInBounds_toArray, List.set_cons_zero, List.set_cons_succ, i64_w, i32_w]
     rfl
    refine pure_ (i := 17) (N := some 28) (v := ?_) (a' := ?_) #[true, true, true, true, true, true, true, true, true, true, true, true, true, true, true, true, true, true, false, false, false, false, false, false, false, false, false, false, false, false, false, false, false, false] rfl rfl (any_of HT_.out (by kernel_rfl)) (fun _ _ _ h => h) (Or.inl ⟨by rfl, ?_⟩) ?_ ?_
    rotate_left
    ·intro w'
     go_simp
     with_reducible rfl
    rotate_left
    ·simp only [Act.put, List.setIfInBounds_toArray, List.set_cons_zero, List.set_cons_succ, i64_w, i32_w]
     rfl
    refine pure_ (i := 18) (N := some 29) (v := ?_) (a' := ?_) #[true, true, true, true, true, true, true, true, true, true, true, true, true, true, true, true, true, true, true, false, false, false, false, false, false, false, false, false, false, false, false, false, false, false] rfl rfl (any_of HT_.out (by kernel_rfl)) (fun _ _ _ h => h) (Or.inl ⟨by rfl, ?_⟩) ?_ ?_
    rotate_left
    ·intro w'
     go_simp
     with_reducible rfl
    rotate_left
    ·simp only [Act.put, List.setIfInBounds_toArray, List.set_cons_zero, List.set_cons_succ, i64_w, i32_w]
     rfl
    refine take_ (i := 19) (N := some 30) (v := ?_) (a' := ?_) #[true, true, true, true, true, true, true, true, true, true, true, true, true, true, true, true, true, true, true, true, false, false, false, false, false, false, false, false, false, false, false, false, false, false] rfl rfl (take_ofW HT_.out HW_.out (by kernel_rfl)) (fun _ _ _ h => h) (Or.inl ⟨by rfl, ?_⟩) hHeld ?_ ?_
    rotate_left
    ·rintro w' ⟨s0, s1, s2, s3, s4, s5, s6⟩
     go_simp
     with_reducible rfl
    rotate_left
    ·simp only [Act.put, List.setIfInBounds_toArray, List.set_cons_zero, List.set_cons_succ, i64_w, i32_w]
     rfl
    refine pure_ (i := 20) (N := some 31) (v := ?_) (a' := ?_) #[true, true, true, true, true, true, true, true, true, true, true, true, true, true, true, true, true, true, true, true, true, false, false, false, false, false, false, false, false, false, false, false, false, false] rfl rfl (any_of HT_.out (by kernel_rfl)) (fun _ _ _ h => h) (Or.inl ⟨by rfl, ?_⟩) ?_ ?_
    rotate_left
    ·intro w'
     go_simp
     with_reducible rfl
    rotate_left
    ·simp only [Act.put, List.setIfInBounds_toArray, List.set_cons_zero, List.set_cons_succ, i64_w, i32_w]
     rfl
    refine pure_ (i := 21) (N := some 32) (v := ?_) (a' := ?_) #[true, true, true, true, true, true, true, true, true, true, true, true, true, true, true, true, true, true, true, true, true, true, false, false, false, false, false, false, false, false, false, false, false, false] rfl rfl (any_of HT_.out (by kernel_rfl)) (fun _ _ _ h => h) (Or.inl ⟨by rfl, ?_⟩) ?_ ?_
    rotate_left
    ·intro w'
     go_simp
     with_reducible rfl
    rotate_left
    ·simp only [Act.put, List.setIfInBounds_toArray, List.set_cons_zero, List.set_cons_succ, i64_w, i32_w]
     rfl
    refine pure_ (i := 22) (N := some 33) (v := ?_) (a' := ?_) #[true, true, true, true, true, true, true, true, true, true, true, true, true, true, true, true, true, true, true, true, true, true, true, false, false, false, false, false, false, false, false, false, false, false] rfl rfl (any_of HT_.out (by kernel_rfl)) (fun _ _ _ h => h) (Or.inl ⟨by rfl, ?_⟩) ?_ ?_
    rotate_left
    ·intro w'
     go_simp
     with_reducible rfl
    rotate_left
    ·simp only [Act.put, List.setIfInBounds_toArray, List.set_cons_zero, List.set_cons_succ, i64_w, i32_w]
     rfl
    refine pure_ (i := 23) (N := some 34) (v := undef) (a' := ?_) #[true, true, true, true, true, true, true, true, true, true, true, true, true, true, true, true, true, true, true, true, true, true, true, true, false, false, false, false, false, false, false, false, false, false] rfl rfl (any_of HT_.out (by kernel_rfl)) (fun _ _ _ h => h) (Or.inr ⟨by rfl, rfl⟩) ?_ ?_
    rotate_left
    ·simp only [Act.put, List.setIfInBounds_toArray, List.set_cons_zero, List.set_cons_succ, i64_w, i32_w]
     rfl
    refine pure_ (i := 24) (N := some 35) (v := undef) (a' := ?_) #[true, true, true, true, true, true, true, true, true, true, true, true, true, true, true, true, true, true, true, true, true, true, true, true, true, false, false, false, false, false, false, false, false, false] rfl rfl (any_of HT_.out (by kernel_rfl)) (fun _ _ _ h => h) (Or.inr ⟨by rfl, rfl⟩) ?_ ?_
    rotate_left
    ·simp only [Act.put, List.setIfInBounds_toArray, List.set_cons_zero, List.set_cons_succ, i64_w, i32_w]
     rfl
    refine pure_ (i := 25) (N := some 36) (v := undef) (a' := ?_) #[true, true, true, true, true, true, true, true, true, true, true, true, true, true, true, true, true, true, true, true, true, true, true, true, true, true, false, false, false, false, false, false, false, false] rfl rfl (any_of HT_.out (by kernel_rfl)) (fun _ _ _ h => h) (Or.inr ⟨by rfl, rfl⟩) ?_ ?_
    rotate_left
    ·simp only [Act.put, List.setIfInBounds_toArray, List.set_cons_zero, List.set_cons_succ, i64_w, i32_w]
     rfl
    refine pure_ (i := 26) (N := some 37) (v := ?_) (a' := ?_) #[true, true, true, true, true, true, true, true, true, true, true, true, true, true, true, true, true, true, true, true, true, true, true, true, true, true, true, false, false, false, false, false, false, false] rfl rfl (any_of HT_.out (by kernel_rfl)) (fun _ _ _ h => h) (Or.inl ⟨by rfl, ?_⟩) ?_ ?_
    rotate_left
    ·intro w'
     go_simp
     with_reducible rfl
    rotate_left
    ·simp only [Act.put, List.setIfInBounds_toArray, List.set_cons_zero, List.set_cons_succ, i64_w, i32_w]
     rfl
    refine pure_ (i := 27) (N := some 38) (v := ?_) (a' := ?_) #[true, true, true, true, true, true, true, true, true, true, true, true, true, true, true, true, true, true, true, true, true, true, true, true, true, true, true, true, false, false, false, false, false, false] rfl rfl (any_of HT_.out (by kernel_rfl)) (fun _ _ _ h => h) (Or.inl ⟨by rfl, ?_⟩) ?_ ?_
    rotate_left
    ·intro w'
     go_simp
     with_reducible rfl
    rotate_left
    ·simp only [Act.put, List.setIfInBounds_toArray, List.set_cons_zero, List.set_cons_succ, i64_w, i32_w]
     rfl
    refine pure_ (i := 28) (N := some 39) (v := undef) (a' := ?_) #[true, true, true, true, true, true, true, true, true, true, true, true, true, true, true, true, true, true, true, true, true, true, true, true, true, true, true, true, true, false, false, false, false, false] rfl rfl (any_of HT_.out (by kernel_rfl)) (fun _ _ _ h => h) (Or.inr ⟨by rfl, rfl⟩) ?_ ?_
    rotate_left
    ·simp only [Act.put, List.setIfInBounds_toArray, List.set_cons_zero, List.set_cons_succ, i64_w, i32_w]
     rfl
    refine pure_ (i := 29) (N := some 40) (v := undef) (a' := ?_) #[true, true, true, true, true, true, true, true, true, true, true, true, true, true, true, true, true, true, true, true, true, true, true, true, true, true, true, true, true, true, false, false, false, false] rfl rfl (any_of HT_.out (by kernel_rfl)) (fun _ _ _ h => h) (Or.inr ⟨by rfl, rfl⟩) ?_ ?_
    rotate_left
    ·simp only [Act.put, List.setIfInBounds_toArray, List.set_cons_zero, List.set_cons_succ, i64_w, i32_w]
     rfl
    refine pure_ (i := 30) (N := some 41) (v := undef) (a' := ?_) #[true, true, true, true, true, true, true, true, true, true, true, true, true, true, true, true, true, true, true, true, true, true, true, true, true, true, true, true, true, true, true, false, false, false] rfl rfl (any_of HT_.out (by kernel_rfl)) (fun _ _ _ h => h) (Or.inr ⟨by rfl, rfl⟩) ?_ ?_
    rotate_left
    ·simp only [Act.put, List.setIfInBounds_toArray, List.set_cons_zero, List.set_cons_succ, i64_w, i32_w]
     rfl
    refine pure_ (i := 31) (N := some 42) (v := undef) (a' := ?_) #[true, true, true, true, true, true, true, true, true, true, true, true, true, true, true, true, true, true, true, true, true, true, true, true, true, true, true, true, true, true, true, true, false, false] rfl rfl (any_of HT_.out (by kernel_rfl)) (fun _ _ _ h => h) (Or.inr ⟨by rfl, rfl⟩) ?_ ?_
    rotate_left
    ·simp only [Act.put, List.setIfInBounds_toArray, List.set_cons_zero, List.set_cons_succ, i64_w, i32_w]
     rfl
    refine pure_ (i := 32) (N := some 43) (v := ?_) (a' := ?_) #[true, true, true, true, true, true, true, true, true, true, true, true, true, true, true, true, true, true, true, true, true, true, true, true, true, true, true, true, true, true, true, true, true, false] rfl rfl (any_of HT_.out (by kernel_rfl)) (fun _ _ _ h => h) (Or.inl ⟨by rfl, ?_⟩) ?_ ?_
    rotate_left
    ·intro w'
     go_simp
     with_reducible rfl
    rotate_left
    ·simp only [Act.put, List.setIfInBounds_toArray, List.set_cons_zero, List.set_cons_succ, i64_w, i32_w]
     rfl
    refine pure_ (i := 33) (N := some 2) (v := ?_) (a' := ?_) #[true, true, true, true, true, true, true, true, true, true, true, true, true, true, true, true, true, true, true, true, true, true, true, true, true, true, true, true, true, true, true, true, true, true] rfl rfl (any_of HT_.out (by kernel_rfl)) (fun _ _ _ h => h) (Or.inl ⟨by rfl, ?_⟩) ?_ ?_
    rotate_left
    ·intro w'
     go_simp
     with_reducible rfl
    rotate_left
    ·simp only [Act.put, List.setIfInBounds_toArray, List.set_cons_zero, List.set_cons_succ, i64_w, i32_w]
     rfl
    refine done_ (done_of HT_.out (by kernel_rfl)) ?_
    try go_wp2
    go_ret
    exact ⟨by first | rfl | (simp [errW_none, errW_some] <;> rfl) | (simp [*, errW_none, errW_some] <;> rfl), belt HB⟩
   rw [if_neg c7] at H
   have c7b0 : (a0_2 == a0_6) = false := beq_eq_false_iff_ne.mpr c7
   have c7b1 : (a0_2 != a0_6) = true := bne_iff_ne.mpr c7
   obtain rfl := Option.some.inj H
   go_enter Try.func12, Try.ntmps12
   try go_wp2_with (first | ((with_reducible refine gate_dst (N := 1) rfl ?_); refine box_event ?hg (N := 1) ?hd (cs := #[.int .u64 a0_0, .int .u32 a0_1, .int .u32 a0_2, .int .i64 a0_3, .int .u64 a0_4, .int .u32 a0_5, .int .u32 a0_6]) (t := 38) ?hr ?_; (case hd => rfl); (case hg => rfl); (case hr => first | (go_simp; done) | (go_simp; rfl)); intro gb324 hg w51 hbox hb; have BK324 := Aside0.mk (hbox); have GW324 := bels HB hg; have GE324 := bels HB hg; replace HB := belb HB hb; clear hb hbox hg; have hcz52_0 : w51.cell? ⟨gb324, 0, none⟩ = some (.int .u64 a0_0) := bc BK324 0; have hcz52_1 : w51.cell? ⟨gb324, 1, none⟩ = some (.int .u32 a0_1) := bc BK324 1; have hcz52_2 : w51.cell? ⟨gb324, 2, none⟩ = some (.int .u32 a0_2) := bc BK324 2; have hcz52_3 : w51.cell? ⟨gb324, 3, none⟩ = some (.int .i64 a0_3) := bc BK324 3; have hcz52_4 : w51.cell? ⟨gb324, 4, none⟩ = some (.int .u64 a0_4) := bc BK324 4; have hcz52_5 : w51.cell? ⟨gb324, 5, none⟩ = some (.int .u32 a0_5) := bc BK324 5; have hcz52_6 : w51.cell? ⟨gb324, 6, none⟩ = some (.int .u32 a0_6) := bc BK324 6; have hfz52_0 := blk_frozen BK324.out 0; have hfz52_1 := blk_frozen BK324.out 1; have hfz52_2 := blk_frozen BK324.out 2; have hfz52_3 := blk_frozen BK324.out 3; have hfz52_4 := blk_frozen BK324.out 4; have hfz52_5 := blk_frozen BK324.out 5; have hfz52_6 := blk_frozen BK324.out 6) | ((with_reducible refine gate_callee (f := 27) rfl ?_); refine goesL_ (some 10) rfl rfl Try.func27 (by kernel_rfl) rfl #[.int .u64 a0_4, .int .u64 a0_0] rfl argt ?_; (with_reducible refine (turnstoneref03_Since.calls k a0_4 a0_0 t325 t326 _ A2.out).mono ?_); rintro e w53 ⟨v327, rfl, ho0, hb⟩; refine ⟨_, rfl, ?_⟩; have HO328 := Aside0.mk (Kd.V_lower (Kd.V_mono (ok' := fun k_ => k_ ≠ gb324) ho0 (fun k_ hk_ => (Kd.freshB (blkt BK324) k_ hk_))) (below_size (belt HB))); replace BK324 := blkb BK324 hb; replace HB := belb HB hb; (try clear hb); (try clear hb2); (try clear hk); (try clear hi); (try clear ho0)) | ((with_reducible refine gate_dst (N := 3) rfl ?_); refine box_event ?hg (N := 3) ?hd (cs := #[.bool false, .slice none 0 0]) (t := 49) ?hr ?_; (case hd => rfl); (case hg => rfl); (case hr => first | (go_simp; done) | (go_simp; rfl)); intro gb329 hg w54 hbox hb; replace HO328 := Aside0.mk (Kd.V_below (Kd.V_elderB (vt HO328) gb329 (Nat.le_of_eq hg.symm)) hb); have BK329 := Aside0.mk (hbox); have GW329 := bels HB hg; have GE329 := bels HB hg; have NB324_329 := blkl BK324 hg; have NB329_324 := blkg BK324 hg; replace BK324 := blkb BK324 hb; replace HB := belb HB hb; clear hb hbox hg; have hnb55 := NB329_324.out; have hnc55 := NB324_329.out; have hcz56_0 : w54.cell? ⟨gb329, 0, none⟩ = some (.bool false) := bc BK329 0; have hcz56_1 : w54.cell? ⟨gb329, 1, none⟩ = some (.slice none 0 0) := bc BK329 1; have hfz56_0 := blk_frozen BK329.out 0; have hfz56_1 := blk_frozen BK329.out 1; obtain ⟨Ao57, co57, eo57⟩ := Kd.V_slice HO328.out; subst eo57))
   have n0_ : Aside0 (Kd.V (Kd.int .i64) 3 ((w54.setCell ⟨gb329, 0, none⟩ (.bool t325)).setCell ⟨gb329, 1, none⟩ (.slice Ao57 t326.length co57)) w.heap.size (fun k_ => k_ ≠ gb324 ∧ k_ ≠ gb329) (.slice Ao57 t326.length co57) t326) := ⟨by (with_reducible repeat (first | apply Kd.V_alloc | apply Kd.V_drewN | apply Kd.V_drew)); exact Kd.V_mono (Kd.V_far (p := ⟨gb329, 1, none⟩) (Kd.V_far (p := ⟨gb329, 0, none⟩) (Kd.V_mono HO328.out (fun k_ hk => (⟨hk, hk.2⟩ : _ ∧ k_ ≠ gb329))) (fun _ hk => hk.2) (.bool t325)) (fun _ hk => hk.2) (.slice Ao57 t326.length co57)) (fun _ hk => ⟨hk.1.1, hk.1.2⟩)⟩
   have n1_ : Aside0 (((w54.setCell ⟨gb329, 0, none⟩ (.bool t325)).setCell ⟨gb329, 1, none⟩ (.slice Ao57 t326.length co57)).heap[gb324]? = some (.cells #[.int .u64 a0_0, .int .u32 a0_1, .int .u32 a0_2, .int .i64 a0_3, .int .u64 a0_4, .int .u32 a0_5, .int .u32 a0_6] 38 (0, 0))) := ⟨by (with_reducible repeat (first | refine blk_drewN ?_ _ | refine blk_drew ?_ | refine blk_alloc ?_ _)); refine blk_far ?_ NB324_329.out _; (with_reducible repeat (first | refine blk_drewN ?_ _ | refine blk_drew ?_ | refine blk_alloc ?_ _)); refine blk_far ?_ NB324_329.out _; exact blkt BK324⟩
   have n2_ : Aside0 (((w54.setCell ⟨gb329, 0, none⟩ (.bool t325)).setCell ⟨gb329, 1, none⟩ (.slice Ao57 t326.length co57)).heap[gb329]? = some (.cells #[.bool t325, .slice Ao57 t326.length co57] 49 (0, 0))) := ⟨by (with_reducible repeat (first | refine blk_drewN ?_ _ | refine blk_drew ?_ | refine blk_alloc ?_ _)); refine blk_put (cs := #[.bool t325, .slice none 0 0]) ?_ 1 _ rfl; (with_reducible repeat (first | refine blk_drewN ?_ _ | refine blk_drew ?_ | refine blk_alloc ?_ _)); refine blk_put (cs := #[.bool false, .slice none 0 0]) ?_ 0 _ rfl; exact blkt BK329⟩
   have n3_ : Aside0 (Below w.heap.size w ((w54.setCell ⟨gb329, 0, none⟩ (.bool t325)).setCell ⟨gb329, 1, none⟩ (.slice Ao57 t326.length co57))) := ⟨belt HB⟩
   (try clear HO328)
   (try clear BK324)
   (try clear BK329)
   (try clear HB)
   generalize ((w54.setCell ⟨gb329, 0, none⟩ (.bool t325)).setCell ⟨gb329, 1, none⟩ (.slice Ao57 t326.length co57)) = w58 at n0_ n1_ n2_ n3_ ⊢
   have HO328 := n0_
   have BK324 := n1_
   have BK329 := n2_
   have HB := n3_
   clear n0_ n1_ n2_ n3_
   replace HO328 := Aside0.mk (Kd.V_drew HO328.out)
   replace BK324 := Aside0.mk (blk_drew BK324.out)
   replace BK329 := Aside0.mk (blk_drew BK329.out)
   replace HB := Aside0.mk (below_drew1 HB.out)
   refine start_ (n := 34) (S := fun w' => w'.cell? ⟨gb324, 0, none⟩ = some (.int .u64 a0_0) ∧ w'.cell? ⟨gb324, 1, none⟩ = some (.int .u32 a0_1) ∧ w'.cell? ⟨gb324, 2, none⟩ = some (.int .u32 a0_2) ∧ w'.cell? ⟨gb324, 3, none⟩ = some (.int .i64 a0_3) ∧ w'.cell? ⟨gb324, 4, none⟩ = some (.int .u64 a0_4) ∧ w'.cell? ⟨gb324, 5, none⟩ = some (.int .u32 a0_5) ∧ w'.cell? ⟨gb324, 6, none⟩ = some (.int .u32 a0_6)) (ds := []) #[false, false, false, false, false, false, false, false, false, false, false, false, false, false, false, false, false, false, false, false, false, false, false, false, false, false, false, false, false, false, false, false, false, false] (by kernel_rfl) rfl rfl ⟨bc BK324 0, bc BK324 1, bc BK324 2, bc BK324 3, bc BK324 4, bc BK324 5, bc BK324 6⟩ (fun hHeld => ?_); refine with_tabW turnstoneref05_Right.tab2 turnstoneref05_Right.bits2 (fun HT_ HW_ => ?_)
   generalize w58.drew = w59 at HO328 BK324 BK329 HB hHeld ⊢
   refine pure_ (i := 0) (N := some 11) (v := ?_) (a' := ?_) #[true, false, false, false, false, false, false, false, false, false, false, false, false, false, false, false, false, false, false, false, false, false, false, false, false, false, false, false, false, false, false, false, false, false] rfl rfl (any_of HT_.out (by kernel_rfl)) (fun _ _ _ h => h) (Or.inl ⟨by rfl, ?_⟩) ?_ ?_
   rotate_left
   ·intro w'
    go_simp
    with_reducible rfl
   rotate_left
   ·simp only [Act.put, List.setIfInBounds_toArray, List.set_cons_zero, List.set_cons_succ, i64_w, i32_w]
    rfl
   refine take_ (i := 1) (N := some 12) (v := ?_) (a' := ?_) #[true, true, false, false, false, false, false, false, false, false, false, false, false, false, false, false, false, false, false, false, false, false, false, false, false, false, false, false, false, false, false, false, false, false] rfl rfl (take_ofW HT_.out HW_.out (by kernel_rfl)) (fun _ _ _ h => h) (Or.inl ⟨by rfl, ?_⟩) hHeld ?_ ?_
   rotate_left
   ·rintro w' ⟨s0, s1, s2, s3, s4, s5, s6⟩
    go_simp
    with_reducible rfl
   rotate_left
   ·simp only [Act.put, List.setIfInBounds_toArray, List.set_cons_zero, List.set_cons_succ, i64_w, i32_w]
    rfl
   refine one_ (i := 2) (N := some 13) #[true, true, true, false, false, false, false, false, false, false, false, false, false, false, false, false, false, false, false, false, false, false, false, false, false, false, false, false, false, false, false, false, false, false] rfl rfl (one_of HT_.out (by kernel_rfl)) (by decide) (fun K hK => ?_)
   refine goes_ Try.func28 (by kernel_rfl) rfl #[.agg #[.int .u64 a0_0, .int .u32 a0_1, .int .u32 a0_2]] (by rfl) rfl rfl argt ?_
   with_reducible refine (turnstoneref04_Right.calls a0_0 a0_1 a0_2 true _ A3.out).mono ?_
   rintro e w60 ⟨rfl, hb⟩
   refine ⟨_, rfl, ?_⟩
   replace HO328 := vb HO328 hb
   replace BK324 := blkb BK324 hb
   replace BK329 := blkb BK329 hb
   replace HB := belb HB hb
   (try clear hb)
   (try clear hb2)
   (try clear hk)
   (try clear hi)
   refine hK.out _ _ ⟨bc BK324 0, bc BK324 1, bc BK324 2, bc BK324 3, bc BK324 4, bc BK324 5, bc BK324 6⟩ (fun hHeld => ?_)
   clear hK K
   refine norm_ (a' := ?_) ?_ ?_
   rotate_left
   ·show Act.put _ (some 13) _ = _
    simp only [Act.put, List.setIfInBounds_toArray, List.set_cons_zero, List.set_cons_succ, i64_w, i32_w]
    rfl
   refine pure_ (i := 3) (N := some 14) (v := ?_) (a' := ?_) #[true, true, true, true, false, false, false, false, false, false, false, false, false, false, false, false, false, false, false, false, false, false, false, false, false, false, false, false, false, false, false, false, false, false] rfl rfl (any_of HT_.out (by kernel_rfl)) (fun _ _ _ h => h) (Or.inl ⟨by rfl, ?_⟩) ?_ ?_
   rotate_left
   ·intro w'
    go_simp
    with_reducible rfl
   rotate_left
   ·simp only [Act.put, List.setIfInBounds_toArray, List.set_cons_zero, List.set_cons_succ, i64_w, i32_w]
    rfl
   refine pure_ (i := 4) (N := some 15) (v := ?_) (a' := ?_) #[true, true, true, true, true, false, false, false, false, false, false, false, false, false, false, false, false, false, false, false, false, false, false, false, false, false, false, false, false, false, false, false, false, false] rfl rfl (any_of HT_.out (by kernel_rfl)) (fun _ _ _ h => h) (Or.inl ⟨by rfl, ?_⟩) ?_ ?_
   rotate_left
   ·intro w'
    go_simp
    with_reducible rfl
   rotate_left
   ·simp only [Act.put, List.setIfInBounds_toArray, List.set_cons_zero, List.set_cons_succ, i64_w, i32_w]
    rfl
   refine take_ (i := 5) (N := some 16) (v := ?_) (a' := ?_) #[true, true, true, true, true, true, false, false, false, false, false, false, false, false, false, false, false, false, false, false, false, false, false, false, false, false, false, false, false, false, false, false, false, false] rfl rfl (take_ofW HT_.out HW_.out (by kernel_rfl)) (fun _ _ _ h => h) (Or.inl ⟨by rfl, ?_⟩) hHeld ?_ ?_
   rotate_left
   ·rintro w' ⟨s0, s1, s2, s3, s4, s5, s6⟩
    go_simp
    with_reducible rfl
   rotate_left
   ·simp only [Act.put, List.setIfInBounds_toArray, List.set_cons_zero, List.set_cons_succ, i64_w, i32_w]
    rfl
   refine one_ (i := 6) (N := some 17) #[true, true, true, true, true, true, true, false, false, false, false, false, false, false, false, false, false, false, false, false, false, false, false, false, false, false, false, false, false, false, false, false, false, false] rfl rfl (one_of HT_.out (by kernel_rfl)) (by decide) (fun K hK => ?_)
   refine goes_ Try.func28 (by kernel_rfl) rfl #[.agg #[.int .u64 a0_4, .int .u32 a0_5, .int .u32 a0_6]] (by rfl) rfl rfl argt ?_
   with_reducible refine (turnstoneref04_Right.calls a0_4 a0_5 a0_6 true _ A5.out).mono ?_
   rintro e w61 ⟨rfl, hb⟩
   refine ⟨_, rfl, ?_⟩
   replace HO328 := vb HO328 hb
   replace BK324 := blkb BK324 hb
   replace BK329 := blkb BK329 hb
   replace HB := belb HB hb
   (try clear hb)
   (try clear hb2)
   (try clear hk)
   (try clear hi)
   refine hK.out _ _ ⟨bc BK324 0, bc BK324 1, bc BK324 2, bc BK324 3, bc BK324 4, bc BK324 5, bc BK324 6⟩ (fun hHeld => ?_)
   clear hK K
   refine norm_ (a' := ?_) ?_ ?_
   rotate_left
   ·show Act.put _ (some 17) _ = _
    simp only [Act.put, List.setIfInBounds_toArray, List.set_cons_zero, List.set_cons_succ, i64_w, i32_w]
    rfl
   refine pure_ (i := 7) (N := some 18) (v := ?_) (a' := ?_) #[true, true, true, true, true, true, true, true, false, false, false, false, false, false, false, false, false, false, false, false, false, false, false, false, false, false, false, false, false, false, false, false, false, false] rfl rfl (any_of HT_.out (by kernel_rfl)) (fun _ _ _ h => h) (Or.inl ⟨by rfl, ?_⟩) ?_ ?_
   rotate_left
   ·intro w'
    go_simp
    with_reducible rfl
   rotate_left
   ·simp only [Act.put, List.setIfInBounds_toArray, List.set_cons_zero, List.set_cons_succ, i64_w, i32_w]
    rfl
   refine pure_ (i := 8) (N := some 19) (v := ?_) (a' := ?_) #[true, true, true, true, true, true, true, true, true, false, false, false, false, false, false, false, false, false, false, false, false, false, false, false, false, false, false, false, false, false, false, false, false, false] rfl rfl (any_of HT_.out (by kernel_rfl)) (fun _ _ _ h => h) (Or.inl ⟨by rfl, ?_⟩) ?_ ?_
   rotate_left
   ·intro w'
    go_simp
    with_reducible rfl
   rotate_left
   ·simp only [Act.put, List.setIfInBounds_toArray, List.set_cons_zero, List.set_cons_succ, i64_w, i32_w]
    rfl
   refine pure_ (i := 9) (N := some 20) (v := ?_) (a' := ?_) #[true, true, true, true, true, true, true, true, true, true, false, false, false, false, false, false, false, false, false, false, false, false, false, false, false, false, false, false, false, false, false, false, false, false] rfl rfl (any_of HT_.out (by kernel_rfl)) (fun _ _ _ h => h) (Or.inl ⟨by rfl, ?_⟩) ?_ ?_
   rotate_left
   ·intro w'
    go_simp
    with_reducible rfl
   rotate_left
   ·simp only [Act.put, List.setIfInBounds_toArray, List.set_cons_zero, List.set_cons_succ, i64_w, i32_w]
    rfl
   refine pure_ (i := 10) (N := some 21) (v := ?_) (a' := ?_) #[true, true, true, true, true, true, true, true, true, true, true, false, false, false, false, false, false, false, false, false, false, false, false, false, false, false, false, false, false, false, false, false, false, false] rfl rfl (any_of HT_.out (by kernel_rfl)) (fun _ _ _ h => h) (Or.inl ⟨by rfl, ?_⟩) ?_ ?_
   rotate_left
   ·intro w'
    go_simp
    with_reducible rfl
   rotate_left
   ·simp only [Act.put, List.setIfInBounds_toArray, List.set_cons_zero, List.set_cons_succ, i64_w, i32_w]
    rfl
   refine pure_ (i := 12) (N := some 23) (v := ?_) (a' := ?_) #[true, true, true, true, true, true, true, true, true, true, true, false, true, false, false, false, false, false, false, false, false, false, false, false, false, false, false, false, false, false, false, false, false, false] rfl rfl (any_of HT_.out (by kernel_rfl)) (fun _ _ _ h => h) (Or.inl ⟨by rfl, ?_⟩) ?_ ?_
   rotate_left
   ·intro w'
    go_simp
    with_reducible rfl
   rotate_left
   ·simp only [Act.put, List.setIfInBounds_toArray, List.set_cons_zero, List.set_cons_succ, i64_w, i32_w]
    rfl
   refine pure_ (i := 13) (N := some 24) (v := ?_) (a' := ?_) #[true, true, true, true, true, true, true, true, true, true, true, false, true, true, false, false, false, false, false, false, false, false, false, false, false, false, false, false, false, false, false, false, false, false] rfl rfl (any_of HT_.out (by kernel_rfl)) (fun _ _ _ h => h) (Or.inl ⟨by rfl, ?_⟩) ?_ ?_
   rotate_left
   ·intro w'
    go_simp
    with_reducible rfl
   rotate_left
   ·simp only [Act.put, List.setIfInBounds_toArray, List.set_cons_zero, List.set_cons_succ, i64_w, i32_w]
    rfl
   refine take_ (i := 11) (N := some 22) (v := ?_) (a' := ?_) #[true, true, true, true, true, true, true, true, true, true, true, true, true, true, false, false, false, false, false, false, false, false, false, false, false, false, false, false, false, false, false, false, false, false] rfl rfl (take_ofW HT_.out HW_.out (by kernel_rfl)) (fun _ _ _ h => h) (Or.inl ⟨by rfl, ?_⟩) hHeld ?_ ?_
   rotate_left
   ·rintro w' ⟨s0, s1, s2, s3, s4, s5, s6⟩
    go_simp
    with_reducible rfl
   rotate_left
   ·simp only [Act.put, List.setIfInBounds_toArray, List.set_cons_zero, List.set_cons_succ, i64_w, i32_w]
    rfl
   refine take_ (i := 14) (N := some 25) (v := ?_) (a' := ?_) #[true, true, true, true, true, true, true, true, true, true, true, true, true, true, true, false, false, false, false, false, false, false, false, false, false, false, false, false, false, false, false, false, false, false] rfl rfl (take_ofW HT_.out HW_.out (by kernel_rfl)) (fun _ _ _ h => h) (Or.inl ⟨by rfl, ?_⟩) hHeld ?_ ?_
   rotate_left
   ·rintro w' ⟨s0, s1, s2, s3, s4, s5, s6⟩
    go_simp
    with_reducible rfl
   rotate_left
   ·simp only [Act.put, List.setIfInBounds_toArray, List.set_cons_zero, List.set_cons_succ, i64_w, i32_w]
    rfl
   refine pure_ (i := 15) (N := some 26) (v := ?_) (a' := ?_) #[true, true, true, true, true, true, true, true, true, true, true, true, true, true, true, true, false, false, false, false, false, false, false, false, false, false, false, false, false, false, false, false, false, false] rfl rfl (any_of HT_.out (by kernel_rfl)) (fun _ _ _ h => h) (Or.inl ⟨by rfl, ?_⟩) ?_ ?_
   rotate_left
   ·intro w'
    go_simp
    with_reducible rfl
   rotate_left
   ·simp only [Act.put, List.setIfInBounds_toArray, List.set_cons_zero, List.set_cons_succ, i64_w, i32_w]
    rfl
   refine pure_ (i := 16) (N := some 27) (v := ?_) (a' := ?_) #[true, true, true, true, true, true, true, true, true, true, true, true, true, true, true, true, true, false, false, false, false, false, false, false, false, false, false, false, false, false, false, false, false, false] rfl rfl (any_of HT_.out (by kernel_rfl)) (fun _ _ _ h => h) (Or.inl ⟨by rfl, ?_⟩) ?_ ?_
   rotate_left
   ·intro w'
    go_simp
    with_reducible rfl
   rotate_left
   ·simp only [Act.put, List.setIfInBounds_toArray, List.set_cons_zero, List.set_cons_succ, i64_w, i32_w]
    rfl
   refine pure_ (i := 17) (N := some 28) (v := ?_) (a' := ?_) #[true, true, true, true, true, true, true, true, true, true, true, true, true, true, true, true, true, true, false, false, false, false, false, false, false, false, false, false, false, false, false, false, false, false] rfl rfl (any_of HT_.out (by kernel_rfl)) (fun _ _ _ h => h) (Or.inl ⟨by rfl, ?_⟩) ?_ ?_
   rotate_left
   ·intro w'
    go_simp
    with_reducible rfl
   rotate_left
   ·simp only [Act.put, List.setIfInBounds_toArray, List.set_cons_zero, List.set_cons_succ, i64_w, i32_w]
    rfl
   refine pure_ (i := 18) (N := some 29) (v := undef) (a' := ?_) #[true, true, true, true, true, true, true, true, true, true, true, true, true, true, true, true, true, true, true, false, false, false, false, false, false, false, false, false, false, false, false, false, false, false] rfl rfl (any_of HT_.out (by kernel_rfl)) (fun _ _ _ h => h) (Or.inr ⟨by rfl, rfl⟩) ?_ ?_
   rotate_left
   ·simp only [Act.put, List.setIfInBounds_toArray, List.set_cons_zero, List.set_cons_succ, i64_w, i32_w]
    rfl
   refine pure_ (i := 19) (N := some 30) (v := undef) (a' := ?_) #[true, true, true, true, true, true, true, true, true, true, true, true, true, true, true, true, true, true, true, true, false, false, false, false, false, false, false, false, false, false, false, false, false, false] rfl rfl (any_of HT_.out (by kernel_rfl)) (fun _ _ _ h => h) (Or.inr ⟨by rfl, rfl⟩) ?_ ?_
   rotate_left
   ·simp only [Act.put, List.setIfInBounds_toArray, List.set_cons_zero, List.set_cons_succ, i64_w, i32_w]
    rfl
   refine pure_ (i := 20) (N := some 31) (v := undef) (a' := ?_) #[true, true, true, true, true, true, true, true, true, true, true, true, true, true, true, true, true, true, true, true, true, false, false, false, false, false, false, false, false, false, false, false, false, false] rfl rfl (any_of HT_.out (by kernel_rfl)) (fun _ _ _ h => h) (Or.inr ⟨by rfl, rfl⟩) ?_ ?_
   rotate_left
   ·simp only [Act.put, List.setIfInBounds_toArray, List.set_cons_zero, List.set_cons_succ, i64_w, i32_w]
    rfl
   refine pure_ (i := 21) (N := some 32) (v := ?_) (a' := ?_) #[true, true, true, true, true, true, true, true, true, true, true, true, true, true, true, true, true, true, true, true, true, true, false, false, false, false, false, false, false, false, false, false, false, false] rfl rfl (any_of HT_.out (by kernel_rfl)) (fun _ _ _ h => h) (Or.inl ⟨by rfl, ?_⟩) ?_ ?_
   rotate_left
   ·intro w'
    go_simp
    with_reducible rfl
   rotate_left
   ·simp only [Act.put, List.setIfInBounds_toArray, List.set_cons_zero, List.set_cons_succ, i64_w, i32_w]
    rfl
   refine pure_ (i := 22) (N := some 33) (v := ?_) (a' := ?_) #[true, true, true, true, true, true, true, true, true, true, true, true, true, true, true, true, true, true, true, true, true, true, true, false, false, false, false, false, false, false, false, false, false, false] rfl rfl (any_of HT_.out (by kernel_rfl)) (fun _ _ _ h => h) (Or.inl ⟨by rfl, ?_⟩) ?_ ?_
   rotate_left
   ·intro w'
    go_simp
    with_reducible rfl
   rotate_left
   ·simp only [Act.put, List.setIfInBounds_toArray, List.set_cons_zero, List.set_cons_succ, i64_w, i32_w]
    rfl
   refine pure_ (i := 23) (N := some 34) (v := undef) (a' := ?_) #[true, true, true, true, true, true, true, true, true, true, true, true, true, true, true, true, true, true, true, true, true, true, true, true, false, false, false, false, false, false, false, false, false, false] rfl rfl (any_of HT_.out (by kernel_rfl)) (fun _ _ _ h => h) (Or.inr ⟨by rfl, rfl⟩) ?_ ?_
   rotate_left
   ·simp only [Act.put, List.setIfInBounds_toArray, List.set_cons_zero, List.set_cons_succ, i64_w, i32_w]
    rfl
   refine pure_ (i := 24) (N := some 35) (v := undef) (a' := ?_) #[true, true, true, true, true, true, true, true, true, true, true, true, true, true, true, true, true, true, true, true, true, true, true, true, true, false, false, false, false, false, false, false, false, false] rfl rfl (any_of HT_.out (by kernel_rfl)) (fun _ _ _ h => h) (Or.inr ⟨by rfl, rfl⟩) ?_ ?_
   rotate_left
   ·simp only [Act.put, List.setIfInBounds_toArray, List.set_cons_zero, List.set_cons_succ, i64_w, i32_w]
    rfl
   refine pure_ (i := 25) (N := some 36) (v := undef) (a' := ?_) #[true, true, true, true, true, true, true, true, true, true, true, true, true, true, true, true, true, true, true, true, true, true, true, true, true, true, false, false, false, false, false, false, false, false] rfl rfl (any_of HT_.out (by kernel_rfl)) (fun _ _ _ h => h) (Or.inr ⟨by rfl, rfl⟩) ?_ ?_
   rotate_left
   ·simp only [Act.put, List.setIfInBounds_toArray, List.set_cons_zero, List.set_cons_succ, i64_w, i32_w]
    rfl
   refine pure_ (i := 26) (N := some 37) (v := ?_) (a' := ?_) #[true, true, true, true, true, true, true, true, true, true, true, true, true, true, true, true, true, true, true, true, true, true, true, true, true, true, true, false, false, false, false, false, false, false] rfl rfl (any_of HT_.out (by kernel_rfl)) (fun _ _ _ h => h) (Or.inl ⟨by rfl, ?_⟩) ?_ ?_
   rotate_left
   ·intro w'
    go_simp
    with_reducible rfl
   rotate_left
   ·simp only [Act.put, List.setIfInBounds_toArray, List.set_cons_zero, List.set_cons_succ, i64_w, i32_w]
    rfl
   refine pure_ (i := 27) (N := some 38) (v := ?_) (a' := ?_) #[true, true, true, true, true, true, true, true, true, true, true, true, true, true, true, true, true, true, true, true, true, true, true, true, true, true, true, true, false, false, false, false, false, false] rfl rfl (any_of HT_.out (by kernel_rfl)) (fun _ _ _ h => h) (Or.inl ⟨by rfl, ?_⟩) ?_ ?_
   rotate_left
   ·intro w'
    go_simp
    with_reducible rfl
   rotate_left
   ·simp only [Act.put, List.setIfInBounds_toArray, List.set_cons_zero, List.set_cons_succ, i64_w, i32_w]
    rfl
   refine pure_ (i := 28) (N := some 39) (v := undef) (a' := ?_) #[true, true, true, true, true, true, true, true, true, true, true, true, true, true, true, true, true, true, true, true, true, true, true, true, true, true, true, true, true, false, false, false, false, false] rfl rfl (any_of HT_.out (by kernel_rfl)) (fun _ _ _ h => h) (Or.inr ⟨by rfl, rfl⟩) ?_ ?_
   rotate_left
   ·simp only [Act.put, List.setIfInBounds_toArray, List.set_cons_zero, List.set_cons_succ, i64_w, i32_w]
    rfl
   refine pure_ (i := 29) (N := some 40) (v := undef) (a' := ?_) #[true, true, true, true, true, true, true, true, true, true, true, true, true, true, true, true, true, true, true, true, true, true, true, true, true, true, true, true, true, true, false, false, false, false] rfl rfl (any_of HT_.out (by kernel_rfl)) (fun _ _ _ h => h) (Or.inr ⟨by rfl, rfl⟩) ?_ ?_
   rotate_left
   ·simp only [Act.put, List.setIfInBounds_toArray, List.set_cons_zero, List.set_cons_succ, i64_w, i32_w]
    rfl
   refine pure_ (i := 30) (N := some 41) (v := undef) (a' := ?_) #[true, true, true, true, true, true, true, true, true, true, true, true, true, true, true, true, true, true, true, true, true, true, true, true, true, true, true, true, true, true, true, false, false, false] rfl rfl (any_of HT_.out (by kernel_rfl)) (fun _ _ _ h => h) (Or.inr ⟨by rfl, rfl⟩) ?_ ?_
   rotate_left
   ·simp only [Act.put, List.setIfInBounds_toArray, List.set_cons_zero, List.set_cons_succ, i64_w, i32_w]
    rfl
   refine pure_ (i := 31) (N := some 42) (v := undef) (a' := ?_) #[true, true, true, true, true, true, true, true, true, true, true, true, true, true, true, true, true, true, true, true, true, true, true, true, true, true, true, true, true, true, true, true, false, false] rfl rfl (any_of HT_.out (by kernel_rfl)) (fun _ _ _ h => h) (Or.inr ⟨by rfl, rfl⟩) ?_ ?_
   rotate_left
   ·simp only [Act.put, List.setIfInBounds_toArray, List.set_cons_zero, List.set_cons_succ, i64_w, i32_w]
    rfl
   refine pure_ (i := 32) (N := some 43) (v := ?_) (a' := ?_) #[true, true, true, true, true, true, true, true, true, true, true, true, true, true, true, true, true, true, true, true, true, true, true, true, true, true, true, true, true, true, true, true, true, false] rfl rfl (any_of HT_.out (by kernel_rfl)) (fun _ _ _ h => h) (Or.inl ⟨by rfl, ?_⟩) ?_ ?_
   rotate_left
   ·intro w'
    go_simp
    with_reducible rfl
   rotate_left
   ·simp only [Act.put, List.setIfInBounds_toArray, List.set_cons_zero, List.set_cons_succ, i64_w, i32_w]
    rfl
   refine pure_ (i := 33) (N := some 2) (v := ?_) (a' := ?_) #[true, true, true, true, true, true, true, true, true, true, true, true, true, true, true, true, true, true, true, true, true, true, true, true, true, true, true, true, true, true, true, true, true, true] rfl rfl (any_of HT_.out (by kernel_rfl)) (fun _ _ _ h => h) (Or.inl ⟨by rfl, ?_⟩) ?_ ?_
   rotate_left
   ·intro w'
    go_simp
    with_reducible rfl
   rotate_left
   ·simp only [Act.put, List.setIfInBounds_toArray, List.set_cons_zero, List.set_cons_succ, i64_w, i32_w]
    rfl
   refine done_ (done_of HT_.out (by kernel_rfl)) ?_
   try go_wp2
   go_ret
   exact ⟨by first | rfl | (simp [errW_none, errW_some] <;> rfl) | (simp [*, errW_none, errW_some] <;> rfl), belt HB⟩
  replace c6 := Bool.eq_false_iff.mpr c6
  subst c6
  have H1 : (some false) = some r := by rw [if_neg (show ¬ (false = true) by decide)] at H; exact H
  clear H
  have H := H1
  clear H1
  obtain rfl := Option.some.inj H
  go_enter Try.func12, Try.ntmps12
  try go_wp2_with (first | ((with_reducible refine gate_dst (N := 1) rfl ?_); refine box_event ?hg (N := 1) ?hd (cs := #[.int .u64 a0_0, .int .u32 a0_1, .int .u32 a0_2, .int .i64 a0_3, .int .u64 a0_4, .int .u32 a0_5, .int .u32 a0_6]) (t := 38) ?hr ?_; (case hd => rfl); (case hg => rfl); (case hr => first | (go_simp; done) | (go_simp; rfl)); intro gb324 hg w62 hbox hb; have BK324 := Aside0.mk (hbox); have GW324 := bels HB hg; have GE324 := bels HB hg; replace HB := belb HB hb; clear hb hbox hg; have hcz63_0 : w62.cell? ⟨gb324, 0, none⟩ = some (.int .u64 a0_0) := bc BK324 0; have hcz63_1 : w62.cell? ⟨gb324, 1, none⟩ = some (.int .u32 a0_1) := bc BK324 1; have hcz63_2 : w62.cell? ⟨gb324, 2, none⟩ = some (.int .u32 a0_2) := bc BK324 2; have hcz63_3 : w62.cell? ⟨gb324, 3, none⟩ = some (.int .i64 a0_3) := bc BK324 3; have hcz63_4 : w62.cell? ⟨gb324, 4, none⟩ = some (.int .u64 a0_4) := bc BK324 4; have hcz63_5 : w62.cell? ⟨gb324, 5, none⟩ = some (.int .u32 a0_5) := bc BK324 5; have hcz63_6 : w62.cell? ⟨gb324, 6, none⟩ = some (.int .u32 a0_6) := bc BK324 6; have hfz63_0 := blk_frozen BK324.out 0; have hfz63_1 := blk_frozen BK324.out 1; have hfz63_2 := blk_frozen BK324.out 2; have hfz63_3 := blk_frozen BK324.out 3; have hfz63_4 := blk_frozen BK324.out 4; have hfz63_5 := blk_frozen BK324.out 5; have hfz63_6 := blk_frozen BK324.out 6) | ((with_reducible refine gate_callee (f := 27) rfl ?_); refine goesL_ (some 10) rfl rfl Try.func27 (by kernel_rfl) rfl #[.int .u64 a0_4, .int .u64 a0_0] rfl argt ?_; (with_reducible refine (turnstoneref03_Since.calls k a0_4 a0_0 t325 t326 _ A2.out).mono ?_); rintro e w64 ⟨v327, rfl, ho0, hb⟩; refine ⟨_, rfl, ?_⟩; have HO328 := Aside0.mk (Kd.V_lower (Kd.V_mono (ok' := fun k_ => k_ ≠ gb324) ho0 (fun k_ hk_ => (Kd.freshB (blkt BK324) k_ hk_))) (below_size (belt HB))); replace BK324 := blkb BK324 hb; replace HB := belb HB hb; (try clear hb); (try clear hb2); (try clear hk); (try clear hi); (try clear ho0)) | ((with_reducible refine gate_dst (N := 3) rfl ?_); refine box_event ?hg (N := 3) ?hd (cs := #[.bool false, .slice none 0 0]) (t := 49) ?hr ?_; (case hd => rfl); (case hg => rfl); (case hr => first | (go_simp; done) | (go_simp; rfl)); intro gb329 hg w65 hbox hb; replace HO328 := Aside0.mk (Kd.V_below (Kd.V_elderB (vt HO328) gb329 (Nat.le_of_eq hg.symm)) hb); have BK329 := Aside0.mk (hbox); have GW329 := bels HB hg; have GE329 := bels HB hg; have NB324_329 := blkl BK324 hg; have NB329_324 := blkg BK324 hg; replace BK324 := blkb BK324 hb; replace HB := belb HB hb; clear hb hbox hg; have hnb66 := NB329_324.out; have hnc66 := NB324_329.out; have hcz67_0 : w65.cell? ⟨gb329, 0, none⟩ = some (.bool false) := bc BK329 0; have hcz67_1 : w65.cell? ⟨gb329, 1, none⟩ = some (.slice none 0 0) := bc BK329 1; have hfz67_0 := blk_frozen BK329.out 0; have hfz67_1 := blk_frozen BK329.out 1; obtain ⟨Ao68, co68, eo68⟩ := Kd.V_slice HO328.out; subst eo68))
  have n0_ : Aside0 (Kd.V (Kd.int .i64) 3 ((w65.setCell ⟨gb329, 0, none⟩ (.bool t325)).setCell ⟨gb329, 1, none⟩ (.slice Ao68 t326.length co68)) w.heap.size (fun k_ => k_ ≠ gb324 ∧ k_ ≠ gb329) (.slice Ao68 t326.length co68) t326) := ⟨by (with_reducible repeat (first | apply Kd.V_alloc | apply Kd.V_drewN | apply Kd.V_drew)); exact Kd.V_mono (Kd.V_far (p := ⟨gb329, 1, none⟩) (Kd.V_far (p := ⟨gb329, 0, none⟩) (Kd.V_mono HO328.out (fun k_ hk => (⟨hk, hk.2⟩ : _ ∧ k_ ≠ gb329))) (fun _ hk => hk.2) (.bool t325)) (fun _ hk => hk.2) (.slice Ao68 t326.length co68)) (fun _ hk => ⟨hk.1.1, hk.1.2⟩)⟩
  have n1_ : Aside0 (((w65.setCell ⟨gb329, 0, none⟩ (.bool t325)).setCell ⟨gb329, 1, none⟩ (.slice Ao68 t326.length co68)).heap[gb324]? = some (.cells #[.int .u64 a0_0, .int .u32 a0_1, .int .u32 a0_2, .int .i64 a0_3, .int .u64 a0_4, .int .u32 a0_5, .int .u32 a0_6] 38 (0, 0))) := ⟨by (with_reducible repeat (first | refine blk_drewN ?_ _ | refine blk_drew ?_ | refine blk_alloc ?_ _)); refine blk_far ?_ NB324_329.out _; (with_reducible repeat (first | refine blk_drewN ?_ _ | refine blk_drew ?_ | refine blk_alloc ?_ _)); refine blk_far ?_ NB324_329.out _; exact blkt BK324⟩
  have n2_ : Aside0 (((w65.setCell ⟨gb329, 0, none⟩ (.bool t325)).setCell ⟨gb329, 1, none⟩ (.slice Ao68 t326.length co68)).heap[gb329]? = some (.cells #[.bool t325, .slice Ao68 t326.length co68] 49 (0, 0))) := ⟨by (with_reducible repeat (first | refine blk_drewN ?_ _ | refine blk_drew ?_ | refine blk_alloc ?_ _)); refine blk_put (cs := #[.bool t325, .slice none 0 0]) ?_ 1 _ rfl; (with_reducible repeat (first | refine blk_drewN ?_ _ | refine blk_drew ?_ | refine blk_alloc ?_ _)); refine blk_put (cs := #[.bool false, .slice none 0 0]) ?_ 0 _ rfl; exact blkt BK329⟩
  have n3_ : Aside0 (Below w.heap.size w ((w65.setCell ⟨gb329, 0, none⟩ (.bool t325)).setCell ⟨gb329, 1, none⟩ (.slice Ao68 t326.length co68))) := ⟨belt HB⟩
  (try clear HO328)
  (try clear BK324)
  (try clear BK329)
  (try clear HB)
  generalize ((w65.setCell ⟨gb329, 0, none⟩ (.bool t325)).setCell ⟨gb329, 1, none⟩ (.slice Ao68 t326.length co68)) = w69 at n0_ n1_ n2_ n3_ ⊢
  have HO328 := n0_
  have BK324 := n1_
  have BK329 := n2_
  have HB := n3_
  clear n0_ n1_ n2_ n3_
  replace HO328 := Aside0.mk (Kd.V_drew HO328.out)
  replace BK324 := Aside0.mk (blk_drew BK324.out)
  replace BK329 := Aside0.mk (blk_drew BK329.out)
  replace HB := Aside0.mk (below_drew1 HB.out)
  refine start_ (n := 34) (S := fun w' => w'.cell? ⟨gb324, 0, none⟩ = some (.int .u64 a0_0) ∧ w'.cell? ⟨gb324, 1, none⟩ = some (.int .u32 a0_1) ∧ w'.cell? ⟨gb324, 2, none⟩ = some (.int .u32 a0_2) ∧ w'.cell? ⟨gb324, 3, none⟩ = some (.int .i64 a0_3) ∧ w'.cell? ⟨gb324, 4, none⟩ = some (.int .u64 a0_4) ∧ w'.cell? ⟨gb324, 5, none⟩ = some (.int .u32 a0_5) ∧ w'.cell? ⟨gb324, 6, none⟩ = some (.int .u32 a0_6)) (ds := []) #[false, false, false, false, false, false, false, false, false, false, false, false, false, false, false, false, false, false, false, false, false, false, false, false, false, false, false, false, false, false, false, false, false, false] (by kernel_rfl) rfl rfl ⟨bc BK324 0, bc BK324 1, bc BK324 2, bc BK324 3, bc BK324 4, bc BK324 5, bc BK324 6⟩ (fun hHeld => ?_); refine with_tabW turnstoneref05_Right.tab2 turnstoneref05_Right.bits2 (fun HT_ HW_ => ?_)
  generalize w69.drew = w70 at HO328 BK324 BK329 HB hHeld ⊢
  refine pure_ (i := 0) (N := some 11) (v := ?_) (a' := ?_) #[true, false, false, false, false, false, false, false, false, false, false, false, false, false, false, false, false, false, false, false, false, false, false, false, false, false, false, false, false, false, false, false, false, false] rfl rfl (any_of HT_.out (by kernel_rfl)) (fun _ _ _ h => h) (Or.inl ⟨by rfl, ?_⟩) ?_ ?_
  rotate_left
  ·intro w'
   go_simp
   with_reducible rfl
  rotate_left
  ·simp only [Act.put, List.setIfInBounds_toArray, List.set_cons_zero, List.set_cons_succ, i64_w, i32_w]
   rfl
  refine take_ (i := 1) (N := some 12) (v := ?_) (a' := ?_) #[true, true, false, false, false, false, false, false, false, false, false, false, false, false, false, false, false, false, false, false, false, false, false, false, false, false, false, false, false, false, false, false, false, false] rfl rfl (take_ofW HT_.out HW_.out (by kernel_rfl)) (fun _ _ _ h => h) (Or.inl ⟨by rfl, ?_⟩) hHeld ?_ ?_
  rotate_left
  ·rintro w' ⟨s0, s1, s2, s3, s4, s5, s6⟩
   go_simp
   with_reducible rfl
  rotate_left
  ·simp only [Act.put, List.setIfInBounds_toArray, List.set_cons_zero, List.set_cons_succ, i64_w, i32_w]
   rfl
  refine one_ (i := 2) (N := some 13) #[true, true, true, false, false, false, false, false, false, false, false, false, false, false, false, false, false, false, false, false, false, false, false, false, false, false, false, false, false, false, false, false, false, false] rfl rfl (one_of HT_.out (by kernel_rfl)) (by decide) (fun K hK => ?_)
  refine goes_ Try.func28 (by kernel_rfl) rfl #[.agg #[.int .u64 a0_0, .int .u32 a0_1, .int .u32 a0_2]] (by rfl) rfl rfl argt ?_
  with_reducible refine (turnstoneref04_Right.calls a0_0 a0_1 a0_2 true _ A3.out).mono ?_
  rintro e w71 ⟨rfl, hb⟩
  refine ⟨_, rfl, ?_⟩
  replace HO328 := vb HO328 hb
  replace BK324 := blkb BK324 hb
  replace BK329 := blkb BK329 hb
  replace HB := belb HB hb
  (try clear hb)
  (try clear hb2)
  (try clear hk)
  (try clear hi)
  refine hK.out _ _ ⟨bc BK324 0, bc BK324 1, bc BK324 2, bc BK324 3, bc BK324 4, bc BK324 5, bc BK324 6⟩ (fun hHeld => ?_)
  clear hK K
  refine norm_ (a' := ?_) ?_ ?_
  rotate_left
  ·show Act.put _ (some 13) _ = _
   simp only [Act.put, List.setIfInBounds_toArray, List.set_cons_zero, List.set_cons_succ, i64_w, i32_w]
   rfl
  refine pure_ (i := 3) (N := some 14) (v := ?_) (a' := ?_) #[true, true, true, true, false, false, false, false, false, false, false, false, false, false, false, false, false, false, false, false, false, false, false, false, false, false, false, false, false, false, false, false, false, false] rfl rfl (any_of HT_.out (by kernel_rfl)) (fun _ _ _ h => h) (Or.inl ⟨by rfl, ?_⟩) ?_ ?_
  rotate_left
  ·intro w'
   go_simp
   with_reducible rfl
  rotate_left
  ·simp only [Act.put, List.setIfInBounds_toArray, List.set_cons_zero, List.set_cons_succ, i64_w, i32_w]
   rfl
  refine pure_ (i := 4) (N := some 15) (v := ?_) (a' := ?_) #[true, true, true, true, true, false, false, false, false, false, false, false, false, false, false, false, false, false, false, false, false, false, false, false, false, false, false, false, false, false, false, false, false, false] rfl rfl (any_of HT_.out (by kernel_rfl)) (fun _ _ _ h => h) (Or.inl ⟨by rfl, ?_⟩) ?_ ?_
  rotate_left
  ·intro w'
   go_simp
   with_reducible rfl
  rotate_left
  ·simp only [Act.put, List.setIfInBounds_toArray, List.set_cons_zero, List.set_cons_succ, i64_w, i32_w]
   rfl
  refine take_ (i := 5) (N := some 16) (v := ?_) (a' := ?_) #[true, true, true, true, true, true, false, false, false, false, false, false, false, false, false, false, false, false, false, false, false, false, false, false, false, false, false, false, false, false, false, false, false, false] rfl rfl (take_ofW HT_.out HW_.out (by kernel_rfl)) (fun _ _ _ h => h) (Or.inl ⟨by rfl, ?_⟩) hHeld ?_ ?_
  rotate_left
  ·rintro w' ⟨s0, s1, s2, s3, s4, s5, s6⟩
   go_simp
   with_reducible rfl
  rotate_left
  ·simp only [Act.put, List.setIfInBounds_toArray, List.set_cons_zero, List.set_cons_succ, i64_w, i32_w]
   rfl
  refine one_ (i := 6) (N := some 17) #[true, true, true, true, true, true, true, false, false, false, false, false, false, false, false, false, false, false, false, false, false, false, false, false, false, false, false, false, false, false, false, false, false, false] rfl rfl (one_of HT_.out (by kernel_rfl)) (by decide) (fun K hK => ?_)
  refine goes_ Try.func28 (by kernel_rfl) rfl #[.agg #[.int .u64 a0_4, .int .u32 a0_5, .int .u32 a0_6]] (by rfl) rfl rfl argt ?_
  with_reducible refine (turnstoneref04_Right.calls a0_4 a0_5 a0_6 false _ A5.out).mono ?_
  rintro e w72 ⟨rfl, hb⟩
  refine ⟨_, rfl, ?_⟩
  replace HO328 := vb HO328 hb
  replace BK324 := blkb BK324 hb
  replace BK329 := blkb BK329 hb
  replace HB := belb HB hb
  (try clear hb)
  (try clear hb2)
  (try clear hk)
  (try clear hi)
  refine hK.out _ _ ⟨bc BK324 0, bc BK324 1, bc BK324 2, bc BK324 3, bc BK324 4, bc BK324 5, bc BK324 6⟩ (fun hHeld => ?_)
  clear hK K
  refine norm_ (a' := ?_) ?_ ?_
  rotate_left
  ·show Act.put _ (some 17) _ = _
   simp only [Act.put, List.setIfInBounds_toArray, List.set_cons_zero, List.set_cons_succ, i64_w, i32_w]
   rfl
  refine pure_ (i := 7) (N := some 18) (v := ?_) (a' := ?_) #[true, true, true, true, true, true, true, true, false, false, false, false, false, false, false, false, false, false, false, false, false, false, false, false, false, false, false, false, false, false, false, false, false, false] rfl rfl (any_of HT_.out (by kernel_rfl)) (fun _ _ _ h => h) (Or.inl ⟨by rfl, ?_⟩) ?_ ?_
  rotate_left
  ·intro w'
   go_simp
   with_reducible rfl
  rotate_left
  ·simp only [Act.put, List.setIfInBounds_toArray, List.set_cons_zero, List.set_cons_succ, i64_w, i32_w]
   rfl
  refine pure_ (i := 8) (N := some 19) (v := ?_) (a' := ?_) #[true, true, true, true, true, true, true, true, true, false, false, false, false, false, false, false, false, false, false, false, false, false, false, false, false, false, false, false, false, false, false, false, false, false] rfl rfl (any_of HT_.out (by kernel_rfl)) (fun _ _ _ h => h) (Or.inl ⟨by rfl, ?_⟩) ?_ ?_
  rotate_left
  ·intro w'
   go_simp
   with_reducible rfl
  rotate_left
  ·simp only [Act.put, List.setIfInBounds_toArray, List.set_cons_zero, List.set_cons_succ, i64_w, i32_w]
   rfl
  refine pure_ (i := 9) (N := some 20) (v := undef) (a' := ?_) #[true, true, true, true, true, true, true, true, true, true, false, false, false, false, false, false, false, false, false, false, false, false, false, false, false, false, false, false, false, false, false, false, false, false] rfl rfl (any_of HT_.out (by kernel_rfl)) (fun _ _ _ h => h) (Or.inr ⟨by rfl, rfl⟩) ?_ ?_
  rotate_left
  ·simp only [Act.put, List.setIfInBounds_toArray, List.set_cons_zero, List.set_cons_succ, i64_w, i32_w]
   rfl
  refine pure_ (i := 10) (N := some 21) (v := undef) (a' := ?_) #[true, true, true, true, true, true, true, true, true, true, true, false, false, false, false, false, false, false, false, false, false, false, false, false, false, false, false, false, false, false, false, false, false, false] rfl rfl (any_of HT_.out (by kernel_rfl)) (fun _ _ _ h => h) (Or.inr ⟨by rfl, rfl⟩) ?_ ?_
  rotate_left
  ·simp only [Act.put, List.setIfInBounds_toArray, List.set_cons_zero, List.set_cons_succ, i64_w, i32_w]
   rfl
  refine pure_ (i := 11) (N := some 22) (v := undef) (a' := ?_) #[true, true, true, true, true, true, true, true, true, true, true, true, false, false, false, false, false, false, false, false, false, false, false, false, false, false, false, false, false, false, false, false, false, false] rfl rfl (any_of HT_.out (by kernel_rfl)) (fun _ _ _ h => h) (Or.inr ⟨by rfl, rfl⟩) ?_ ?_
  rotate_left
  ·simp only [Act.put, List.setIfInBounds_toArray, List.set_cons_zero, List.set_cons_succ, i64_w, i32_w]
   rfl
  refine pure_ (i := 12) (N := some 23) (v := undef) (a' := ?_) #[true, true, true, true, true, true, true, true, true, true, true, true, true, false, false, false, false, false, false, false, false, false, false, false, false, false, false, false, false, false, false, false, false, false] rfl rfl (any_of HT_.out (by kernel_rfl)) (fun _ _ _ h => h) (Or.inr ⟨by rfl, rfl⟩) ?_ ?_
  rotate_left
  ·simp only [Act.put, List.setIfInBounds_toArray, List.set_cons_zero, List.set_cons_succ, i64_w, i32_w]
   rfl
  refine pure_ (i := 13) (N := some 24) (v := undef) (a' := ?_) #[true, true, true, true, true, true, true, true, true, true, true, true, true, true, false, false, false, false, false, false, false, false, false, false, false, false, false, false, false, false, false, false, false, false] rfl rfl (any_of HT_.out (by kernel_rfl)) (fun _ _ _ h => h) (Or.inr ⟨by rfl, rfl⟩) ?_ ?_
  rotate_left
  ·simp only [Act.put, List.setIfInBounds_toArray, List.set_cons_zero, List.set_cons_succ, i64_w, i32_w]
   rfl
  refine pure_ (i := 14) (N := some 25) (v := undef) (a' := ?_) #[true, true, true, true, true, true, true, true, true, true, true, true, true, true, true, false, false, false, false, false, false, false, false, false, false, false, false, false, false, false, false, false, false, false] rfl rfl (any_of HT_.out (by kernel_rfl)) (fun _ _ _ h => h) (Or.inr ⟨by rfl, rfl⟩) ?_ ?_
  rotate_left
  ·simp only [Act.put, List.setIfInBounds_toArray, List.set_cons_zero, List.set_cons_succ, i64_w, i32_w]
   rfl
  refine pure_ (i := 15) (N := some 26) (v := undef) (a' := ?_) #[true, true, true, true, true, true, true, true, true, true, true, true, true, true, true, true, false, false, false, false, false, false, false, false, false, false, false, false, false, false, false, false, false, false] rfl rfl (any_of HT_.out (by kernel_rfl)) (fun _ _ _ h => h) (Or.inr ⟨by rfl, rfl⟩) ?_ ?_
  rotate_left
  ·simp only [Act.put, List.setIfInBounds_toArray, List.set_cons_zero, List.set_cons_succ, i64_w, i32_w]
   rfl
  refine pure_ (i := 16) (N := some 27) (v := ?_) (a' := ?_) #[true, true, true, true, true, true, true, true, true, true, true, true, true, true, true, true, true, false, false, false, false, false, false, false, false, false, false, false, false, false, false, false, false, false] rfl rfl (any_of HT_.out (by kernel_rfl)) (fun _ _ _ h => h) (Or.inl ⟨by rfl, ?_⟩) ?_ ?_
  rotate_left
  ·intro w'
   go_simp
   with_reducible rfl
  rotate_left
  ·simp only [Act.put, List.setIfInBounds_toArray, List.set_cons_zero, List.set_cons_succ, i64_w, i32_w]
   rfl
  refine pure_ (i := 17) (N := some 28) (v := ?_) (a' := ?_) #[true, true, true, true, true, true, true, true, true, true, true, true, true, true, true, true, true, true, false, false, false, false, false, false, false, false, false, false, false, false, false, false, false, false] rfl rfl (any_of HT_.out (by kernel_rfl)) (fun _ _ _ h => h) (Or.inl ⟨by rfl, ?_⟩) ?_ ?_
  rotate_left
  ·intro w'
   go_simp
   with_reducible rfl
  rotate_left
  ·simp only [Act.put, List.setIfInBounds_toArray, List.set_cons_zero, List.set_cons_succ, i64_w, i32_w]
   rfl
  refine pure_ (i := 18) (N := some 29) (v := undef) (a' := ?_) #[true, true, true, true, true, true, true, true, true, true, true, true, true, true, true, true, true, true, true, false, false, false, false, false, false, false, false, false, false, false, false, false, false, false] rfl rfl (any_of HT_.out (by kernel_rfl)) (fun _ _ _ h => h) (Or.inr ⟨by rfl, rfl⟩) ?_ ?_
  rotate_left
  ·simp only [Act.put, List.setIfInBounds_toArray, List.set_cons_zero, List.set_cons_succ, i64_w, i32_w]
   rfl
  refine pure_ (i := 19) (N := some 30) (v := undef) (a' := ?_) #[true, true, true, true, true, true, true, true, true, true, true, true, true, true, true, true, true, true, true, true, false, false, false, false, false, false, false, false, false, false, false, false, false, false] rfl rfl (any_of HT_.out (by kernel_rfl)) (fun _ _ _ h => h) (Or.inr ⟨by rfl, rfl⟩) ?_ ?_
  rotate_left
  ·simp only [Act.put, List.setIfInBounds_toArray, List.set_cons_zero, List.set_cons_succ, i64_w, i32_w]
   rfl
  refine pure_ (i := 20) (N := some 31) (v := undef) (a' := ?_) #[true, true, true, true, true, true, true, true, true, true, true, true, true, true, true, true, true, true, true, true, true, false, false, false, false, false, false, false, false, false, false, false, false, false] rfl rfl (any_of HT_.out (by kernel_rfl)) (fun _ _ _ h => h) (Or.inr ⟨by rfl, rfl⟩) ?_ ?_
  rotate_left
  ·simp only [Act.put, List.setIfInBounds_toArray, List.set_cons_zero, List.set_cons_succ, i64_w, i32_w]
   rfl
  refine pure_ (i := 21) (N := some 32) (v := ?_) (a' := ?_) #[true, true, true, true, true, true, true, true, true, true, true, true, true, true, true, true, true, true, true, true, true, true, false, false, false, false, false, false, false, false, false, false, false, false] rfl rfl (any_of HT_.out (by kernel_rfl)) (fun _ _ _ h => h) (Or.inl ⟨by rfl, ?_⟩) ?_ ?_
  rotate_left
  ·intro w'
   go_simp
   with_reducible rfl
  rotate_left
  ·simp only [Act.put, List.setIfInBounds_toArray, List.set_cons_zero, List.set_cons_succ, i64_w, i32_w]
   rfl
  refine pure_ (i := 22) (N := some 33) (v := ?_) (a' := ?_) #[true, true, true, true, true, true, true, true, true, true, true, true, true, true, true, true, true, true, true, true, true, true, true, false, false, false, false, false, false, false, false, false, false, false] rfl rfl (any_of HT_.out (by kernel_rfl)) (fun _ _ _ h => h) (Or.inl ⟨by rfl, ?_⟩) ?_ ?_
  rotate_left
  ·intro w'
   go_simp
   with_reducible rfl
  rotate_left
  ·simp only [Act.put, List.setIfInBounds_toArray, List.set_cons_zero, List.set_cons_succ, i64_w, i32_w]
   rfl
  refine pure_ (i := 23) (N := some 34) (v := undef) (a' := ?_) #[true, true, true, true, true, true, true, true, true, true, true, true, true, true, true, true, true, true, true, true, true, true, true, true, false, false, false, false, false, false, false, false, false, false] rfl rfl (any_of HT_.out (by kernel_rfl)) (fun _ _ _ h => h) (Or.inr ⟨by rfl, rfl⟩) ?_ ?_
  rotate_left
  ·simp only [Act.put, List.setIfInBounds_toArray, List.set_cons_zero, List.set_cons_succ, i64_w, i32_w]
   rfl
  refine pure_ (i := 24) (N := some 35) (v := undef) (a' := ?_) #[true, true, true, true, true, true, true, true, true, true, true, true, true, true, true, true, true, true, true, true, true, true, true, true, true, false, false, false, false, false, false, false, false, false] rfl rfl (any_of HT_.out (by kernel_rfl)) (fun _ _ _ h => h) (Or.inr ⟨by rfl, rfl⟩) ?_ ?_
  rotate_left
  ·simp only [Act.put, List.setIfInBounds_toArray, List.set_cons_zero, List.set_cons_succ, i64_w, i32_w]
   rfl
  refine pure_ (i := 25) (N := some 36) (v := undef) (a' := ?_) #[true, true, true, true, true, true, true, true, true, true, true, true, true, true, true, true, true, true, true, true, true, true, true, true, true, true, false, false, false, false, false, false, false, false] rfl rfl (any_of HT_.out (by kernel_rfl)) (fun _ _ _ h => h) (Or.inr ⟨by rfl, rfl⟩) ?_ ?_
  rotate_left
  ·simp only [Act.put, List.setIfInBounds_toArray, List.set_cons_zero, List.set_cons_succ, i64_w, i32_w]
   rfl
  refine pure_ (i := 26) (N := some 37) (v := ?_) (a' := ?_) #[true, true, true, true, true, true, true, true, true, true, true, true, true, true, true, true, true, true, true, true, true, true, true, true, true, true, true, false, false, false, false, false, false, false] rfl rfl (any_of HT_.out (by kernel_rfl)) (fun _ _ _ h => h) (Or.inl ⟨by rfl, ?_⟩) ?_ ?_
  rotate_left
  ·intro w'
   go_simp
   with_reducible rfl
  rotate_left
  ·simp only [Act.put, List.setIfInBounds_toArray, List.set_cons_zero, List.set_cons_succ, i64_w, i32_w]
   rfl
  refine pure_ (i := 27) (N := some 38) (v := ?_) (a' := ?_) #[true, true, true, true, true, true, true, true, true, true, true, true, true, true, true, true, true, true, true, true, true, true, true, true, true, true, true, true, false, false, false, false, false, false] rfl rfl (any_of HT_.out (by kernel_rfl)) (fun _ _ _ h => h) (Or.inl ⟨by rfl, ?_⟩) ?_ ?_
  rotate_left
  ·intro w'
   go_simp
   with_reducible rfl
  rotate_left
  ·simp only [Act.put, List.setIfInBounds_toArray, List.set_cons_zero, List.set_cons_succ, i64_w, i32_w]
   rfl
  refine pure_ (i := 28) (N := some 39) (v := undef) (a' := ?_) #[true, true, true, true, true, true, true, true, true, true, true, true, true, true, true, true, true, true, true, true, true, true, true, true, true, true, true, true, true, false, false, false, false, false] rfl rfl (any_of HT_.out (by kernel_rfl)) (fun _ _ _ h => h) (Or.inr ⟨by rfl, rfl⟩) ?_ ?_
  rotate_left
  ·simp only [Act.put, List.setIfInBounds_toArray, List.set_cons_zero, List.set_cons_succ, i64_w, i32_w]
   rfl
  refine pure_ (i := 29) (N := some 40) (v := undef) (a' := ?_) #[true, true, true, true, true, true, true, true, true, true, true, true, true, true, true, true, true, true, true, true, true, true, true, true, true, true, true, true, true, true, false, false, false, false] rfl rfl (any_of HT_.out (by kernel_rfl)) (fun _ _ _ h => h) (Or.inr ⟨by rfl, rfl⟩) ?_ ?_
  rotate_left
  ·simp only [Act.put, List.setIfInBounds_toArray, List.set_cons_zero, List.set_cons_succ, i64_w, i32_w]
   rfl
  refine pure_ (i := 30) (N := some 41) (v := undef) (a' := ?_) #[true, true, true, true, true, true, true, true, true, true, true, true, true, true, true, true, true, true, true, true, true, true, true, true, true, true, true, true, true, true, true, false, false, false] rfl rfl (any_of HT_.out (by kernel_rfl)) (fun _ _ _ h => h) (Or.inr ⟨by rfl, rfl⟩) ?_ ?_
  rotate_left
  ·simp only [Act.put, List.setIfInBounds_toArray, List.set_cons_zero, List.set_cons_succ, i64_w, i32_w]
   rfl
  refine pure_ (i := 31) (N := some 42) (v := undef) (a' := ?_) #[true, true, true, true, true, true, true, true, true, true, true, true, true, true, true, true, true, true, true, true, true, true, true, true, true, true, true, true, true, true, true, true, false, false] rfl rfl (any_of HT_.out (by kernel_rfl)) (fun _ _ _ h => h) (Or.inr ⟨by rfl, rfl⟩) ?_ ?_
  rotate_left
  ·simp only [Act.put, List.setIfInBounds_toArray, List.set_cons_zero, List.set_cons_succ, i64_w, i32_w]
   rfl
  refine pure_ (i := 32) (N := some 43) (v := ?_) (a' := ?_) #[true, true, true, true, true, true, true, true, true, true, true, true, true, true, true, true, true, true, true, true, true, true, true, true, true, true, true, true, true, true, true, true, true, false] rfl rfl (any_of HT_.out (by kernel_rfl)) (fun _ _ _ h => h) (Or.inl ⟨by rfl, ?_⟩) ?_ ?_
  rotate_left
  ·intro w'
   go_simp
   with_reducible rfl
  rotate_left
  ·simp only [Act.put, List.setIfInBounds_toArray, List.set_cons_zero, List.set_cons_succ, i64_w, i32_w]
   rfl
  refine pure_ (i := 33) (N := some 2) (v := ?_) (a' := ?_) #[true, true, true, true, true, true, true, true, true, true, true, true, true, true, true, true, true, true, true, true, true, true, true, true, true, true, true, true, true, true, true, true, true, true] rfl rfl (any_of HT_.out (by kernel_rfl)) (fun _ _ _ h => h) (Or.inl ⟨by rfl, ?_⟩) ?_ ?_
  rotate_left
  ·intro w'
   go_simp
   with_reducible rfl
  rotate_left
  ·simp only [Act.put, List.setIfInBounds_toArray, List.set_cons_zero, List.set_cons_succ, i64_w, i32_w]
   rfl
  refine done_ (done_of HT_.out (by kernel_rfl)) ?_
  try go_wp2
  go_ret
  exact ⟨by first | rfl | (simp [errW_none, errW_some] <;> rfl) | (simp [*, errW_none, errW_some] <;> rfl), belt HB⟩
 replace c4 := Bool.eq_false_iff.mpr c4
 subst c4
 have H1 : (some false) = some r := by rw [if_neg (show ¬ (false = true) by decide)] at H; exact H
 clear H
 have H := H1
 clear H1
 obtain rfl := Option.some.inj H
 go_enter Try.func12, Try.ntmps12
 try go_wp2_with (first | ((with_reducible refine gate_dst (N := 1) rfl ?_); refine box_event ?hg (N := 1) ?hd (cs := #[.int .u64 a0_0, .int .u32 a0_1, .int .u32 a0_2, .int .i64 a0_3, .int .u64 a0_4, .int .u32 a0_5, .int .u32 a0_6]) (t := 38) ?hr ?_; (case hd => rfl); (case hg => rfl); (case hr => first | (go_simp; done) | (go_simp; rfl)); intro gb324 hg w73 hbox hb; have BK324 := Aside0.mk (hbox); have GW324 := bels HB hg; have GE324 := bels HB hg; replace HB := belb HB hb; clear hb hbox hg; have hcz74_0 : w73.cell? ⟨gb324, 0, none⟩ = some (.int .u64 a0_0) := bc BK324 0; have hcz74_1 : w73.cell? ⟨gb324, 1, none⟩ = some (.int .u32 a0_1) := bc BK324 1; have hcz74_2 : w73.cell? ⟨gb324, 2, none⟩ = some (.int .u32 a0_2) := bc BK324 2; have hcz74_3 : w73.cell? ⟨gb324, 3, none⟩ = some (.int .i64 a0_3) := bc BK324 3; have hcz74_4 : w73.cell? ⟨gb324, 4, none⟩ = some (.int .u64 a0_4) := bc BK324 4; have hcz74_5 : w73.cell? ⟨gb324, 5, none⟩ = some (.int .u32 a0_5) := bc BK324 5; have hcz74_6 : w73.cell? ⟨gb324, 6, none⟩ = some (.int .u32 a0_6) := bc BK324 6; have hfz74_0 := blk_frozen BK324.out 0; have hfz74_1 := blk_frozen BK324.out 1; have hfz74_2 := blk_frozen BK324.out 2; have hfz74_3 := blk_frozen BK324.out 3; have hfz74_4 := blk_frozen BK324.out 4; have hfz74_5 := blk_frozen BK324.out 5; have hfz74_6 := blk_frozen BK324.out 6) | ((with_reducible refine gate_callee (f := 27) rfl ?_); refine goesL_ (some 10) rfl rfl Try.func27 (by kernel_rfl) rfl #[.int .u64 a0_4, .int .u64 a0_0] rfl argt ?_; (with_reducible refine (turnstoneref03_Since.calls k a0_4 a0_0 t325 t326 _ A2.out).mono ?_); rintro e w75 ⟨v327, rfl, ho0, hb⟩; refine ⟨_, rfl, ?_⟩; have HO328 := Aside0.mk (Kd.V_lower (Kd.V_mono (ok' := fun k_ => k_ ≠ gb324) ho0 (fun k_ hk_ => (Kd.freshB (blkt BK324) k_ hk_))) (below_size (belt HB))); replace BK324 := blkb BK324 hb; replace HB := belb HB hb; (try clear hb); (try clear hb2); (try clear hk); (try clear hi); (try clear ho0)) | ((with_reducible refine gate_dst (N := 3) rfl ?_); refine box_event ?hg (N := 3) ?hd (cs := #[.bool false, .slice none 0 0]) (t := 49) ?hr ?_; (case hd => rfl); (case hg => rfl); (case hr => first | (go_simp; done) | (go_simp; rfl)); intro gb329 hg w76 hbox hb; replace HO328 := Aside0.mk (Kd.V_below (Kd.V_elderB (vt HO328) gb329 (Nat.le_of_eq hg.symm)) hb); have BK329 := Aside0.mk (hbox); have GW329 := bels HB hg; have GE329 := bels HB hg; have NB324_329 := blkl BK324 hg; have NB329_324 := blkg BK324 hg; replace BK324 := blkb BK324 hb; replace HB := belb HB hb; clear hb hbox hg; have hnb77 := NB329_324.out; have hnc77 := NB324_329.out; have hcz78_0 : w76.cell? ⟨gb329, 0, none⟩ = some (.bool false) := bc BK329 0; have hcz78_1 : w76.cell? ⟨gb329, 1, none⟩ = some (.slice none 0 0) := bc BK329 1; have hfz78_0 := blk_frozen BK329.out 0; have hfz78_1 := blk_frozen BK329.out 1; obtain ⟨Ao79, co79, eo79⟩ := Kd.V_slice HO328.out; subst eo79))
 have n0_ : Aside0 (Kd.V (Kd.int .i64) 3 ((w76.setCell ⟨gb329, 0, none⟩ (.bool t325)).setCell ⟨gb329, 1, none⟩ (.slice Ao79 t326.length co79)) w.heap.size (fun k_ => k_ ≠ gb324 ∧ k_ ≠ gb329) (.slice Ao79 t326.length co79) t326) := ⟨by (with_reducible repeat (first | apply Kd.V_alloc | apply Kd.V_drewN | apply Kd.V_drew)); exact Kd.V_mono (Kd.V_far (p := ⟨gb329, 1, none⟩) (Kd.V_far (p := ⟨gb329, 0, none⟩) (Kd.V_mono HO328.out (fun k_ hk => (⟨hk, hk.2⟩ : _ ∧ k_ ≠ gb329))) (fun _ hk => hk.2) (.bool t325)) (fun _ hk => hk.2) (.slice Ao79 t326.length co79)) (fun _ hk => ⟨hk.1.1, hk.1.2⟩)⟩
 have n1_ : Aside0 (((w76.setCell ⟨gb329, 0, none⟩ (.bool t325)).setCell ⟨gb329, 1, none⟩ (.slice Ao79 t326.length co79)).heap[gb324]? = some (.cells #[.int .u64 a0_0, .int .u32 a0_1, .int .u32 a0_2, .int .i64 a0_3, .int .u64 a0_4, .int .u32 a0_5, .int .u32 a0_6] 38 (0, 0))) := ⟨by (with_reducible repeat (first | refine blk_drewN ?_ _ | refine blk_drew ?_ | refine blk_alloc ?_ _)); refine blk_far ?_ NB324_329.out _; (with_reducible repeat (first | refine blk_drewN ?_ _ | refine blk_drew ?_ | refine blk_alloc ?_ _)); refine blk_far ?_ NB324_329.out _; exact blkt BK324⟩
 have n2_ : Aside0 (((w76.setCell ⟨gb329, 0, none⟩ (.bool t325)).setCell ⟨gb329, 1, none⟩ (.slice Ao79 t326.length co79)).heap[gb329]? = some (.cells #[.bool t325, .slice Ao79 t326.length co79] 49 (0, 0))) := ⟨by (with_reducible repeat (first | refine blk_drewN ?_ _ | refine blk_drew ?_ | refine blk_alloc ?_ _)); refine blk_put (cs := #[.bool t325, .slice none 0 0]) ?_ 1 _ rfl; (with_reducible repeat (first | refine blk_drewN ?_ _ | refine blk_drew ?_ | refine blk_alloc ?_ _)); refine blk_put (cs := #[.bool false, .slice none 0 0]) ?_ 0 _ rfl; exact blkt BK329⟩
 have n3_ : Aside0 (Below w.heap.size w ((w76.setCell ⟨gb329, 0, none⟩ (.bool t325)).setCell ⟨gb329, 1, none⟩ (.slice Ao79 t326.length co79))) := ⟨belt HB⟩
 (try clear HO328)
 (try clear BK324)
 (try clear BK329)
 (try clear HB)
 generalize ((w76.setCell ⟨gb329, 0, none⟩ (.bool t325)).setCell ⟨gb329, 1, none⟩ (.slice Ao79 t326.length co79)) = w80 at n0_ n1_ n2_ n3_ ⊢
 have HO328 := n0_
 have BK324 := n1_
 have BK329 := n2_
 have HB := n3_
 clear n0_ n1_ n2_ n3_
 replace HO328 := Aside0.mk (Kd.V_drew HO328.out)
 replace BK324 := Aside0.mk (blk_drew BK324.out)
 replace BK329 := Aside0.mk (blk_drew BK329.out)
 replace HB := Aside0.mk (below_drew1 HB.out)
 refine start_ (n := 34) (S := fun w' => w'.cell? ⟨gb324, 0, none⟩ = some (.int .u64 a0_0) ∧ w'.cell? ⟨gb324, 1, none⟩ = some (.int .u32 a0_1) ∧ w'.cell? ⟨gb324, 2, none⟩ = some (.int .u32 a0_2) ∧ w'.cell? ⟨gb324, 3, none⟩ = some (.int .i64 a0_3) ∧ w'.cell? ⟨gb324, 4, none⟩ = some (.int .u64 a0_4) ∧ w'.cell? ⟨gb324, 5, none⟩ = some (.int .u32 a0_5) ∧ w'.cell? ⟨gb324, 6, none⟩ = some (.int .u32 a0_6)) (ds := []) #[false, false, false, false, false, false, false, false, false, false, false, false, false, false, false, false, false, false, false, false, false, false, false, false, false, false, false, false, false, false, false, false, false, false] (by kernel_rfl) rfl rfl ⟨bc BK324 0, bc BK324 1, bc BK324 2, bc BK324 3, bc BK324 4, bc BK324 5, bc BK324 6⟩ (fun hHeld => ?_); refine with_tabW turnstoneref05_Right.tab2 turnstoneref05_Right.bits2 (fun HT_ HW_ => ?_)
 generalize w80.drew = w81 at HO328 BK324 BK329 HB hHeld ⊢
 refine pure_ (i := 0) (N := some 11) (v := ?_) (a' := ?_) #[true, false, false, false, false, false, false, false, false, false, false, false, false, false, false, false, false, false, false, false, false, false, false, false, false, false, false, false, false, false, false, false, false, false] rfl rfl (any_of HT_.out (by kernel_rfl)) (fun _ _ _ h => h) (Or.inl ⟨by rfl, ?_⟩) ?_ ?_
 rotate_left
 ·intro w'
  go_simp
  with_reducible rfl
 rotate_left
 ·simp only [Act.put, List.setIfInBounds_toArray, List.set_cons_zero, List.set_cons_succ, i64_w, i32_w]
  rfl
 refine take_ (i := 1) (N := some 12) (v := ?_) (a' := ?_) #[true, true, false, false, false, false, false, false, false, false, false, false, false, false, false, false, false, false, false, false, false, false, false, false, false, false, false, false, false, false, false, false, false, false] rfl rfl (take_ofW HT_.out HW_.out (by kernel_rfl)) (fun _ _ _ h => h) (Or.inl ⟨by rfl, ?_⟩) hHeld ?_ ?_
 rotate_left
 ·rintro w' ⟨s0, s1, s2, s3, s4, s5, s6⟩
  go_simp
  with_reducible rfl
 rotate_left
 ·simp only [Act.put, List.setIfInBounds_toArray, List.set_cons_zero, List.set_cons_succ, i64_w, i32_w]
  rfl
 refine one_ (i := 2) (N := some 13) #[true, true, true, false, false, false, false, false, false, false, false, false, false, false, false, false, false, false, false, false, false, false, false, false, false, false, false, false, false, false, false, false, false, false] rfl rfl (one_of HT_.out (by kernel_rfl)) (by decide) (fun K hK => ?_)
 refine goes_ Try.func28 (by kernel_rfl) rfl #[.agg #[.int .u64 a0_0, .int .u32 a0_1, .int .u32 a0_2]] (by rfl) rfl rfl argt ?_
 with_reducible refine (turnstoneref04_Right.calls a0_0 a0_1 a0_2 false _ A3.out).mono ?_
 rintro e w82 ⟨rfl, hb⟩
 refine ⟨_, rfl, ?_⟩
 replace HO328 := vb HO328 hb
 replace BK324 := blkb BK324 hb
 replace BK329 := blkb BK329 hb
 replace HB := belb HB hb
 (try clear hb)
 (try clear hb2)
 (try clear hk)
 (try clear hi)
 refine hK.out _ _ ⟨bc BK324 0, bc BK324 1, bc BK324 2, bc BK324 3, bc BK324 4, bc BK324 5, bc BK324 6⟩ (fun hHeld => ?_)
 clear hK K
 refine norm_ (a' := ?_) ?_ ?_
 rotate_left
 ·show Act.put _ (some 13) _ = _
  simp only [Act.put, List.setIfInBounds_toArray, List.set_cons_zero, List.set_cons_succ, i64_w, i32_w]
  rfl
 refine pure_ (i := 3) (N := some 14) (v := ?_) (a' := ?_) #[true, true, true, true, false, false, false, false, false, false, false, false, false, false, false, false, false, false, false, false, false, false, false, false, false, false, false, false, false, false, false, false, false, false] rfl rfl (any_of HT_.out (by kernel_rfl)) (fun _ _ _ h => h) (Or.inl ⟨by rfl, ?_⟩) ?_ ?_
 rotate_left
 ·intro w'
  go_simp
  with_reducible rfl
 rotate_left
 ·simp only [Act.put, List.setIfInBounds_toArray, List.set_cons_zero, List.set_cons_succ, i64_w, i32_w]
  rfl
 refine pure_ (i := 4) (N := some 15) (v := undef) (a' := ?_) #[true, true, true, true, true, false, false, false, false, false, false, false, false, false, false, false, false, false, false, false, false, false, false, false, false, false, false, false, false, false, false, false, false, false] rfl rfl (any_of HT_.out (by kernel_rfl)) (fun _ _ _ h => h) (Or.inr ⟨by rfl, rfl⟩) ?_ ?_
 rotate_left
 ·simp only [Act.put, List.setIfInBounds_toArray, List.set_cons_zero, List.set_cons_succ, i64_w, i32_w]
  rfl
 refine pure_ (i := 5) (N := some 16) (v := undef) (a' := ?_) #[true, true, true, true, true, true, false, false, false, false, false, false, false, false, false, false, false, false, false, false, false, false, false, false, false, false, false, false, false, false, false, false, false, false] rfl rfl (any_of HT_.out (by kernel_rfl)) (fun _ _ _ h => h) (Or.inr ⟨by rfl, rfl⟩) ?_ ?_
 rotate_left
 ·simp only [Act.put, List.setIfInBounds_toArray, List.set_cons_zero, List.set_cons_succ, i64_w, i32_w]
  rfl
 refine pure_ (i := 6) (N := some 17) (v := undef) (a' := ?_) #[true, true, true, true, true, true, true, false, false, false, false, false, false, false, false, false, false, false, false, false, false, false, false, false, false, false, false, false, false, false, false, false, false, false] rfl rfl (any_of HT_.out (by kernel_rfl)) (fun _ _ _ h => h) (Or.inr ⟨by rfl, rfl⟩) ?_ ?_
 rotate_left
 ·simp only [Act.put, List.setIfInBounds_toArray, List.set_cons_zero, List.set_cons_succ, i64_w, i32_w]
  rfl
 refine pure_ (i := 7) (N := some 18) (v := ?_) (a' := ?_) #[true, true, true, true, true, true, true, true, false, false, false, false, false, false, false, false, false, false, false, false, false, false, false, false, false, false, false, false, false, false, false, false, false, false] rfl rfl (any_of HT_.out (by kernel_rfl)) (fun _ _ _ h => h) (Or.inl ⟨by rfl, ?_⟩) ?_ ?_
 rotate_left
 ·intro w'
  go_simp
  with_reducible rfl
 rotate_left
 ·simp only [Act.put, List.setIfInBounds_toArray, List.set_cons_zero, List.set_cons_succ, i64_w, i32_w]
  rfl
 refine pure_ (i := 8) (N := some 19) (v := ?_) (a' := ?_) #[true, true, true, true, true, true, true, true, true, false, false, false, false, false, false, false, false, false, false, false, false, false, false, false, false, false, false, false, false, false, false, false, false, false] rfl rfl (any_of HT_.out (by kernel_rfl)) (fun _ _ _ h => h) (Or.inl ⟨by rfl, ?_⟩) ?_ ?_
 rotate_left
 ·intro w'
  go_simp
  with_reducible rfl
 rotate_left
 ·simp only [Act.put, List.setIfInBounds_toArray, List.set_cons_zero, List.set_cons_succ, i64_w, i32_w]
  rfl
 refine pure_ (i := 9) (N := some 20) (v := undef) (a' := ?_) #[true, true, true, true, true, true, true, true, true, true, false, false, false, false, false, false, false, false, false, false, false, false, false, false, false, false, false, false, false, false, false, false, false, false] rfl rfl (any_of HT_.out (by kernel_rfl)) (fun _ _ _ h => h) (Or.inr ⟨by rfl, rfl⟩) ?_ ?_
 rotate_left
 ·simp only [Act.put, List.setIfInBounds_toArray, List.set_cons_zero, List.set_cons_succ, i64_w, i32_w]
  rfl
 refine pure_ (i := 10) (N := some 21) (v := undef) (a' := ?_) #[true, true, true, true, true, true, true, true, true, true, true, false, false, false, false, false, false, false, false, false, false, false, false, false, false, false, false, false, false, false, false, false, false, false] rfl rfl (any_of HT_.out (by kernel_rfl)) (fun _ _ _ h => h) (Or.inr ⟨by rfl, rfl⟩) ?_ ?_
 rotate_left
 ·simp only [Act.put, List.setIfInBounds_toArray, List.set_cons_zero, List.set_cons_succ, i64_w, i32_w]
  rfl
 refine pure_ (i := 11) (N := some 22) (v := undef) (a' := ?_) #[true, true, true, true, true, true, true, true, true, true, true, true, false, false, false, false, false, false, false, false, false, false, false, false, false, false, false, false, false, false, false, false, false, false] rfl rfl (any_of HT_.out (by kernel_rfl)) (fun _ _ _ h => h) (Or.inr ⟨by rfl, rfl⟩) ?_ ?_
 rotate_left
 ·simp only [Act.put, List.setIfInBounds_toArray, List.set_cons_zero, List.set_cons_succ, i64_w, i32_w]
  rfl
 refine pure_ (i := 12) (N := some 23) (v := undef) (a' := ?_) #[true, true, true, true, true, true, true, true, true, true, true, true, true, false, false, false, false, false, false, false, false, false, false, false, false, false, false, false, false, false, false, false, false, false] rfl rfl (any_of HT_.out (by kernel_rfl)) (fun _ _ _ h => h) (Or.inr ⟨by rfl, rfl⟩) ?_ ?_
 rotate_left
 ·simp only [Act.put, List.setIfInBounds_toArray, List.set_cons_zero, List.set_cons_succ, i64_w, i32_w]
  rfl
 refine pure_ (i := 13) (N := some 24) (v := undef) (a' := ?_) #[true, true, true, true, true, true, true, true, true, true, true, true, true, true, false, false, false, false, false, false, false, false, false, false, false, false, false, false, false, false, false, false, false, false] rfl rfl (any_of HT_.out (by kernel_rfl)) (fun _ _ _ h => h) (Or.inr ⟨by rfl, rfl⟩) ?_ ?_
 rotate_left
 ·simp only [Act.put, List.setIfInBounds_toArray, List.set_cons_zero, List.set_cons_succ, i64_w, i32_w]
  rfl
 refine pure_ (i := 14) (N := some 25) (v := undef) (a' := ?_) #[true, true, true, true, true, true, true, true, true, true, true, true, true, true, true, false, false, false, false, false, false, false, false, false, false, false, false, false, false, false, false, false, false, false] rfl rfl (any_of HT_.out (by kernel_rfl)) (fun _ _ _ h => h) (Or.inr ⟨by rfl, rfl⟩) ?_ ?_
 rotate_left
 ·simp only [Act.put, List.setIfInBounds_toArray, List.set_cons_zero, List.set_cons_succ, i64_w, i32_w]
  rfl
 refine pure_ (i := 15) (N := some 26) (v := undef) (a' := ?_) #[true, true, true, true, true, true, true, true, true, true, true, true, true, true, true, true, false, false, false, false, false, false, false, false, false, false, false, false, false, false, false, false, false, false] rfl rfl (any_of HT_.out (by kernel_rfl)) (fun _ _ _ h => h) (Or.inr ⟨by rfl, rfl⟩) ?_ ?_
 rotate_left
 ·simp only [Act.put, List.setIfInBounds_toArray, List.set_cons_zero, List.set_cons_succ, i64_w, i32_w]
  rfl
 refine pure_ (i := 16) (N := some 27) (v := ?_) (a' := ?_) #[true, true, true, true, true, true, true, true, true, true, true, true, true, true, true, true, true, false, false, false, false, false, false, false, false, false, false, false, false, false, false, false, false, false] rfl rfl (any_of HT_.out (by kernel_rfl)) (fun _ _ _ h => h) (Or.inl ⟨by rfl, ?_⟩) ?_ ?_
 rotate_left
 ·intro w'
  go_simp
  with_reducible rfl
 rotate_left
 ·simp only [Act.put, List.setIfInBounds_toArray, List.set_cons_zero, List.set_cons_succ, i64_w, i32_w]
  rfl
 refine pure_ (i := 17) (N := some 28) (v := ?_) (a' := ?_) #[true, true, true, true, true, true, true, true, true, true, true, true, true, true, true, true, true, true, false, false, false, false, false, false, false, false, false, false, false, false, false, false, false, false] rfl rfl (any_of HT_.out (by kernel_rfl)) (fun _ _ _ h => h) (Or.inl ⟨by rfl, ?_⟩) ?_ ?_
 rotate_left
 ·intro w'
  go_simp
  with_reducible rfl
 rotate_left
 ·simp only [Act.put, List.setIfInBounds_toArray, List.set_cons_zero, List.set_cons_succ, i64_w, i32_w]
  rfl
 refine pure_ (i := 18) (N := some 29) (v := undef) (a' := ?_) #[true, true, true, true, true, true, true, true, true, true, true, true, true, true, true, true, true, true, true, false, false, false, false, false, false, false, false, false, false, false, false, false, false, false] rfl rfl (any_of HT_.out (by kernel_rfl)) (fun _ _ _ h => h) (Or.inr ⟨by rfl, rfl⟩) ?_ ?_
 rotate_left
 ·simp only [Act.put, List.setIfInBounds_toArray, List.set_cons_zero, List.set_cons_succ, i64_w, i32_w]
  rfl
 refine pure_ (i := 19) (N := some 30) (v := undef) (a' := ?_) #[true, true, true, true, true, true, true, true, true, true, true, true, true, true, true, true, true, true, true, true, false, false, false, false, false, false, false, false, false, false, false, false, false, false] rfl rfl (any_of HT_.out (by kernel_rfl)) (fun _ _ _ h => h) (Or.inr ⟨by rfl, rfl⟩) ?_ ?_
 rotate_left
 ·simp only [Act.put, List.setIfInBounds_toArray, List.set_cons_zero, List.set_cons_succ, i64_w, i32_w]
  rfl
 refine pure_ (i := 20) (N := some 31) (v := undef) (a' := ?_) #[true, true, true, true, true, true, true, true, true, true, true, true, true, true, true, true, true, true, true, true, true, false, false, false, false, false, false, false, false, false, false, false, false, false] rfl rfl (any_of HT_.out (by kernel_rfl)) (fun _ _ _ h => h) (Or.inr ⟨by rfl, rfl⟩) ?_ ?_
 rotate_left
 ·simp only [Act.put, List.setIfInBounds_toArray, List.set_cons_zero, List.set_cons_succ, i64_w, i32_w]
  rfl
 refine pure_ (i := 21) (N := some 32) (v := ?_) (a' := ?_) #[true, true, true, true, true, true, true, true, true, true, true, true, true, true, true, true, true, true, true, true, true, true, false, false, false, false, false, false, false, false, false, false, false, false] rfl rfl (any_of HT_.out (by kernel_rfl)) (fun _ _ _ h => h) (Or.inl ⟨by rfl, ?_⟩) ?_ ?_
 rotate_left
 ·intro w'
  go_simp
  with_reducible rfl
 rotate_left
 ·simp only [Act.put, List.setIfInBounds_toArray, List.set_cons_zero, List.set_cons_succ, i64_w, i32_w]
  rfl
 refine pure_ (i := 22) (N := some 33) (v := ?_) (a' := ?_) #[true, true, true, true, true, true, true, true, true, true, true, true, true, true, true, true, true, true, true, true, true, true, true, false, false, false, false, false, false, false, false, false, false, false] rfl rfl (any_of HT_.out (by kernel_rfl)) (fun _ _ _ h => h) (Or.inl ⟨by rfl, ?_⟩) ?_ ?_
 rotate_left
 ·intro w'
  go_simp
  with_reducible rfl
 rotate_left
 ·simp only [Act.put, List.setIfInBounds_toArray, List.set_cons_zero, List.set_cons_succ, i64_w, i32_w]
  rfl
 refine pure_ (i := 23) (N := some 34) (v := undef) (a' := ?_) #[true, true, true, true, true, true, true, true, true, true, true, true, true, true, true, true, true, true, true, true, true, true, true, true, false, false, false, false, false, false, false, false, false, false] rfl rfl (any_of HT_.out (by kernel_rfl)) (fun _ _ _ h => h) (Or.inr ⟨by rfl, rfl⟩) ?_ ?_
 rotate_left
 ·simp only [Act.put, List.setIfInBounds_toArray, List.set_cons_zero, List.set_cons_succ, i64_w, i32_w]
  rfl
 refine pure_ (i := 24) (N := some 35) (v := undef) (a' := ?_) #[true, true, true, true, true, true, true, true, true, true, true, true, true, true, true, true, true, true, true, true, true, true, true, true, true, false, false, false, false, false, false, false, false, false] rfl rfl (any_of HT_.out (by kernel_rfl)) (fun _ _ _ h => h) (Or.inr ⟨by rfl, rfl⟩) ?_ ?_
 rotate_left
 ·simp only [Act.put, List.setIfInBounds_toArray, List.set_cons_zero, List.set_cons_succ, i64_w, i32_w]
  rfl
 refine pure_ (i := 25) (N := some 36) (v := undef) (a' := ?_) #[true, true, true, true, true, true, true, true, true, true, true, true, true, true, true, true, true, true, true, true, true, true, true, true, true, true, false, false, false, false, false, false, false, false] rfl rfl (any_of HT_.out (by kernel_rfl)) (fun _ _ _ h => h) (Or.inr ⟨by rfl, rfl⟩) ?_ ?_
 rotate_left
 ·simp only [Act.put, List.setIfInBounds_toArray, List.set_cons_zero, List.set_cons_succ, i64_w, i32_w]
  rfl
 refine pure_ (i := 26) (N := some 37) (v := ?_) (a' := ?_) #[true, true, true, true, true, true, true, true, true, true, true, true, true, true, true, true, true, true, true, true, true, true, true, true, true, true, true, false, false, false, false, false, false, false] rfl rfl (any_of HT_.out (by kernel_rfl)) (fun _ _ _ h => h) (Or.inl ⟨by rfl, ?_⟩) ?_ ?_
 rotate_left
 ·intro w'
  go_simp
  with_reducible rfl
 rotate_left
 ·simp only [Act.put, List.setIfInBounds_toArray, List.set_cons_zero, List.set_cons_succ, i64_w, i32_w]
  rfl
 refine pure_ (i := 27) (N := some 38) (v := ?_) (a' := ?_) #[true, true, true, true, true, true, true, true, true, true, true, true, true, true, true, true, true, true, true, true, true, true, true, true, true, true, true, true, false, false, false, false, false, false] rfl rfl (any_of HT_.out (by kernel_rfl)) (fun _ _ _ h => h) (Or.inl ⟨by rfl, ?_⟩) ?_ ?_
 rotate_left
 ·intro w'
  go_simp
  with_reducible rfl
 rotate_left
 ·simp only [Act.put, List.setIfInBounds_toArray, List.set_cons_zero, List.set_cons_succ, i64_w, i32_w]
  rfl
 refine pure_ (i := 28) (N := some 39) (v := undef) (a' := ?_) #[true, true, true, true, true, true, true, true, true, true, true, true, true, true, true, true, true, true, true, true, true, true, true, true, true, true, true, true, true, false, false, false, false, false] rfl rfl (any_of HT_.out (by kernel_rfl)) (fun _ _ _ h => h) (Or.inr ⟨by rfl, rfl⟩) ?_ ?_
 rotate_left
 ·simp only [Act.put, List.setIfInBounds_toArray, List.set_cons_zero, List.set_cons_succ, i64_w, i32_w]
  rfl
 refine pure_ (i := 29) (N := some 40) (v := undef) (a' := ?_) #[true, true, true, true, true, true, true, true, true, true, true, true, true, true, true, true, true, true, true, true, true, true, true, true, true, true, true, true, true, true, false, false, false, false] rfl rfl (any_of HT_.out (by kernel_rfl)) (fun _ _ _ h => h) (Or.inr ⟨by rfl, rfl⟩) ?_ ?_
 rotate_left
 ·simp only [Act.put, List.setIfInBounds_toArray, List.set_cons_zero, List.set_cons_succ, i64_w, i32_w]
  rfl
 refine pure_ (i := 30) (N := some 41) (v := undef) (a' := ?_) #[true, true, true, true, true, true, true, true, true, true, true, true, true, true, true, true, true, true, true, true, true, true, true, true, true, true, true, true, true, true, true, false, false, false] rfl rfl (any_of HT_.out (by kernel_rfl)) (fun _ _ _ h => h) (Or.inr ⟨by rfl, rfl⟩) ?_ ?_
 rotate_left
 ·simp only [Act.put, List.setIfInBounds_toArray, List.set_cons_zero, List.set_cons_succ, i64_w, i32_w]
  rfl
 refine pure_ (i := 31) (N := some 42) (v := undef) (a' := ?_) #[true, true, true, true, true, true, true, true, true, true, true, true, true, true, true, true, true, true, true, true, true, true, true, true, true, true, true, true, true, true, true, true, false, false] rfl rfl (any_of HT_.out (by kernel_rfl)) (fun _ _ _ h => h) (Or.inr ⟨by rfl, rfl⟩) ?_ ?_
 rotate_left
 ·simp only [Act.put, List.setIfInBounds_toArray, List.set_cons_zero, List.set_cons_succ, i64_w, i32_w]
  rfl
 refine pure_ (i := 32) (N := some 43) (v := ?_) (a' := ?_) #[true, true, true, true, true, true, true, true, true, true, true, true, true, true, true, true, true, true, true, true, true, true, true, true, true, true, true, true, true, true, true, true, true, false] rfl rfl (any_of HT_.out (by kernel_rfl)) (fun _ _ _ h => h) (Or.inl ⟨by rfl, ?_⟩) ?_ ?_
 rotate_left
 ·intro w'
  go_simp
  with_reducible rfl
 rotate_left
 ·simp only [Act.put, List.setIfInBounds_toArray, List.set_cons_zero, List.set_cons_succ, i64_w, i32_w]
  rfl
 refine pure_ (i := 33) (N := some 2) (v := ?_) (a' := ?_) #[true, true, true, true, true, true, true, true, true, true, true, true, true, true, true, true, true, true, true, true, true, true, true, true, true, true, true, true, true, true, true, true, true, true] rfl rfl (any_of HT_.out (by kernel_rfl)) (fun _ _ _ h => h) (Or.inl ⟨by rfl, ?_⟩) ?_ ?_
 rotate_left
 ·intro w'
  go_simp
  with_reducible rfl
 rotate_left
 ·simp only [Act.put, List.setIfInBounds_toArray, List.set_cons_zero, List.set_cons_succ, i64_w, i32_w]
  rfl
 refine done_ (done_of HT_.out (by kernel_rfl)) ?_
 try go_wp2
 go_ret
 exact ⟨by first | rfl | (simp [errW_none, errW_some] <;> rfl) | (simp [*, errW_none, errW_some] <;> rfl), belt HB⟩


/-! ### turnstonelaw04_Of: function 31 -/
def turnstonelaw04_Of.f (a0_0 : Int) (a0_1 : Int) (a0_2 : Int) : Option (Int × Int × Int) := some (a0_0, a0_1, a0_2)
set_option maxHeartbeats 8000000 in
set_option maxRecDepth 100000 in
theorem turnstonelaw04_Of.calls (a0_0 : Int) (a0_1 : Int) (a0_2 : Int) (r1 : Int) (r2 : Int) (r3 : Int) (w : World) (h : turnstonelaw04_Of.f a0_0 a0_1 a0_2 = some (r1, r2, r3)) :
  Calls Try.prog 31 #[.agg #[.int .u64 a0_0, .int .u32 a0_1, .int .u32 a0_2]] w fun e w' => e = .returned (.agg #[.int .u64 r1, .int .u32 r2, .int .u32 r3]) ∧ Below w.heap.size w w' := by
 have hu26 := Try.underlying26
 have hu36 := Try.underlying36
 have HB := Aside0.mk (Below.refl w.heap.size w)
 have H : (some (a0_0, a0_1, a0_2)) = some (r1, r2, r3) := h
 clear h
 simp only [Option.some.injEq, Prod.mk.injEq] at H
 obtain ⟨rfl, rfl, rfl⟩ := H
 go_enter Try.func31, Try.ntmps31
 go_wp2_with (first | ((with_reducible refine gate_dst (N := 1) rfl ?_); refine box_event ?hg (N := 1) ?hd (cs := #[.int .u64 a0_0, .int .u32 a0_1, .int .u32 a0_2]) (t := 26) ?hr ?_; (case hd => rfl); (case hg => rfl); (case hr => first | (go_simp; done) | (go_simp; rfl)); intro gb338 hg w2 hbox hb; have BK338 := Aside0.mk (hbox); have GW338 := bels HB hg; have GE338 := bels HB hg; replace HB := belb HB hb; clear hb hbox hg) | ((with_reducible refine gate_dst (N := 2) rfl ?_); refine box_event ?hg (N := 2) ?hd (cs := #[.int .u64 0, .int .u32 0, .int .u32 0]) (t := 36) ?hr ?_; (case hd => rfl); (case hg => rfl); (case hr => first | (go_simp; done) | (go_simp; rfl)); intro gb339 hg w3 hbox hb; have BK339 := Aside0.mk (hbox); have GW339 := bels HB hg; have GE339 := bels HB hg; have NB338_339 := blkl BK338 hg; have NB339_338 := blkg BK338 hg; replace BK338 := blkb BK338 hb; replace HB := belb HB hb; clear hb hbox hg; have hnb4 := NB338_339.out; have hnc4 := NB339_338.out; have hcz5_0 : w3.cell? ⟨gb338, 0, none⟩ = some (.int .u64 a0_0) := bc BK338 0; have hcz5_1 : w3.cell? ⟨gb338, 1, none⟩ = some (.int .u32 a0_1) := bc BK338 1; have hcz5_2 : w3.cell? ⟨gb338, 2, none⟩ = some (.int .u32 a0_2) := bc BK338 2; have hfz5_0 := blk_frozen BK338.out 0; have hfz5_1 := blk_frozen BK338.out 1; have hfz5_2 := blk_frozen BK338.out 2; have hcz6_0 : w3.cell? ⟨gb339, 0, none⟩ = some (.int .u64 0) := bc BK339 0; have hcz6_1 : w3.cell? ⟨gb339, 1, none⟩ = some (.int .u32 0) := bc BK339 1; have hcz6_2 : w3.cell? ⟨gb339, 2, none⟩ = some (.int .u32 0) := bc BK339 2; have hfz6_0 := blk_frozen BK339.out 0; have hfz6_1 := blk_frozen BK339.out 1; have hfz6_2 := blk_frozen BK339.out 2))
 refine bodyPost_ret (results_cell_row rfl _ _ gb339 36 #[.int .u64 a0_0, .int .u32 a0_1, .int .u32 a0_2] (0, 0) _ rfl (by (with_reducible repeat (first | refine blk_drewN ?_ _ | refine blk_drew ?_ | refine blk_alloc ?_ _)); refine blk_put (cs := #[.int .u64 a0_0, .int .u32 a0_1, .int .u32 0]) ?_ 2 _ rfl; (with_reducible repeat (first | refine blk_drewN ?_ _ | refine blk_drew ?_ | refine blk_alloc ?_ _)); refine blk_put (cs := #[.int .u64 a0_0, .int .u32 0, .int .u32 0]) ?_ 1 _ rfl; (with_reducible repeat (first | refine blk_drewN ?_ _ | refine blk_drew ?_ | refine blk_alloc ?_ _)); refine blk_put (cs := #[.int .u64 0, .int .u32 0, .int .u32 0]) ?_ 0 _ rfl; exact blkt BK339) Try.underlying36 rfl (by kernel_rfl)) rfl ?_
 exact ⟨by first | rfl | (simp [errW_none, errW_some] <;> rfl) | (simp [*, errW_none, errW_some] <;> rfl), belt HB⟩

end Go.Proofs.Ytdfpkjdhndfcbaa.Print
