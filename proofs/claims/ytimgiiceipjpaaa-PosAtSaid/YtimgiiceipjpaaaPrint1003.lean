/- What each Go function that is named below answers, as a Lean function, and that its walk comes to just that: for whatever arguments that function gives an answer for. Written by a program of this session (wip/mkpr.py, pr.sh). -/
import Derived.Test.YtimgiiceipjpaaaPrint1000
namespace Go.Proofs.Ytimgiiceipjpaaa.Print
open Go.RowKit Go.Proofs.YtimgiiceipjpaaaW.PrintWords Go.Proofs.YtimgiiceipjpaaaW.PrintLast Go.Proofs.YtimgiiceipjpaaaW.PrintMore
attribute [local go_sem] max2_int min2_int max_two min_two max_three min_three max_four min_four   -- for this text's walks alone
open Go.Proofs.Ytimgiiceipjpaaa.Bits Go.Proofs.Ytimgiiceipjpaaa.Short
attribute [local go_sem] add64_run0 sub64_run0 add64_run sub64_run
set_option linter.unusedVariables false
set_option linter.unusedSimpArgs false

/-! ### turnstoneref03_Since: function 21 -/
def turnstoneref03_Since.f (k : Nat) (a0 : Int) (a1 : Int) : Option (Bool × List Int) := (turnstoneref01_U.f k a0).bind fun bt210 => ((turnstoneref01_U.f k a1).bind fun bt214 => ((turnstoneref01_Sub.f k bt210.1 bt210.2 bt214.1 bt214.2).bind fun bt218 => ((turnstoneref01_Power.f k 63).bind fun bt223 => ((turnstoneref01_Cmp.f k bt218.1 bt218.2 bt223.1 bt223.2).bind fun t227 => (if t227 ≥ 0 then ((turnstoneref01_Power.f k 64).bind fun bt228 => ((turnstoneref01_Sub.f k bt218.1 bt218.2 bt228.1 bt228.2).bind fun bt232 => (some (bt232.1, bt232.2)))) else ((turnstoneref01_Power.f k 63).bind fun bt236 => ((turnstoneref01_Neg.f k bt236.1 bt236.2).bind fun bt240 => ((turnstoneref01_Cmp.f k bt218.1 bt218.2 bt240.1 bt240.2).bind fun t244 => (if t244 < 0 then ((turnstoneref01_Power.f k 64).bind fun bt245 => ((turnstoneref01_Add.f k bt218.1 bt218.2 bt245.1 bt245.2).bind fun bt249 => (some (bt249.1, bt249.2)))) else (some (bt218.1, bt218.2)))))))))))
theorem turnstoneref03_Since.mono : ∀ a0 a1 k, LeO (turnstoneref03_Since.f k a0 a1) (turnstoneref03_Since.f (k + 1) a0 a1) := by
 intro a0 a1 k
 unfold turnstoneref03_Since.f
 repeat' first
   | (with_reducible exact turnstoneref01_Add.mono _ _ _ _ _)
   | (with_reducible exact turnstoneref01_Cmp.mono _ _ _ _ _)
   | (with_reducible exact turnstoneref01_Neg.mono _ _ _)
   | (with_reducible exact turnstoneref01_Power.mono _ _)
   | (with_reducible exact turnstoneref01_Sub.mono _ _ _ _ _)
   | (with_reducible exact turnstoneref01_U.mono _ _)
   | (with_reducible exact LeO.refl _)
   | (with_reducible exact LeO.none _)
   | (with_reducible refine LeO.ite ?_ ?_)
   | (with_reducible refine LeO.bind ?_ (fun _ => ?_))
   | exact turnstoneref01_Add.mono _ _ _ _ _
   | exact turnstoneref01_Cmp.mono _ _ _ _ _
   | exact turnstoneref01_Neg.mono _ _ _
   | exact turnstoneref01_Power.mono _ _
   | exact turnstoneref01_Sub.mono _ _ _ _ _
   | exact turnstoneref01_U.mono _ _
   | exact LeO.none _
   | refine LeO.ite ?_ ?_
   | refine LeO.bind ?_ (fun _ => ?_)
set_option maxHeartbeats 8000000 in
set_option maxRecDepth 100000 in
theorem turnstoneref03_Since.calls (k : Nat) (a0 : Int) (a1 : Int) (r1 : Bool) (r2 : List Int) (w : World) (h : turnstoneref03_Since.f k a0 a1 = some (r1, r2)) :
  Calls Try.prog 21 #[.int .u64 a0, .int .u64 a1] w fun e w' => ∃ v1_ : Value, e = .returned (.agg #[.bool r1, v1_]) ∧ Kd.V (Kd.int .i64) 3 w' w.heap.size (fun k_ => (w.heap.size ≤ k_)) v1_ r2 ∧ Below w.heap.size w w' := by
 have hu28 := Try.underlying28
 have HB := Aside0.mk (Below.refl w.heap.size w)
 have H : ((turnstoneref01_U.f k a0).bind fun bt210 => ((turnstoneref01_U.f k a1).bind fun bt214 => ((turnstoneref01_Sub.f k bt210.1 bt210.2 bt214.1 bt214.2).bind fun bt218 => ((turnstoneref01_Power.f k 63).bind fun bt223 => ((turnstoneref01_Cmp.f k bt218.1 bt218.2 bt223.1 bt223.2).bind fun t227 => (if t227 ≥ 0 then ((turnstoneref01_Power.f k 64).bind fun bt228 => ((turnstoneref01_Sub.f k bt218.1 bt218.2 bt228.1 bt228.2).bind fun bt232 => (some (bt232.1, bt232.2)))) else ((turnstoneref01_Power.f k 63).bind fun bt236 => ((turnstoneref01_Neg.f k bt236.1 bt236.2).bind fun bt240 => ((turnstoneref01_Cmp.f k bt218.1 bt218.2 bt240.1 bt240.2).bind fun t244 => (if t244 < 0 then ((turnstoneref01_Power.f k 64).bind fun bt245 => ((turnstoneref01_Add.f k bt218.1 bt218.2 bt245.1 bt245.2).bind fun bt249 => (some (bt249.1, bt249.2)))) else (some (bt218.1, bt218.2)))))))))))) = some (r1, r2) := h
 clear h
 replace H := Option.bind_eq_some_iff.mp H
 obtain ⟨⟨t210, t211⟩, A30, H⟩ := H
 replace H : ((turnstoneref01_U.f k a1).bind fun bt214 => ((turnstoneref01_Sub.f k t210 t211 bt214.1 bt214.2).bind fun bt218 => ((turnstoneref01_Power.f k 63).bind fun bt223 => ((turnstoneref01_Cmp.f k bt218.1 bt218.2 bt223.1 bt223.2).bind fun t227 => (if t227 ≥ 0 then ((turnstoneref01_Power.f k 64).bind fun bt228 => ((turnstoneref01_Sub.f k bt218.1 bt218.2 bt228.1 bt228.2).bind fun bt232 => (some (bt232.1, bt232.2)))) else ((turnstoneref01_Power.f k 63).bind fun bt236 => ((turnstoneref01_Neg.f k bt236.1 bt236.2).bind fun bt240 => ((turnstoneref01_Cmp.f k bt218.1 bt218.2 bt240.1 bt240.2).bind fun t244 => (if t244 < 0 then ((turnstoneref01_Power.f k 64).bind fun bt245 => ((turnstoneref01_Add.f k bt218.1 bt218.2 bt245.1 bt245.2).bind fun bt249 => (some (bt249.1, bt249.2)))) else (some (bt218.1, bt218.2))))))))))) = some (r1, r2) := H
 have A3 := Aside0.mk A30
 clear A30
 replace H := Option.bind_eq_some_iff.mp H
 obtain ⟨⟨t214, t215⟩, A40, H⟩ := H
 replace H : ((turnstoneref01_Sub.f k t210 t211 t214 t215).bind fun bt218 => ((turnstoneref01_Power.f k 63).bind fun bt223 => ((turnstoneref01_Cmp.f k bt218.1 bt218.2 bt223.1 bt223.2).bind fun t227 => (if t227 ≥ 0 then ((turnstoneref01_Power.f k 64).bind fun bt228 => ((turnstoneref01_Sub.f k bt218.1 bt218.2 bt228.1 bt228.2).bind fun bt232 => (some (bt232.1, bt232.2)))) else ((turnstoneref01_Power.f k 63).bind fun bt236 => ((turnstoneref01_Neg.f k bt236.1 bt236.2).bind fun bt240 => ((turnstoneref01_Cmp.f k bt218.1 bt218.2 bt240.1 bt240.2).bind fun t244 => (if t244 < 0 then ((turnstoneref01_Power.f k 64).bind fun bt245 => ((turnstoneref01_Add.f k bt218.1 bt218.2 bt245.1 bt245.2).bind fun bt249 => (some (bt249.1, bt249.2)))) else (some (bt218.1, bt218.2)))))))))) = some (r1, r2) := H
 have A4 := Aside0.mk A40
 clear A40
 replace H := Option.bind_eq_some_iff.mp H
 obtain ⟨⟨t218, t219⟩, A50, H⟩ := H
 replace H : ((turnstoneref01_Power.f k 63).bind fun bt223 => ((turnstoneref01_Cmp.f k t218 t219 bt223.1 bt223.2).bind fun t227 => (if t227 ≥ 0 then ((turnstoneref01_Power.f k 64).bind fun bt228 => ((turnstoneref01_Sub.f k t218 t219 bt228.1 bt228.2).bind fun bt232 => (some (bt232.1, bt232.2)))) else ((turnstoneref01_Power.f k 63).bind fun bt236 => ((turnstoneref01_Neg.f k bt236.1 bt236.2).bind fun bt240 => ((turnstoneref01_Cmp.f k t218 t219 bt240.1 bt240.2).bind fun t244 => (if t244 < 0 then ((turnstoneref01_Power.f k 64).bind fun bt245 => ((turnstoneref01_Add.f k t218 t219 bt245.1 bt245.2).bind fun bt249 => (some (bt249.1, bt249.2)))) else (some (t218, t219))))))))) = some (r1, r2) := H
 have A5 := Aside0.mk A50
 clear A50
 replace H := Option.bind_eq_some_iff.mp H
 obtain ⟨⟨t223, t224⟩, A60, H⟩ := H
 replace H : ((turnstoneref01_Cmp.f k t218 t219 t223 t224).bind fun t227 => (if t227 ≥ 0 then ((turnstoneref01_Power.f k 64).bind fun bt228 => ((turnstoneref01_Sub.f k t218 t219 bt228.1 bt228.2).bind fun bt232 => (some (bt232.1, bt232.2)))) else ((turnstoneref01_Power.f k 63).bind fun bt236 => ((turnstoneref01_Neg.f k bt236.1 bt236.2).bind fun bt240 => ((turnstoneref01_Cmp.f k t218 t219 bt240.1 bt240.2).bind fun t244 => (if t244 < 0 then ((turnstoneref01_Power.f k 64).bind fun bt245 => ((turnstoneref01_Add.f k t218 t219 bt245.1 bt245.2).bind fun bt249 => (some (bt249.1, bt249.2)))) else (some (t218, t219)))))))) = some (r1, r2) := H
 have A6 := Aside0.mk A60
 clear A60
 replace H := Option.bind_eq_some_iff.mp H
 obtain ⟨t227, A70, H⟩ := H
 replace H : (if t227 ≥ 0 then ((turnstoneref01_Power.f k 64).bind fun bt228 => ((turnstoneref01_Sub.f k t218 t219 bt228.1 bt228.2).bind fun bt232 => (some (bt232.1, bt232.2)))) else ((turnstoneref01_Power.f k 63).bind fun bt236 => ((turnstoneref01_Neg.f k bt236.1 bt236.2).bind fun bt240 => ((turnstoneref01_Cmp.f k t218 t219 bt240.1 bt240.2).bind fun t244 => (if t244 < 0 then ((turnstoneref01_Power.f k 64).bind fun bt245 => ((turnstoneref01_Add.f k t218 t219 bt245.1 bt245.2).bind fun bt249 => (some (bt249.1, bt249.2)))) else (some (t218, t219))))))) = some (r1, r2) := H
 have A7 := Aside0.mk A70
 clear A70
 by_cases c8 : t227 ≥ 0
 ·rw [if_pos c8] at H
  have c8b0 : decide (0 ≤ t227) = true := decide_eq_true c8
  clear c8
  replace H := Option.bind_eq_some_iff.mp H
  obtain ⟨⟨t228, t229⟩, A90, H⟩ := H
  replace H : ((turnstoneref01_Sub.f k t218 t219 t228 t229).bind fun bt232 => (some (bt232.1, bt232.2))) = some (r1, r2) := H
  have A9 := Aside0.mk A90
  clear A90
  replace H := Option.bind_eq_some_iff.mp H
  obtain ⟨⟨t232, t233⟩, A100, H⟩ := H
  replace H : (some (t232, t233)) = some (r1, r2) := H
  have A10 := Aside0.mk A100
  clear A100
  simp only [Option.some.injEq, Prod.mk.injEq] at H
  obtain ⟨rfl, rfl⟩ := H
  go_enter Try.func21, Try.ntmps21
  try go_wp2_with (first | ((with_reducible refine gate_dst (N := 4) rfl ?_); refine box_event ?hg (N := 4) ?hd (cs := #[.bool false, .slice none 0 0]) (t := 28) ?hr ?_; (case hd => rfl); (case hg => rfl); (case hr => first | (go_simp; done) | (go_simp; rfl)); intro gb209 hg w11 hbox hb; have BK209 := Aside0.mk (hbox); have GW209 := bels HB hg; have GE209 := bels HB hg; replace HB := belb HB hb; clear hb hbox hg) | ((with_reducible refine gate_callee (f := 24) rfl ?_); refine goesL_ (some 7) rfl rfl Try.func24 (by kernel_rfl) rfl #[.int .u64 a0] rfl argt ?_; (with_reducible refine (turnstoneref01_U.calls k a0 t210 t211 _ A3.out).mono ?_); rintro e w12 ⟨v212, rfl, ho0, hb⟩; refine ⟨_, rfl, ?_⟩; have HO213 := Aside0.mk (Kd.R_lower (Kd.R_newM (M := fun k_ => (w.heap.size ≤ k_)) ho0 (below_size (belt HB)) (fun k_ h_ => h_)) (below_size (belt HB))); replace BK209 := blkb BK209 hb; replace HB := belb HB hb; (try clear hb); (try clear hb2); (try clear hk); (try clear hi); (try clear ho0)) | ((with_reducible refine gate_callee (f := 24) rfl ?_); refine goesL_ (some 9) rfl rfl Try.func24 (by kernel_rfl) rfl #[.int .u64 a1] rfl argt ?_; (with_reducible refine (turnstoneref01_U.calls k a1 t214 t215 _ A4.out).mono ?_); rintro e w13 ⟨v216, rfl, ho0, hb⟩; refine ⟨_, rfl, ?_⟩; have HO217 := Aside0.mk (Kd.R_lower (Kd.R_new' (Kd.R_newM (M := fun k_ => (w.heap.size ≤ k_)) ho0 (below_size (belt HB)) (fun k_ h_ => h_)) (Kd.R_lt (rt HO213))) (below_size (belt HB))); replace BK209 := blkb BK209 hb; replace HO213 := Aside0.mk (Kd.R_elder' (rt HO213) (Kd.R_base ho0) hb); replace HB := belb HB hb; (try clear hb); (try clear hb2); (try clear hk); (try clear hi); (try clear ho0); obtain ⟨Ao14, co14, eo14⟩ := Kd.R_slice HO213.out; subst eo14; obtain ⟨Ao15, co15, eo15⟩ := Kd.R_slice HO217.out; subst eo15) | ((with_reducible refine gate_callee (f := 43) rfl ?_); refine goesL_ (some 10) rfl rfl Try.func43 (by kernel_rfl) rfl #[.agg #[.bool t210, .slice Ao14 t211.length co14], .agg #[.bool t214, .slice Ao15 t215.length co15]] rfl argt ?_; (with_reducible refine (turnstoneref01_Sub.calls k t210 _ _ t211 t214 (fun k_ => some k_ = (.slice Ao15 t215.length co15 : Value).ownBlock) _ _ t215 t218 t219 _ ?side1 ?side2 ?side3 A5.out).mono ?_); (case side1 => repeat (first | exact (Kd.R_reads' HO213.out).2.2 | (with_reducible refine Kd.C_alloc ?_ _) | (with_reducible refine Kd.C_drewN ?_ _) | (with_reducible refine Kd.C_drew ?_))); (case side2 => exact (Kd.R_reads' HO213.out).2.1); (case side3 => exact Kd.R_V (Kd.R_tight rfl (Kd.R_types (HO217.out) BK209.out (by decide)))); rintro e w16 ⟨v220, rfl, ho0, hb⟩; refine ⟨_, rfl, ?_⟩; have HO221 := Aside0.mk (Kd.V_lower (Kd.V_mono (ok' := fun k_ => (w.heap.size ≤ k_) ∧ some k_ ≠ (.slice Ao14 t211.length co14 : Value).ownBlock ∧ k_ ≠ gb209) ho0 (fun k_ hk_ => ⟨Or.elim hk_ (fun hs_ => ((Kd.R_types (HO217.out) BK209.out (by decide)).1 k_ hs_.symm).1.1.1) (fun hn_ => (Nat.le_trans (below_size (belt HB)) hn_)), Or.elim hk_ (fun hs_ => ((Kd.R_types (HO217.out) BK209.out (by decide)).1 k_ hs_.symm).1.2) (fun hn_ => (Kd.fresh' (Kd.R_lt (rt HO213)) k_ hn_)), Or.elim hk_ (fun hs_ => ((Kd.R_types (HO217.out) BK209.out (by decide)).1 k_ hs_.symm).2) (fun hn_ => (Kd.freshB (blkt BK209) k_ hn_))⟩)) (below_size (belt HB))); replace HO213 := rb HO213 hb; replace HO217 := rb HO217 hb; replace BK209 := blkb BK209 hb; replace HB := belb HB hb; (try clear hb); (try clear hb2); (try clear hk); (try clear hi); (try clear ho0)) | ((with_reducible refine gate_dst (N := 5) rfl ?_); refine box_event ?hg (N := 5) ?hd (cs := #[.bool false, .slice none 0 0]) (t := 28) ?hr ?_; (case hd => rfl); (case hg => rfl); (case hr => first | (go_simp; done) | (go_simp; rfl)); intro gb222 hg w17 hbox hb; replace HO213 := rb HO213 hb; replace HO217 := rb HO217 hb; replace HO221 := Aside0.mk (Kd.V_below (Kd.V_elderB (vt HO221) gb222 (Nat.le_of_eq hg.symm)) hb); have BK222 := Aside0.mk (hbox); have GW222 := bels HB hg; have GE222 := bels HB hg; have NB209_222 := blkl BK209 hg; have NB222_209 := blkg BK209 hg; replace BK209 := blkb BK209 hb; replace HB := belb HB hb; clear hb hbox hg; have hnb18 := NB222_209.out; have hnc18 := NB209_222.out; have hcz19_0 : w17.cell? ⟨gb222, 0, none⟩ = some (.bool false) := bc BK222 0; have hcz19_1 : w17.cell? ⟨gb222, 1, none⟩ = some (.slice none 0 0) := bc BK222 1; have hfz19_0 := blk_frozen BK222.out 0; have hfz19_1 := blk_frozen BK222.out 1; obtain ⟨Ao20, co20, eo20⟩ := Kd.V_slice HO221.out; subst eo20))
  have n0_ : Aside0 (Kd.R (Kd.int .i64) 3 ((w17.setCell ⟨gb222, 0, none⟩ (.bool t218)).setCell ⟨gb222, 1, none⟩ (.slice Ao20 t219.length co20)) w.heap.size (fun k_ => (w.heap.size ≤ k_) ∧ some k_ ≠ (.slice Ao15 t215.length co15 : Value).ownBlock) (.slice Ao14 t211.length co14) t211) := ⟨by (with_reducible repeat (first | apply Kd.R_alloc | apply Kd.R_drewN | apply Kd.R_drew)); exact Kd.R_mono (Kd.R_far (p := ⟨gb222, 1, none⟩) (Kd.R_far (p := ⟨gb222, 0, none⟩) (Kd.R_types HO213.out BK222.out (by decide)) (fun _ hk => hk.2) (.bool t218)) (fun _ hk => hk.2) (.slice Ao20 t219.length co20)) (fun _ hk => ⟨hk.1.1.1, hk.1.2⟩)⟩
  have n1_ : Aside0 (Kd.R (Kd.int .i64) 3 ((w17.setCell ⟨gb222, 0, none⟩ (.bool t218)).setCell ⟨gb222, 1, none⟩ (.slice Ao20 t219.length co20)) w.heap.size (fun k_ => (w.heap.size ≤ k_) ∧ some k_ ≠ (.slice Ao14 t211.length co14 : Value).ownBlock) (.slice Ao15 t215.length co15) t215) := ⟨by (with_reducible repeat (first | apply Kd.R_alloc | apply Kd.R_drewN | apply Kd.R_drew)); exact Kd.R_mono (Kd.R_far (p := ⟨gb222, 1, none⟩) (Kd.R_far (p := ⟨gb222, 0, none⟩) (Kd.R_types HO217.out BK222.out (by decide)) (fun _ hk => hk.2) (.bool t218)) (fun _ hk => hk.2) (.slice Ao20 t219.length co20)) (fun _ hk => ⟨hk.1.1.1, hk.1.2⟩)⟩
  have n2_ : Aside0 (Kd.V (Kd.int .i64) 3 ((w17.setCell ⟨gb222, 0, none⟩ (.bool t218)).setCell ⟨gb222, 1, none⟩ (.slice Ao20 t219.length co20)) w.heap.size (fun k_ => (w.heap.size ≤ k_) ∧ some k_ ≠ (.slice Ao14 t211.length co14 : Value).ownBlock ∧ k_ ≠ gb209 ∧ k_ ≠ gb222) (.slice Ao20 t219.length co20) t219) := ⟨by (with_reducible repeat (first | apply Kd.V_alloc | apply Kd.V_drewN | apply Kd.V_drew)); exact Kd.V_mono (Kd.V_far (p := ⟨gb222, 1, none⟩) (Kd.V_far (p := ⟨gb222, 0, none⟩) (Kd.V_mono HO221.out (fun k_ hk => (⟨hk, hk.2⟩ : _ ∧ k_ ≠ gb222))) (fun _ hk => hk.2) (.bool t218)) (fun _ hk => hk.2) (.slice Ao20 t219.length co20)) (fun _ hk => ⟨hk.1.1.1, ⟨hk.1.1.2.1, ⟨hk.1.1.2.2, hk.1.2⟩⟩⟩)⟩
  have n3_ : Aside0 (((w17.setCell ⟨gb222, 0, none⟩ (.bool t218)).setCell ⟨gb222, 1, none⟩ (.slice Ao20 t219.length co20)).heap[gb209]? = some (.cells #[.bool false, .slice none 0 0] 28 (0, 0))) := ⟨by (with_reducible repeat (first | refine blk_drewN ?_ _ | refine blk_drew ?_ | refine blk_alloc ?_ _)); refine blk_far ?_ NB209_222.out _; (with_reducible repeat (first | refine blk_drewN ?_ _ | refine blk_drew ?_ | refine blk_alloc ?_ _)); refine blk_far ?_ NB209_222.out _; exact blkt BK209⟩
  have n4_ : Aside0 (((w17.setCell ⟨gb222, 0, none⟩ (.bool t218)).setCell ⟨gb222, 1, none⟩ (.slice Ao20 t219.length co20)).heap[gb222]? = some (.cells #[.bool t218, .slice Ao20 t219.length co20] 28 (0, 0))) := ⟨by (with_reducible repeat (first | refine blk_drewN ?_ _ | refine blk_drew ?_ | refine blk_alloc ?_ _)); refine blk_put (cs := #[.bool t218, .slice none 0 0]) ?_ 1 _ rfl; (with_reducible repeat (first | refine blk_drewN ?_ _ | refine blk_drew ?_ | refine blk_alloc ?_ _)); refine blk_put (cs := #[.bool false, .slice none 0 0]) ?_ 0 _ rfl; exact blkt BK222⟩
  have n5_ : Aside0 (Below w.heap.size w ((w17.setCell ⟨gb222, 0, none⟩ (.bool t218)).setCell ⟨gb222, 1, none⟩ (.slice Ao20 t219.length co20))) := ⟨belt HB⟩
  (try clear HO213)
  (try clear HO217)
  (try clear HO221)
  (try clear BK209)
  (try clear BK222)
  (try clear HB)
  generalize ((w17.setCell ⟨gb222, 0, none⟩ (.bool t218)).setCell ⟨gb222, 1, none⟩ (.slice Ao20 t219.length co20)) = w21 at n0_ n1_ n2_ n3_ n4_ n5_ ⊢
  have HO213 := n0_
  have HO217 := n1_
  have HO221 := n2_
  have BK209 := n3_
  have BK222 := n4_
  have HB := n5_
  clear n0_ n1_ n2_ n3_ n4_ n5_
  replace HO213 := Aside0.mk (Kd.R_drew HO213.out)
  replace HO217 := Aside0.mk (Kd.R_drew HO217.out)
  replace HO221 := Aside0.mk (Kd.V_drew HO221.out)
  replace BK209 := Aside0.mk (blk_drew BK209.out)
  replace BK222 := Aside0.mk (blk_drew BK222.out)
  replace HB := Aside0.mk (below_drew1 HB.out)
  refine start_ (n := 4) (S := fun w' => w'.cell? ⟨gb222, 0, none⟩ = some (.bool t218) ∧ w'.cell? ⟨gb222, 1, none⟩ = some (.slice Ao20 t219.length co20)) (ds := []) #[false, false, false, false] (by kernel_rfl) rfl rfl ⟨bc BK222 0, bc BK222 1⟩ (fun hHeld => ?_)
  generalize w21.drew = w22 at HO213 HO217 HO221 BK209 BK222 HB hHeld ⊢
  refine take_ (i := 0) (N := some 11) (v := ?_) (a' := ?_) #[true, false, false, false] rfl rfl (by kernel_rfl) (fun _ _ _ h => h) (Or.inl ⟨by rfl, ?_⟩) hHeld ?_ ?_
  rotate_left
  ·rintro w' ⟨s0, s1⟩
   go_simp
   with_reducible rfl
  rotate_left
  ·simp only [Act.put, List.setIfInBounds_toArray, List.set_cons_zero, List.set_cons_succ, i64_w, i32_w]
   rfl
  refine one_ (i := 1) (N := some 12) #[true, true, false, false] rfl rfl (by kernel_rfl) (by decide) (fun K hK => ?_)
  refine goes_ Try.func60 (by kernel_rfl) rfl #[.int .i64 63] (by rfl) rfl rfl argt ?_
  with_reducible refine (turnstoneref01_Power.calls k 63 t223 t224 _ A6.out).mono ?_
  rintro e w23 ⟨v225, rfl, ho0, hb⟩
  refine ⟨_, rfl, ?_⟩
  replace HO221 := vb HO221 hb
  have HO226 := Aside0.mk (Kd.V_lower (Kd.V_mono (ok' := fun k_ => (w.heap.size ≤ k_) ∧ some k_ ≠ (.slice Ao14 t211.length co14 : Value).ownBlock ∧ some k_ ≠ (.slice Ao15 t215.length co15 : Value).ownBlock ∧ k_ ≠ gb209 ∧ k_ ≠ gb222) ho0 (fun k_ hk_ => ⟨(Nat.le_trans (below_size (belt HB)) hk_), (Kd.fresh' (Kd.R_lt (rt HO213)) k_ hk_), (Kd.fresh' (Kd.R_lt (rt HO217)) k_ hk_), (Kd.freshB (blkt BK209) k_ hk_), (Kd.freshB (blkt BK222) k_ hk_)⟩)) (below_size (belt HB)))
  replace HO213 := rb HO213 hb
  replace HO217 := rb HO217 hb
  replace BK209 := blkb BK209 hb
  replace BK222 := blkb BK222 hb
  replace HB := belb HB hb
  (try clear hb)
  (try clear hb2)
  (try clear hk)
  (try clear hi)
  (try clear ho0)
  obtain ⟨Ao24, co24, eo24⟩ := Kd.V_slice HO226.out
  (first | subst eo24 | (injection eo24 with f1_ f2_ f3_; have f4_ := f1_.symm; have f5_ := f3_.symm; clear f1_ f2_ f3_; subst f4_; subst f5_))
  refine hK.out _ _ ⟨bc BK222 0, bc BK222 1⟩ (fun hHeld => ?_)
  clear hK K
  refine norm_ (a' := ?_) ?_ ?_
  rotate_left
  ·show Act.put _ (some 12) _ = _
   simp only [Act.put, List.setIfInBounds_toArray, List.set_cons_zero, List.set_cons_succ, i64_w, i32_w]
   rfl
  refine one_ (i := 2) (N := some 13) #[true, true, true, false] rfl rfl (by kernel_rfl) (by decide) (fun K hK => ?_)
  refine goes_ Try.func18 (by kernel_rfl) rfl #[.agg #[.bool t218, .slice Ao20 t219.length co20], .agg #[.bool t223, .slice Ao24 t224.length co24]] (by rfl) rfl rfl argt ?_
  with_reducible refine (turnstoneref01_Cmp.calls k t218 _ _ t219 t223 _ _ t224 t227 _ ?side1 ?side2 ?side3 ?side4 A7.out).mono ?_
  (case side1 => repeat (first | exact (Kd.V_reads' HO221.out).2.2 | (with_reducible refine Kd.C_alloc ?_ _) | (with_reducible refine Kd.C_drewN ?_ _) | (with_reducible refine Kd.C_drew ?_)))
  (case side2 => exact (Kd.V_reads' HO221.out).2.1)
  (case side3 => repeat (first | exact (Kd.V_reads' HO226.out).2.2 | (with_reducible refine Kd.C_alloc ?_ _) | (with_reducible refine Kd.C_drewN ?_ _) | (with_reducible refine Kd.C_drew ?_)))
  (case side4 => exact (Kd.V_reads' HO226.out).2.1)
  rintro e w25 ⟨rfl, hb⟩
  refine ⟨_, rfl, ?_⟩
  replace HO213 := rb HO213 hb
  replace HO217 := rb HO217 hb
  replace HO221 := vb HO221 hb
  replace HO226 := vb HO226 hb
  replace BK209 := blkb BK209 hb
  replace BK222 := blkb BK222 hb
  replace HB := belb HB hb
  (try clear hb)
  (try clear hb2)
  (try clear hk)
  (try clear hi)
  refine hK.out _ _ ⟨bc BK222 0, bc BK222 1⟩ (fun hHeld => ?_)
  clear hK K
  refine norm_ (a' := ?_) ?_ ?_
  rotate_left
  ·show Act.put _ (some 13) _ = _
   simp only [Act.put, List.setIfInBounds_toArray, List.set_cons_zero, List.set_cons_succ, i64_w, i32_w]
   rfl
  refine pure_ (i := 3) (N := some 14) (v := ?_) (a' := ?_) #[true, true, true, true] rfl rfl (by kernel_rfl) (fun _ _ _ h => h) (Or.inl ⟨by rfl, ?_⟩) ?_ ?_
  rotate_left
  ·intro w'
   go_simp
   with_reducible rfl
  rotate_left
  ·simp only [Act.put, List.setIfInBounds_toArray, List.set_cons_zero, List.set_cons_succ, i64_w, i32_w]
   rfl
  refine done_ (by kernel_rfl) ?_
  try go_wp2
  replace HO213 := Aside0.mk (Kd.R_drew HO213.out)
  replace HO217 := Aside0.mk (Kd.R_drew HO217.out)
  replace HO221 := Aside0.mk (Kd.V_drew HO221.out)
  replace HO226 := Aside0.mk (Kd.V_drew HO226.out)
  replace BK209 := Aside0.mk (blk_drew BK209.out)
  replace BK222 := Aside0.mk (blk_drew BK222.out)
  replace HB := Aside0.mk (below_drew1 HB.out)
  refine start_ (n := 4) (S := fun w' => w'.cell? ⟨gb222, 0, none⟩ = some (.bool t218) ∧ w'.cell? ⟨gb222, 1, none⟩ = some (.slice Ao20 t219.length co20)) (ds := []) #[false, false, false, false] (by kernel_rfl) rfl rfl ⟨bc BK222 0, bc BK222 1⟩ (fun hHeld => ?_)
  generalize w25.drew = w26 at HO213 HO217 HO221 HO226 BK209 BK222 HB hHeld ⊢
  refine take_ (i := 0) (N := some 15) (v := ?_) (a' := ?_) #[true, false, false, false] rfl rfl (by kernel_rfl) (fun _ _ _ h => h) (Or.inl ⟨by rfl, ?_⟩) hHeld ?_ ?_
  rotate_left
  ·rintro w' ⟨s0, s1⟩
   go_simp
   with_reducible rfl
  rotate_left
  ·simp only [Act.put, List.setIfInBounds_toArray, List.set_cons_zero, List.set_cons_succ, i64_w, i32_w]
   rfl
  refine one_ (i := 1) (N := some 16) #[true, true, false, false] rfl rfl (by kernel_rfl) (by decide) (fun K hK => ?_)
  refine goes_ Try.func60 (by kernel_rfl) rfl #[.int .i64 64] (by rfl) rfl rfl argt ?_
  with_reducible refine (turnstoneref01_Power.calls k 64 t228 t229 _ A9.out).mono ?_
  rintro e w27 ⟨v230, rfl, ho0, hb⟩
  refine ⟨_, rfl, ?_⟩
  replace HO221 := vb HO221 hb
  replace HO226 := vb HO226 hb
  have HO231 := Aside0.mk (Kd.V_lower (Kd.V_mono (ok' := fun k_ => (w.heap.size ≤ k_) ∧ some k_ ≠ (.slice Ao14 t211.length co14 : Value).ownBlock ∧ some k_ ≠ (.slice Ao15 t215.length co15 : Value).ownBlock ∧ k_ ≠ gb209 ∧ k_ ≠ gb222) ho0 (fun k_ hk_ => ⟨(Nat.le_trans (below_size (belt HB)) hk_), (Kd.fresh' (Kd.R_lt (rt HO213)) k_ hk_), (Kd.fresh' (Kd.R_lt (rt HO217)) k_ hk_), (Kd.freshB (blkt BK209) k_ hk_), (Kd.freshB (blkt BK222) k_ hk_)⟩)) (below_size (belt HB)))
  replace HO213 := rb HO213 hb
  replace HO217 := rb HO217 hb
  replace BK209 := blkb BK209 hb
  replace BK222 := blkb BK222 hb
  replace HB := belb HB hb
  (try clear hb)
  (try clear hb2)
  (try clear hk)
  (try clear hi)
  (try clear ho0)
  obtain ⟨Ao28, co28, eo28⟩ := Kd.V_slice HO231.out
  (first | subst eo28 | (injection eo28 with f1_ f2_ f3_; have f4_ := f1_.symm; have f5_ := f3_.symm; clear f1_ f2_ f3_; subst f4_; subst f5_))
  refine hK.out _ _ ⟨bc BK222 0, bc BK222 1⟩ (fun hHeld => ?_)
  clear hK K
  refine norm_ (a' := ?_) ?_ ?_
  rotate_left
  ·show Act.put _ (some 16) _ = _
   simp only [Act.put, List.setIfInBounds_toArray, List.set_cons_zero, List.set_cons_succ, i64_w, i32_w]
   rfl
  refine one_ (i := 2) (N := some 17) #[true, true, true, false] rfl rfl (by kernel_rfl) (by decide) (fun K hK => ?_)
  refine goes_ Try.func43 (by kernel_rfl) rfl #[.agg #[.bool t218, .slice Ao20 t219.length co20], .agg #[.bool t228, .slice Ao28 t229.length co28]] (by rfl) rfl rfl argt ?_
  with_reducible refine (turnstoneref01_Sub.calls k t218 _ _ t219 t228 (fun k_ => ((w.heap.size ≤ k_) ∧ (some k_ ≠ (.slice Ao14 t211.length co14 : Value).ownBlock ∧ (some k_ ≠ (.slice Ao15 t215.length co15 : Value).ownBlock ∧ (k_ ≠ gb209 ∧ k_ ≠ gb222))))) _ _ t229 t232 t233 _ ?side1 ?side2 ?side3 A10.out).mono ?_
  (case side1 => repeat (first | exact (Kd.V_reads' HO221.out).2.2 | (with_reducible refine Kd.C_alloc ?_ _) | (with_reducible refine Kd.C_drewN ?_ _) | (with_reducible refine Kd.C_drew ?_)))
  (case side2 => exact (Kd.V_reads' HO221.out).2.1)
  (case side3 => exact HO231.out)
  rintro e w29 ⟨v234, rfl, ho0, hb⟩
  refine ⟨_, rfl, ?_⟩
  replace HO221 := vb HO221 hb
  replace HO226 := vb HO226 hb
  replace HO231 := vb HO231 hb
  have HO235 := Aside0.mk (Kd.V_lower (Kd.V_mono (ok' := fun k_ => (w.heap.size ≤ k_) ∧ some k_ ≠ (.slice Ao14 t211.length co14 : Value).ownBlock ∧ some k_ ≠ (.slice Ao15 t215.length co15 : Value).ownBlock ∧ k_ ≠ gb209 ∧ k_ ≠ gb222) ho0 (fun k_ hk_ => ⟨Or.elim hk_ (fun hs_ => hs_.1) (fun hn_ => (Nat.le_trans (below_size (belt HB)) hn_)), Or.elim hk_ (fun hs_ => hs_.2.1) (fun hn_ => (Kd.fresh' (Kd.R_lt (rt HO213)) k_ hn_)), Or.elim hk_ (fun hs_ => hs_.2.2.1) (fun hn_ => (Kd.fresh' (Kd.R_lt (rt HO217)) k_ hn_)), Or.elim hk_ (fun hs_ => hs_.2.2.2.1) (fun hn_ => (Kd.freshB (blkt BK209) k_ hn_)), Or.elim hk_ (fun hs_ => hs_.2.2.2.2) (fun hn_ => (Kd.freshB (blkt BK222) k_ hn_))⟩)) (below_size (belt HB)))
  replace HO213 := rb HO213 hb
  replace HO217 := rb HO217 hb
  replace BK209 := blkb BK209 hb
  replace BK222 := blkb BK222 hb
  replace HB := belb HB hb
  (try clear hb)
  (try clear hb2)
  (try clear hk)
  (try clear hi)
  (try clear ho0)
  obtain ⟨Ao31, co31, eo31⟩ := Kd.V_slice HO235.out
  (first | subst eo31 | (injection eo31 with f1_ f2_ f3_; have f4_ := f1_.symm; have f5_ := f3_.symm; clear f1_ f2_ f3_; subst f4_; subst f5_))
  refine hK.out _ _ ⟨bc BK222 0, bc BK222 1⟩ (fun hHeld => ?_)
  clear hK K
  refine norm_ (a' := ?_) ?_ ?_
  rotate_left
  ·show Act.put _ (some 17) _ = _
   simp only [Act.put, List.setIfInBounds_toArray, List.set_cons_zero, List.set_cons_succ, i64_w, i32_w]
   rfl
  refine one_ (i := 3) (N := none) #[true, true, true, true] rfl rfl (by kernel_rfl) (by decide) (fun K hK => ?_)
  have hs30 : w29.cell? ⟨gb209, 0, none⟩ = some (.bool false) := bc BK209 0
  have hfs30 := blk_frozen BK209.out 0
  have hns30_1 := NB222_209.out
  have hms30_1 := NB209_222.out
  have hs32 : w29.cell? ⟨gb209, 1, none⟩ = some (.slice none 0 0) := bc BK209 1
  have hfs32 := blk_frozen BK209.out 1
  have hns32_1 := NB222_209.out
  have hms32_1 := NB209_222.out
  refine skip_ (w1 := ?_) (by rfl) rfl ?_ ?_
  rotate_left
  ·go_simp
   rfl
  refine hK.out _ _ ⟨((cell_far (p := ⟨gb209, _, none⟩) NB222_209.out _).trans (((cell_far (p := ⟨gb209, _, none⟩) NB222_209.out _).trans (hHeld.1)))), ((cell_far (p := ⟨gb209, _, none⟩) NB222_209.out _).trans (((cell_far (p := ⟨gb209, _, none⟩) NB222_209.out _).trans (hHeld.2))))⟩ (fun hHeld => ?_)
  clear hK K
  refine done_ (by kernel_rfl) ?_
  try go_wp2
  refine bodyPost_ret (results_cell_row rfl _ _ gb209 28 #[.bool t232, .slice Ao31 t233.length co31] (0, 0) _ rfl (by (with_reducible repeat (first | refine blk_drewN ?_ _ | refine blk_drew ?_ | refine blk_alloc ?_ _)); refine blk_put (cs := #[.bool t232, .slice none 0 0]) ?_ 1 _ rfl; (with_reducible repeat (first | refine blk_drewN ?_ _ | refine blk_drew ?_ | refine blk_alloc ?_ _)); refine blk_put (cs := #[.bool false, .slice none 0 0]) ?_ 0 _ rfl; exact blkt BK209) Try.underlying28 rfl (by kernel_rfl)) rfl ?_
  exact ⟨_, by first | rfl | (simp [errW_none, errW_some] <;> rfl) | (simp [*, errW_none, errW_some] <;> rfl), by (with_reducible repeat (first | apply Kd.V_alloc | apply Kd.V_drewN | apply Kd.V_drew)); exact Kd.V_mono (Kd.V_far (p := ⟨gb209, 1, none⟩) (Kd.V_far (p := ⟨gb209, 0, none⟩) (Kd.V_mono HO235.out (fun k_ hk => (⟨hk, hk.2.2.2.1⟩ : _ ∧ k_ ≠ gb209))) (fun _ hk => hk.2) (.bool t232)) (fun _ hk => hk.2) (.slice Ao31 t233.length co31)) (fun _ hk => hk.1.1), belt HB⟩
 rw [if_neg c8] at H
 have c8b0 : decide (0 ≤ t227) = false := decide_eq_false c8
 clear c8
 replace H := Option.bind_eq_some_iff.mp H
 obtain ⟨⟨t236, t237⟩, A330, H⟩ := H
 replace H : ((turnstoneref01_Neg.f k t236 t237).bind fun bt240 => ((turnstoneref01_Cmp.f k t218 t219 bt240.1 bt240.2).bind fun t244 => (if t244 < 0 then ((turnstoneref01_Power.f k 64).bind fun bt245 => ((turnstoneref01_Add.f k t218 t219 bt245.1 bt245.2).bind fun bt249 => (some (bt249.1, bt249.2)))) else (some (t218, t219))))) = some (r1, r2) := H
 have A33 := Aside0.mk A330
 clear A330
 replace H := Option.bind_eq_some_iff.mp H
 obtain ⟨⟨t240, t241⟩, A340, H⟩ := H
 replace H : ((turnstoneref01_Cmp.f k t218 t219 t240 t241).bind fun t244 => (if t244 < 0 then ((turnstoneref01_Power.f k 64).bind fun bt245 => ((turnstoneref01_Add.f k t218 t219 bt245.1 bt245.2).bind fun bt249 => (some (bt249.1, bt249.2)))) else (some (t218, t219)))) = some (r1, r2) := H
 have A34 := Aside0.mk A340
 clear A340
 replace H := Option.bind_eq_some_iff.mp H
 obtain ⟨t244, A350, H⟩ := H
 replace H : (if t244 < 0 then ((turnstoneref01_Power.f k 64).bind fun bt245 => ((turnstoneref01_Add.f k t218 t219 bt245.1 bt245.2).bind fun bt249 => (some (bt249.1, bt249.2)))) else (some (t218, t219))) = some (r1, r2) := H
 have A35 := Aside0.mk A350
 clear A350
 by_cases c36 : t244 < 0
 ·rw [if_pos c36] at H
  have c36b0 : decide (t244 < 0) = true := decide_eq_true c36
  clear c36
  replace H := Option.bind_eq_some_iff.mp H
  obtain ⟨⟨t245, t246⟩, A370, H⟩ := H
  replace H : ((turnstoneref01_Add.f k t218 t219 t245 t246).bind fun bt249 => (some (bt249.1, bt249.2))) = some (r1, r2) := H
  have A37 := Aside0.mk A370
  clear A370
  replace H := Option.bind_eq_some_iff.mp H
  obtain ⟨⟨t249, t250⟩, A380, H⟩ := H
  replace H : (some (t249, t250)) = some (r1, r2) := H
  have A38 := Aside0.mk A380
  clear A380
  simp only [Option.some.injEq, Prod.mk.injEq] at H
  obtain ⟨rfl, rfl⟩ := H
  go_enter Try.func21, Try.ntmps21
  try go_wp2_with (first | ((with_reducible refine gate_dst (N := 4) rfl ?_); refine box_event ?hg (N := 4) ?hd (cs := #[.bool false, .slice none 0 0]) (t := 28) ?hr ?_; (case hd => rfl); (case hg => rfl); (case hr => first | (go_simp; done) | (go_simp; rfl)); intro gb209 hg w39 hbox hb; have BK209 := Aside0.mk (hbox); have GW209 := bels HB hg; have GE209 := bels HB hg; replace HB := belb HB hb; clear hb hbox hg) | ((with_reducible refine gate_callee (f := 24) rfl ?_); refine goesL_ (some 7) rfl rfl Try.func24 (by kernel_rfl) rfl #[.int .u64 a0] rfl argt ?_; (with_reducible refine (turnstoneref01_U.calls k a0 t210 t211 _ A3.out).mono ?_); rintro e w40 ⟨v212, rfl, ho0, hb⟩; refine ⟨_, rfl, ?_⟩; have HO213 := Aside0.mk (Kd.R_lower (Kd.R_newM (M := fun k_ => (w.heap.size ≤ k_)) ho0 (below_size (belt HB)) (fun k_ h_ => h_)) (below_size (belt HB))); replace BK209 := blkb BK209 hb; replace HB := belb HB hb; (try clear hb); (try clear hb2); (try clear hk); (try clear hi); (try clear ho0)) | ((with_reducible refine gate_callee (f := 24) rfl ?_); refine goesL_ (some 9) rfl rfl Try.func24 (by kernel_rfl) rfl #[.int .u64 a1] rfl argt ?_; (with_reducible refine (turnstoneref01_U.calls k a1 t214 t215 _ A4.out).mono ?_); rintro e w41 ⟨v216, rfl, ho0, hb⟩; refine ⟨_, rfl, ?_⟩; have HO217 := Aside0.mk (Kd.R_lower (Kd.R_new' (Kd.R_newM (M := fun k_ => (w.heap.size ≤ k_)) ho0 (below_size (belt HB)) (fun k_ h_ => h_)) (Kd.R_lt (rt HO213))) (below_size (belt HB))); replace BK209 := blkb BK209 hb; replace HO213 := Aside0.mk (Kd.R_elder' (rt HO213) (Kd.R_base ho0) hb); replace HB := belb HB hb; (try clear hb); (try clear hb2); (try clear hk); (try clear hi); (try clear ho0); obtain ⟨Ao42, co42, eo42⟩ := Kd.R_slice HO213.out; subst eo42; obtain ⟨Ao43, co43, eo43⟩ := Kd.R_slice HO217.out; subst eo43) | ((with_reducible refine gate_callee (f := 43) rfl ?_); refine goesL_ (some 10) rfl rfl Try.func43 (by kernel_rfl) rfl #[.agg #[.bool t210, .slice Ao42 t211.length co42], .agg #[.bool t214, .slice Ao43 t215.length co43]] rfl argt ?_; (with_reducible refine (turnstoneref01_Sub.calls k t210 _ _ t211 t214 (fun k_ => some k_ = (.slice Ao43 t215.length co43 : Value).ownBlock) _ _ t215 t218 t219 _ ?side1 ?side2 ?side3 A5.out).mono ?_); (case side1 => repeat (first | exact (Kd.R_reads' HO213.out).2.2 | (with_reducible refine Kd.C_alloc ?_ _) | (with_reducible refine Kd.C_drewN ?_ _) | (with_reducible refine Kd.C_drew ?_))); (case side2 => exact (Kd.R_reads' HO213.out).2.1); (case side3 => exact Kd.R_V (Kd.R_tight rfl (Kd.R_types (HO217.out) BK209.out (by decide)))); rintro e w44 ⟨v220, rfl, ho0, hb⟩; refine ⟨_, rfl, ?_⟩; have HO221 := Aside0.mk (Kd.V_lower (Kd.V_mono (ok' := fun k_ => (w.heap.size ≤ k_) ∧ some k_ ≠ (.slice Ao42 t211.length co42 : Value).ownBlock ∧ k_ ≠ gb209) ho0 (fun k_ hk_ => ⟨Or.elim hk_ (fun hs_ => ((Kd.R_types (HO217.out) BK209.out (by decide)).1 k_ hs_.symm).1.1.1) (fun hn_ => (Nat.le_trans (below_size (belt HB)) hn_)), Or.elim hk_ (fun hs_ => ((Kd.R_types (HO217.out) BK209.out (by decide)).1 k_ hs_.symm).1.2) (fun hn_ => (Kd.fresh' (Kd.R_lt (rt HO213)) k_ hn_)), Or.elim hk_ (fun hs_ => ((Kd.R_types (HO217.out) BK209.out (by decide)).1 k_ hs_.symm).2) (fun hn_ => (Kd.freshB (blkt BK209) k_ hn_))⟩)) (below_size (belt HB))); replace HO213 := rb HO213 hb; replace HO217 := rb HO217 hb; replace BK209 := blkb BK209 hb; replace HB := belb HB hb; (try clear hb); (try clear hb2); (try clear hk); (try clear hi); (try clear ho0)) | ((with_reducible refine gate_dst (N := 5) rfl ?_); refine box_event ?hg (N := 5) ?hd (cs := #[.bool false, .slice none 0 0]) (t := 28) ?hr ?_; (case hd => rfl); (case hg => rfl); (case hr => first | (go_simp; done) | (go_simp; rfl)); intro gb222 hg w45 hbox hb; replace HO213 := rb HO213 hb; replace HO217 := rb HO217 hb; replace HO221 := Aside0.mk (Kd.V_below (Kd.V_elderB (vt HO221) gb222 (Nat.le_of_eq hg.symm)) hb); have BK222 := Aside0.mk (hbox); have GW222 := bels HB hg; have GE222 := bels HB hg; have NB209_222 := blkl BK209 hg; have NB222_209 := blkg BK209 hg; replace BK209 := blkb BK209 hb; replace HB := belb HB hb; clear hb hbox hg; have hnb46 := NB222_209.out; have hnc46 := NB209_222.out; have hcz47_0 : w45.cell? ⟨gb222, 0, none⟩ = some (.bool false) := bc BK222 0; have hcz47_1 : w45.cell? ⟨gb222, 1, none⟩ = some (.slice none 0 0) := bc BK222 1; have hfz47_0 := blk_frozen BK222.out 0; have hfz47_1 := blk_frozen BK222.out 1; obtain ⟨Ao48, co48, eo48⟩ := Kd.V_slice HO221.out; subst eo48))
  have n0_ : Aside0 (Kd.R (Kd.int .i64) 3 ((w45.setCell ⟨gb222, 0, none⟩ (.bool t218)).setCell ⟨gb222, 1, none⟩ (.slice Ao48 t219.length co48)) w.heap.size (fun k_ => (w.heap.size ≤ k_) ∧ some k_ ≠ (.slice Ao43 t215.length co43 : Value).ownBlock) (.slice Ao42 t211.length co42) t211) := ⟨by (with_reducible repeat (first | apply Kd.R_alloc | apply Kd.R_drewN | apply Kd.R_drew)); exact Kd.R_mono (Kd.R_far (p := ⟨gb222, 1, none⟩) (Kd.R_far (p := ⟨gb222, 0, none⟩) (Kd.R_types HO213.out BK222.out (by decide)) (fun _ hk => hk.2) (.bool t218)) (fun _ hk => hk.2) (.slice Ao48 t219.length co48)) (fun _ hk => ⟨hk.1.1.1, hk.1.2⟩)⟩
  have n1_ : Aside0 (Kd.R (Kd.int .i64) 3 ((w45.setCell ⟨gb222, 0, none⟩ (.bool t218)).setCell ⟨gb222, 1, none⟩ (.slice Ao48 t219.length co48)) w.heap.size (fun k_ => (w.heap.size ≤ k_) ∧ some k_ ≠ (.slice Ao42 t211.length co42 : Value).ownBlock) (.slice Ao43 t215.length co43) t215) := ⟨by (with_reducible repeat (first | apply Kd.R_alloc | apply Kd.R_drewN | apply Kd.R_drew)); exact Kd.R_mono (Kd.R_far (p := ⟨gb222, 1, none⟩) (Kd.R_far (p := ⟨gb222, 0, none⟩) (Kd.R_types HO217.out BK222.out (by decide)) (fun _ hk => hk.2) (.bool t218)) (fun _ hk => hk.2) (.slice Ao48 t219.length co48)) (fun _ hk => ⟨hk.1.1.1, hk.1.2⟩)⟩
  have n2_ : Aside0 (Kd.V (Kd.int .i64) 3 ((w45.setCell ⟨gb222, 0, none⟩ (.bool t218)).setCell ⟨gb222, 1, none⟩ (.slice Ao48 t219.length co48)) w.heap.size (fun k_ => (w.heap.size ≤ k_) ∧ some k_ ≠ (.slice Ao42 t211.length co42 : Value).ownBlock ∧ k_ ≠ gb209 ∧ k_ ≠ gb222) (.slice Ao48 t219.length co48) t219) := ⟨by (with_reducible repeat (first | apply Kd.V_alloc | apply Kd.V_drewN | apply Kd.V_drew)); exact Kd.V_mono (Kd.V_far (p := ⟨gb222, 1, none⟩) (Kd.V_far (p := ⟨gb222, 0, none⟩) (Kd.V_mono HO221.out (fun k_ hk => (⟨hk, hk.2⟩ : _ ∧ k_ ≠ gb222))) (fun _ hk => hk.2) (.bool t218)) (fun _ hk => hk.2) (.slice Ao48 t219.length co48)) (fun _ hk => ⟨hk.1.1.1, ⟨hk.1.1.2.1, ⟨hk.1.1.2.2, hk.1.2⟩⟩⟩)⟩
  have n3_ : Aside0 (((w45.setCell ⟨gb222, 0, none⟩ (.bool t218)).setCell ⟨gb222, 1, none⟩ (.slice Ao48 t219.length co48)).heap[gb209]? = some (.cells #[.bool false, .slice none 0 0] 28 (0, 0))) := ⟨by (with_reducible repeat (first | refine blk_drewN ?_ _ | refine blk_drew ?_ | refine blk_alloc ?_ _)); refine blk_far ?_ NB209_222.out _; (with_reducible repeat (first | refine blk_drewN ?_ _ | refine blk_drew ?_ | refine blk_alloc ?_ _)); refine blk_far ?_ NB209_222.out _; exact blkt BK209⟩
  have n4_ : Aside0 (((w45.setCell ⟨gb222, 0, none⟩ (.bool t218)).setCell ⟨gb222, 1, none⟩ (.slice Ao48 t219.length co48)).heap[gb222]? = some (.cells #[.bool t218, .slice Ao48 t219.length co48] 28 (0, 0))) := ⟨by (with_reducible repeat (first | refine blk_drewN ?_ _ | refine blk_drew ?_ | refine blk_alloc ?_ _)); refine blk_put (cs := #[.bool t218, .slice none 0 0]) ?_ 1 _ rfl; (with_reducible repeat (first | refine blk_drewN ?_ _ | refine blk_drew ?_ | refine blk_alloc ?_ _)); refine blk_put (cs := #[.bool false, .slice none 0 0]) ?_ 0 _ rfl; exact blkt BK222⟩
  have n5_ : Aside0 (Below w.heap.size w ((w45.setCell ⟨gb222, 0, none⟩ (.bool t218)).setCell ⟨gb222, 1, none⟩ (.slice Ao48 t219.length co48))) := ⟨belt HB⟩
  (try clear HO213)
  (try clear HO217)
  (try clear HO221)
  (try clear BK209)
  (try clear BK222)
  (try clear HB)
  generalize ((w45.setCell ⟨gb222, 0, none⟩ (.bool t218)).setCell ⟨gb222, 1, none⟩ (.slice Ao48 t219.length co48)) = w49 at n0_ n1_ n2_ n3_ n4_ n5_ ⊢
  have HO213 := n0_
  have HO217 := n1_
  have HO221 := n2_
  have BK209 := n3_
  have BK222 := n4_
  have HB := n5_
  clear n0_ n1_ n2_ n3_ n4_ n5_
  replace HO213 := Aside0.mk (Kd.R_drew HO213.out)
  replace HO217 := Aside0.mk (Kd.R_drew HO217.out)
  replace HO221 := Aside0.mk (Kd.V_drew HO221.out)
  replace BK209 := Aside0.mk (blk_drew BK209.out)
  replace BK222 := Aside0.mk (blk_drew BK222.out)
  replace HB := Aside0.mk (below_drew1 HB.out)
  refine start_ (n := 4) (S := fun w' => w'.cell? ⟨gb222, 0, none⟩ = some (.bool t218) ∧ w'.cell? ⟨gb222, 1, none⟩ = some (.slice Ao48 t219.length co48)) (ds := []) #[false, false, false, false] (by kernel_rfl) rfl rfl ⟨bc BK222 0, bc BK222 1⟩ (fun hHeld => ?_)
  generalize w49.drew = w50 at HO213 HO217 HO221 BK209 BK222 HB hHeld ⊢
  refine take_ (i := 0) (N := some 11) (v := ?_) (a' := ?_) #[true, false, false, false] rfl rfl (by kernel_rfl) (fun _ _ _ h => h) (Or.inl ⟨by rfl, ?_⟩) hHeld ?_ ?_
  rotate_left
  ·rintro w' ⟨s0, s1⟩
   go_simp
   with_reducible rfl
  rotate_left
  ·simp only [Act.put, List.setIfInBounds_toArray, List.set_cons_zero, List.set_cons_succ, i64_w, i32_w]
   rfl
  refine one_ (i := 1) (N := some 12) #[true, true, false, false] rfl rfl (by kernel_rfl) (by decide) (fun K hK => ?_)
  refine goes_ Try.func60 (by kernel_rfl) rfl #[.int .i64 63] (by rfl) rfl rfl argt ?_
  with_reducible refine (turnstoneref01_Power.calls k 63 t223 t224 _ A6.out).mono ?_
  rintro e w51 ⟨v225, rfl, ho0, hb⟩
  refine ⟨_, rfl, ?_⟩
  replace HO221 := vb HO221 hb
  have HO226 := Aside0.mk (Kd.V_lower (Kd.V_mono (ok' := fun k_ => (w.heap.size ≤ k_) ∧ some k_ ≠ (.slice Ao42 t211.length co42 : Value).ownBlock ∧ some k_ ≠ (.slice Ao43 t215.length co43 : Value).ownBlock ∧ k_ ≠ gb209 ∧ k_ ≠ gb222) ho0 (fun k_ hk_ => ⟨(Nat.le_trans (below_size (belt HB)) hk_), (Kd.fresh' (Kd.R_lt (rt HO213)) k_ hk_), (Kd.fresh' (Kd.R_lt (rt HO217)) k_ hk_), (Kd.freshB (blkt BK209) k_ hk_), (Kd.freshB (blkt BK222) k_ hk_)⟩)) (below_size (belt HB)))
  replace HO213 := rb HO213 hb
  replace HO217 := rb HO217 hb
  replace BK209 := blkb BK209 hb
  replace BK222 := blkb BK222 hb
  replace HB := belb HB hb
  (try clear hb)
  (try clear hb2)
  (try clear hk)
  (try clear hi)
  (try clear ho0)
  obtain ⟨Ao52, co52, eo52⟩ := Kd.V_slice HO226.out
  (first | subst eo52 | (injection eo52 with f1_ f2_ f3_; have f4_ := f1_.symm; have f5_ := f3_.symm; clear f1_ f2_ f3_; subst f4_; subst f5_))
  refine hK.out _ _ ⟨bc BK222 0, bc BK222 1⟩ (fun hHeld => ?_)
  clear hK K
  refine norm_ (a' := ?_) ?_ ?_
  rotate_left
  ·show Act.put _ (some 12) _ = _
   simp only [Act.put, List.setIfInBounds_toArray, List.set_cons_zero, List.set_cons_succ, i64_w, i32_w]
   rfl
  refine one_ (i := 2) (N := some 13) #[true, true, true, false] rfl rfl (by kernel_rfl) (by decide) (fun K hK => ?_)
  refine goes_ Try.func18 (by kernel_rfl) rfl #[.agg #[.bool t218, .slice Ao48 t219.length co48], .agg #[.bool t223, .slice Ao52 t224.length co52]] (by rfl) rfl rfl argt ?_
  with_reducible refine (turnstoneref01_Cmp.calls k t218 _ _ t219 t223 _ _ t224 t227 _ ?side1 ?side2 ?side3 ?side4 A7.out).mono ?_
  (case side1 => repeat (first | exact (Kd.V_reads' HO221.out).2.2 | (with_reducible refine Kd.C_alloc ?_ _) | (with_reducible refine Kd.C_drewN ?_ _) | (with_reducible refine Kd.C_drew ?_)))
  (case side2 => exact (Kd.V_reads' HO221.out).2.1)
  (case side3 => repeat (first | exact (Kd.V_reads' HO226.out).2.2 | (with_reducible refine Kd.C_alloc ?_ _) | (with_reducible refine Kd.C_drewN ?_ _) | (with_reducible refine Kd.C_drew ?_)))
  (case side4 => exact (Kd.V_reads' HO226.out).2.1)
  rintro e w53 ⟨rfl, hb⟩
  refine ⟨_, rfl, ?_⟩
  replace HO213 := rb HO213 hb
  replace HO217 := rb HO217 hb
  replace HO221 := vb HO221 hb
  replace HO226 := vb HO226 hb
  replace BK209 := blkb BK209 hb
  replace BK222 := blkb BK222 hb
  replace HB := belb HB hb
  (try clear hb)
  (try clear hb2)
  (try clear hk)
  (try clear hi)
  refine hK.out _ _ ⟨bc BK222 0, bc BK222 1⟩ (fun hHeld => ?_)
  clear hK K
  refine norm_ (a' := ?_) ?_ ?_
  rotate_left
  ·show Act.put _ (some 13) _ = _
   simp only [Act.put, List.setIfInBounds_toArray, List.set_cons_zero, List.set_cons_succ, i64_w, i32_w]
   rfl
  refine pure_ (i := 3) (N := some 14) (v := ?_) (a' := ?_) #[true, true, true, true] rfl rfl (by kernel_rfl) (fun _ _ _ h => h) (Or.inl ⟨by rfl, ?_⟩) ?_ ?_
  rotate_left
  ·intro w'
   go_simp
   with_reducible rfl
  rotate_left
  ·simp only [Act.put, List.setIfInBounds_toArray, List.set_cons_zero, List.set_cons_succ, i64_w, i32_w]
   rfl
  refine done_ (by kernel_rfl) ?_
  try go_wp2
  replace HO213 := Aside0.mk (Kd.R_drew HO213.out)
  replace HO217 := Aside0.mk (Kd.R_drew HO217.out)
  replace HO221 := Aside0.mk (Kd.V_drew HO221.out)
  replace HO226 := Aside0.mk (Kd.V_drew HO226.out)
  replace BK209 := Aside0.mk (blk_drew BK209.out)
  replace BK222 := Aside0.mk (blk_drew BK222.out)
  replace HB := Aside0.mk (below_drew1 HB.out)
  refine start_ (n := 5) (S := fun w' => w'.cell? ⟨gb222, 0, none⟩ = some (.bool t218) ∧ w'.cell? ⟨gb222, 1, none⟩ = some (.slice Ao48 t219.length co48)) (ds := []) #[false, false, false, false, false] (by kernel_rfl) rfl rfl ⟨bc BK222 0, bc BK222 1⟩ (fun hHeld => ?_)
  generalize w53.drew = w54 at HO213 HO217 HO221 HO226 BK209 BK222 HB hHeld ⊢
  refine take_ (i := 0) (N := some 18) (v := ?_) (a' := ?_) #[true, false, false, false, false] rfl rfl (by kernel_rfl) (fun _ _ _ h => h) (Or.inl ⟨by rfl, ?_⟩) hHeld ?_ ?_
  rotate_left
  ·rintro w' ⟨s0, s1⟩
   go_simp
   with_reducible rfl
  rotate_left
  ·simp only [Act.put, List.setIfInBounds_toArray, List.set_cons_zero, List.set_cons_succ, i64_w, i32_w]
   rfl
  refine one_ (i := 1) (N := some 19) #[true, true, false, false, false] rfl rfl (by kernel_rfl) (by decide) (fun K hK => ?_)
  refine goes_ Try.func60 (by kernel_rfl) rfl #[.int .i64 63] (by rfl) rfl rfl argt ?_
  with_reducible refine (turnstoneref01_Power.calls k 63 t236 t237 _ A33.out).mono ?_
  rintro e w55 ⟨v238, rfl, ho0, hb⟩
  refine ⟨_, rfl, ?_⟩
  replace HO221 := vb HO221 hb
  replace HO226 := vb HO226 hb
  have HO239 := Aside0.mk (Kd.V_lower (Kd.V_mono (ok' := fun k_ => (w.heap.size ≤ k_) ∧ some k_ ≠ (.slice Ao42 t211.length co42 : Value).ownBlock ∧ some k_ ≠ (.slice Ao43 t215.length co43 : Value).ownBlock ∧ k_ ≠ gb209 ∧ k_ ≠ gb222) ho0 (fun k_ hk_ => ⟨(Nat.le_trans (below_size (belt HB)) hk_), (Kd.fresh' (Kd.R_lt (rt HO213)) k_ hk_), (Kd.fresh' (Kd.R_lt (rt HO217)) k_ hk_), (Kd.freshB (blkt BK209) k_ hk_), (Kd.freshB (blkt BK222) k_ hk_)⟩)) (below_size (belt HB)))
  replace HO213 := rb HO213 hb
  replace HO217 := rb HO217 hb
  replace BK209 := blkb BK209 hb
  replace BK222 := blkb BK222 hb
  replace HB := belb HB hb
  (try clear hb)
  (try clear hb2)
  (try clear hk)
  (try clear hi)
  (try clear ho0)
  obtain ⟨Ao56, co56, eo56⟩ := Kd.V_slice HO239.out
  (first | subst eo56 | (injection eo56 with f1_ f2_ f3_; have f4_ := f1_.symm; have f5_ := f3_.symm; clear f1_ f2_ f3_; subst f4_; subst f5_))
  refine hK.out _ _ ⟨bc BK222 0, bc BK222 1⟩ (fun hHeld => ?_)
  clear hK K
  refine norm_ (a' := ?_) ?_ ?_
  rotate_left
  ·show Act.put _ (some 19) _ = _
   simp only [Act.put, List.setIfInBounds_toArray, List.set_cons_zero, List.set_cons_succ, i64_w, i32_w]
   rfl
  refine one_ (i := 2) (N := some 20) #[true, true, true, false, false] rfl rfl (by kernel_rfl) (by decide) (fun K hK => ?_)
  refine goes_ Try.func61 (by kernel_rfl) rfl #[.agg #[.bool t236, .slice Ao56 t237.length co56]] (by rfl) rfl rfl argt ?_
  with_reducible refine (turnstoneref01_Neg.calls k t236 (fun k_ => ((w.heap.size ≤ k_) ∧ (some k_ ≠ (.slice Ao42 t211.length co42 : Value).ownBlock ∧ (some k_ ≠ (.slice Ao43 t215.length co43 : Value).ownBlock ∧ (k_ ≠ gb209 ∧ k_ ≠ gb222))))) _ _ t237 t240 t241 _ ?side1 A34.out).mono ?_
  (case side1 => exact HO239.out)
  rintro e w57 ⟨v242, rfl, ho0, hb⟩
  refine ⟨_, rfl, ?_⟩
  replace HO221 := vb HO221 hb
  replace HO226 := vb HO226 hb
  replace HO239 := vb HO239 hb
  have HO243 := Aside0.mk (Kd.V_lower (Kd.V_mono (ok' := fun k_ => (w.heap.size ≤ k_) ∧ some k_ ≠ (.slice Ao42 t211.length co42 : Value).ownBlock ∧ some k_ ≠ (.slice Ao43 t215.length co43 : Value).ownBlock ∧ k_ ≠ gb209 ∧ k_ ≠ gb222) ho0 (fun k_ hk_ => ⟨Or.elim hk_ (fun hs_ => hs_.1) (fun hn_ => (Nat.le_trans (below_size (belt HB)) hn_)), Or.elim hk_ (fun hs_ => hs_.2.1) (fun hn_ => (Kd.fresh' (Kd.R_lt (rt HO213)) k_ hn_)), Or.elim hk_ (fun hs_ => hs_.2.2.1) (fun hn_ => (Kd.fresh' (Kd.R_lt (rt HO217)) k_ hn_)), Or.elim hk_ (fun hs_ => hs_.2.2.2.1) (fun hn_ => (Kd.freshB (blkt BK209) k_ hn_)), Or.elim hk_ (fun hs_ => hs_.2.2.2.2) (fun hn_ => (Kd.freshB (blkt BK222) k_ hn_))⟩)) (below_size (belt HB)))
  replace HO213 := rb HO213 hb
  replace HO217 := rb HO217 hb
  replace BK209 := blkb BK209 hb
  replace BK222 := blkb BK222 hb
  replace HB := belb HB hb
  (try clear hb)
  (try clear hb2)
  (try clear hk)
  (try clear hi)
  (try clear ho0)
  obtain ⟨Ao58, co58, eo58⟩ := Kd.V_slice HO243.out
  (first | subst eo58 | (injection eo58 with f1_ f2_ f3_; have f4_ := f1_.symm; have f5_ := f3_.symm; clear f1_ f2_ f3_; subst f4_; subst f5_))
  refine hK.out _ _ ⟨bc BK222 0, bc BK222 1⟩ (fun hHeld => ?_)
  clear hK K
  refine norm_ (a' := ?_) ?_ ?_
  rotate_left
  ·show Act.put _ (some 20) _ = _
   simp only [Act.put, List.setIfInBounds_toArray, List.set_cons_zero, List.set_cons_succ, i64_w, i32_w]
   rfl
  refine one_ (i := 3) (N := some 21) #[true, true, true, true, false] rfl rfl (by kernel_rfl) (by decide) (fun K hK => ?_)
  refine goes_ Try.func18 (by kernel_rfl) rfl #[.agg #[.bool t218, .slice Ao48 t219.length co48], .agg #[.bool t240, .slice Ao58 t241.length co58]] (by rfl) rfl rfl argt ?_
  with_reducible refine (turnstoneref01_Cmp.calls k t218 _ _ t219 t240 _ _ t241 t244 _ ?side1 ?side2 ?side3 ?side4 A35.out).mono ?_
  (case side1 => repeat (first | exact (Kd.V_reads' HO221.out).2.2 | (with_reducible refine Kd.C_alloc ?_ _) | (with_reducible refine Kd.C_drewN ?_ _) | (with_reducible refine Kd.C_drew ?_)))
  (case side2 => exact (Kd.V_reads' HO221.out).2.1)
  (case side3 => repeat (first | exact (Kd.V_reads' HO243.out).2.2 | (with_reducible refine Kd.C_alloc ?_ _) | (with_reducible refine Kd.C_drewN ?_ _) | (with_reducible refine Kd.C_drew ?_)))
  (case side4 => exact (Kd.V_reads' HO243.out).2.1)
  rintro e w59 ⟨rfl, hb⟩
  refine ⟨_, rfl, ?_⟩
  replace HO213 := rb HO213 hb
  replace HO217 := rb HO217 hb
  replace HO221 := vb HO221 hb
  replace HO226 := vb HO226 hb
  replace HO239 := vb HO239 hb
  replace HO243 := vb HO243 hb
  replace BK209 := blkb BK209 hb
  replace BK222 := blkb BK222 hb
  replace HB := belb HB hb
  (try clear hb)
  (try clear hb2)
  (try clear hk)
  (try clear hi)
  refine hK.out _ _ ⟨bc BK222 0, bc BK222 1⟩ (fun hHeld => ?_)
  clear hK K
  refine norm_ (a' := ?_) ?_ ?_
  rotate_left
  ·show Act.put _ (some 21) _ = _
   simp only [Act.put, List.setIfInBounds_toArray, List.set_cons_zero, List.set_cons_succ, i64_w, i32_w]
   rfl
  refine pure_ (i := 4) (N := some 22) (v := ?_) (a' := ?_) #[true, true, true, true, true] rfl rfl (by kernel_rfl) (fun _ _ _ h => h) (Or.inl ⟨by rfl, ?_⟩) ?_ ?_
  rotate_left
  ·intro w'
   go_simp
   with_reducible rfl
  rotate_left
  ·simp only [Act.put, List.setIfInBounds_toArray, List.set_cons_zero, List.set_cons_succ, i64_w, i32_w]
   rfl
  refine done_ (by kernel_rfl) ?_
  try go_wp2
  replace HO213 := Aside0.mk (Kd.R_drew HO213.out)
  replace HO217 := Aside0.mk (Kd.R_drew HO217.out)
  replace HO221 := Aside0.mk (Kd.V_drew HO221.out)
  replace HO226 := Aside0.mk (Kd.V_drew HO226.out)
  replace HO239 := Aside0.mk (Kd.V_drew HO239.out)
  replace HO243 := Aside0.mk (Kd.V_drew HO243.out)
  replace BK209 := Aside0.mk (blk_drew BK209.out)
  replace BK222 := Aside0.mk (blk_drew BK222.out)
  replace HB := Aside0.mk (below_drew1 HB.out)
  refine start_ (n := 4) (S := fun w' => w'.cell? ⟨gb222, 0, none⟩ = some (.bool t218) ∧ w'.cell? ⟨gb222, 1, none⟩ = some (.slice Ao48 t219.length co48)) (ds := []) #[false, false, false, false] (by kernel_rfl) rfl rfl ⟨bc BK222 0, bc BK222 1⟩ (fun hHeld => ?_)
  generalize w59.drew = w60 at HO213 HO217 HO221 HO226 HO239 HO243 BK209 BK222 HB hHeld ⊢
  refine take_ (i := 0) (N := some 23) (v := ?_) (a' := ?_) #[true, false, false, false] rfl rfl (by kernel_rfl) (fun _ _ _ h => h) (Or.inl ⟨by rfl, ?_⟩) hHeld ?_ ?_
  rotate_left
  ·rintro w' ⟨s0, s1⟩
   go_simp
   with_reducible rfl
  rotate_left
  ·simp only [Act.put, List.setIfInBounds_toArray, List.set_cons_zero, List.set_cons_succ, i64_w, i32_w]
   rfl
  refine one_ (i := 1) (N := some 24) #[true, true, false, false] rfl rfl (by kernel_rfl) (by decide) (fun K hK => ?_)
  refine goes_ Try.func60 (by kernel_rfl) rfl #[.int .i64 64] (by rfl) rfl rfl argt ?_
  with_reducible refine (turnstoneref01_Power.calls k 64 t245 t246 _ A37.out).mono ?_
  rintro e w61 ⟨v247, rfl, ho0, hb⟩
  refine ⟨_, rfl, ?_⟩
  replace HO221 := vb HO221 hb
  replace HO226 := vb HO226 hb
  replace HO239 := vb HO239 hb
  replace HO243 := vb HO243 hb
  have HO248 := Aside0.mk (Kd.V_lower (Kd.V_mono (ok' := fun k_ => (w.heap.size ≤ k_) ∧ some k_ ≠ (.slice Ao42 t211.length co42 : Value).ownBlock ∧ some k_ ≠ (.slice Ao43 t215.length co43 : Value).ownBlock ∧ k_ ≠ gb209 ∧ k_ ≠ gb222) ho0 (fun k_ hk_ => ⟨(Nat.le_trans (below_size (belt HB)) hk_), (Kd.fresh' (Kd.R_lt (rt HO213)) k_ hk_), (Kd.fresh' (Kd.R_lt (rt HO217)) k_ hk_), (Kd.freshB (blkt BK209) k_ hk_), (Kd.freshB (blkt BK222) k_ hk_)⟩)) (below_size (belt HB)))
  replace HO213 := rb HO213 hb
  replace HO217 := rb HO217 hb
  replace BK209 := blkb BK209 hb
  replace BK222 := blkb BK222 hb
  replace HB := belb HB hb
  (try clear hb)
  (try clear hb2)
  (try clear hk)
  (try clear hi)
  (try clear ho0)
  obtain ⟨Ao62, co62, eo62⟩ := Kd.V_slice HO248.out
  (first | subst eo62 | (injection eo62 with f1_ f2_ f3_; have f4_ := f1_.symm; have f5_ := f3_.symm; clear f1_ f2_ f3_; subst f4_; subst f5_))
  refine hK.out _ _ ⟨bc BK222 0, bc BK222 1⟩ (fun hHeld => ?_)
  clear hK K
  refine norm_ (a' := ?_) ?_ ?_
  rotate_left
  ·show Act.put _ (some 24) _ = _
   simp only [Act.put, List.setIfInBounds_toArray, List.set_cons_zero, List.set_cons_succ, i64_w, i32_w]
   rfl
  refine one_ (i := 2) (N := some 25) #[true, true, true, false] rfl rfl (by kernel_rfl) (by decide) (fun K hK => ?_)
  refine goes_ Try.func27 (by kernel_rfl) rfl #[.agg #[.bool t218, .slice Ao48 t219.length co48], .agg #[.bool t245, .slice Ao62 t246.length co62]] (by rfl) rfl rfl argt ?_
  with_reducible refine (turnstoneref01_Add.calls k t218 _ _ t219 t245 _ _ t246 t249 t250 _ ?side1 ?side2 ?side3 ?side4 A38.out).mono ?_
  (case side1 => repeat (first | exact (Kd.V_reads' HO221.out).2.2 | (with_reducible refine Kd.C_alloc ?_ _) | (with_reducible refine Kd.C_drewN ?_ _) | (with_reducible refine Kd.C_drew ?_)))
  (case side2 => exact (Kd.V_reads' HO221.out).2.1)
  (case side3 => repeat (first | exact (Kd.V_reads' HO248.out).2.2 | (with_reducible refine Kd.C_alloc ?_ _) | (with_reducible refine Kd.C_drewN ?_ _) | (with_reducible refine Kd.C_drew ?_)))
  (case side4 => exact (Kd.V_reads' HO248.out).2.1)
  rintro e w63 ⟨v251, rfl, ho0, hb⟩
  refine ⟨_, rfl, ?_⟩
  replace HO221 := vb HO221 hb
  replace HO226 := vb HO226 hb
  replace HO239 := vb HO239 hb
  replace HO243 := vb HO243 hb
  replace HO248 := vb HO248 hb
  have HO252 := Aside0.mk (Kd.V_lower (Kd.V_mono (ok' := fun k_ => (w.heap.size ≤ k_) ∧ some k_ ≠ (.slice Ao42 t211.length co42 : Value).ownBlock ∧ some k_ ≠ (.slice Ao43 t215.length co43 : Value).ownBlock ∧ k_ ≠ gb209 ∧ k_ ≠ gb222) ho0 (fun k_ hk_ => ⟨(Nat.le_trans (below_size (belt HB)) hk_), (Kd.fresh' (Kd.R_lt (rt HO213)) k_ hk_), (Kd.fresh' (Kd.R_lt (rt HO217)) k_ hk_), (Kd.freshB (blkt BK209) k_ hk_), (Kd.freshB (blkt BK222) k_ hk_)⟩)) (below_size (belt HB)))
  replace HO213 := rb HO213 hb
  replace HO217 := rb HO217 hb
  replace BK209 := blkb BK209 hb
  replace BK222 := blkb BK222 hb
  replace HB := belb HB hb
  (try clear hb)
  (try clear hb2)
  (try clear hk)
  (try clear hi)
  (try clear ho0)
  obtain ⟨Ao65, co65, eo65⟩ := Kd.V_slice HO252.out
  (first | subst eo65 | (injection eo65 with f1_ f2_ f3_; have f4_ := f1_.symm; have f5_ := f3_.symm; clear f1_ f2_ f3_; subst f4_; subst f5_))
  refine hK.out _ _ ⟨bc BK222 0, bc BK222 1⟩ (fun hHeld => ?_)
  clear hK K
  refine norm_ (a' := ?_) ?_ ?_
  rotate_left
  ·show Act.put _ (some 25) _ = _
   simp only [Act.put, List.setIfInBounds_toArray, List.set_cons_zero, List.set_cons_succ, i64_w, i32_w]
   rfl
  refine one_ (i := 3) (N := none) #[true, true, true, true] rfl rfl (by kernel_rfl) (by decide) (fun K hK => ?_)
  have hs64 : w63.cell? ⟨gb209, 0, none⟩ = some (.bool false) := bc BK209 0
  have hfs64 := blk_frozen BK209.out 0
  have hns64_1 := NB222_209.out
  have hms64_1 := NB209_222.out
  have hs66 : w63.cell? ⟨gb209, 1, none⟩ = some (.slice none 0 0) := bc BK209 1
  have hfs66 := blk_frozen BK209.out 1
  have hns66_1 := NB222_209.out
  have hms66_1 := NB209_222.out
  refine skip_ (w1 := ?_) (by rfl) rfl ?_ ?_
  rotate_left
  ·go_simp
   rfl
  refine hK.out _ _ ⟨((cell_far (p := ⟨gb209, _, none⟩) NB222_209.out _).trans (((cell_far (p := ⟨gb209, _, none⟩) NB222_209.out _).trans (hHeld.1)))), ((cell_far (p := ⟨gb209, _, none⟩) NB222_209.out _).trans (((cell_far (p := ⟨gb209, _, none⟩) NB222_209.out _).trans (hHeld.2))))⟩ (fun hHeld => ?_)
  clear hK K
  refine done_ (by kernel_rfl) ?_
  try go_wp2
  refine bodyPost_ret (results_cell_row rfl _ _ gb209 28 #[.bool t249, .slice Ao65 t250.length co65] (0, 0) _ rfl (by (with_reducible repeat (first | refine blk_drewN ?_ _ | refine blk_drew ?_ | refine blk_alloc ?_ _)); refine blk_put (cs := #[.bool t249, .slice none 0 0]) ?_ 1 _ rfl; (with_reducible repeat (first | refine blk_drewN ?_ _ | refine blk_drew ?_ | refine blk_alloc ?_ _)); refine blk_put (cs := #[.bool false, .slice none 0 0]) ?_ 0 _ rfl; exact blkt BK209) Try.underlying28 rfl (by kernel_rfl)) rfl ?_
  exact ⟨_, by first | rfl | (simp [errW_none, errW_some] <;> rfl) | (simp [*, errW_none, errW_some] <;> rfl), by (with_reducible repeat (first | apply Kd.V_alloc | apply Kd.V_drewN | apply Kd.V_drew)); exact Kd.V_mono (Kd.V_far (p := ⟨gb209, 1, none⟩) (Kd.V_far (p := ⟨gb209, 0, none⟩) (Kd.V_mono HO252.out (fun k_ hk => (⟨hk, hk.2.2.2.1⟩ : _ ∧ k_ ≠ gb209))) (fun _ hk => hk.2) (.bool t249)) (fun _ hk => hk.2) (.slice Ao65 t250.length co65)) (fun _ hk => hk.1.1), belt HB⟩
 rw [if_neg c36] at H
 have c36b0 : decide (t244 < 0) = false := decide_eq_false c36
 clear c36
 simp only [Option.some.injEq, Prod.mk.injEq] at H
 obtain ⟨rfl, rfl⟩ := H
 go_enter Try.func21, Try.ntmps21
 try go_wp2_with (first | ((with_reducible refine gate_dst (N := 4) rfl ?_); refine box_event ?hg (N := 4) ?hd (cs := #[.bool false, .slice none 0 0]) (t := 28) ?hr ?_; (case hd => rfl); (case hg => rfl); (case hr => first | (go_simp; done) | (go_simp; rfl)); intro gb209 hg w67 hbox hb; have BK209 := Aside0.mk (hbox); have GW209 := bels HB hg; have GE209 := bels HB hg; replace HB := belb HB hb; clear hb hbox hg) | ((with_reducible refine gate_callee (f := 24) rfl ?_); refine goesL_ (some 7) rfl rfl Try.func24 (by kernel_rfl) rfl #[.int .u64 a0] rfl argt ?_; (with_reducible refine (turnstoneref01_U.calls k a0 t210 t211 _ A3.out).mono ?_); rintro e w68 ⟨v212, rfl, ho0, hb⟩; refine ⟨_, rfl, ?_⟩; have HO213 := Aside0.mk (Kd.R_lower (Kd.R_newM (M := fun k_ => (w.heap.size ≤ k_)) ho0 (below_size (belt HB)) (fun k_ h_ => h_)) (below_size (belt HB))); replace BK209 := blkb BK209 hb; replace HB := belb HB hb; (try clear hb); (try clear hb2); (try clear hk); (try clear hi); (try clear ho0)) | ((with_reducible refine gate_callee (f := 24) rfl ?_); refine goesL_ (some 9) rfl rfl Try.func24 (by kernel_rfl) rfl #[.int .u64 a1] rfl argt ?_; (with_reducible refine (turnstoneref01_U.calls k a1 t214 t215 _ A4.out).mono ?_); rintro e w69 ⟨v216, rfl, ho0, hb⟩; refine ⟨_, rfl, ?_⟩; have HO217 := Aside0.mk (Kd.R_lower (Kd.R_new' (Kd.R_newM (M := fun k_ => (w.heap.size ≤ k_)) ho0 (below_size (belt HB)) (fun k_ h_ => h_)) (Kd.R_lt (rt HO213))) (below_size (belt HB))); replace BK209 := blkb BK209 hb; replace HO213 := Aside0.mk (Kd.R_elder' (rt HO213) (Kd.R_base ho0) hb); replace HB := belb HB hb; (try clear hb); (try clear hb2); (try clear hk); (try clear hi); (try clear ho0); obtain ⟨Ao70, co70, eo70⟩ := Kd.R_slice HO213.out; subst eo70; obtain ⟨Ao71, co71, eo71⟩ := Kd.R_slice HO217.out; subst eo71) | ((with_reducible refine gate_callee (f := 43) rfl ?_); refine goesL_ (some 10) rfl rfl Try.func43 (by kernel_rfl) rfl #[.agg #[.bool t210, .slice Ao70 t211.length co70], .agg #[.bool t214, .slice Ao71 t215.length co71]] rfl argt ?_; (with_reducible refine (turnstoneref01_Sub.calls k t210 _ _ t211 t214 (fun k_ => some k_ = (.slice Ao71 t215.length co71 : Value).ownBlock) _ _ t215 t218 t219 _ ?side1 ?side2 ?side3 A5.out).mono ?_); (case side1 => repeat (first | exact (Kd.R_reads' HO213.out).2.2 | (with_reducible refine Kd.C_alloc ?_ _) | (with_reducible refine Kd.C_drewN ?_ _) | (with_reducible refine Kd.C_drew ?_))); (case side2 => exact (Kd.R_reads' HO213.out).2.1); (case side3 => exact Kd.R_V (Kd.R_tight rfl (Kd.R_types (HO217.out) BK209.out (by decide)))); rintro e w72 ⟨v220, rfl, ho0, hb⟩; refine ⟨_, rfl, ?_⟩; have HO221 := Aside0.mk (Kd.V_lower (Kd.V_mono (ok' := fun k_ => (w.heap.size ≤ k_) ∧ some k_ ≠ (.slice Ao70 t211.length co70 : Value).ownBlock ∧ k_ ≠ gb209) ho0 (fun k_ hk_ => ⟨Or.elim hk_ (fun hs_ => ((Kd.R_types (HO217.out) BK209.out (by decide)).1 k_ hs_.symm).1.1.1) (fun hn_ => (Nat.le_trans (below_size (belt HB)) hn_)), Or.elim hk_ (fun hs_ => ((Kd.R_types (HO217.out) BK209.out (by decide)).1 k_ hs_.symm).1.2) (fun hn_ => (Kd.fresh' (Kd.R_lt (rt HO213)) k_ hn_)), Or.elim hk_ (fun hs_ => ((Kd.R_types (HO217.out) BK209.out (by decide)).1 k_ hs_.symm).2) (fun hn_ => (Kd.freshB (blkt BK209) k_ hn_))⟩)) (below_size (belt HB))); replace HO213 := rb HO213 hb; replace HO217 := rb HO217 hb; replace BK209 := blkb BK209 hb; replace HB := belb HB hb; (try clear hb); (try clear hb2); (try clear hk); (try clear hi); (try clear ho0)) | ((with_reducible refine gate_dst (N := 5) rfl ?_); refine box_event ?hg (N := 5) ?hd (cs := #[.bool false, .slice none 0 0]) (t := 28) ?hr ?_; (case hd => rfl); (case hg => rfl); (case hr => first | (go_simp; done) | (go_simp; rfl)); intro gb222 hg w73 hbox hb; replace HO213 := rb HO213 hb; replace HO217 := rb HO217 hb; replace HO221 := Aside0.mk (Kd.V_below (Kd.V_elderB (vt HO221) gb222 (Nat.le_of_eq hg.symm)) hb); have BK222 := Aside0.mk (hbox); have GW222 := bels HB hg; have GE222 := bels HB hg; have NB209_222 := blkl BK209 hg; have NB222_209 := blkg BK209 hg; replace BK209 := blkb BK209 hb; replace HB := belb HB hb; clear hb hbox hg; have hnb74 := NB222_209.out; have hnc74 := NB209_222.out; have hcz75_0 : w73.cell? ⟨gb222, 0, none⟩ = some (.bool false) := bc BK222 0; have hcz75_1 : w73.cell? ⟨gb222, 1, none⟩ = some (.slice none 0 0) := bc BK222 1; have hfz75_0 := blk_frozen BK222.out 0; have hfz75_1 := blk_frozen BK222.out 1; obtain ⟨Ao76, co76, eo76⟩ := Kd.V_slice HO221.out; subst eo76))
 have n0_ : Aside0 (Kd.R (Kd.int .i64) 3 ((w73.setCell ⟨gb222, 0, none⟩ (.bool t218)).setCell ⟨gb222, 1, none⟩ (.slice Ao76 t219.length co76)) w.heap.size (fun k_ => (w.heap.size ≤ k_) ∧ some k_ ≠ (.slice Ao71 t215.length co71 : Value).ownBlock) (.slice Ao70 t211.length co70) t211) := ⟨by (with_reducible repeat (first | apply Kd.R_alloc | apply Kd.R_drewN | apply Kd.R_drew)); exact Kd.R_mono (Kd.R_far (p := ⟨gb222, 1, none⟩) (Kd.R_far (p := ⟨gb222, 0, none⟩) (Kd.R_types HO213.out BK222.out (by decide)) (fun _ hk => hk.2) (.bool t218)) (fun _ hk => hk.2) (.slice Ao76 t219.length co76)) (fun _ hk => ⟨hk.1.1.1, hk.1.2⟩)⟩
 have n1_ : Aside0 (Kd.R (Kd.int .i64) 3 ((w73.setCell ⟨gb222, 0, none⟩ (.bool t218)).setCell ⟨gb222, 1, none⟩ (.slice Ao76 t219.length co76)) w.heap.size (fun k_ => (w.heap.size ≤ k_) ∧ some k_ ≠ (.slice Ao70 t211.length co70 : Value).ownBlock) (.slice Ao71 t215.length co71) t215) := ⟨by (with_reducible repeat (first | apply Kd.R_alloc | apply Kd.R_drewN | apply Kd.R_drew)); exact Kd.R_mono (Kd.R_far (p := ⟨gb222, 1, none⟩) (Kd.R_far (p := ⟨gb222, 0, none⟩) (Kd.R_types HO217.out BK222.out (by decide)) (fun _ hk => hk.2) (.bool t218)) (fun _ hk => hk.2) (.slice Ao76 t219.length co76)) (fun _ hk => ⟨hk.1.1.1, hk.1.2⟩)⟩
 have n2_ : Aside0 (Kd.V (Kd.int .i64) 3 ((w73.setCell ⟨gb222, 0, none⟩ (.bool t218)).setCell ⟨gb222, 1, none⟩ (.slice Ao76 t219.length co76)) w.heap.size (fun k_ => (w.heap.size ≤ k_) ∧ some k_ ≠ (.slice Ao70 t211.length co70 : Value).ownBlock ∧ k_ ≠ gb209 ∧ k_ ≠ gb222) (.slice Ao76 t219.length co76) t219) := ⟨by (with_reducible repeat (first | apply Kd.V_alloc | apply Kd.V_drewN | apply Kd.V_drew)); exact Kd.V_mono (Kd.V_far (p := ⟨gb222, 1, none⟩) (Kd.V_far (p := ⟨gb222, 0, none⟩) (Kd.V_mono HO221.out (fun k_ hk => (⟨hk, hk.2⟩ : _ ∧ k_ ≠ gb222))) (fun _ hk => hk.2) (.bool t218)) (fun _ hk => hk.2) (.slice Ao76 t219.length co76)) (fun _ hk => ⟨hk.1.1.1, ⟨hk.1.1.2.1, ⟨hk.1.1.2.2, hk.1.2⟩⟩⟩)⟩
 have n3_ : Aside0 (((w73.setCell ⟨gb222, 0, none⟩ (.bool t218)).setCell ⟨gb222, 1, none⟩ (.slice Ao76 t219.length co76)).heap[gb209]? = some (.cells #[.bool false, .slice none 0 0] 28 (0, 0))) := ⟨by (with_reducible repeat (first | refine blk_drewN ?_ _ | refine blk_drew ?_ | refine blk_alloc ?_ _)); refine blk_far ?_ NB209_222.out _; (with_reducible repeat (first | refine blk_drewN ?_ _ | refine blk_drew ?_ | refine blk_alloc ?_ _)); refine blk_far ?_ NB209_222.out _; exact blkt BK209⟩
 have n4_ : Aside0 (((w73.setCell ⟨gb222, 0, none⟩ (.bool t218)).setCell ⟨gb222, 1, none⟩ (.slice Ao76 t219.length co76)).heap[gb222]? = some (.cells #[.bool t218, .slice Ao76 t219.length co76] 28 (0, 0))) := ⟨by (with_reducible repeat (first | refine blk_drewN ?_ _ | refine blk_drew ?_ | refine blk_alloc ?_ _)); refine blk_put (cs := #[.bool t218, .slice none 0 0]) ?_ 1 _ rfl; (with_reducible repeat (first | refine blk_drewN ?_ _ | refine blk_drew ?_ | refine blk_alloc ?_ _)); refine blk_put (cs := #[.bool false, .slice none 0 0]) ?_ 0 _ rfl; exact blkt BK222⟩
 have n5_ : Aside0 (Below w.heap.size w ((w73.setCell ⟨gb222, 0, none⟩ (.bool t218)).setCell ⟨gb222, 1, none⟩ (.slice Ao76 t219.length co76))) := ⟨belt HB⟩
 (try clear HO213)
 (try clear HO217)
 (try clear HO221)
 (try clear BK209)
 (try clear BK222)
 (try clear HB)
 generalize ((w73.setCell ⟨gb222, 0, none⟩ (.bool t218)).setCell ⟨gb222, 1, none⟩ (.slice Ao76 t219.length co76)) = w77 at n0_ n1_ n2_ n3_ n4_ n5_ ⊢
 have HO213 := n0_
 have HO217 := n1_
 have HO221 := n2_
 have BK209 := n3_
 have BK222 := n4_
 have HB := n5_
 clear n0_ n1_ n2_ n3_ n4_ n5_
 replace HO213 := Aside0.mk (Kd.R_drew HO213.out)
 replace HO217 := Aside0.mk (Kd.R_drew HO217.out)
 replace HO221 := Aside0.mk (Kd.V_drew HO221.out)
 replace BK209 := Aside0.mk (blk_drew BK209.out)
 replace BK222 := Aside0.mk (blk_drew BK222.out)
 replace HB := Aside0.mk (below_drew1 HB.out)
 refine start_ (n := 4) (S := fun w' => w'.cell? ⟨gb222, 0, none⟩ = some (.bool t218) ∧ w'.cell? ⟨gb222, 1, none⟩ = some (.slice Ao76 t219.length co76)) (ds := []) #[false, false, false, false] (by kernel_rfl) rfl rfl ⟨bc BK222 0, bc BK222 1⟩ (fun hHeld => ?_)
 generalize w77.drew = w78 at HO213 HO217 HO221 BK209 BK222 HB hHeld ⊢
 refine take_ (i := 0) (N := some 11) (v := ?_) (a' := ?_) #[true, false, false, false] rfl rfl (by kernel_rfl) (fun _ _ _ h => h) (Or.inl ⟨by rfl, ?_⟩) hHeld ?_ ?_
 rotate_left
 ·rintro w' ⟨s0, s1⟩
  go_simp
  with_reducible rfl
 rotate_left
 ·simp only [Act.put, List.setIfInBounds_toArray, List.set_cons_zero, List.set_cons_succ, i64_w, i32_w]
  rfl
 refine one_ (i := 1) (N := some 12) #[true, true, false, false] rfl rfl (by kernel_rfl) (by decide) (fun K hK => ?_)
 refine goes_ Try.func60 (by kernel_rfl) rfl #[.int .i64 63] (by rfl) rfl rfl argt ?_
 with_reducible refine (turnstoneref01_Power.calls k 63 t223 t224 _ A6.out).mono ?_
 rintro e w79 ⟨v225, rfl, ho0, hb⟩
 refine ⟨_, rfl, ?_⟩
 replace HO221 := vb HO221 hb
 have HO226 := Aside0.mk (Kd.V_lower (Kd.V_mono (ok' := fun k_ => (w.heap.size ≤ k_) ∧ some k_ ≠ (.slice Ao70 t211.length co70 : Value).ownBlock ∧ some k_ ≠ (.slice Ao71 t215.length co71 : Value).ownBlock ∧ k_ ≠ gb209 ∧ k_ ≠ gb222) ho0 (fun k_ hk_ => ⟨(Nat.le_trans (below_size (belt HB)) hk_), (Kd.fresh' (Kd.R_lt (rt HO213)) k_ hk_), (Kd.fresh' (Kd.R_lt (rt HO217)) k_ hk_), (Kd.freshB (blkt BK209) k_ hk_), (Kd.freshB (blkt BK222) k_ hk_)⟩)) (below_size (belt HB)))
 replace HO213 := rb HO213 hb
 replace HO217 := rb HO217 hb
 replace BK209 := blkb BK209 hb
 replace BK222 := blkb BK222 hb
 replace HB := belb HB hb
 (try clear hb)
 (try clear hb2)
 (try clear hk)
 (try clear hi)
 (try clear ho0)
 obtain ⟨Ao80, co80, eo80⟩ := Kd.V_slice HO226.out
 (first | subst eo80 | (injection eo80 with f1_ f2_ f3_; have f4_ := f1_.symm; have f5_ := f3_.symm; clear f1_ f2_ f3_; subst f4_; subst f5_))
 refine hK.out _ _ ⟨bc BK222 0, bc BK222 1⟩ (fun hHeld => ?_)
 clear hK K
 refine norm_ (a' := ?_) ?_ ?_
 rotate_left
 ·show Act.put _ (some 12) _ = _
  simp only [Act.put, List.setIfInBounds_toArray, List.set_cons_zero, List.set_cons_succ, i64_w, i32_w]
  rfl
 refine one_ (i := 2) (N := some 13) #[true, true, true, false] rfl rfl (by kernel_rfl) (by decide) (fun K hK => ?_)
 refine goes_ Try.func18 (by kernel_rfl) rfl #[.agg #[.bool t218, .slice Ao76 t219.length co76], .agg #[.bool t223, .slice Ao80 t224.length co80]] (by rfl) rfl rfl argt ?_
 with_reducible refine (turnstoneref01_Cmp.calls k t218 _ _ t219 t223 _ _ t224 t227 _ ?side1 ?side2 ?side3 ?side4 A7.out).mono ?_
 (case side1 => repeat (first | exact (Kd.V_reads' HO221.out).2.2 | (with_reducible refine Kd.C_alloc ?_ _) | (with_reducible refine Kd.C_drewN ?_ _) | (with_reducible refine Kd.C_drew ?_)))
 (case side2 => exact (Kd.V_reads' HO221.out).2.1)
 (case side3 => repeat (first | exact (Kd.V_reads' HO226.out).2.2 | (with_reducible refine Kd.C_alloc ?_ _) | (with_reducible refine Kd.C_drewN ?_ _) | (with_reducible refine Kd.C_drew ?_)))
 (case side4 => exact (Kd.V_reads' HO226.out).2.1)
 rintro e w81 ⟨rfl, hb⟩
 refine ⟨_, rfl, ?_⟩
 replace HO213 := rb HO213 hb
 replace HO217 := rb HO217 hb
 replace HO221 := vb HO221 hb
 replace HO226 := vb HO226 hb
 replace BK209 := blkb BK209 hb
 replace BK222 := blkb BK222 hb
 replace HB := belb HB hb
 (try clear hb)
 (try clear hb2)
 (try clear hk)
 (try clear hi)
 refine hK.out _ _ ⟨bc BK222 0, bc BK222 1⟩ (fun hHeld => ?_)
 clear hK K
 refine norm_ (a' := ?_) ?_ ?_
 rotate_left
 ·show Act.put _ (some 13) _ = _
  simp only [Act.put, List.setIfInBounds_toArray, List.set_cons_zero, List.set_cons_succ, i64_w, i32_w]
  rfl
 refine pure_ (i := 3) (N := some 14) (v := ?_) (a' := ?_) #[true, true, true, true] rfl rfl (by kernel_rfl) (fun _ _ _ h => h) (Or.inl ⟨by rfl, ?_⟩) ?_ ?_
 rotate_left
 ·intro w'
  go_simp
  with_reducible rfl
 rotate_left
 ·simp only [Act.put, List.setIfInBounds_toArray, List.set_cons_zero, List.set_cons_succ, i64_w, i32_w]
  rfl
 refine done_ (by kernel_rfl) ?_
 try go_wp2
 replace HO213 := Aside0.mk (Kd.R_drew HO213.out)
 replace HO217 := Aside0.mk (Kd.R_drew HO217.out)
 replace HO221 := Aside0.mk (Kd.V_drew HO221.out)
 replace HO226 := Aside0.mk (Kd.V_drew HO226.out)
 replace BK209 := Aside0.mk (blk_drew BK209.out)
 replace BK222 := Aside0.mk (blk_drew BK222.out)
 replace HB := Aside0.mk (below_drew1 HB.out)
 refine start_ (n := 5) (S := fun w' => w'.cell? ⟨gb222, 0, none⟩ = some (.bool t218) ∧ w'.cell? ⟨gb222, 1, none⟩ = some (.slice Ao76 t219.length co76)) (ds := []) #[false, false, false, false, false] (by kernel_rfl) rfl rfl ⟨bc BK222 0, bc BK222 1⟩ (fun hHeld => ?_)
 generalize w81.drew = w82 at HO213 HO217 HO221 HO226 BK209 BK222 HB hHeld ⊢
 refine take_ (i := 0) (N := some 18) (v := ?_) (a' := ?_) #[true, false, false, false, false] rfl rfl (by kernel_rfl) (fun _ _ _ h => h) (Or.inl ⟨by rfl, ?_⟩) hHeld ?_ ?_
 rotate_left
 ·rintro w' ⟨s0, s1⟩
  go_simp
  with_reducible rfl
 rotate_left
 ·simp only [Act.put, List.setIfInBounds_toArray, List.set_cons_zero, List.set_cons_succ, i64_w, i32_w]
  rfl
 refine one_ (i := 1) (N := some 19) #[true, true, false, false, false] rfl rfl (by kernel_rfl) (by decide) (fun K hK => ?_)
 refine goes_ Try.func60 (by kernel_rfl) rfl #[.int .i64 63] (by rfl) rfl rfl argt ?_
 with_reducible refine (turnstoneref01_Power.calls k 63 t236 t237 _ A33.out).mono ?_
 rintro e w83 ⟨v238, rfl, ho0, hb⟩
 refine ⟨_, rfl, ?_⟩
 replace HO221 := vb HO221 hb
 replace HO226 := vb HO226 hb
 have HO239 := Aside0.mk (Kd.V_lower (Kd.V_mono (ok' := fun k_ => (w.heap.size ≤ k_) ∧ some k_ ≠ (.slice Ao70 t211.length co70 : Value).ownBlock ∧ some k_ ≠ (.slice Ao71 t215.length co71 : Value).ownBlock ∧ k_ ≠ gb209 ∧ k_ ≠ gb222) ho0 (fun k_ hk_ => ⟨(Nat.le_trans (below_size (belt HB)) hk_), (Kd.fresh' (Kd.R_lt (rt HO213)) k_ hk_), (Kd.fresh' (Kd.R_lt (rt HO217)) k_ hk_), (Kd.freshB (blkt BK209) k_ hk_), (Kd.freshB (blkt BK222) k_ hk_)⟩)) (below_size (belt HB)))
 replace HO213 := rb HO213 hb
 replace HO217 := rb HO217 hb
 replace BK209 := blkb BK209 hb
 replace BK222 := blkb BK222 hb
 replace HB := belb HB hb
 (try clear hb)
 (try clear hb2)
 (try clear hk)
 (try clear hi)
 (try clear ho0)
 obtain ⟨Ao84, co84, eo84⟩ := Kd.V_slice HO239.out
 (first | subst eo84 | (injection eo84 with f1_ f2_ f3_; have f4_ := f1_.symm; have f5_ := f3_.symm; clear f1_ f2_ f3_; subst f4_; subst f5_))
 refine hK.out _ _ ⟨bc BK222 0, bc BK222 1⟩ (fun hHeld => ?_)
 clear hK K
 refine norm_ (a' := ?_) ?_ ?_
 rotate_left
 ·show Act.put _ (some 19) _ = _
  simp only [Act.put, List.setIfInBounds_toArray, List.set_cons_zero, List.set_cons_succ, i64_w, i32_w]
  rfl
 refine one_ (i := 2) (N := some 20) #[true, true, true, false, false] rfl rfl (by kernel_rfl) (by decide) (fun K hK => ?_)
 refine goes_ Try.func61 (by kernel_rfl) rfl #[.agg #[.bool t236, .slice Ao84 t237.length co84]] (by rfl) rfl rfl argt ?_
 with_reducible refine (turnstoneref01_Neg.calls k t236 (fun k_ => ((w.heap.size ≤ k_) ∧ (some k_ ≠ (.slice Ao70 t211.length co70 : Value).ownBlock ∧ (some k_ ≠ (.slice Ao71 t215.length co71 : Value).ownBlock ∧ (k_ ≠ gb209 ∧ k_ ≠ gb222))))) _ _ t237 t240 t241 _ ?side1 A34.out).mono ?_
 (case side1 => exact HO239.out)
 rintro e w85 ⟨v242, rfl, ho0, hb⟩
 refine ⟨_, rfl, ?_⟩
 replace HO221 := vb HO221 hb
 replace HO226 := vb HO226 hb
 replace HO239 := vb HO239 hb
 have HO243 := Aside0.mk (Kd.V_lower (Kd.V_mono (ok' := fun k_ => (w.heap.size ≤ k_) ∧ some k_ ≠ (.slice Ao70 t211.length co70 : Value).ownBlock ∧ some k_ ≠ (.slice Ao71 t215.length co71 : Value).ownBlock ∧ k_ ≠ gb209 ∧ k_ ≠ gb222) ho0 (fun k_ hk_ => ⟨Or.elim hk_ (fun hs_ => hs_.1) (fun hn_ => (Nat.le_trans (below_size (belt HB)) hn_)), Or.elim hk_ (fun hs_ => hs_.2.1) (fun hn_ => (Kd.fresh' (Kd.R_lt (rt HO213)) k_ hn_)), Or.elim hk_ (fun hs_ => hs_.2.2.1) (fun hn_ => (Kd.fresh' (Kd.R_lt (rt HO217)) k_ hn_)), Or.elim hk_ (fun hs_ => hs_.2.2.2.1) (fun hn_ => (Kd.freshB (blkt BK209) k_ hn_)), Or.elim hk_ (fun hs_ => hs_.2.2.2.2) (fun hn_ => (Kd.freshB (blkt BK222) k_ hn_))⟩)) (below_size (belt HB)))
 replace HO213 := rb HO213 hb
 replace HO217 := rb HO217 hb
 replace BK209 := blkb BK209 hb
 replace BK222 := blkb BK222 hb
 replace HB := belb HB hb
 (try clear hb)
 (try clear hb2)
 (try clear hk)
 (try clear hi)
 (try clear ho0)
 obtain ⟨Ao86, co86, eo86⟩ := Kd.V_slice HO243.out
 (first | subst eo86 | (injection eo86 with f1_ f2_ f3_; have f4_ := f1_.symm; have f5_ := f3_.symm; clear f1_ f2_ f3_; subst f4_; subst f5_))
 refine hK.out _ _ ⟨bc BK222 0, bc BK222 1⟩ (fun hHeld => ?_)
 clear hK K
 refine norm_ (a' := ?_) ?_ ?_
 rotate_left
 ·show Act.put _ (some 20) _ = _
  simp only [Act.put, List.setIfInBounds_toArray, List.set_cons_zero, List.set_cons_succ, i64_w, i32_w]
  rfl
 refine one_ (i := 3) (N := some 21) #[true, true, true, true, false] rfl rfl (by kernel_rfl) (by decide) (fun K hK => ?_)
 refine goes_ Try.func18 (by kernel_rfl) rfl #[.agg #[.bool t218, .slice Ao76 t219.length co76], .agg #[.bool t240, .slice Ao86 t241.length co86]] (by rfl) rfl rfl argt ?_
 with_reducible refine (turnstoneref01_Cmp.calls k t218 _ _ t219 t240 _ _ t241 t244 _ ?side1 ?side2 ?side3 ?side4 A35.out).mono ?_
 (case side1 => repeat (first | exact (Kd.V_reads' HO221.out).2.2 | (with_reducible refine Kd.C_alloc ?_ _) | (with_reducible refine Kd.C_drewN ?_ _) | (with_reducible refine Kd.C_drew ?_)))
 (case side2 => exact (Kd.V_reads' HO221.out).2.1)
 (case side3 => repeat (first | exact (Kd.V_reads' HO243.out).2.2 | (with_reducible refine Kd.C_alloc ?_ _) | (with_reducible refine Kd.C_drewN ?_ _) | (with_reducible refine Kd.C_drew ?_)))
 (case side4 => exact (Kd.V_reads' HO243.out).2.1)
 rintro e w87 ⟨rfl, hb⟩
 refine ⟨_, rfl, ?_⟩
 replace HO213 := rb HO213 hb
 replace HO217 := rb HO217 hb
 replace HO221 := vb HO221 hb
 replace HO226 := vb HO226 hb
 replace HO239 := vb HO239 hb
 replace HO243 := vb HO243 hb
 replace BK209 := blkb BK209 hb
 replace BK222 := blkb BK222 hb
 replace HB := belb HB hb
 (try clear hb)
 (try clear hb2)
 (try clear hk)
 (try clear hi)
 refine hK.out _ _ ⟨bc BK222 0, bc BK222 1⟩ (fun hHeld => ?_)
 clear hK K
 refine norm_ (a' := ?_) ?_ ?_
 rotate_left
 ·show Act.put _ (some 21) _ = _
  simp only [Act.put, List.setIfInBounds_toArray, List.set_cons_zero, List.set_cons_succ, i64_w, i32_w]
  rfl
 refine pure_ (i := 4) (N := some 22) (v := ?_) (a' := ?_) #[true, true, true, true, true] rfl rfl (by kernel_rfl) (fun _ _ _ h => h) (Or.inl ⟨by rfl, ?_⟩) ?_ ?_
 rotate_left
 ·intro w'
  go_simp
  with_reducible rfl
 rotate_left
 ·simp only [Act.put, List.setIfInBounds_toArray, List.set_cons_zero, List.set_cons_succ, i64_w, i32_w]
  rfl
 refine done_ (by kernel_rfl) ?_
 have hcz88_0 : w87.cell? ⟨gb222, 0, none⟩ = some (.bool t218) := bc BK222 0
 have hcz88_1 : w87.cell? ⟨gb222, 1, none⟩ = some (.slice Ao76 t219.length co76) := bc BK222 1
 have hfz88_0 := blk_frozen BK222.out 0
 have hfz88_1 := blk_frozen BK222.out 1
 have hcz89_0 : w87.cell? ⟨gb209, 0, none⟩ = some (.bool false) := bc BK209 0
 have hcz89_1 : w87.cell? ⟨gb209, 1, none⟩ = some (.slice none 0 0) := bc BK209 1
 have hfz89_0 := blk_frozen BK209.out 0
 have hfz89_1 := blk_frozen BK209.out 1
 try go_wp2
 refine bodyPost_ret (results_cell_row rfl _ _ gb209 28 #[.bool t218, .slice Ao76 t219.length co76] (0, 0) _ rfl (by (with_reducible repeat (first | refine blk_drewN ?_ _ | refine blk_drew ?_ | refine blk_alloc ?_ _)); refine blk_put (cs := #[.bool t218, .slice none 0 0]) ?_ 1 _ rfl; (with_reducible repeat (first | refine blk_drewN ?_ _ | refine blk_drew ?_ | refine blk_alloc ?_ _)); refine blk_put (cs := #[.bool false, .slice none 0 0]) ?_ 0 _ rfl; exact blkt BK209) Try.underlying28 rfl (by kernel_rfl)) rfl ?_
 exact ⟨_, by first | rfl | (simp [errW_none, errW_some] <;> rfl) | (simp [*, errW_none, errW_some] <;> rfl), by (with_reducible repeat (first | apply Kd.V_alloc | apply Kd.V_drewN | apply Kd.V_drew)); exact Kd.V_mono (Kd.V_far (p := ⟨gb209, 1, none⟩) (Kd.V_far (p := ⟨gb209, 0, none⟩) (Kd.V_mono HO221.out (fun k_ hk => (⟨hk, hk.2.2.1⟩ : _ ∧ k_ ≠ gb209))) (fun _ hk => hk.2) (.bool t218)) (fun _ hk => hk.2) (.slice Ao76 t219.length co76)) (fun _ hk => hk.1.1), belt HB⟩


/-! ### vtime_Time_Since: function 20 -/
def vtime_Time_Since.f (a0 : Int) (a1 : Int) : Option (Int) := some (wrap64 (IntKind.u64.wrap (a0 - a1)))
set_option maxHeartbeats 8000000 in
set_option maxRecDepth 100000 in
theorem vtime_Time_Since.calls (a0 : Int) (a1 : Int) (r : Int) (w : World) (h : vtime_Time_Since.f a0 a1 = some r) :
  Calls Try.prog 20 #[.int .u64 a0, .int .u64 a1] w fun e w' => e = .returned (.int .i64 r) ∧ Drawn0 w w' := by
 have H : (some (wrap64 (IntKind.u64.wrap (a0 - a1)))) = some r := h
 clear h
 obtain rfl := Option.some.inj H
 go_enter Try.func20, Try.ntmps20
 go_wp2
 go_ret
 exact ⟨by first | rfl | (simp; done) | (simp [*]; done), by repeat (first | exact Drawn0.refl _ | apply Drawn0.step)⟩

end Go.Proofs.Ytimgiiceipjpaaa.Print
