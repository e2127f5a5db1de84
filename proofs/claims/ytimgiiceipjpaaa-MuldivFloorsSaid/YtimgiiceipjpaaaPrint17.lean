/- What each Go function that is named below answers, as a Lean function, and that its walk comes to just that: for whatever arguments that function gives an answer for. Written by a program of this session (wip/mkpr.py, pr.sh). -/
import Derived.Test.YtimgiiceipjpaaaPrint0
import Derived.Test.YtimgiiceipjpaaaPrint3
import Derived.Test.YtimgiiceipjpaaaPrint10
import Derived.Test.YtimgiiceipjpaaaPrint11
import Derived.Test.YtimgiiceipjpaaaPrint13
namespace Go.Proofs.Ytimgiiceipjpaaa.Print
open Go.RowKit Go.Proofs.YtimgiiceipjpaaaW.PrintWords Go.Proofs.YtimgiiceipjpaaaW.PrintLast Go.Proofs.YtimgiiceipjpaaaW.PrintMore
attribute [local go_sem] max2_int min2_int max_two min_two max_three min_three max_four min_four   -- for this text's walks alone
open Go.Proofs.Ytimgiiceipjpaaa.Bits Go.Proofs.Ytimgiiceipjpaaa.Short
attribute [local go_sem] add64_run0 sub64_run0 add64_run sub64_run
set_option linter.unusedVariables false
set_option linter.unusedSimpArgs false

/-! ### turnstoneref01_Wide: function 72 -/
def turnstoneref01_Wide.f (k : Nat) (a0 : Int) (a1 : Int) : Option (Bool × List Int) := (turnstoneref01_U.f k 4294967296).bind fun bt385 => ((turnstoneref01_U.f k 4294967296).bind fun bt389 => ((turnstoneref01_Mul.f k bt385.1 bt385.2 bt389.1 bt389.2).bind fun bt393 => ((turnstoneref01_N.f k a0).bind fun bt398 => ((turnstoneref01_Mul.f k bt398.1 bt398.2 bt393.1 bt393.2).bind fun bt402 => ((turnstoneref01_U.f k a1).bind fun bt406 => ((turnstoneref01_Add.f k bt402.1 bt402.2 bt406.1 bt406.2).bind fun bt410 => (some (bt410.1, bt410.2))))))))
theorem turnstoneref01_Wide.mono : ∀ a0 a1 k, LeO (turnstoneref01_Wide.f k a0 a1) (turnstoneref01_Wide.f (k + 1) a0 a1) := by
 intro a0 a1 k
 unfold turnstoneref01_Wide.f
 repeat' first
   | (with_reducible exact turnstoneref01_Add.mono _ _ _ _ _)
   | (with_reducible exact turnstoneref01_Mul.mono _ _ _ _ _)
   | (with_reducible exact turnstoneref01_N.mono _ _)
   | (with_reducible exact turnstoneref01_U.mono _ _)
   | (with_reducible exact LeO.refl _)
   | (with_reducible exact LeO.none _)
   | (with_reducible refine LeO.ite ?_ ?_)
   | (with_reducible refine LeO.bind ?_ (fun _ => ?_))
   | exact turnstoneref01_Add.mono _ _ _ _ _
   | exact turnstoneref01_Mul.mono _ _ _ _ _
   | exact turnstoneref01_N.mono _ _
   | exact turnstoneref01_U.mono _ _
   | exact LeO.none _
   | refine LeO.ite ?_ ?_
   | refine LeO.bind ?_ (fun _ => ?_)
def turnstoneref01_Wide.T2 : Bool × List (List Nat × List Nat) := (true, [([], []), ([0], [0]), ([], []), ([1, 2, 1], [1, 2]), ([], []), ([4, 3], [4]), ([3, 5, 5], [3, 5]), ([6, 6, 0, 1, 2, 3, 4, 5, 6], [6])])
def turnstoneref01_Wide.B2 : List Nat := [0, 1, 0, 7, 0, 31, 63, 127]
theorem turnstoneref01_Wide.tab2 : rtab .any (opsOf Try.f72 2) = turnstoneref01_Wide.T2 := by kernel_rfl
theorem turnstoneref01_Wide.bits2 : waitsOk turnstoneref01_Wide.T2.2 turnstoneref01_Wide.B2 = true := by kernel_rfl
set_option maxHeartbeats 8000000 in
set_option maxRecDepth 100000 in
theorem turnstoneref01_Wide.calls (k : Nat) (a0 : Int) (a1 : Int) (r1 : Bool) (r2 : List Int) (w : World) (h : turnstoneref01_Wide.f k a0 a1 = some (r1, r2)) :
  Calls Try.prog 72 #[.int .i64 a0, .int .u64 a1] w fun e w' => ∃ v1_ : Value, e = .returned (.agg #[.bool r1, v1_]) ∧ Kd.V (Kd.int .i64) 3 w' w.heap.size (fun k_ => (w.heap.size ≤ k_)) v1_ r2 ∧ Below w.heap.size w w' := by
 have hu28 := Try.underlying28
 have HB := Aside0.mk (Below.refl w.heap.size w)
 have H : ((turnstoneref01_U.f k 4294967296).bind fun bt385 => ((turnstoneref01_U.f k 4294967296).bind fun bt389 => ((turnstoneref01_Mul.f k bt385.1 bt385.2 bt389.1 bt389.2).bind fun bt393 => ((turnstoneref01_N.f k a0).bind fun bt398 => ((turnstoneref01_Mul.f k bt398.1 bt398.2 bt393.1 bt393.2).bind fun bt402 => ((turnstoneref01_U.f k a1).bind fun bt406 => ((turnstoneref01_Add.f k bt402.1 bt402.2 bt406.1 bt406.2).bind fun bt410 => (some (bt410.1, bt410.2))))))))) = some (r1, r2) := h
 clear h
 replace H := Option.bind_eq_some_iff.mp H
 obtain ⟨⟨t385, t386⟩, A30, H⟩ := H
 replace H : ((turnstoneref01_U.f k 4294967296).bind fun bt389 => ((turnstoneref01_Mul.f k t385 t386 bt389.1 bt389.2).bind fun bt393 => ((turnstoneref01_N.f k a0).bind fun bt398 => ((turnstoneref01_Mul.f k bt398.1 bt398.2 bt393.1 bt393.2).bind fun bt402 => ((turnstoneref01_U.f k a1).bind fun bt406 => ((turnstoneref01_Add.f k bt402.1 bt402.2 bt406.1 bt406.2).bind fun bt410 => (some (bt410.1, bt410.2)))))))) = some (r1, r2) := H
 have A3 := Aside0.mk A30
 clear A30
 replace H := Option.bind_eq_some_iff.mp H
 obtain ⟨⟨t389, t390⟩, A40, H⟩ := H
 replace H : ((turnstoneref01_Mul.f k t385 t386 t389 t390).bind fun bt393 => ((turnstoneref01_N.f k a0).bind fun bt398 => ((turnstoneref01_Mul.f k bt398.1 bt398.2 bt393.1 bt393.2).bind fun bt402 => ((turnstoneref01_U.f k a1).bind fun bt406 => ((turnstoneref01_Add.f k bt402.1 bt402.2 bt406.1 bt406.2).bind fun bt410 => (some (bt410.1, bt410.2))))))) = some (r1, r2) := H
 have A4 := Aside0.mk A40
 clear A40
 replace H := Option.bind_eq_some_iff.mp H
 obtain ⟨⟨t393, t394⟩, A50, H⟩ := H
 replace H : ((turnstoneref01_N.f k a0).bind fun bt398 => ((turnstoneref01_Mul.f k bt398.1 bt398.2 t393 t394).bind fun bt402 => ((turnstoneref01_U.f k a1).bind fun bt406 => ((turnstoneref01_Add.f k bt402.1 bt402.2 bt406.1 bt406.2).bind fun bt410 => (some (bt410.1, bt410.2)))))) = some (r1, r2) := H
 have A5 := Aside0.mk A50
 clear A50
 replace H := Option.bind_eq_some_iff.mp H
 obtain ⟨⟨t398, t399⟩, A60, H⟩ := H
 replace H : ((turnstoneref01_Mul.f k t398 t399 t393 t394).bind fun bt402 => ((turnstoneref01_U.f k a1).bind fun bt406 => ((turnstoneref01_Add.f k bt402.1 bt402.2 bt406.1 bt406.2).bind fun bt410 => (some (bt410.1, bt410.2))))) = some (r1, r2) := H
 have A6 := Aside0.mk A60
 clear A60
 replace H := Option.bind_eq_some_iff.mp H
 obtain ⟨⟨t402, t403⟩, A70, H⟩ := H
 replace H : ((turnstoneref01_U.f k a1).bind fun bt406 => ((turnstoneref01_Add.f k t402 t403 bt406.1 bt406.2).bind fun bt410 => (some (bt410.1, bt410.2)))) = some (r1, r2) := H
 have A7 := Aside0.mk A70
 clear A70
 replace H := Option.bind_eq_some_iff.mp H
 obtain ⟨⟨t406, t407⟩, A80, H⟩ := H
 replace H : ((turnstoneref01_Add.f k t402 t403 t406 t407).bind fun bt410 => (some (bt410.1, bt410.2))) = some (r1, r2) := H
 have A8 := Aside0.mk A80
 clear A80
 replace H := Option.bind_eq_some_iff.mp H
 obtain ⟨⟨t410, t411⟩, A90, H⟩ := H
 replace H : (some (t410, t411)) = some (r1, r2) := H
 have A9 := Aside0.mk A90
 clear A90
 simp only [Option.some.injEq, Prod.mk.injEq] at H
 obtain ⟨rfl, rfl⟩ := H
 go_enter Try.func72, Try.ntmps72
 try go_wp2_with (first | ((with_reducible refine gate_dst (N := 4) rfl ?_); refine box_event ?hg (N := 4) ?hd (cs := #[.bool false, .slice none 0 0]) (t := 28) ?hr ?_; (case hd => rfl); (case hg => rfl); (case hr => first | (go_simp; done) | (go_simp; rfl)); intro gb384 hg w10 hbox hb; have n0_ := belb HB hb; have n1_ := Aside0.mk (hbox); have n2_ := bels HB hg; have n3_ := bels HB hg; clear HB; have HB := n0_; have BK384 := n1_; have GW384 := n2_; have GE384 := n3_; clear n0_ n1_ n2_ n3_; clear hb hbox hg) | ((with_reducible refine gate_callee (f := 24) rfl ?_); refine goesL_ (some 6) rfl rfl Try.func24 (by kernel_rfl) rfl #[.int .u64 4294967296] rfl argt ?_; (with_reducible refine (turnstoneref01_U.calls k 4294967296 t385 t386 _ A3.out).mono ?_); rintro e w11 ⟨v387, rfl, ho0, hb⟩; refine ⟨_, rfl, ?_⟩; have n0_ := Aside0.mk (Kd.R_lower (Kd.R_newM (M := fun k_ => (w.heap.size ≤ k_)) ho0 (below_size (belt HB)) (fun k_ h_ => h_)) (below_size (belt HB))); have n1_ := blkb BK384 hb; have n2_ := belb HB hb; clear BK384; clear HB; have HO388 := n0_; have BK384 := n1_; have HB := n2_; clear n0_ n1_ n2_; (try clear hb); (try clear hb2); (try clear hk); (try clear hi); (try clear ho0)) | ((with_reducible refine gate_callee (f := 24) rfl ?_); refine goesL_ (some 7) rfl rfl Try.func24 (by kernel_rfl) rfl #[.int .u64 4294967296] rfl argt ?_; (with_reducible refine (turnstoneref01_U.calls k 4294967296 t389 t390 _ A4.out).mono ?_); rintro e w12 ⟨v391, rfl, ho0, hb⟩; refine ⟨_, rfl, ?_⟩; have n0_ := Aside0.mk (Kd.R_elder' (rt HO388) (Kd.R_base ho0) hb); have n1_ := Aside0.mk (Kd.R_lower (Kd.R_new' (Kd.R_newM (M := fun k_ => (w.heap.size ≤ k_)) ho0 (below_size (belt HB)) (fun k_ h_ => h_)) (Kd.R_lt (rt HO388))) (below_size (belt HB))); have n2_ := blkb BK384 hb; have n3_ := belb HB hb; clear HO388; clear BK384; clear HB; have HO388 := n0_; have HO392 := n1_; have BK384 := n2_; have HB := n3_; clear n0_ n1_ n2_ n3_; (try clear hb); (try clear hb2); (try clear hk); (try clear hi); (try clear ho0); obtain ⟨Ao13, co13, eo13⟩ := Kd.R_slice HO388.out; subst eo13; obtain ⟨Ao14, co14, eo14⟩ := Kd.R_slice HO392.out; subst eo14) | ((with_reducible refine gate_callee (f := 40) rfl ?_); refine goesL_ (some 8) rfl rfl Try.func40 (by kernel_rfl) rfl #[.agg #[.bool t385, .slice Ao13 t386.length co13], .agg #[.bool t389, .slice Ao14 t390.length co14]] rfl argt ?_; (with_reducible refine (turnstoneref01_Mul.calls k t385 _ _ t386 t389 _ _ t390 t393 t394 _ ?side1 ?side2 ?side3 ?side4 A5.out).mono ?_); (case side1 => repeat (first | exact (Kd.R_reads' HO388.out).2.2 | (with_reducible refine Kd.C_alloc ?_ _) | (with_reducible refine Kd.C_drewN ?_ _) | (with_reducible refine Kd.C_drew ?_))); (case side2 => exact (Kd.R_reads' HO388.out).2.1); (case side3 => repeat (first | exact (Kd.R_reads' HO392.out).2.2 | (with_reducible refine Kd.C_alloc ?_ _) | (with_reducible refine Kd.C_drewN ?_ _) | (with_reducible refine Kd.C_drew ?_))); (case side4 => exact (Kd.R_reads' HO392.out).2.1); rintro e w15 ⟨v395, rfl, ho0, hb⟩; refine ⟨_, rfl, ?_⟩; have n0_ := rb HO388 hb; have n1_ := rb HO392 hb; have n2_ := Aside0.mk (Kd.V_lower (Kd.V_mono (ok' := fun k_ => (w.heap.size ≤ k_) ∧ some k_ ≠ (.slice Ao13 t386.length co13 : Value).ownBlock ∧ some k_ ≠ (.slice Ao14 t390.length co14 : Value).ownBlock ∧ k_ ≠ gb384) ho0 (fun k_ hk_ => ⟨(Nat.le_trans (below_size (belt HB)) hk_), (Kd.fresh' (Kd.R_lt (rt HO388)) k_ hk_), (Kd.fresh' (Kd.R_lt (rt HO392)) k_ hk_), (Kd.freshB (blkt BK384) k_ hk_)⟩)) (below_size (belt HB))); have n3_ := blkb BK384 hb; have n4_ := belb HB hb; clear HO388; clear HO392; clear BK384; clear HB; have HO388 := n0_; have HO392 := n1_; have HO396 := n2_; have BK384 := n3_; have HB := n4_; clear n0_ n1_ n2_ n3_ n4_; (try clear hb); (try clear hb2); (try clear hk); (try clear hi); (try clear ho0)) | ((with_reducible refine gate_dst (N := 5) rfl ?_); refine box_event ?hg (N := 5) ?hd (cs := #[.bool false, .slice none 0 0]) (t := 28) ?hr ?_; (case hd => rfl); (case hg => rfl); (case hr => first | (go_simp; done) | (go_simp; rfl)); intro gb397 hg w16 hbox hb; have n0_ := rb HO388 hb; have n1_ := rb HO392 hb; have n2_ := Aside0.mk (Kd.V_below (Kd.V_elderB (vt HO396) gb397 (Nat.le_of_eq hg.symm)) hb); have n3_ := blkb BK384 hb; have n4_ := belb HB hb; have n5_ := Aside0.mk (hbox); have n6_ := bels HB hg; have n7_ := bels HB hg; have n8_ := blkl BK384 hg; have n9_ := blkg BK384 hg; clear HO388; clear HO392; clear HO396; clear BK384; clear HB; have HO388 := n0_; have HO392 := n1_; have HO396 := n2_; have BK384 := n3_; have HB := n4_; have BK397 := n5_; have GW397 := n6_; have GE397 := n7_; have NB384_397 := n8_; have NB397_384 := n9_; clear n0_ n1_ n2_ n3_ n4_ n5_ n6_ n7_ n8_ n9_; clear hb hbox hg; have hnb17 := NB397_384.out; have hnc17 := NB384_397.out; have hcz18_0 : w16.cell? ⟨gb397, 0, none⟩ = some (.bool false) := (blk_cell BK397.out 0).trans rfl; have hcz18_1 : w16.cell? ⟨gb397, 1, none⟩ = some (.slice none 0 0) := (blk_cell BK397.out 1).trans rfl; have hfz18_0 := blk_frozen BK397.out 0; have hfz18_1 := blk_frozen BK397.out 1; obtain ⟨Ao19, co19, eo19⟩ := Kd.V_slice HO396.out; subst eo19))
 have n0_ : Aside0 (Kd.R (Kd.int .i64) 3 ((w16.setCell ⟨gb397, 0, none⟩ (.bool t393)).setCell ⟨gb397, 1, none⟩ (.slice Ao19 t394.length co19)) w.heap.size (fun k_ => (w.heap.size ≤ k_) ∧ some k_ ≠ (.slice Ao14 t390.length co14 : Value).ownBlock) (.slice Ao13 t386.length co13) t386) := ⟨by (with_reducible repeat (first | apply Kd.R_alloc | apply Kd.R_drewN | apply Kd.R_drew)); exact Kd.R_mono (Kd.R_far (p := ⟨gb397, 1, none⟩) (Kd.R_far (p := ⟨gb397, 0, none⟩) (Kd.R_types HO388.out BK397.out (by decide)) (fun _ hk => hk.2) (.bool t393)) (fun _ hk => hk.2) (.slice Ao19 t394.length co19)) (fun _ hk => ⟨hk.1.1.1, hk.1.2⟩)⟩
 have n1_ : Aside0 (Kd.R (Kd.int .i64) 3 ((w16.setCell ⟨gb397, 0, none⟩ (.bool t393)).setCell ⟨gb397, 1, none⟩ (.slice Ao19 t394.length co19)) w.heap.size (fun k_ => (w.heap.size ≤ k_) ∧ some k_ ≠ (.slice Ao13 t386.length co13 : Value).ownBlock) (.slice Ao14 t390.length co14) t390) := ⟨by (with_reducible repeat (first | apply Kd.R_alloc | apply Kd.R_drewN | apply Kd.R_drew)); exact Kd.R_mono (Kd.R_far (p := ⟨gb397, 1, none⟩) (Kd.R_far (p := ⟨gb397, 0, none⟩) (Kd.R_types HO392.out BK397.out (by decide)) (fun _ hk => hk.2) (.bool t393)) (fun _ hk => hk.2) (.slice Ao19 t394.length co19)) (fun _ hk => ⟨hk.1.1.1, hk.1.2⟩)⟩
 have n2_ : Aside0 (Kd.V (Kd.int .i64) 3 ((w16.setCell ⟨gb397, 0, none⟩ (.bool t393)).setCell ⟨gb397, 1, none⟩ (.slice Ao19 t394.length co19)) w.heap.size (fun k_ => (w.heap.size ≤ k_) ∧ some k_ ≠ (.slice Ao13 t386.length co13 : Value).ownBlock ∧ some k_ ≠ (.slice Ao14 t390.length co14 : Value).ownBlock ∧ k_ ≠ gb384 ∧ k_ ≠ gb397) (.slice Ao19 t394.length co19) t394) := ⟨by (with_reducible repeat (first | apply Kd.V_alloc | apply Kd.V_drewN | apply Kd.V_drew)); exact Kd.V_mono (Kd.V_far (p := ⟨gb397, 1, none⟩) (Kd.V_far (p := ⟨gb397, 0, none⟩) (Kd.V_mono HO396.out (fun k_ hk => (⟨hk, hk.2⟩ : _ ∧ k_ ≠ gb397))) (fun _ hk => hk.2) (.bool t393)) (fun _ hk => hk.2) (.slice Ao19 t394.length co19)) (fun _ hk => ⟨hk.1.1.1, ⟨hk.1.1.2.1, ⟨hk.1.1.2.2.1, ⟨hk.1.1.2.2.2, hk.1.2⟩⟩⟩⟩)⟩
 have n3_ : Aside0 (((w16.setCell ⟨gb397, 0, none⟩ (.bool t393)).setCell ⟨gb397, 1, none⟩ (.slice Ao19 t394.length co19)).heap[gb384]? = some (.cells #[.bool false, .slice none 0 0] 28 (0, 0))) := ⟨by (with_reducible repeat (first | refine blk_drewN ?_ _ | refine blk_drew ?_ | refine blk_alloc ?_ _)); refine blk_far ?_ NB384_397.out _; (with_reducible repeat (first | refine blk_drewN ?_ _ | refine blk_drew ?_ | refine blk_alloc ?_ _)); refine blk_far ?_ NB384_397.out _; (with_reducible repeat (first | refine blk_drewN ?_ _ | refine blk_drew ?_ | refine blk_alloc ?_ _)); exact BK384.out⟩
 have n4_ : Aside0 (((w16.setCell ⟨gb397, 0, none⟩ (.bool t393)).setCell ⟨gb397, 1, none⟩ (.slice Ao19 t394.length co19)).heap[gb397]? = some (.cells #[.bool t393, .slice Ao19 t394.length co19] 28 (0, 0))) := ⟨by (with_reducible repeat (first | refine blk_drewN ?_ _ | refine blk_drew ?_ | refine blk_alloc ?_ _)); refine blk_put (cs := #[.bool t393, .slice none 0 0]) ?_ 1 _ rfl; (with_reducible repeat (first | refine blk_drewN ?_ _ | refine blk_drew ?_ | refine blk_alloc ?_ _)); refine blk_put (cs := #[.bool false, .slice none 0 0]) ?_ 0 _ rfl; (with_reducible repeat (first | refine blk_drewN ?_ _ | refine blk_drew ?_ | refine blk_alloc ?_ _)); exact BK397.out⟩
 have n5_ : Aside0 (Below w.heap.size w ((w16.setCell ⟨gb397, 0, none⟩ (.bool t393)).setCell ⟨gb397, 1, none⟩ (.slice Ao19 t394.length co19))) := ⟨by repeat (first | (with_reducible first | exact HB.out | apply below_alloc | apply pw_below_drewN | apply below_drew1 | refine below_set ?_ GE384.out | refine below_set ?_ GE397.out) | exact HB.out)⟩
 (try clear HO388)
 (try clear HO392)
 (try clear HO396)
 (try clear BK384)
 (try clear BK397)
 (try clear HB)
 generalize ((w16.setCell ⟨gb397, 0, none⟩ (.bool t393)).setCell ⟨gb397, 1, none⟩ (.slice Ao19 t394.length co19)) = w20 at n0_ n1_ n2_ n3_ n4_ n5_ ⊢
 have HO388 := n0_
 have HO392 := n1_
 have HO396 := n2_
 have BK384 := n3_
 have BK397 := n4_
 have HB := n5_
 clear n0_ n1_ n2_ n3_ n4_ n5_
 have n0_ := Aside0.mk (Kd.R_drew HO388.out)
 have n1_ := Aside0.mk (Kd.R_drew HO392.out)
 have n2_ := Aside0.mk (Kd.V_drew HO396.out)
 have n3_ := Aside0.mk (blk_drew BK384.out)
 have n4_ := Aside0.mk (blk_drew BK397.out)
 have n5_ := Aside0.mk (below_drew1 HB.out)
 clear HO388
 clear HO392
 clear HO396
 clear BK384
 clear BK397
 clear HB
 have HO388 := n0_
 have HO392 := n1_
 have HO396 := n2_
 have BK384 := n3_
 have BK397 := n4_
 have HB := n5_
 clear n0_ n1_ n2_ n3_ n4_ n5_
 refine start_ (n := 8) (S := fun w' => w'.cell? ⟨gb397, 0, none⟩ = some (.bool t393) ∧ w'.cell? ⟨gb397, 1, none⟩ = some (.slice Ao19 t394.length co19)) (ds := []) #[false, false, false, false, false, false, false, false] (by kernel_rfl) rfl rfl ⟨(blk_cell BK397.out 0).trans rfl, (blk_cell BK397.out 1).trans rfl⟩ (fun hHeld => ?_); refine with_tabW turnstoneref01_Wide.tab2 turnstoneref01_Wide.bits2 (fun HT_ HW_ => ?_)
 generalize w20.drew = w21 at HO388 HO392 HO396 BK384 BK397 HB hHeld ⊢
 refine pure_ (i := 0) (N := some 9) (v := ?_) (a' := ?_) #[true, false, false, false, false, false, false, false] rfl rfl (any_of HT_.out (by kernel_rfl)) (fun _ _ _ h => h) (Or.inl ⟨by rfl, ?_⟩) ?_ ?_
 rotate_left
 ·intro w'
  go_simp
  with_reducible rfl
 rotate_left
 ·simp only [Act.put, List.setIfInBounds_toArray, List.set_cons_zero, List.set_cons_succ, i64_w, i32_w]
  rfl
 refine pure_ (i := 4) (N := some 13) (v := ?_) (a' := ?_) #[true, false, false, false, true, false, false, false] rfl rfl (any_of HT_.out (by kernel_rfl)) (fun _ _ _ h => h) (Or.inl ⟨by rfl, ?_⟩) ?_ ?_
 rotate_left
 ·intro w'
  go_simp
  with_reducible rfl
 rotate_left
 ·simp only [Act.put, List.setIfInBounds_toArray, List.set_cons_zero, List.set_cons_succ, i64_w, i32_w]
  rfl
 refine take_ (i := 2) (N := some 11) (v := ?_) (a' := ?_) #[true, false, true, false, true, false, false, false] rfl rfl (take_ofW HT_.out HW_.out (by kernel_rfl)) (fun _ _ _ h => h) (Or.inl ⟨by rfl, ?_⟩) hHeld ?_ ?_
 rotate_left
 ·rintro w' ⟨s0, s1⟩
  go_simp
  with_reducible rfl
 rotate_left
 ·simp only [Act.put, List.setIfInBounds_toArray, List.set_cons_zero, List.set_cons_succ, i64_w, i32_w]
  rfl
 refine one_ (i := 1) (N := some 10) #[true, true, true, false, true, false, false, false] rfl rfl (one_of HT_.out (by kernel_rfl)) (by decide) (fun K hK => ?_)
 refine goes_ Try.func19 (by kernel_rfl) rfl #[.int .i64 a0] (by rfl) rfl rfl argt ?_
 with_reducible refine (turnstoneref01_N.calls k a0 t398 t399 _ A6.out).mono ?_
 rintro e w22 ⟨v400, rfl, ho0, hb⟩
 refine ⟨_, rfl, ?_⟩
 have n0_ := Aside0.mk (Kd.R_elder' (rt HO388) (Kd.R_base ho0) hb)
 have n1_ := Aside0.mk (Kd.R_elder' (rt HO392) (Kd.R_base ho0) hb)
 have n2_ := Aside0.mk (Kd.V_elder' (vt HO396) (Kd.R_base ho0) hb)
 have n3_ := Aside0.mk (Kd.R_lower (Kd.R_new' (Kd.R_new' (Kd.R_newM (M := fun k_ => (w.heap.size ≤ k_)) ho0 (below_size (belt HB)) (fun k_ h_ => h_)) (Kd.R_lt (rt HO388))) (Kd.R_lt (rt HO392))) (below_size (belt HB)))
 have n4_ := blkb BK384 hb
 have n5_ := blkb BK397 hb
 have n6_ := belb HB hb
 clear HO388
 clear HO392
 clear HO396
 clear BK384
 clear BK397
 clear HB
 have HO388 := n0_
 have HO392 := n1_
 have HO396 := n2_
 have HO401 := n3_
 have BK384 := n4_
 have BK397 := n5_
 have HB := n6_
 clear n0_ n1_ n2_ n3_ n4_ n5_ n6_
 (try clear hb)
 (try clear hb2)
 (try clear hk)
 (try clear hi)
 (try clear ho0)
 obtain ⟨Ao23, co23, eo23⟩ := Kd.R_slice HO401.out
 (first | subst eo23 | (injection eo23 with f1_ f2_ f3_; have f4_ := f1_.symm; have f5_ := f3_.symm; clear f1_ f2_ f3_; subst f4_; subst f5_))
 refine hK.out _ _ ⟨(blk_cell BK397.out 0).trans rfl, (blk_cell BK397.out 1).trans rfl⟩ (fun hHeld => ?_)
 clear hK K
 refine norm_ (a' := ?_) ?_ ?_
 rotate_left
 ·show Act.put _ (some 10) _ = _
  simp only [Act.put, List.setIfInBounds_toArray, List.set_cons_zero, List.set_cons_succ, i64_w, i32_w]
  rfl
 refine one_ (i := 3) (N := some 12) #[true, true, true, true, true, false, false, false] rfl rfl (one_of HT_.out (by kernel_rfl)) (by decide) (fun K hK => ?_)
 refine goes_ Try.func40 (by kernel_rfl) rfl #[.agg #[.bool t398, .slice Ao23 t399.length co23], .agg #[.bool t393, .slice Ao19 t394.length co19]] (by rfl) rfl rfl argt ?_
 with_reducible refine (turnstoneref01_Mul.calls k t398 _ _ t399 t393 _ _ t394 t402 t403 _ ?side1 ?side2 ?side3 ?side4 A7.out).mono ?_
 (case side1 => repeat (first | exact (Kd.R_reads' HO401.out).2.2 | (with_reducible refine Kd.C_alloc ?_ _) | (with_reducible refine Kd.C_drewN ?_ _) | (with_reducible refine Kd.C_drew ?_)))
 (case side2 => exact (Kd.R_reads' HO401.out).2.1)
 (case side3 => repeat (first | exact (Kd.V_reads' HO396.out).2.2 | (with_reducible refine Kd.C_alloc ?_ _) | (with_reducible refine Kd.C_drewN ?_ _) | (with_reducible refine Kd.C_drew ?_)))
 (case side4 => exact (Kd.V_reads' HO396.out).2.1)
 rintro e w24 ⟨v404, rfl, ho0, hb⟩
 refine ⟨_, rfl, ?_⟩
 have n0_ := rb HO388 hb
 have n1_ := rb HO392 hb
 have n2_ := vb HO396 hb
 have n3_ := rb HO401 hb
 have n4_ := Aside0.mk (Kd.V_lower (Kd.V_mono (ok' := fun k_ => (w.heap.size ≤ k_) ∧ some k_ ≠ (.slice Ao13 t386.length co13 : Value).ownBlock ∧ some k_ ≠ (.slice Ao14 t390.length co14 : Value).ownBlock ∧ some k_ ≠ (.slice Ao23 t399.length co23 : Value).ownBlock ∧ k_ ≠ gb384 ∧ k_ ≠ gb397) ho0 (fun k_ hk_ => ⟨(Nat.le_trans (below_size (belt HB)) hk_), (Kd.fresh' (Kd.R_lt (rt HO388)) k_ hk_), (Kd.fresh' (Kd.R_lt (rt HO392)) k_ hk_), (Kd.fresh' (Kd.R_lt (rt HO401)) k_ hk_), (Kd.freshB (blkt BK384) k_ hk_), (Kd.freshB (blkt BK397) k_ hk_)⟩)) (below_size (belt HB)))
 have n5_ := blkb BK384 hb
 have n6_ := blkb BK397 hb
 have n7_ := belb HB hb
 clear HO388
 clear HO392
 clear HO396
 clear HO401
 clear BK384
 clear BK397
 clear HB
 have HO388 := n0_
 have HO392 := n1_
 have HO396 := n2_
 have HO401 := n3_
 have HO405 := n4_
 have BK384 := n5_
 have BK397 := n6_
 have HB := n7_
 clear n0_ n1_ n2_ n3_ n4_ n5_ n6_ n7_
 (try clear hb)
 (try clear hb2)
 (try clear hk)
 (try clear hi)
 (try clear ho0)
 refine hK.out _ _ ⟨(blk_cell BK397.out 0).trans rfl, (blk_cell BK397.out 1).trans rfl⟩ (fun hHeld => ?_)
 clear hK K
 refine norm_ (a' := ?_) ?_ ?_
 rotate_left
 ·show Act.put _ (some 12) _ = _
  simp only [Act.put, List.setIfInBounds_toArray, List.set_cons_zero, List.set_cons_succ, i64_w, i32_w]
  rfl
 refine one_ (i := 5) (N := some 14) #[true, true, true, true, true, true, false, false] rfl rfl (one_of HT_.out (by kernel_rfl)) (by decide) (fun K hK => ?_)
 refine goes_ Try.func24 (by kernel_rfl) rfl #[.int .u64 a1] (by rfl) rfl rfl argt ?_
 with_reducible refine (turnstoneref01_U.calls k a1 t406 t407 _ A8.out).mono ?_
 rintro e w25 ⟨v408, rfl, ho0, hb⟩
 refine ⟨_, rfl, ?_⟩
 have n0_ := Aside0.mk (Kd.R_elder' (rt HO388) (Kd.R_base ho0) hb)
 have n1_ := Aside0.mk (Kd.R_elder' (rt HO392) (Kd.R_base ho0) hb)
 have n2_ := Aside0.mk (Kd.V_elder' (vt HO396) (Kd.R_base ho0) hb)
 have n3_ := Aside0.mk (Kd.R_elder' (rt HO401) (Kd.R_base ho0) hb)
 have n4_ := Aside0.mk (Kd.V_elder' (vt HO405) (Kd.R_base ho0) hb)
 have n5_ := Aside0.mk (Kd.R_lower (Kd.R_new' (Kd.R_new' (Kd.R_new' (Kd.R_newM (M := fun k_ => (w.heap.size ≤ k_)) ho0 (below_size (belt HB)) (fun k_ h_ => h_)) (Kd.R_lt (rt HO388))) (Kd.R_lt (rt HO392))) (Kd.R_lt (rt HO401))) (below_size (belt HB)))
 have n6_ := blkb BK384 hb
 have n7_ := blkb BK397 hb
 have n8_ := belb HB hb
 clear HO388
 clear HO392
 clear HO396
 clear HO401
 clear HO405
 clear BK384
 clear BK397
 clear HB
 have HO388 := n0_
 have HO392 := n1_
 have HO396 := n2_
 have HO401 := n3_
 have HO405 := n4_
 have HO409 := n5_
 have BK384 := n6_
 have BK397 := n7_
 have HB := n8_
 clear n0_ n1_ n2_ n3_ n4_ n5_ n6_ n7_ n8_
 (try clear hb)
 (try clear hb2)
 (try clear hk)
 (try clear hi)
 (try clear ho0)
 obtain ⟨Ao26, co26, eo26⟩ := Kd.V_slice HO405.out
 (first | subst eo26 | (injection eo26 with f1_ f2_ f3_; have f4_ := f1_.symm; have f5_ := f3_.symm; clear f1_ f2_ f3_; subst f4_; subst f5_))
 obtain ⟨Ao27, co27, eo27⟩ := Kd.R_slice HO409.out
 (first | subst eo27 | (injection eo27 with f1_ f2_ f3_; have f4_ := f1_.symm; have f5_ := f3_.symm; clear f1_ f2_ f3_; subst f4_; subst f5_))
 refine hK.out _ _ ⟨(blk_cell BK397.out 0).trans rfl, (blk_cell BK397.out 1).trans rfl⟩ (fun hHeld => ?_)
 clear hK K
 refine norm_ (a' := ?_) ?_ ?_
 rotate_left
 ·show Act.put _ (some 14) _ = _
  simp only [Act.put, List.setIfInBounds_toArray, List.set_cons_zero, List.set_cons_succ, i64_w, i32_w]
  rfl
 refine one_ (i := 6) (N := some 15) #[true, true, true, true, true, true, true, false] rfl rfl (one_of HT_.out (by kernel_rfl)) (by decide) (fun K hK => ?_)
 refine goes_ Try.func27 (by kernel_rfl) rfl #[.agg #[.bool t402, .slice Ao26 t403.length co26], .agg #[.bool t406, .slice Ao27 t407.length co27]] (by rfl) rfl rfl argt ?_
 with_reducible refine (turnstoneref01_Add.calls k t402 _ _ t403 t406 _ _ t407 t410 t411 _ ?side1 ?side2 ?side3 ?side4 A9.out).mono ?_
 (case side1 => repeat (first | exact (Kd.V_reads' HO405.out).2.2 | (with_reducible refine Kd.C_alloc ?_ _) | (with_reducible refine Kd.C_drewN ?_ _) | (with_reducible refine Kd.C_drew ?_)))
 (case side2 => exact (Kd.V_reads' HO405.out).2.1)
 (case side3 => repeat (first | exact (Kd.R_reads' HO409.out).2.2 | (with_reducible refine Kd.C_alloc ?_ _) | (with_reducible refine Kd.C_drewN ?_ _) | (with_reducible refine Kd.C_drew ?_)))
 (case side4 => exact (Kd.R_reads' HO409.out).2.1)
 rintro e w28 ⟨v412, rfl, ho0, hb⟩
 refine ⟨_, rfl, ?_⟩
 have n0_ := rb HO388 hb
 have n1_ := rb HO392 hb
 have n2_ := vb HO396 hb
 have n3_ := rb HO401 hb
 have n4_ := vb HO405 hb
 have n5_ := rb HO409 hb
 have n6_ := Aside0.mk (Kd.V_lower (Kd.V_mono (ok' := fun k_ => (w.heap.size ≤ k_) ∧ some k_ ≠ (.slice Ao13 t386.length co13 : Value).ownBlock ∧ some k_ ≠ (.slice Ao14 t390.length co14 : Value).ownBlock ∧ some k_ ≠ (.slice Ao23 t399.length co23 : Value).ownBlock ∧ some k_ ≠ (.slice Ao27 t407.length co27 : Value).ownBlock ∧ k_ ≠ gb384 ∧ k_ ≠ gb397) ho0 (fun k_ hk_ => ⟨(Nat.le_trans (below_size (belt HB)) hk_), (Kd.fresh' (Kd.R_lt (rt HO388)) k_ hk_), (Kd.fresh' (Kd.R_lt (rt HO392)) k_ hk_), (Kd.fresh' (Kd.R_lt (rt HO401)) k_ hk_), (Kd.fresh' (Kd.R_lt (rt HO409)) k_ hk_), (Kd.freshB (blkt BK384) k_ hk_), (Kd.freshB (blkt BK397) k_ hk_)⟩)) (below_size (belt HB)))
 have n7_ := blkb BK384 hb
 have n8_ := blkb BK397 hb
 have n9_ := belb HB hb
 clear HO388
 clear HO392
 clear HO396
 clear HO401
 clear HO405
 clear HO409
 clear BK384
 clear BK397
 clear HB
 have HO388 := n0_
 have HO392 := n1_
 have HO396 := n2_
 have HO401 := n3_
 have HO405 := n4_
 have HO409 := n5_
 have HO413 := n6_
 have BK384 := n7_
 have BK397 := n8_
 have HB := n9_
 clear n0_ n1_ n2_ n3_ n4_ n5_ n6_ n7_ n8_ n9_
 (try clear hb)
 (try clear hb2)
 (try clear hk)
 (try clear hi)
 (try clear ho0)
 obtain ⟨Ao30, co30, eo30⟩ := Kd.V_slice HO413.out
 (first | subst eo30 | (injection eo30 with f1_ f2_ f3_; have f4_ := f1_.symm; have f5_ := f3_.symm; clear f1_ f2_ f3_; subst f4_; subst f5_))
 refine hK.out _ _ ⟨(blk_cell BK397.out 0).trans rfl, (blk_cell BK397.out 1).trans rfl⟩ (fun hHeld => ?_)
 clear hK K
 refine norm_ (a' := ?_) ?_ ?_
 rotate_left
 ·show Act.put _ (some 15) _ = _
  simp only [Act.put, List.setIfInBounds_toArray, List.set_cons_zero, List.set_cons_succ, i64_w, i32_w]
  rfl
 refine one_ (i := 7) (N := none) #[true, true, true, true, true, true, true, true] rfl rfl (one_of HT_.out (by kernel_rfl)) (by decide) (fun K hK => ?_)
 have hs29 : w28.cell? ⟨gb384, 0, none⟩ = some (.bool false) := (blk_cell BK384.out 0).trans rfl
 have hfs29 := blk_frozen BK384.out 0
 have hns29_1 := NB397_384.out
 have hms29_1 := NB384_397.out
 have hs31 : w28.cell? ⟨gb384, 1, none⟩ = some (.slice none 0 0) := (blk_cell BK384.out 1).trans rfl
 have hfs31 := blk_frozen BK384.out 1
 have hns31_1 := NB397_384.out
 have hms31_1 := NB384_397.out
 refine skip_ (w1 := ?_) (by rfl) rfl ?_ ?_
 rotate_left
 ·go_simp
  rfl
 refine hK.out _ _ ⟨((cell_far (p := ⟨gb384, _, none⟩) NB397_384.out _).trans (((cell_far (p := ⟨gb384, _, none⟩) NB397_384.out _).trans (hHeld.1)))), ((cell_far (p := ⟨gb384, _, none⟩) NB397_384.out _).trans (((cell_far (p := ⟨gb384, _, none⟩) NB397_384.out _).trans (hHeld.2))))⟩ (fun hHeld => ?_)
 clear hK K
 refine done_ (done_of HT_.out (by kernel_rfl)) ?_
 try go_wp2
 refine bodyPost_ret (results_cell_row rfl _ _ gb384 28 #[.bool t410, .slice Ao30 t411.length co30] (0, 0) _ rfl (by (with_reducible repeat (first | refine blk_drewN ?_ _ | refine blk_drew ?_ | refine blk_alloc ?_ _)); refine blk_put (cs := #[.bool t410, .slice none 0 0]) ?_ 1 _ rfl; (with_reducible repeat (first | refine blk_drewN ?_ _ | refine blk_drew ?_ | refine blk_alloc ?_ _)); refine blk_put (cs := #[.bool false, .slice none 0 0]) ?_ 0 _ rfl; (with_reducible repeat (first | refine blk_drewN ?_ _ | refine blk_drew ?_ | refine blk_alloc ?_ _)); exact BK384.out) Try.underlying28 rfl (by kernel_rfl)) rfl ?_
 exact ⟨_, by first | rfl | (simp [errW_none, errW_some] <;> rfl) | (simp [*, errW_none, errW_some] <;> rfl), by (with_reducible repeat (first | apply Kd.V_alloc | apply Kd.V_drewN | apply Kd.V_drew)); exact Kd.V_mono (Kd.V_far (p := ⟨gb384, 1, none⟩) (Kd.V_far (p := ⟨gb384, 0, none⟩) (Kd.V_mono HO413.out (fun k_ hk => (⟨hk, hk.2.2.2.2.2.1⟩ : _ ∧ k_ ≠ gb384))) (fun _ hk => hk.2) (.bool t410)) (fun _ hk => hk.2) (.slice Ao30 t411.length co30)) (fun _ hk => hk.1.1), by repeat (first | (with_reducible first | exact HB.out | apply below_alloc | apply pw_below_drewN | apply below_drew1 | refine below_set ?_ GE384.out | refine below_set ?_ GE397.out) | exact HB.out)⟩

/-! ### turnstonelaw01_Of: function 41 -/
def turnstonelaw01_Of.f (k : Nat) (a0_0 : Int) (a0_1 : Int) : Option (Bool × List Int) := (turnstoneref01_Wide.f k a0_0 a0_1).bind fun bt416 => (some (bt416.1, bt416.2))
theorem turnstonelaw01_Of.mono : ∀ a0 a1 k, LeO (turnstonelaw01_Of.f k a0 a1) (turnstonelaw01_Of.f (k + 1) a0 a1) := by
 intro a0 a1 k
 unfold turnstonelaw01_Of.f
 repeat' first
   | (with_reducible exact turnstoneref01_Wide.mono _ _ _)
   | (with_reducible exact LeO.refl _)
   | (with_reducible exact LeO.none _)
   | (with_reducible refine LeO.ite ?_ ?_)
   | (with_reducible refine LeO.bind ?_ (fun _ => ?_))
   | exact turnstoneref01_Wide.mono _ _ _
   | exact LeO.none _
   | refine LeO.ite ?_ ?_
   | refine LeO.bind ?_ (fun _ => ?_)
set_option maxHeartbeats 8000000 in
set_option maxRecDepth 100000 in
theorem turnstonelaw01_Of.calls (k : Nat) (a0_0 : Int) (a0_1 : Int) (r1 : Bool) (r2 : List Int) (w : World) (h : turnstonelaw01_Of.f k a0_0 a0_1 = some (r1, r2)) :
  Calls Try.prog 41 #[.agg #[.int .i64 a0_0, .int .u64 a0_1]] w fun e w' => ∃ v1_ : Value, e = .returned (.agg #[.bool r1, v1_]) ∧ Kd.V (Kd.int .i64) 3 w' w.heap.size (fun k_ => (w.heap.size ≤ k_)) v1_ r2 ∧ Below w.heap.size w w' := by
 have hu59 := Try.underlying59
 have hu28 := Try.underlying28
 have HB := Aside0.mk (Below.refl w.heap.size w)
 have H : ((turnstoneref01_Wide.f k a0_0 a0_1).bind fun bt416 => (some (bt416.1, bt416.2))) = some (r1, r2) := h
 clear h
 replace H := Option.bind_eq_some_iff.mp H
 obtain ⟨⟨t416, t417⟩, A20, H⟩ := H
 replace H : (some (t416, t417)) = some (r1, r2) := H
 have A2 := Aside0.mk A20
 clear A20
 simp only [Option.some.injEq, Prod.mk.injEq] at H
 obtain ⟨rfl, rfl⟩ := H
 go_enter Try.func41, Try.ntmps41
 go_wp2_with (first | ((with_reducible refine gate_dst (N := 1) rfl ?_); refine box_event ?hg (N := 1) ?hd (cs := #[.int .i64 a0_0, .int .u64 a0_1]) (t := 59) ?hr ?_; (case hd => rfl); (case hg => rfl); (case hr => first | (go_simp; done) | (go_simp; rfl)); intro gb414 hg w3 hbox hb; have n0_ := belb HB hb; have n1_ := Aside0.mk (hbox); have n2_ := bels HB hg; have n3_ := bels HB hg; clear HB; have HB := n0_; have BK414 := n1_; have GW414 := n2_; have GE414 := n3_; clear n0_ n1_ n2_ n3_; clear hb hbox hg) | ((with_reducible refine gate_dst (N := 2) rfl ?_); refine box_event ?hg (N := 2) ?hd (cs := #[.bool false, .slice none 0 0]) (t := 28) ?hr ?_; (case hd => rfl); (case hg => rfl); (case hr => first | (go_simp; done) | (go_simp; rfl)); intro gb415 hg w4 hbox hb; have n0_ := blkb BK414 hb; have n1_ := belb HB hb; have n2_ := Aside0.mk (hbox); have n3_ := bels HB hg; have n4_ := bels HB hg; have n5_ := blkl BK414 hg; have n6_ := blkg BK414 hg; clear BK414; clear HB; have BK414 := n0_; have HB := n1_; have BK415 := n2_; have GW415 := n3_; have GE415 := n4_; have NB414_415 := n5_; have NB415_414 := n6_; clear n0_ n1_ n2_ n3_ n4_ n5_ n6_; clear hb hbox hg; have hnb5 := NB414_415.out; have hnc5 := NB415_414.out; have hcz6_0 : w4.cell? ⟨gb414, 0, none⟩ = some (.int .i64 a0_0) := (blk_cell BK414.out 0).trans rfl; have hcz6_1 : w4.cell? ⟨gb414, 1, none⟩ = some (.int .u64 a0_1) := (blk_cell BK414.out 1).trans rfl; have hfz6_0 := blk_frozen BK414.out 0; have hfz6_1 := blk_frozen BK414.out 1) | ((with_reducible refine gate_callee (f := 72) rfl ?_); refine goesL_ (some 7) rfl rfl Try.func72 (by kernel_rfl) rfl #[.int .i64 a0_0, .int .u64 a0_1] rfl argt ?_; (with_reducible refine (turnstoneref01_Wide.calls k a0_0 a0_1 t416 t417 _ A2.out).mono ?_); rintro e w7 ⟨v418, rfl, ho0, hb⟩; refine ⟨_, rfl, ?_⟩; have n0_ := Aside0.mk (Kd.V_lower (Kd.V_mono (ok' := fun k_ => (w.heap.size ≤ k_) ∧ k_ ≠ gb414 ∧ k_ ≠ gb415) ho0 (fun k_ hk_ => ⟨(Nat.le_trans (below_size (belt HB)) hk_), (Kd.freshB (blkt BK414) k_ hk_), (Kd.freshB (blkt BK415) k_ hk_)⟩)) (below_size (belt HB))); have n1_ := blkb BK414 hb; have n2_ := blkb BK415 hb; have n3_ := belb HB hb; clear BK414; clear BK415; clear HB; have HO419 := n0_; have BK414 := n1_; have BK415 := n2_; have HB := n3_; clear n0_ n1_ n2_ n3_; (try clear hb); (try clear hb2); (try clear hk); (try clear hi); (try clear ho0); have hcz8_0 : w7.cell? ⟨gb415, 0, none⟩ = some (.bool false) := (blk_cell BK415.out 0).trans rfl; have hcz8_1 : w7.cell? ⟨gb415, 1, none⟩ = some (.slice none 0 0) := (blk_cell BK415.out 1).trans rfl; have hfz8_0 := blk_frozen BK415.out 0; have hfz8_1 := blk_frozen BK415.out 1; obtain ⟨Ao9, co9, eo9⟩ := Kd.V_slice HO419.out; subst eo9))
 refine bodyPost_ret (results_cell_row rfl _ _ gb415 28 #[.bool t416, .slice Ao9 t417.length co9] (0, 0) _ rfl (by (with_reducible repeat (first | refine blk_drewN ?_ _ | refine blk_drew ?_ | refine blk_alloc ?_ _)); refine blk_put (cs := #[.bool t416, .slice none 0 0]) ?_ 1 _ rfl; (with_reducible repeat (first | refine blk_drewN ?_ _ | refine blk_drew ?_ | refine blk_alloc ?_ _)); refine blk_put (cs := #[.bool false, .slice none 0 0]) ?_ 0 _ rfl; (with_reducible repeat (first | refine blk_drewN ?_ _ | refine blk_drew ?_ | refine blk_alloc ?_ _)); exact BK415.out) Try.underlying28 rfl (by kernel_rfl)) rfl ?_
 exact ⟨_, by first | rfl | (simp [errW_none, errW_some] <;> rfl) | (simp [*, errW_none, errW_some] <;> rfl), by (with_reducible repeat (first | apply Kd.V_alloc | apply Kd.V_drewN | apply Kd.V_drew)); exact Kd.V_mono (Kd.V_far (p := ⟨gb415, 1, none⟩) (Kd.V_far (p := ⟨gb415, 0, none⟩) (Kd.V_mono HO419.out (fun k_ hk => (⟨hk, hk.2.2⟩ : _ ∧ k_ ≠ gb415))) (fun _ hk => hk.2) (.bool t416)) (fun _ hk => hk.2) (.slice Ao9 t417.length co9)) (fun _ hk => hk.1.1), by repeat (first | (with_reducible first | exact HB.out | apply below_alloc | apply pw_below_drewN | apply below_drew1 | refine below_set ?_ GE414.out | refine below_set ?_ GE415.out) | exact HB.out)⟩

end Go.Proofs.Ytimgiiceipjpaaa.Print
