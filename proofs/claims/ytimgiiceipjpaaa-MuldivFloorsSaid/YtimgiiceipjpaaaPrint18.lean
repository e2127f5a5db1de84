/- What each Go function that is named below answers, as a Lean function, and that its walk comes to just that: for whatever arguments that function gives an answer for. Written by a program of this session (wip/mkpr.py, pr.sh). -/
import Derived.Test.YtimgiiceipjpaaaPrint0
import Derived.Test.YtimgiiceipjpaaaPrint12
import Derived.Test.YtimgiiceipjpaaaPrint13
namespace Go.Proofs.Ytimgiiceipjpaaa.Print
open Go.RowKit Go.Proofs.YtimgiiceipjpaaaW.PrintWords Go.Proofs.YtimgiiceipjpaaaW.PrintLast Go.Proofs.YtimgiiceipjpaaaW.PrintMore
attribute [local go_sem] max2_int min2_int max_two min_two max_three min_three max_four min_four   -- for this text's walks alone
open Go.Proofs.Ytimgiiceipjpaaa.Bits Go.Proofs.Ytimgiiceipjpaaa.Short
attribute [local go_sem] add64_run0 sub64_run0 add64_run sub64_run
set_option linter.unusedVariables false
set_option linter.unusedSimpArgs false

/-! ### turnstoneref01_Is: function 42 -/
def turnstoneref01_Is.f (k : Nat) (a0_0 : Bool) (l0_1 : List Int) : Option (Bool) := (turnstoneref01_Power.f k 127).bind fun bt421 => ((turnstoneref01_Cmp.f k a0_0 l0_1 bt421.1 bt421.2).bind fun t426 => (if t426 < 0 then ((turnstoneref01_Neg.f k bt421.1 bt421.2).bind fun bt427 => ((turnstoneref01_Cmp.f k a0_0 l0_1 bt427.1 bt427.2).bind fun t431 => (some (decide (t431 ≥ 0))))) else (some false)))
theorem turnstoneref01_Is.mono : ∀ a0 a1 k, LeO (turnstoneref01_Is.f k a0 a1) (turnstoneref01_Is.f (k + 1) a0 a1) := by
 intro a0 a1 k
 unfold turnstoneref01_Is.f
 repeat' first
   | (with_reducible exact turnstoneref01_Cmp.mono _ _ _ _ _)
   | (with_reducible exact turnstoneref01_Neg.mono _ _ _)
   | (with_reducible exact turnstoneref01_Power.mono _ _)
   | (with_reducible exact LeO.refl _)
   | (with_reducible exact LeO.none _)
   | (with_reducible refine LeO.ite ?_ ?_)
   | (with_reducible refine LeO.bind ?_ (fun _ => ?_))
   | exact turnstoneref01_Cmp.mono _ _ _ _ _
   | exact turnstoneref01_Neg.mono _ _ _
   | exact turnstoneref01_Power.mono _ _
   | exact LeO.none _
   | refine LeO.ite ?_ ?_
   | refine LeO.bind ?_ (fun _ => ?_)
def turnstoneref01_Is.T2 : Bool × List (List Nat × List Nat) := (true, [([], []), ([], []), ([0, 1], [0, 1]), ([2], [2]), ([3, 2], [3]), ([4], [4]), ([4], [4]), ([6, 4, 4], [4, 6]), ([5, 7, 7, 4], [4, 5, 7]), ([8, 4], [4, 8]), ([4, 9], [4, 9]), ([10, 8, 0, 1, 2, 3, 4, 5, 6, 7, 8, 9, 10], [10])])
def turnstoneref01_Is.B2 : List Nat := [0, 0, 3, 7, 15, 31, 31, 95, 255, 511, 1023, 2047]
theorem turnstoneref01_Is.tab2 : rtab .any (opsOf Try.f42 2) = turnstoneref01_Is.T2 := by kernel_rfl
theorem turnstoneref01_Is.bits2 : waitsOk turnstoneref01_Is.T2.2 turnstoneref01_Is.B2 = true := by kernel_rfl
set_option maxHeartbeats 8000000 in
set_option maxRecDepth 100000 in
theorem turnstoneref01_Is.calls (k : Nat) (a0_0 : Bool) (A0_1 : Option Addr) (c0_1 : Nat) (l0_1 : List Int) (r : Bool) (w : World) (hr0_1 : Kd.C (Kd.int .i64) w A0_1 l0_1.length l0_1) (hc0_1 : l0_1.length ≤ c0_1) (h : turnstoneref01_Is.f k a0_0 l0_1 = some r) :
  Calls Try.prog 42 #[.agg #[.bool a0_0, .slice A0_1 l0_1.length c0_1]] w fun e w' => e = .returned (.bool r) ∧ Below w.heap.size w w' := by
 have hu28 := Try.underlying28
 have HR0_1 := Aside0.mk hr0_1
 have HC0_1 := Aside0.mk hc0_1
 clear hr0_1 hc0_1
 have HB := Aside0.mk (Below.refl w.heap.size w)
 have H : ((turnstoneref01_Power.f k 127).bind fun bt421 => ((turnstoneref01_Cmp.f k a0_0 l0_1 bt421.1 bt421.2).bind fun t426 => (if t426 < 0 then ((turnstoneref01_Neg.f k bt421.1 bt421.2).bind fun bt427 => ((turnstoneref01_Cmp.f k a0_0 l0_1 bt427.1 bt427.2).bind fun t431 => (some (decide (t431 ≥ 0))))) else (some false)))) = some r := h
 clear h
 replace H := Option.bind_eq_some_iff.mp H
 obtain ⟨⟨t421, t422⟩, A20, H⟩ := H
 replace H : ((turnstoneref01_Cmp.f k a0_0 l0_1 t421 t422).bind fun t426 => (if t426 < 0 then ((turnstoneref01_Neg.f k t421 t422).bind fun bt427 => ((turnstoneref01_Cmp.f k a0_0 l0_1 bt427.1 bt427.2).bind fun t431 => (some (decide (t431 ≥ 0))))) else (some false))) = some r := H
 have A2 := Aside0.mk A20
 clear A20
 replace H := Option.bind_eq_some_iff.mp H
 obtain ⟨t426, A30, H⟩ := H
 replace H : (if t426 < 0 then ((turnstoneref01_Neg.f k t421 t422).bind fun bt427 => ((turnstoneref01_Cmp.f k a0_0 l0_1 bt427.1 bt427.2).bind fun t431 => (some (decide (t431 ≥ 0))))) else (some false)) = some r := H
 have A3 := Aside0.mk A30
 clear A30
 by_cases c4 : t426 < 0
 ·rw [if_pos c4] at H
  have c4b0 : decide (t426 < 0) = true := decide_eq_true c4
  clear c4
  replace H := Option.bind_eq_some_iff.mp H
  obtain ⟨⟨t427, t428⟩, A50, H⟩ := H
  replace H : ((turnstoneref01_Cmp.f k a0_0 l0_1 t427 t428).bind fun t431 => (some (decide (t431 ≥ 0)))) = some r := H
  have A5 := Aside0.mk A50
  clear A50
  replace H := Option.bind_eq_some_iff.mp H
  obtain ⟨t431, A60, H⟩ := H
  replace H : (some (decide (t431 ≥ 0))) = some r := H
  have A6 := Aside0.mk A60
  clear A60
  obtain rfl := Option.some.inj H
  go_enter Try.func42, Try.ntmps42
  try go_wp2_with (first | ((with_reducible refine gate_dst (N := 1) rfl ?_); refine box_event ?hg (N := 1) ?hd (cs := #[.bool a0_0, .slice A0_1 l0_1.length c0_1]) (t := 28) ?hr ?_; (case hd => rfl); (case hg => rfl); (case hr => first | (go_simp; done) | (go_simp; rfl)); intro gb420 hg w7 hbox hb; have n0_ := belb HB hb; have n1_ := Aside0.mk (hbox); have n2_ := bels HB hg; have n3_ := bels HB hg; clear HB; have HB := n0_; have BK420 := n1_; have GW420 := n2_; have GE420 := n3_; clear n0_ n1_ n2_ n3_; clear hb hbox hg) | ((with_reducible refine gate_callee (f := 60) rfl ?_); refine goesL_ (some 4) rfl rfl Try.func60 (by kernel_rfl) rfl #[.int .i64 127] rfl argt ?_; (with_reducible refine (turnstoneref01_Power.calls k 127 t421 t422 _ A2.out).mono ?_); rintro e w8 ⟨v423, rfl, ho0, hb⟩; refine ⟨_, rfl, ?_⟩; have n0_ := Aside0.mk (Kd.V_lower (Kd.V_mono (ok' := fun k_ => k_ ≠ gb420) ho0 (fun k_ hk_ => (Kd.freshB (blkt BK420) k_ hk_))) (below_size (belt HB))); have n1_ := blkb BK420 hb; have n2_ := belb HB hb; clear BK420; clear HB; have HO424 := n0_; have BK420 := n1_; have HB := n2_; clear n0_ n1_ n2_; (try clear hb); (try clear hb2); (try clear hk); (try clear hi); (try clear ho0)) | ((with_reducible refine gate_dst (N := 3) rfl ?_); refine box_event ?hg (N := 3) ?hd (cs := #[.bool false, .slice none 0 0]) (t := 28) ?hr ?_; (case hd => rfl); (case hg => rfl); (case hr => first | (go_simp; done) | (go_simp; rfl)); intro gb425 hg w9 hbox hb; have n0_ := Aside0.mk (Kd.V_below (Kd.V_elderB (vt HO424) gb425 (Nat.le_of_eq hg.symm)) hb); have n1_ := blkb BK420 hb; have n2_ := belb HB hb; have n3_ := Aside0.mk (hbox); have n4_ := bels HB hg; have n5_ := bels HB hg; have n6_ := blkl BK420 hg; have n7_ := blkg BK420 hg; clear HO424; clear BK420; clear HB; have HO424 := n0_; have BK420 := n1_; have HB := n2_; have BK425 := n3_; have GW425 := n4_; have GE425 := n5_; have NB420_425 := n6_; have NB425_420 := n7_; clear n0_ n1_ n2_ n3_ n4_ n5_ n6_ n7_; clear hb hbox hg; have hnb10 := NB425_420.out; have hnc10 := NB420_425.out; have hcz11_0 : w9.cell? ⟨gb425, 0, none⟩ = some (.bool false) := (blk_cell BK425.out 0).trans rfl; have hcz11_1 : w9.cell? ⟨gb425, 1, none⟩ = some (.slice none 0 0) := (blk_cell BK425.out 1).trans rfl; have hfz11_0 := blk_frozen BK425.out 0; have hfz11_1 := blk_frozen BK425.out 1; obtain ⟨Ao12, co12, eo12⟩ := Kd.V_slice HO424.out; subst eo12))
  have n0_ : Aside0 (Kd.V (Kd.int .i64) 3 ((w9.setCell ⟨gb425, 0, none⟩ (.bool t421)).setCell ⟨gb425, 1, none⟩ (.slice Ao12 t422.length co12)) w.heap.size (fun k_ => k_ ≠ gb420 ∧ k_ ≠ gb425) (.slice Ao12 t422.length co12) t422) := ⟨by (with_reducible repeat (first | apply Kd.V_alloc | apply Kd.V_drewN | apply Kd.V_drew)); exact Kd.V_mono (Kd.V_far (p := ⟨gb425, 1, none⟩) (Kd.V_far (p := ⟨gb425, 0, none⟩) (Kd.V_mono HO424.out (fun k_ hk => (⟨hk, hk.2⟩ : _ ∧ k_ ≠ gb425))) (fun _ hk => hk.2) (.bool t421)) (fun _ hk => hk.2) (.slice Ao12 t422.length co12)) (fun _ hk => ⟨hk.1.1, hk.1.2⟩)⟩
  have n1_ : Aside0 (((w9.setCell ⟨gb425, 0, none⟩ (.bool t421)).setCell ⟨gb425, 1, none⟩ (.slice Ao12 t422.length co12)).heap[gb420]? = some (.cells #[.bool a0_0, .slice A0_1 l0_1.length c0_1] 28 (0, 0))) := ⟨by (with_reducible repeat (first | refine blk_drewN ?_ _ | refine blk_drew ?_ | refine blk_alloc ?_ _)); refine blk_far ?_ NB420_425.out _; (with_reducible repeat (first | refine blk_drewN ?_ _ | refine blk_drew ?_ | refine blk_alloc ?_ _)); refine blk_far ?_ NB420_425.out _; (with_reducible repeat (first | refine blk_drewN ?_ _ | refine blk_drew ?_ | refine blk_alloc ?_ _)); exact BK420.out⟩
  have n2_ : Aside0 (((w9.setCell ⟨gb425, 0, none⟩ (.bool t421)).setCell ⟨gb425, 1, none⟩ (.slice Ao12 t422.length co12)).heap[gb425]? = some (.cells #[.bool t421, .slice Ao12 t422.length co12] 28 (0, 0))) := ⟨by (with_reducible repeat (first | refine blk_drewN ?_ _ | refine blk_drew ?_ | refine blk_alloc ?_ _)); refine blk_put (cs := #[.bool t421, .slice none 0 0]) ?_ 1 _ rfl; (with_reducible repeat (first | refine blk_drewN ?_ _ | refine blk_drew ?_ | refine blk_alloc ?_ _)); refine blk_put (cs := #[.bool false, .slice none 0 0]) ?_ 0 _ rfl; (with_reducible repeat (first | refine blk_drewN ?_ _ | refine blk_drew ?_ | refine blk_alloc ?_ _)); exact BK425.out⟩
  have n3_ : Aside0 (Below w.heap.size w ((w9.setCell ⟨gb425, 0, none⟩ (.bool t421)).setCell ⟨gb425, 1, none⟩ (.slice Ao12 t422.length co12))) := ⟨by repeat (first | (with_reducible first | exact HB.out | apply below_alloc | apply pw_below_drewN | apply below_drew1 | refine below_set ?_ GE420.out | refine below_set ?_ GE425.out) | exact HB.out)⟩
  (try clear HO424)
  (try clear BK420)
  (try clear BK425)
  (try clear HB)
  generalize ((w9.setCell ⟨gb425, 0, none⟩ (.bool t421)).setCell ⟨gb425, 1, none⟩ (.slice Ao12 t422.length co12)) = w13 at n0_ n1_ n2_ n3_ ⊢
  have HO424 := n0_
  have BK420 := n1_
  have BK425 := n2_
  have HB := n3_
  clear n0_ n1_ n2_ n3_
  have n0_ := Aside0.mk (Kd.V_drew HO424.out)
  have n1_ := Aside0.mk (blk_drew BK420.out)
  have n2_ := Aside0.mk (blk_drew BK425.out)
  have n3_ := Aside0.mk (below_drew1 HB.out)
  clear HO424
  clear BK420
  clear BK425
  clear HB
  have HO424 := n0_
  have BK420 := n1_
  have BK425 := n2_
  have HB := n3_
  clear n0_ n1_ n2_ n3_
  refine start_ (n := 12) (S := fun w' => w'.cell? ⟨gb420, 0, none⟩ = some (.bool a0_0) ∧ w'.cell? ⟨gb420, 1, none⟩ = some (.slice A0_1 l0_1.length c0_1) ∧ w'.cell? ⟨gb425, 0, none⟩ = some (.bool t421) ∧ w'.cell? ⟨gb425, 1, none⟩ = some (.slice Ao12 t422.length co12)) (ds := []) #[false, false, false, false, false, false, false, false, false, false, false, false] (by kernel_rfl) rfl rfl ⟨(blk_cell BK420.out 0).trans rfl, (blk_cell BK420.out 1).trans rfl, (blk_cell BK425.out 0).trans rfl, (blk_cell BK425.out 1).trans rfl⟩ (fun hHeld => ?_); refine with_tabW turnstoneref01_Is.tab2 turnstoneref01_Is.bits2 (fun HT_ HW_ => ?_)
  generalize w13.drew = w14 at HO424 BK420 BK425 HB hHeld ⊢
  refine take_ (i := 0) (N := some 5) (v := ?_) (a' := ?_) #[true, false, false, false, false, false, false, false, false, false, false, false] rfl rfl (take_ofW HT_.out HW_.out (by kernel_rfl)) (fun _ _ _ h => h) (Or.inl ⟨by rfl, ?_⟩) hHeld ?_ ?_
  rotate_left
  ·rintro w' ⟨s0, s1, s2, s3⟩
   go_simp
   with_reducible rfl
  rotate_left
  ·simp only [Act.put, List.setIfInBounds_toArray, List.set_cons_zero, List.set_cons_succ, i64_w, i32_w]
   rfl
  refine take_ (i := 1) (N := some 6) (v := ?_) (a' := ?_) #[true, true, false, false, false, false, false, false, false, false, false, false] rfl rfl (take_ofW HT_.out HW_.out (by kernel_rfl)) (fun _ _ _ h => h) (Or.inl ⟨by rfl, ?_⟩) hHeld ?_ ?_
  rotate_left
  ·rintro w' ⟨s0, s1, s2, s3⟩
   go_simp
   with_reducible rfl
  rotate_left
  ·simp only [Act.put, List.setIfInBounds_toArray, List.set_cons_zero, List.set_cons_succ, i64_w, i32_w]
   rfl
  refine one_ (i := 2) (N := some 7) #[true, true, true, false, false, false, false, false, false, false, false, false] rfl rfl (one_of HT_.out (by kernel_rfl)) (by decide) (fun K hK => ?_)
  refine goes_ Try.func18 (by kernel_rfl) rfl #[.agg #[.bool a0_0, .slice A0_1 l0_1.length c0_1], .agg #[.bool t421, .slice Ao12 t422.length co12]] (by rfl) rfl rfl argt ?_
  with_reducible refine (turnstoneref01_Cmp.calls k a0_0 _ _ l0_1 t421 _ _ t422 t426 _ ?side1 ?side2 ?side3 ?side4 A3.out).mono ?_
  (case side1 => exact (ct (Kd.C_below HR0_1.out HB.out)))
  (case side2 => exact HC0_1.out)
  (case side3 => repeat (first | exact (Kd.V_reads' HO424.out).2.2 | (with_reducible refine Kd.C_alloc ?_ _) | (with_reducible refine Kd.C_drewN ?_ _) | (with_reducible refine Kd.C_drew ?_)))
  (case side4 => exact (Kd.V_reads' HO424.out).2.1)
  rintro e w15 ⟨rfl, hb⟩
  refine ⟨_, rfl, ?_⟩
  have n0_ := vb HO424 hb
  have n1_ := blkb BK420 hb
  have n2_ := blkb BK425 hb
  have n3_ := belb HB hb
  clear HO424
  clear BK420
  clear BK425
  clear HB
  have HO424 := n0_
  have BK420 := n1_
  have BK425 := n2_
  have HB := n3_
  clear n0_ n1_ n2_ n3_
  (try clear hb)
  (try clear hb2)
  (try clear hk)
  (try clear hi)
  refine hK.out _ _ ⟨(blk_cell BK420.out 0).trans rfl, (blk_cell BK420.out 1).trans rfl, (blk_cell BK425.out 0).trans rfl, (blk_cell BK425.out 1).trans rfl⟩ (fun hHeld => ?_)
  clear hK K
  refine norm_ (a' := ?_) ?_ ?_
  rotate_left
  ·show Act.put _ (some 7) _ = _
   simp only [Act.put, List.setIfInBounds_toArray, List.set_cons_zero, List.set_cons_succ, i64_w, i32_w]
   rfl
  refine pure_ (i := 3) (N := some 8) (v := ?_) (a' := ?_) #[true, true, true, true, false, false, false, false, false, false, false, false] rfl rfl (any_of HT_.out (by kernel_rfl)) (fun _ _ _ h => h) (Or.inl ⟨by rfl, ?_⟩) ?_ ?_
  rotate_left
  ·intro w'
   go_simp
   with_reducible rfl
  rotate_left
  ·simp only [Act.put, List.setIfInBounds_toArray, List.set_cons_zero, List.set_cons_succ, i64_w, i32_w]
   rfl
  refine pure_ (i := 4) (N := some 9) (v := ?_) (a' := ?_) #[true, true, true, true, true, false, false, false, false, false, false, false] rfl rfl (any_of HT_.out (by kernel_rfl)) (fun _ _ _ h => h) (Or.inl ⟨by rfl, ?_⟩) ?_ ?_
  rotate_left
  ·intro w'
   go_simp
   with_reducible rfl
  rotate_left
  ·simp only [Act.put, List.setIfInBounds_toArray, List.set_cons_zero, List.set_cons_succ, i64_w, i32_w]
   rfl
  refine take_ (i := 5) (N := some 10) (v := ?_) (a' := ?_) #[true, true, true, true, true, true, false, false, false, false, false, false] rfl rfl (take_ofW HT_.out HW_.out (by kernel_rfl)) (fun _ _ _ h => h) (Or.inl ⟨by rfl, ?_⟩) hHeld ?_ ?_
  rotate_left
  ·rintro w' ⟨s0, s1, s2, s3⟩
   go_simp
   with_reducible rfl
  rotate_left
  ·simp only [Act.put, List.setIfInBounds_toArray, List.set_cons_zero, List.set_cons_succ, i64_w, i32_w]
   rfl
  refine take_ (i := 6) (N := some 11) (v := ?_) (a' := ?_) #[true, true, true, true, true, true, true, false, false, false, false, false] rfl rfl (take_ofW HT_.out HW_.out (by kernel_rfl)) (fun _ _ _ h => h) (Or.inl ⟨by rfl, ?_⟩) hHeld ?_ ?_
  rotate_left
  ·rintro w' ⟨s0, s1, s2, s3⟩
   go_simp
   with_reducible rfl
  rotate_left
  ·simp only [Act.put, List.setIfInBounds_toArray, List.set_cons_zero, List.set_cons_succ, i64_w, i32_w]
   rfl
  refine one_ (i := 7) (N := some 12) #[true, true, true, true, true, true, true, true, false, false, false, false] rfl rfl (one_of HT_.out (by kernel_rfl)) (by decide) (fun K hK => ?_)
  refine goes_ Try.func61 (by kernel_rfl) rfl #[.agg #[.bool t421, .slice Ao12 t422.length co12]] (by rfl) rfl rfl argt ?_
  with_reducible refine (turnstoneref01_Neg.calls k t421 (fun k_ => (k_ ≠ gb420 ∧ k_ ≠ gb425)) _ _ t422 t427 t428 _ ?side1 A5.out).mono ?_
  (case side1 => exact HO424.out)
  rintro e w16 ⟨v429, rfl, ho0, hb⟩
  refine ⟨_, rfl, ?_⟩
  have n0_ := vb HO424 hb
  have n1_ := Aside0.mk (Kd.V_lower (Kd.V_mono (ok' := fun k_ => k_ ≠ gb420 ∧ k_ ≠ gb425) ho0 (fun k_ hk_ => ⟨Or.elim hk_ (fun hs_ => hs_.1) (fun hn_ => (Kd.freshB (blkt BK420) k_ hn_)), Or.elim hk_ (fun hs_ => hs_.2) (fun hn_ => (Kd.freshB (blkt BK425) k_ hn_))⟩)) (below_size (belt HB)))
  have n2_ := blkb BK420 hb
  have n3_ := blkb BK425 hb
  have n4_ := belb HB hb
  clear HO424
  clear BK420
  clear BK425
  clear HB
  have HO424 := n0_
  have HO430 := n1_
  have BK420 := n2_
  have BK425 := n3_
  have HB := n4_
  clear n0_ n1_ n2_ n3_ n4_
  (try clear hb)
  (try clear hb2)
  (try clear hk)
  (try clear hi)
  (try clear ho0)
  obtain ⟨Ao17, co17, eo17⟩ := Kd.V_slice HO430.out
  (first | subst eo17 | (injection eo17 with f1_ f2_ f3_; have f4_ := f1_.symm; have f5_ := f3_.symm; clear f1_ f2_ f3_; subst f4_; subst f5_))
  refine hK.out _ _ ⟨(blk_cell BK420.out 0).trans rfl, (blk_cell BK420.out 1).trans rfl, (blk_cell BK425.out 0).trans rfl, (blk_cell BK425.out 1).trans rfl⟩ (fun hHeld => ?_)
  clear hK K
  refine norm_ (a' := ?_) ?_ ?_
  rotate_left
  ·show Act.put _ (some 12) _ = _
   simp only [Act.put, List.setIfInBounds_toArray, List.set_cons_zero, List.set_cons_succ, i64_w, i32_w]
   rfl
  refine one_ (i := 8) (N := some 13) #[true, true, true, true, true, true, true, true, true, false, false, false] rfl rfl (one_of HT_.out (by kernel_rfl)) (by decide) (fun K hK => ?_)
  refine goes_ Try.func18 (by kernel_rfl) rfl #[.agg #[.bool a0_0, .slice A0_1 l0_1.length c0_1], .agg #[.bool t427, .slice Ao17 t428.length co17]] (by rfl) rfl rfl argt ?_
  with_reducible refine (turnstoneref01_Cmp.calls k a0_0 _ _ l0_1 t427 _ _ t428 t431 _ ?side1 ?side2 ?side3 ?side4 A6.out).mono ?_
  (case side1 => exact (ct (Kd.C_below HR0_1.out HB.out)))
  (case side2 => exact HC0_1.out)
  (case side3 => repeat (first | exact (Kd.V_reads' HO430.out).2.2 | (with_reducible refine Kd.C_alloc ?_ _) | (with_reducible refine Kd.C_drewN ?_ _) | (with_reducible refine Kd.C_drew ?_)))
  (case side4 => exact (Kd.V_reads' HO430.out).2.1)
  rintro e w18 ⟨rfl, hb⟩
  refine ⟨_, rfl, ?_⟩
  have n0_ := vb HO424 hb
  have n1_ := vb HO430 hb
  have n2_ := blkb BK420 hb
  have n3_ := blkb BK425 hb
  have n4_ := belb HB hb
  clear HO424
  clear HO430
  clear BK420
  clear BK425
  clear HB
  have HO424 := n0_
  have HO430 := n1_
  have BK420 := n2_
  have BK425 := n3_
  have HB := n4_
  clear n0_ n1_ n2_ n3_ n4_
  (try clear hb)
  (try clear hb2)
  (try clear hk)
  (try clear hi)
  refine hK.out _ _ ⟨(blk_cell BK420.out 0).trans rfl, (blk_cell BK420.out 1).trans rfl, (blk_cell BK425.out 0).trans rfl, (blk_cell BK425.out 1).trans rfl⟩ (fun hHeld => ?_)
  clear hK K
  refine norm_ (a' := ?_) ?_ ?_
  rotate_left
  ·show Act.put _ (some 13) _ = _
   simp only [Act.put, List.setIfInBounds_toArray, List.set_cons_zero, List.set_cons_succ, i64_w, i32_w]
   rfl
  refine pure_ (i := 9) (N := some 14) (v := ?_) (a' := ?_) #[true, true, true, true, true, true, true, true, true, true, false, false] rfl rfl (any_of HT_.out (by kernel_rfl)) (fun _ _ _ h => h) (Or.inl ⟨by rfl, ?_⟩) ?_ ?_
  rotate_left
  ·intro w'
   go_simp
   with_reducible rfl
  rotate_left
  ·simp only [Act.put, List.setIfInBounds_toArray, List.set_cons_zero, List.set_cons_succ, i64_w, i32_w]
   rfl
  refine pure_ (i := 10) (N := some 15) (v := ?_) (a' := ?_) #[true, true, true, true, true, true, true, true, true, true, true, false] rfl rfl (any_of HT_.out (by kernel_rfl)) (fun _ _ _ h => h) (Or.inl ⟨by rfl, ?_⟩) ?_ ?_
  rotate_left
  ·intro w'
   go_simp
   with_reducible rfl
  rotate_left
  ·simp only [Act.put, List.setIfInBounds_toArray, List.set_cons_zero, List.set_cons_succ, i64_w, i32_w]
   rfl
  refine pure_ (i := 11) (N := some 2) (v := ?_) (a' := ?_) #[true, true, true, true, true, true, true, true, true, true, true, true] rfl rfl (any_of HT_.out (by kernel_rfl)) (fun _ _ _ h => h) (Or.inl ⟨by rfl, ?_⟩) ?_ ?_
  rotate_left
  ·intro w'
   go_simp
   with_reducible rfl
  rotate_left
  ·simp only [Act.put, List.setIfInBounds_toArray, List.set_cons_zero, List.set_cons_succ, i64_w, i32_w]
   rfl
  refine done_ (done_of HT_.out (by kernel_rfl)) ?_
  try go_wp2
  go_ret
  exact ⟨by first | rfl | (simp [errW_none, errW_some] <;> rfl) | (simp [*, errW_none, errW_some] <;> rfl), by repeat (first | (with_reducible first | exact HB.out | apply below_alloc | apply pw_below_drewN | apply below_drew1 | refine below_set ?_ GE420.out | refine below_set ?_ GE425.out) | exact HB.out)⟩
 ·rw [if_neg c4] at H
  have c4b0 : decide (t426 < 0) = false := decide_eq_false c4
  clear c4
  obtain rfl := Option.some.inj H
  go_enter Try.func42, Try.ntmps42
  try go_wp2_with (first | ((with_reducible refine gate_dst (N := 1) rfl ?_); refine box_event ?hg (N := 1) ?hd (cs := #[.bool a0_0, .slice A0_1 l0_1.length c0_1]) (t := 28) ?hr ?_; (case hd => rfl); (case hg => rfl); (case hr => first | (go_simp; done) | (go_simp; rfl)); intro gb420 hg w19 hbox hb; have n0_ := belb HB hb; have n1_ := Aside0.mk (hbox); have n2_ := bels HB hg; have n3_ := bels HB hg; clear HB; have HB := n0_; have BK420 := n1_; have GW420 := n2_; have GE420 := n3_; clear n0_ n1_ n2_ n3_; clear hb hbox hg) | ((with_reducible refine gate_callee (f := 60) rfl ?_); refine goesL_ (some 4) rfl rfl Try.func60 (by kernel_rfl) rfl #[.int .i64 127] rfl argt ?_; (with_reducible refine (turnstoneref01_Power.calls k 127 t421 t422 _ A2.out).mono ?_); rintro e w20 ⟨v423, rfl, ho0, hb⟩; refine ⟨_, rfl, ?_⟩; have n0_ := Aside0.mk (Kd.V_lower (Kd.V_mono (ok' := fun k_ => k_ ≠ gb420) ho0 (fun k_ hk_ => (Kd.freshB (blkt BK420) k_ hk_))) (below_size (belt HB))); have n1_ := blkb BK420 hb; have n2_ := belb HB hb; clear BK420; clear HB; have HO424 := n0_; have BK420 := n1_; have HB := n2_; clear n0_ n1_ n2_; (try clear hb); (try clear hb2); (try clear hk); (try clear hi); (try clear ho0)) | ((with_reducible refine gate_dst (N := 3) rfl ?_); refine box_event ?hg (N := 3) ?hd (cs := #[.bool false, .slice none 0 0]) (t := 28) ?hr ?_; (case hd => rfl); (case hg => rfl); (case hr => first | (go_simp; done) | (go_simp; rfl)); intro gb425 hg w21 hbox hb; have n0_ := Aside0.mk (Kd.V_below (Kd.V_elderB (vt HO424) gb425 (Nat.le_of_eq hg.symm)) hb); have n1_ := blkb BK420 hb; have n2_ := belb HB hb; have n3_ := Aside0.mk (hbox); have n4_ := bels HB hg; have n5_ := bels HB hg; have n6_ := blkl BK420 hg; have n7_ := blkg BK420 hg; clear HO424; clear BK420; clear HB; have HO424 := n0_; have BK420 := n1_; have HB := n2_; have BK425 := n3_; have GW425 := n4_; have GE425 := n5_; have NB420_425 := n6_; have NB425_420 := n7_; clear n0_ n1_ n2_ n3_ n4_ n5_ n6_ n7_; clear hb hbox hg; have hnb22 := NB425_420.out; have hnc22 := NB420_425.out; have hcz23_0 : w21.cell? ⟨gb425, 0, none⟩ = some (.bool false) := (blk_cell BK425.out 0).trans rfl; have hcz23_1 : w21.cell? ⟨gb425, 1, none⟩ = some (.slice none 0 0) := (blk_cell BK425.out 1).trans rfl; have hfz23_0 := blk_frozen BK425.out 0; have hfz23_1 := blk_frozen BK425.out 1; obtain ⟨Ao24, co24, eo24⟩ := Kd.V_slice HO424.out; subst eo24))
  have n0_ : Aside0 (Kd.V (Kd.int .i64) 3 ((w21.setCell ⟨gb425, 0, none⟩ (.bool t421)).setCell ⟨gb425, 1, none⟩ (.slice Ao24 t422.length co24)) w.heap.size (fun k_ => k_ ≠ gb420 ∧ k_ ≠ gb425) (.slice Ao24 t422.length co24) t422) := ⟨by (with_reducible repeat (first | apply Kd.V_alloc | apply Kd.V_drewN | apply Kd.V_drew)); exact Kd.V_mono (Kd.V_far (p := ⟨gb425, 1, none⟩) (Kd.V_far (p := ⟨gb425, 0, none⟩) (Kd.V_mono HO424.out (fun k_ hk => (⟨hk, hk.2⟩ : _ ∧ k_ ≠ gb425))) (fun _ hk => hk.2) (.bool t421)) (fun _ hk => hk.2) (.slice Ao24 t422.length co24)) (fun _ hk => ⟨hk.1.1, hk.1.2⟩)⟩
  have n1_ : Aside0 (((w21.setCell ⟨gb425, 0, none⟩ (.bool t421)).setCell ⟨gb425, 1, none⟩ (.slice Ao24 t422.length co24)).heap[gb420]? = some (.cells #[.bool a0_0, .slice A0_1 l0_1.length c0_1] 28 (0, 0))) := ⟨by (with_reducible repeat (first | refine blk_drewN ?_ _ | refine blk_drew ?_ | refine blk_alloc ?_ _)); refine blk_far ?_ NB420_425.out _; (with_reducible repeat (first | refine blk_drewN ?_ _ | refine blk_drew ?_ | refine blk_alloc ?_ _)); refine blk_far ?_ NB420_425.out _; (with_reducible repeat (first | refine blk_drewN ?_ _ | refine blk_drew ?_ | refine blk_alloc ?_ _)); exact BK420.out⟩
  have n2_ : Aside0 (((w21.setCell ⟨gb425, 0, none⟩ (.bool t421)).setCell ⟨gb425, 1, none⟩ (.slice Ao24 t422.length co24)).heap[gb425]? = some (.cells #[.bool t421, .slice Ao24 t422.length co24] 28 (0, 0))) := ⟨by (with_reducible repeat (first | refine blk_drewN ?_ _ | refine blk_drew ?_ | refine blk_alloc ?_ _)); refine blk_put (cs := #[.bool t421, .slice none 0 0]) ?_ 1 _ rfl; (with_reducible repeat (first | refine blk_drewN ?_ _ | refine blk_drew ?_ | refine blk_alloc ?_ _)); refine blk_put (cs := #[.bool false, .slice none 0 0]) ?_ 0 _ rfl; (with_reducible repeat (first | refine blk_drewN ?_ _ | refine blk_drew ?_ | refine blk_alloc ?_ _)); exact BK425.out⟩
  have n3_ : Aside0 (Below w.heap.size w ((w21.setCell ⟨gb425, 0, none⟩ (.bool t421)).setCell ⟨gb425, 1, none⟩ (.slice Ao24 t422.length co24))) := ⟨by repeat (first | (with_reducible first | exact HB.out | apply below_alloc | apply pw_below_drewN | apply below_drew1 | refine below_set ?_ GE420.out | refine below_set ?_ GE425.out) | exact HB.out)⟩
  (try clear HO424)
  (try clear BK420)
  (try clear BK425)
  (try clear HB)
  generalize ((w21.setCell ⟨gb425, 0, none⟩ (.bool t421)).setCell ⟨gb425, 1, none⟩ (.slice Ao24 t422.length co24)) = w25 at n0_ n1_ n2_ n3_ ⊢
  have HO424 := n0_
  have BK420 := n1_
  have BK425 := n2_
  have HB := n3_
  clear n0_ n1_ n2_ n3_
  have n0_ := Aside0.mk (Kd.V_drew HO424.out)
  have n1_ := Aside0.mk (blk_drew BK420.out)
  have n2_ := Aside0.mk (blk_drew BK425.out)
  have n3_ := Aside0.mk (below_drew1 HB.out)
  clear HO424
  clear BK420
  clear BK425
  clear HB
  have HO424 := n0_
  have BK420 := n1_
  have BK425 := n2_
  have HB := n3_
  clear n0_ n1_ n2_ n3_
  refine start_ (n := 12) (S := fun w' => w'.cell? ⟨gb420, 0, none⟩ = some (.bool a0_0) ∧ w'.cell? ⟨gb420, 1, none⟩ = some (.slice A0_1 l0_1.length c0_1) ∧ w'.cell? ⟨gb425, 0, none⟩ = some (.bool t421) ∧ w'.cell? ⟨gb425, 1, none⟩ = some (.slice Ao24 t422.length co24)) (ds := []) #[false, false, false, false, false, false, false, false, false, false, false, false] (by kernel_rfl) rfl rfl ⟨(blk_cell BK420.out 0).trans rfl, (blk_cell BK420.out 1).trans rfl, (blk_cell BK425.out 0).trans rfl, (blk_cell BK425.out 1).trans rfl⟩ (fun hHeld => ?_); refine with_tabW turnstoneref01_Is.tab2 turnstoneref01_Is.bits2 (fun HT_ HW_ => ?_)
  generalize w25.drew = w26 at HO424 BK420 BK425 HB hHeld ⊢
  refine take_ (i := 0) (N := some 5) (v := ?_) (a' := ?_) #[true, false, false, false, false, false, false, false, false, false, false, false] rfl rfl (take_ofW HT_.out HW_.out (by kernel_rfl)) (fun _ _ _ h => h) (Or.inl ⟨by rfl, ?_⟩) hHeld ?_ ?_
  rotate_left
  ·rintro w' ⟨s0, s1, s2, s3⟩
   go_simp
   with_reducible rfl
  rotate_left
  ·simp only [Act.put, List.setIfInBounds_toArray, List.set_cons_zero, List.set_cons_succ, i64_w, i32_w]
   rfl
  refine take_ (i := 1) (N := some 6) (v := ?_) (a' := ?_) #[true, true, false, false, false, false, false, false, false, false, false, false] rfl rfl (take_ofW HT_.out HW_.out (by kernel_rfl)) (fun _ _ _ h => h) (Or.inl ⟨by rfl, ?_⟩) hHeld ?_ ?_
  rotate_left
  ·rintro w' ⟨s0, s1, s2, s3⟩
   go_simp
   with_reducible rfl
  rotate_left
  ·simp only [Act.put, List.setIfInBounds_toArray, List.set_cons_zero, List.set_cons_succ, i64_w, i32_w]
   rfl
  refine one_ (i := 2) (N := some 7) #[true, true, true, false, false, false, false, false, false, false, false, false] rfl rfl (one_of HT_.out (by kernel_rfl)) (by decide) (fun K hK => ?_)
  refine goes_ Try.func18 (by kernel_rfl) rfl #[.agg #[.bool a0_0, .slice A0_1 l0_1.length c0_1], .agg #[.bool t421, .slice Ao24 t422.length co24]] (by rfl) rfl rfl argt ?_
  with_reducible refine (turnstoneref01_Cmp.calls k a0_0 _ _ l0_1 t421 _ _ t422 t426 _ ?side1 ?side2 ?side3 ?side4 A3.out).mono ?_
  (case side1 => exact (ct (Kd.C_below HR0_1.out HB.out)))
  (case side2 => exact HC0_1.out)
  (case side3 => repeat (first | exact (Kd.V_reads' HO424.out).2.2 | (with_reducible refine Kd.C_alloc ?_ _) | (with_reducible refine Kd.C_drewN ?_ _) | (with_reducible refine Kd.C_drew ?_)))
  (case side4 => exact (Kd.V_reads' HO424.out).2.1)
  rintro e w27 ⟨rfl, hb⟩
  refine ⟨_, rfl, ?_⟩
  have n0_ := vb HO424 hb
  have n1_ := blkb BK420 hb
  have n2_ := blkb BK425 hb
  have n3_ := belb HB hb
  clear HO424
  clear BK420
  clear BK425
  clear HB
  have HO424 := n0_
  have BK420 := n1_
  have BK425 := n2_
  have HB := n3_
  clear n0_ n1_ n2_ n3_
  (try clear hb)
  (try clear hb2)
  (try clear hk)
  (try clear hi)
  refine hK.out _ _ ⟨(blk_cell BK420.out 0).trans rfl, (blk_cell BK420.out 1).trans rfl, (blk_cell BK425.out 0).trans rfl, (blk_cell BK425.out 1).trans rfl⟩ (fun hHeld => ?_)
  clear hK K
  refine norm_ (a' := ?_) ?_ ?_
  rotate_left
  ·show Act.put _ (some 7) _ = _
   simp only [Act.put, List.setIfInBounds_toArray, List.set_cons_zero, List.set_cons_succ, i64_w, i32_w]
   rfl
  refine pure_ (i := 3) (N := some 8) (v := ?_) (a' := ?_) #[true, true, true, true, false, false, false, false, false, false, false, false] rfl rfl (any_of HT_.out (by kernel_rfl)) (fun _ _ _ h => h) (Or.inl ⟨by rfl, ?_⟩) ?_ ?_
  rotate_left
  ·intro w'
   go_simp
   with_reducible rfl
  rotate_left
  ·simp only [Act.put, List.setIfInBounds_toArray, List.set_cons_zero, List.set_cons_succ, i64_w, i32_w]
   rfl
  refine pure_ (i := 4) (N := some 9) (v := ?_) (a' := ?_) #[true, true, true, true, true, false, false, false, false, false, false, false] rfl rfl (any_of HT_.out (by kernel_rfl)) (fun _ _ _ h => h) (Or.inl ⟨by rfl, ?_⟩) ?_ ?_
  rotate_left
  ·intro w'
   go_simp
   with_reducible rfl
  rotate_left
  ·simp only [Act.put, List.setIfInBounds_toArray, List.set_cons_zero, List.set_cons_succ, i64_w, i32_w]
   rfl
  refine pure_ (i := 5) (N := some 10) (v := undef) (a' := ?_) #[true, true, true, true, true, true, false, false, false, false, false, false] rfl rfl (any_of HT_.out (by kernel_rfl)) (fun _ _ _ h => h) (Or.inr ⟨by rfl, rfl⟩) ?_ ?_
  rotate_left
  ·simp only [Act.put, List.setIfInBounds_toArray, List.set_cons_zero, List.set_cons_succ, i64_w, i32_w]
   rfl
  refine pure_ (i := 6) (N := some 11) (v := undef) (a' := ?_) #[true, true, true, true, true, true, true, false, false, false, false, false] rfl rfl (any_of HT_.out (by kernel_rfl)) (fun _ _ _ h => h) (Or.inr ⟨by rfl, rfl⟩) ?_ ?_
  rotate_left
  ·simp only [Act.put, List.setIfInBounds_toArray, List.set_cons_zero, List.set_cons_succ, i64_w, i32_w]
   rfl
  refine pure_ (i := 7) (N := some 12) (v := undef) (a' := ?_) #[true, true, true, true, true, true, true, true, false, false, false, false] rfl rfl (any_of HT_.out (by kernel_rfl)) (fun _ _ _ h => h) (Or.inr ⟨by rfl, rfl⟩) ?_ ?_
  rotate_left
  ·simp only [Act.put, List.setIfInBounds_toArray, List.set_cons_zero, List.set_cons_succ, i64_w, i32_w]
   rfl
  refine pure_ (i := 8) (N := some 13) (v := undef) (a' := ?_) #[true, true, true, true, true, true, true, true, true, false, false, false] rfl rfl (any_of HT_.out (by kernel_rfl)) (fun _ _ _ h => h) (Or.inr ⟨by rfl, rfl⟩) ?_ ?_
  rotate_left
  ·simp only [Act.put, List.setIfInBounds_toArray, List.set_cons_zero, List.set_cons_succ, i64_w, i32_w]
   rfl
  refine pure_ (i := 9) (N := some 14) (v := undef) (a' := ?_) #[true, true, true, true, true, true, true, true, true, true, false, false] rfl rfl (any_of HT_.out (by kernel_rfl)) (fun _ _ _ h => h) (Or.inr ⟨by rfl, rfl⟩) ?_ ?_
  rotate_left
  ·simp only [Act.put, List.setIfInBounds_toArray, List.set_cons_zero, List.set_cons_succ, i64_w, i32_w]
   rfl
  refine pure_ (i := 10) (N := some 15) (v := ?_) (a' := ?_) #[true, true, true, true, true, true, true, true, true, true, true, false] rfl rfl (any_of HT_.out (by kernel_rfl)) (fun _ _ _ h => h) (Or.inl ⟨by rfl, ?_⟩) ?_ ?_
  rotate_left
  ·intro w'
   go_simp
   with_reducible rfl
  rotate_left
  ·simp only [Act.put, List.setIfInBounds_toArray, List.set_cons_zero, List.set_cons_succ, i64_w, i32_w]
   rfl
  refine pure_ (i := 11) (N := some 2) (v := ?_) (a' := ?_) #[true, true, true, true, true, true, true, true, true, true, true, true] rfl rfl (any_of HT_.out (by kernel_rfl)) (fun _ _ _ h => h) (Or.inl ⟨by rfl, ?_⟩) ?_ ?_
  rotate_left
  ·intro w'
   go_simp
   with_reducible rfl
  rotate_left
  ·simp only [Act.put, List.setIfInBounds_toArray, List.set_cons_zero, List.set_cons_succ, i64_w, i32_w]
   rfl
  refine done_ (done_of HT_.out (by kernel_rfl)) ?_
  try go_wp2
  go_ret
  exact ⟨by first | rfl | (simp [errW_none, errW_some] <;> rfl) | (simp [*, errW_none, errW_some] <;> rfl), by repeat (first | (with_reducible first | exact HB.out | apply below_alloc | apply pw_below_drewN | apply below_drew1 | refine below_set ?_ GE420.out | refine below_set ?_ GE425.out) | exact HB.out)⟩

end Go.Proofs.Ytimgiiceipjpaaa.Print
