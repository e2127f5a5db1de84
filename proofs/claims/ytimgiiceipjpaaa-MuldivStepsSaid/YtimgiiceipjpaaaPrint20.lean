/- What each Go function that is named below answers, as a Lean function, and that its walk comes to just that: for whatever arguments that function gives an answer for. Written by a program of this session (wip/mkpr.py, pr.sh). -/
import Derived.Test.YtimgiiceipjpaaaPrint0
import Derived.Test.YtimgiiceipjpaaaPrint4
import Derived.Test.YtimgiiceipjpaaaPrint16
import Derived.Test.YtimgiiceipjpaaaPrint18
import Derived.Test.YtimgiiceipjpaaaPrint19
namespace Go.Proofs.Ytimgiiceipjpaaa.Print
open Go.RowKit Go.Proofs.YtimgiiceipjpaaaW.PrintWords Go.Proofs.YtimgiiceipjpaaaW.PrintLast Go.Proofs.YtimgiiceipjpaaaW.PrintMore
attribute [local go_sem] max2_int min2_int max_two min_two max_three min_three max_four min_four   -- for this text's walks alone
open Go.Proofs.Ytimgiiceipjpaaa.Bits Go.Proofs.Ytimgiiceipjpaaa.Short
attribute [local go_sem] add64_run0 sub64_run0 add64_run sub64_run
set_option linter.unusedVariables false
set_option linter.unusedSimpArgs false

/-! ### turnstoneref02_Great: function 36 -/
def turnstoneref02_Great.f (k : Nat) (a0_0 : Bool) (l0_1 : List Int) (a1 : Int) : Option (Bool) := (turnstoneref01_U.f k a1).bind fun bt323 => ((turnstoneref01_Power.f k 64).bind fun bt327 => ((turnstoneref01_Mul.f k bt323.1 bt323.2 bt327.1 bt327.2).bind fun bt331 => ((turnstoneref01_Cmp.f k a0_0 l0_1 bt331.1 bt331.2).bind fun t335 => (some (decide (t335 ≥ 0))))))
theorem turnstoneref02_Great.mono : ∀ a0 a1 a2 k, LeO (turnstoneref02_Great.f k a0 a1 a2) (turnstoneref02_Great.f (k + 1) a0 a1 a2) := by
 intro a0 a1 a2 k
 unfold turnstoneref02_Great.f
 repeat' first
   | (with_reducible exact turnstoneref01_Cmp.mono _ _ _ _ _)
   | (with_reducible exact turnstoneref01_Mul.mono _ _ _ _ _)
   | (with_reducible exact turnstoneref01_Power.mono _ _)
   | (with_reducible exact turnstoneref01_U.mono _ _)
   | (with_reducible exact LeO.refl _)
   | (with_reducible exact LeO.none _)
   | (with_reducible refine LeO.ite ?_ ?_)
   | (with_reducible refine LeO.bind ?_ (fun _ => ?_))
   | exact turnstoneref01_Cmp.mono _ _ _ _ _
   | exact turnstoneref01_Mul.mono _ _ _ _ _
   | exact turnstoneref01_Power.mono _ _
   | exact turnstoneref01_U.mono _ _
   | exact LeO.none _
   | refine LeO.ite ?_ ?_
   | refine LeO.bind ?_ (fun _ => ?_)
def turnstoneref02_Great.T1 : Bool × List (List Nat × List Nat) := (true, [([], []), ([], []), ([1], [1]), ([2], []), ([2, 3, 3], [2, 3]), ([0, 4, 4], [0, 4]), ([5], [5]), ([6, 5, 0, 1, 2, 3, 4, 5, 6], [6])])
def turnstoneref02_Great.B1 : List Nat := [0, 0, 2, 6, 14, 31, 63, 127]
theorem turnstoneref02_Great.tab1 : rtab .any (opsOf Try.f36 1) = turnstoneref02_Great.T1 := by kernel_rfl
theorem turnstoneref02_Great.bits1 : waitsOk turnstoneref02_Great.T1.2 turnstoneref02_Great.B1 = true := by kernel_rfl
set_option maxHeartbeats 8000000 in
set_option maxRecDepth 100000 in
theorem turnstoneref02_Great.calls (k : Nat) (a0_0 : Bool) (A0_1 : Option Addr) (c0_1 : Nat) (l0_1 : List Int) (a1 : Int) (r : Bool) (w : World) (hr0_1 : Kd.C (Kd.int .i64) w A0_1 l0_1.length l0_1) (hc0_1 : l0_1.length ≤ c0_1) (h : turnstoneref02_Great.f k a0_0 l0_1 a1 = some r) :
  Calls Try.prog 36 #[.agg #[.bool a0_0, .slice A0_1 l0_1.length c0_1], .int .u64 a1] w fun e w' => e = .returned (.bool r) ∧ Below w.heap.size w w' := by
 have hu28 := Try.underlying28
 have HR0_1 := Aside0.mk hr0_1
 have HC0_1 := Aside0.mk hc0_1
 clear hr0_1 hc0_1
 have HB := Aside0.mk (Below.refl w.heap.size w)
 have H : ((turnstoneref01_U.f k a1).bind fun bt323 => ((turnstoneref01_Power.f k 64).bind fun bt327 => ((turnstoneref01_Mul.f k bt323.1 bt323.2 bt327.1 bt327.2).bind fun bt331 => ((turnstoneref01_Cmp.f k a0_0 l0_1 bt331.1 bt331.2).bind fun t335 => (some (decide (t335 ≥ 0))))))) = some r := h
 clear h
 replace H := Option.bind_eq_some_iff.mp H
 obtain ⟨⟨t323, t324⟩, A30, H⟩ := H
 replace H : ((turnstoneref01_Power.f k 64).bind fun bt327 => ((turnstoneref01_Mul.f k t323 t324 bt327.1 bt327.2).bind fun bt331 => ((turnstoneref01_Cmp.f k a0_0 l0_1 bt331.1 bt331.2).bind fun t335 => (some (decide (t335 ≥ 0)))))) = some r := H
 have A3 := Aside0.mk A30
 clear A30
 replace H := Option.bind_eq_some_iff.mp H
 obtain ⟨⟨t327, t328⟩, A40, H⟩ := H
 replace H : ((turnstoneref01_Mul.f k t323 t324 t327 t328).bind fun bt331 => ((turnstoneref01_Cmp.f k a0_0 l0_1 bt331.1 bt331.2).bind fun t335 => (some (decide (t335 ≥ 0))))) = some r := H
 have A4 := Aside0.mk A40
 clear A40
 replace H := Option.bind_eq_some_iff.mp H
 obtain ⟨⟨t331, t332⟩, A50, H⟩ := H
 replace H : ((turnstoneref01_Cmp.f k a0_0 l0_1 t331 t332).bind fun t335 => (some (decide (t335 ≥ 0)))) = some r := H
 have A5 := Aside0.mk A50
 clear A50
 replace H := Option.bind_eq_some_iff.mp H
 obtain ⟨t335, A60, H⟩ := H
 replace H : (some (decide (t335 ≥ 0))) = some r := H
 have A6 := Aside0.mk A60
 clear A60
 obtain rfl := Option.some.inj H
 go_enter Try.func36, Try.ntmps36
 try go_wp2_with (first | ((with_reducible refine gate_dst (N := 2) rfl ?_); refine box_event ?hg (N := 2) ?hd (cs := #[.bool a0_0, .slice A0_1 l0_1.length c0_1]) (t := 28) ?hr ?_; (case hd => rfl); (case hg => rfl); (case hr => first | (go_simp; done) | (go_simp; rfl)); intro gb322 hg w7 hbox hb; have n0_ := belb HB hb; have n1_ := Aside0.mk (hbox); have n2_ := bels HB hg; have n3_ := bels HB hg; clear HB; have HB := n0_; have BK322 := n1_; have GW322 := n2_; have GE322 := n3_; clear n0_ n1_ n2_ n3_; clear hb hbox hg))
 have n0_ := Aside0.mk (blk_drew BK322.out)
 have n1_ := Aside0.mk (below_drew1 HB.out)
 clear BK322
 clear HB
 have BK322 := n0_
 have HB := n1_
 clear n0_ n1_
 refine start_ (n := 8) (S := fun w' => w'.cell? ⟨gb322, 0, none⟩ = some (.bool a0_0) ∧ w'.cell? ⟨gb322, 1, none⟩ = some (.slice A0_1 l0_1.length c0_1)) (ds := []) #[false, false, false, false, false, false, false, false] (by kernel_rfl) rfl rfl ⟨(blk_cell BK322.out 0).trans rfl, (blk_cell BK322.out 1).trans rfl⟩ (fun hHeld => ?_); refine with_tabW turnstoneref02_Great.tab1 turnstoneref02_Great.bits1 (fun HT_ HW_ => ?_)
 generalize w7.drew = w8 at BK322 HB hHeld ⊢
 refine pure_ (i := 1) (N := some 6) (v := ?_) (a' := ?_) #[false, true, false, false, false, false, false, false] rfl rfl (any_of HT_.out (by kernel_rfl)) (fun _ _ _ h => h) (Or.inl ⟨by rfl, ?_⟩) ?_ ?_
 rotate_left
 ·intro w'
  go_simp
  with_reducible rfl
 rotate_left
 ·simp only [Act.put, List.setIfInBounds_toArray, List.set_cons_zero, List.set_cons_succ, i64_w, i32_w]
  rfl
 refine take_ (i := 0) (N := some 5) (v := ?_) (a' := ?_) #[true, true, false, false, false, false, false, false] rfl rfl (take_ofW HT_.out HW_.out (by kernel_rfl)) (fun _ _ _ h => h) (Or.inl ⟨by rfl, ?_⟩) hHeld ?_ ?_
 rotate_left
 ·rintro w' ⟨s0, s1⟩
  go_simp
  with_reducible rfl
 rotate_left
 ·simp only [Act.put, List.setIfInBounds_toArray, List.set_cons_zero, List.set_cons_succ, i64_w, i32_w]
  rfl
 refine one_ (i := 2) (N := some 7) #[true, true, true, false, false, false, false, false] rfl rfl (one_of HT_.out (by kernel_rfl)) (by decide) (fun K hK => ?_)
 refine goes_ Try.func24 (by kernel_rfl) rfl #[.int .u64 a1] (by rfl) rfl rfl argt ?_
 with_reducible refine (turnstoneref01_U.calls k a1 t323 t324 _ A3.out).mono ?_
 rintro e w9 ⟨v325, rfl, ho0, hb⟩
 refine ⟨_, rfl, ?_⟩
 have n0_ := Aside0.mk (Kd.R_lower ho0 (below_size (belt HB)))
 have n1_ := blkb BK322 hb
 have n2_ := belb HB hb
 clear BK322
 clear HB
 have HO326 := n0_
 have BK322 := n1_
 have HB := n2_
 clear n0_ n1_ n2_
 (try clear hb)
 (try clear hb2)
 (try clear hk)
 (try clear hi)
 (try clear ho0)
 refine hK.out _ _ ⟨(blk_cell BK322.out 0).trans rfl, (blk_cell BK322.out 1).trans rfl⟩ (fun hHeld => ?_)
 clear hK K
 refine norm_ (a' := ?_) ?_ ?_
 rotate_left
 ·show Act.put _ (some 7) _ = _
  simp only [Act.put, List.setIfInBounds_toArray, List.set_cons_zero, List.set_cons_succ, i64_w, i32_w]
  rfl
 refine one_ (i := 3) (N := some 8) #[true, true, true, true, false, false, false, false] rfl rfl (one_of HT_.out (by kernel_rfl)) (by decide) (fun K hK => ?_)
 refine goes_ Try.func60 (by kernel_rfl) rfl #[.int .i64 64] (by rfl) rfl rfl argt ?_
 with_reducible refine (turnstoneref01_Power.calls k 64 t327 t328 _ A4.out).mono ?_
 rintro e w10 ⟨v329, rfl, ho0, hb⟩
 refine ⟨_, rfl, ?_⟩
 have n0_ := rb HO326 hb
 have n1_ := Aside0.mk (Kd.V_lower (Kd.V_mono (ok' := fun k_ => some k_ ≠ (v325 : Value).ownBlock ∧ k_ ≠ gb322) ho0 (fun k_ hk_ => ⟨(Kd.fresh' (Kd.R_lt (rt HO326)) k_ hk_), (Kd.freshB (blkt BK322) k_ hk_)⟩)) (below_size (belt HB)))
 have n2_ := blkb BK322 hb
 have n3_ := belb HB hb
 clear HO326
 clear BK322
 clear HB
 have HO326 := n0_
 have HO330 := n1_
 have BK322 := n2_
 have HB := n3_
 clear n0_ n1_ n2_ n3_
 (try clear hb)
 (try clear hb2)
 (try clear hk)
 (try clear hi)
 (try clear ho0)
 obtain ⟨Ao11, co11, eo11⟩ := Kd.R_slice HO326.out
 (first | subst eo11 | (injection eo11 with f1_ f2_ f3_; have f4_ := f1_.symm; have f5_ := f3_.symm; clear f1_ f2_ f3_; subst f4_; subst f5_))
 obtain ⟨Ao12, co12, eo12⟩ := Kd.V_slice HO330.out
 (first | subst eo12 | (injection eo12 with f1_ f2_ f3_; have f4_ := f1_.symm; have f5_ := f3_.symm; clear f1_ f2_ f3_; subst f4_; subst f5_))
 refine hK.out _ _ ⟨(blk_cell BK322.out 0).trans rfl, (blk_cell BK322.out 1).trans rfl⟩ (fun hHeld => ?_)
 clear hK K
 refine norm_ (a' := ?_) ?_ ?_
 rotate_left
 ·show Act.put _ (some 8) _ = _
  simp only [Act.put, List.setIfInBounds_toArray, List.set_cons_zero, List.set_cons_succ, i64_w, i32_w]
  rfl
 refine one_ (i := 4) (N := some 9) #[true, true, true, true, true, false, false, false] rfl rfl (one_of HT_.out (by kernel_rfl)) (by decide) (fun K hK => ?_)
 refine goes_ Try.func40 (by kernel_rfl) rfl #[.agg #[.bool t323, .slice Ao11 t324.length co11], .agg #[.bool t327, .slice Ao12 t328.length co12]] (by rfl) rfl rfl argt ?_
 with_reducible refine (turnstoneref01_Mul.calls k t323 _ _ t324 t327 _ _ t328 t331 t332 _ ?side1 ?side2 ?side3 ?side4 A5.out).mono ?_
 (case side1 => repeat (first | exact (Kd.R_reads' HO326.out).2.2 | (with_reducible refine Kd.C_alloc ?_ _) | (with_reducible refine Kd.C_drewN ?_ _) | (with_reducible refine Kd.C_drew ?_)))
 (case side2 => exact (Kd.R_reads' HO326.out).2.1)
 (case side3 => repeat (first | exact (Kd.V_reads' HO330.out).2.2 | (with_reducible refine Kd.C_alloc ?_ _) | (with_reducible refine Kd.C_drewN ?_ _) | (with_reducible refine Kd.C_drew ?_)))
 (case side4 => exact (Kd.V_reads' HO330.out).2.1)
 rintro e w13 ⟨v333, rfl, ho0, hb⟩
 refine ⟨_, rfl, ?_⟩
 have n0_ := rb HO326 hb
 have n1_ := vb HO330 hb
 have n2_ := Aside0.mk (Kd.V_lower (Kd.V_mono (ok' := fun k_ => some k_ ≠ (.slice Ao11 t324.length co11 : Value).ownBlock ∧ k_ ≠ gb322) ho0 (fun k_ hk_ => ⟨(Kd.fresh' (Kd.R_lt (rt HO326)) k_ hk_), (Kd.freshB (blkt BK322) k_ hk_)⟩)) (below_size (belt HB)))
 have n3_ := blkb BK322 hb
 have n4_ := belb HB hb
 clear HO326
 clear HO330
 clear BK322
 clear HB
 have HO326 := n0_
 have HO330 := n1_
 have HO334 := n2_
 have BK322 := n3_
 have HB := n4_
 clear n0_ n1_ n2_ n3_ n4_
 (try clear hb)
 (try clear hb2)
 (try clear hk)
 (try clear hi)
 (try clear ho0)
 obtain ⟨Ao14, co14, eo14⟩ := Kd.V_slice HO334.out
 (first | subst eo14 | (injection eo14 with f1_ f2_ f3_; have f4_ := f1_.symm; have f5_ := f3_.symm; clear f1_ f2_ f3_; subst f4_; subst f5_))
 refine hK.out _ _ ⟨(blk_cell BK322.out 0).trans rfl, (blk_cell BK322.out 1).trans rfl⟩ (fun hHeld => ?_)
 clear hK K
 refine norm_ (a' := ?_) ?_ ?_
 rotate_left
 ·show Act.put _ (some 9) _ = _
  simp only [Act.put, List.setIfInBounds_toArray, List.set_cons_zero, List.set_cons_succ, i64_w, i32_w]
  rfl
 refine one_ (i := 5) (N := some 10) #[true, true, true, true, true, true, false, false] rfl rfl (one_of HT_.out (by kernel_rfl)) (by decide) (fun K hK => ?_)
 refine goes_ Try.func18 (by kernel_rfl) rfl #[.agg #[.bool a0_0, .slice A0_1 l0_1.length c0_1], .agg #[.bool t331, .slice Ao14 t332.length co14]] (by rfl) rfl rfl argt ?_
 with_reducible refine (turnstoneref01_Cmp.calls k a0_0 _ _ l0_1 t331 _ _ t332 t335 _ ?side1 ?side2 ?side3 ?side4 A6.out).mono ?_
 (case side1 => exact (ct (Kd.C_below HR0_1.out HB.out)))
 (case side2 => exact HC0_1.out)
 (case side3 => repeat (first | exact (Kd.V_reads' HO334.out).2.2 | (with_reducible refine Kd.C_alloc ?_ _) | (with_reducible refine Kd.C_drewN ?_ _) | (with_reducible refine Kd.C_drew ?_)))
 (case side4 => exact (Kd.V_reads' HO334.out).2.1)
 rintro e w15 ⟨rfl, hb⟩
 refine ⟨_, rfl, ?_⟩
 have n0_ := rb HO326 hb
 have n1_ := vb HO330 hb
 have n2_ := vb HO334 hb
 have n3_ := blkb BK322 hb
 have n4_ := belb HB hb
 clear HO326
 clear HO330
 clear HO334
 clear BK322
 clear HB
 have HO326 := n0_
 have HO330 := n1_
 have HO334 := n2_
 have BK322 := n3_
 have HB := n4_
 clear n0_ n1_ n2_ n3_ n4_
 (try clear hb)
 (try clear hb2)
 (try clear hk)
 (try clear hi)
 refine hK.out _ _ ⟨(blk_cell BK322.out 0).trans rfl, (blk_cell BK322.out 1).trans rfl⟩ (fun hHeld => ?_)
 clear hK K
 refine norm_ (a' := ?_) ?_ ?_
 rotate_left
 ·show Act.put _ (some 10) _ = _
  simp only [Act.put, List.setIfInBounds_toArray, List.set_cons_zero, List.set_cons_succ, i64_w, i32_w]
  rfl
 refine pure_ (i := 6) (N := some 11) (v := ?_) (a' := ?_) #[true, true, true, true, true, true, true, false] rfl rfl (any_of HT_.out (by kernel_rfl)) (fun _ _ _ h => h) (Or.inl ⟨by rfl, ?_⟩) ?_ ?_
 rotate_left
 ·intro w'
  go_simp
  with_reducible rfl
 rotate_left
 ·simp only [Act.put, List.setIfInBounds_toArray, List.set_cons_zero, List.set_cons_succ, i64_w, i32_w]
  rfl
 refine pure_ (i := 7) (N := some 4) (v := ?_) (a' := ?_) #[true, true, true, true, true, true, true, true] rfl rfl (any_of HT_.out (by kernel_rfl)) (fun _ _ _ h => h) (Or.inl ⟨by rfl, ?_⟩) ?_ ?_
 rotate_left
 ·intro w'
  go_simp
  with_reducible rfl
 rotate_left
 ·simp only [Act.put, List.setIfInBounds_toArray, List.set_cons_zero, List.set_cons_succ, i64_w, i32_w]
  rfl
 refine done_ (done_of HT_.out (by kernel_rfl)) ?_
 try go_wp2
 go_ret
 exact ⟨by first | rfl | (simp [errW_none, errW_some] <;> rfl) | (simp [*, errW_none, errW_some] <;> rfl), by repeat (first | (with_reducible first | exact HB.out | apply below_alloc | apply pw_below_drewN | apply below_drew1 | refine below_set ?_ GE322.out) | exact HB.out)⟩

end Go.Proofs.Ytimgiiceipjpaaa.Print
