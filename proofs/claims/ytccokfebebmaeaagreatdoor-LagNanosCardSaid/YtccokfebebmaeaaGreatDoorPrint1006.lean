/- What each Go function that is named below answers, as a Lean function, and that its walk comes to just that: for whatever arguments that function gives an answer for. Written by a program of this session (wip/mkpr.py, pr.sh). -/
import Derived.Test.YtccokfebebmaeaaGreatDoorPrint1000
import Derived.Test.YtccokfebebmaeaaGreatDoorPrint1004
import Derived.Test.YtccokfebebmaeaaGreatDoorPrint1005
namespace Go.Proofs.YtccokfebebmaeaaGreatDoor.Print
open Go.RowKit Go.Proofs.YtccokfebebmaeaaGreatDoorW.PrintWords Go.Proofs.YtccokfebebmaeaaGreatDoorW.PrintLast Go.Proofs.YtccokfebebmaeaaGreatDoorW.PrintMore
attribute [local go_sem] max2_int min2_int max_two min_two max_three min_three max_four min_four   -- for this text's walks alone
open Go.Proofs.YtccokfebebmaeaaGreatDoor.Bits Go.Proofs.YtccokfebebmaeaaGreatDoor.Short
attribute [local go_sem] add64_run0 sub64_run0 add64_run sub64_run
set_option linter.unusedVariables false
set_option linter.unusedSimpArgs false

/-! ### turnstonelaw09_LagNanos: function 8 -/
def turnstonelaw09_LagNanos.f (k : Nat) (a0_0 : Int) (a0_1 : Int) : Option (Bool) := (turnstonelaw09_awake.f).bind fun t416 => (if t416 = true then ((lag_Nanos.f k a0_0 a0_1).bind fun bt417 => ((turnstonelaw01_Of.f k a0_0 a0_1).bind fun bt419 => ((turnstoneref09_Nanos.f k bt419.1 bt419.2).bind fun bt423 => ((turnstonelaw01_Same.f k bt417.1 bt417.2 bt423.1 bt423.2).bind fun t427 => (some t427))))) else (none))
theorem turnstonelaw09_LagNanos.mono : ∀ a0 a1 k, LeO (turnstonelaw09_LagNanos.f k a0 a1) (turnstonelaw09_LagNanos.f (k + 1) a0 a1) := by
 intro a0 a1 k
 unfold turnstonelaw09_LagNanos.f
 repeat' first
   | (with_reducible exact lag_Nanos.mono _ _ _)
   | (with_reducible exact turnstonelaw01_Of.mono _ _ _)
   | (with_reducible exact turnstonelaw01_Same.mono _ _ _ _ _)
   | (with_reducible exact turnstoneref09_Nanos.mono _ _ _)
   | (with_reducible exact LeO.refl _)
   | (with_reducible exact LeO.none _)
   | (with_reducible refine LeO.ite ?_ ?_)
   | (with_reducible refine LeO.bind ?_ (fun _ => ?_))
   | exact lag_Nanos.mono _ _ _
   | exact turnstonelaw01_Of.mono _ _ _
   | exact turnstonelaw01_Same.mono _ _ _ _ _
   | exact turnstoneref09_Nanos.mono _ _ _
   | exact LeO.none _
   | refine LeO.ite ?_ ?_
   | refine LeO.bind ?_ (fun _ => ?_)
def turnstonelaw09_LagNanos.T1 : Bool × List (List Nat × List Nat) := (true, [([], []), ([0, 0], [0]), ([1], [1]), ([2, 1, 1], [1, 2]), ([1], [1]), ([4, 3, 1], [1, 4]), ([5, 5, 1], [1, 5]), ([3, 6, 6, 1], [1, 3, 6]), ([1, 7], [1, 7]), ([8, 7, 0, 1, 2, 3, 4, 5, 6, 7, 8], [8])])
def turnstonelaw09_LagNanos.B1 : List Nat := [0, 1, 3, 7, 3, 31, 63, 127, 255, 511]
theorem turnstonelaw09_LagNanos.tab1 : rtab .any (opsOf Tryz.f8 1) = turnstonelaw09_LagNanos.T1 := by kernel_rfl
theorem turnstonelaw09_LagNanos.bits1 : waitsOk turnstonelaw09_LagNanos.T1.2 turnstonelaw09_LagNanos.B1 = true := by kernel_rfl
set_option maxHeartbeats 8000000 in
set_option maxRecDepth 100000 in
theorem turnstonelaw09_LagNanos.calls (k : Nat) (a0_0 : Int) (a0_1 : Int) (r : Bool) (w : World) (h : turnstonelaw09_LagNanos.f k a0_0 a0_1 = some r) :
  Calls Tryz.prog 8 #[.agg #[.int .i64 a0_0, .int .u64 a0_1]] w fun e w' => e = .returned (.bool r) ∧ Below w.heap.size w w' := by
 have hu31 := Tryz.underlying31
 have HB := Aside0.mk (Below.refl w.heap.size w)
 have H : ((turnstonelaw09_awake.f).bind fun t416 => (if t416 = true then ((lag_Nanos.f k a0_0 a0_1).bind fun bt417 => ((turnstonelaw01_Of.f k a0_0 a0_1).bind fun bt419 => ((turnstoneref09_Nanos.f k bt419.1 bt419.2).bind fun bt423 => ((turnstonelaw01_Same.f k bt417.1 bt417.2 bt423.1 bt423.2).bind fun t427 => (some t427))))) else (none))) = some r := h
 clear h
 replace H := Option.bind_eq_some_iff.mp H
 obtain ⟨t416, A20, H⟩ := H
 replace H : (if t416 = true then ((lag_Nanos.f k a0_0 a0_1).bind fun bt417 => ((turnstonelaw01_Of.f k a0_0 a0_1).bind fun bt419 => ((turnstoneref09_Nanos.f k bt419.1 bt419.2).bind fun bt423 => ((turnstonelaw01_Same.f k bt417.1 bt417.2 bt423.1 bt423.2).bind fun t427 => (some t427))))) else (none)) = some r := H
 have A2 := Aside0.mk A20
 clear A20
 by_cases c3 : t416 = true
 ·subst c3
  have H1 : ((lag_Nanos.f k a0_0 a0_1).bind fun bt417 => ((turnstonelaw01_Of.f k a0_0 a0_1).bind fun bt419 => ((turnstoneref09_Nanos.f k bt419.1 bt419.2).bind fun bt423 => ((turnstonelaw01_Same.f k bt417.1 bt417.2 bt423.1 bt423.2).bind fun t427 => (some t427))))) = some r := by rw [if_pos rfl] at H; exact H
  clear H
  have H := H1
  clear H1
  replace H := Option.bind_eq_some_iff.mp H
  obtain ⟨⟨t417, t418⟩, A40, H⟩ := H
  replace H : ((turnstonelaw01_Of.f k a0_0 a0_1).bind fun bt419 => ((turnstoneref09_Nanos.f k bt419.1 bt419.2).bind fun bt423 => ((turnstonelaw01_Same.f k t417 t418 bt423.1 bt423.2).bind fun t427 => (some t427)))) = some r := H
  have A4 := Aside0.mk A40
  clear A40
  replace H := Option.bind_eq_some_iff.mp H
  obtain ⟨⟨t419, t420⟩, A50, H⟩ := H
  replace H : ((turnstoneref09_Nanos.f k t419 t420).bind fun bt423 => ((turnstonelaw01_Same.f k t417 t418 bt423.1 bt423.2).bind fun t427 => (some t427))) = some r := H
  have A5 := Aside0.mk A50
  clear A50
  replace H := Option.bind_eq_some_iff.mp H
  obtain ⟨⟨t423, t424⟩, A60, H⟩ := H
  replace H : ((turnstonelaw01_Same.f k t417 t418 t423 t424).bind fun t427 => (some t427)) = some r := H
  have A6 := Aside0.mk A60
  clear A60
  replace H := Option.bind_eq_some_iff.mp H
  obtain ⟨t427, A70, H⟩ := H
  replace H : (some t427) = some r := H
  have A7 := Aside0.mk A70
  clear A70
  obtain rfl := Option.some.inj H
  go_enter Tryz.func8, Tryz.ntmps8
  try go_wp2_with (first | ((with_reducible refine gate_dst (N := 1) rfl ?_); refine box_event ?hg (N := 1) ?hd (cs := #[.int .i64 a0_0, .int .u64 a0_1]) (t := 31) ?hr ?_; (case hd => rfl); (case hg => rfl); (case hr => first | (go_simp; done) | (go_simp; rfl)); intro gb415 hg w8 hbox hb; have BK415 := Aside0.mk (hbox); have GW415 := bels HB hg; have GE415 := bels HB hg; replace HB := belb HB hb; clear hb hbox hg))
  replace BK415 := Aside0.mk (blk_drew BK415.out)
  replace HB := Aside0.mk (below_drew1 HB.out)
  refine start_ (n := 10) (S := fun w' => w'.cell? ⟨gb415, 0, none⟩ = some (.int .i64 a0_0) ∧ w'.cell? ⟨gb415, 1, none⟩ = some (.int .u64 a0_1)) (ds := []) #[false, false, false, false, false, false, false, false, false, false] (by kernel_rfl) rfl rfl ⟨bc BK415 0, bc BK415 1⟩ (fun hHeld => ?_); refine with_tabW turnstonelaw09_LagNanos.tab1 turnstonelaw09_LagNanos.bits1 (fun HT_ HW_ => ?_)
  generalize w8.drew = w9 at BK415 HB hHeld ⊢
  refine one_ (i := 0) (N := some 3) #[true, false, false, false, false, false, false, false, false, false] rfl rfl (one_of HT_.out (by kernel_rfl)) (by decide) (fun K hK => ?_)
  refine goes_ Tryz.func25 (by kernel_rfl) rfl #[] (by rfl) rfl rfl argt ?_
  with_reducible refine (turnstonelaw09_awake.calls  true _ A2.out).mono ?_
  rintro e w10 ⟨rfl, hb⟩
  refine ⟨_, rfl, ?_⟩
  replace BK415 := blkb BK415 hb
  replace HB := belb HB hb
  (try clear hb)
  (try clear hb2)
  (try clear hk)
  (try clear hi)
  refine hK.out _ _ ⟨bc BK415 0, bc BK415 1⟩ (fun hHeld => ?_)
  clear hK K
  refine norm_ (a' := ?_) ?_ ?_
  rotate_left
  ·show Act.put _ (some 3) _ = _
   simp only [Act.put, List.setIfInBounds_toArray, List.set_cons_zero, List.set_cons_succ, i64_w, i32_w]
   rfl
  refine pure_ (i := 1) (N := some 4) (v := ?_) (a' := ?_) #[true, true, false, false, false, false, false, false, false, false] rfl rfl (any_of HT_.out (by kernel_rfl)) (fun _ _ _ h => h) (Or.inl ⟨by rfl, ?_⟩) ?_ ?_
  rotate_left
  ·intro w'
   go_simp
   with_reducible rfl
  rotate_left
  ·simp only [Act.put, List.setIfInBounds_toArray, List.set_cons_zero, List.set_cons_succ, i64_w, i32_w]
   rfl
  refine take_ (i := 2) (N := some 5) (v := ?_) (a' := ?_) #[true, true, true, false, false, false, false, false, false, false] rfl rfl (take_ofW HT_.out HW_.out (by kernel_rfl)) (fun _ _ _ h => h) (Or.inl ⟨by rfl, ?_⟩) hHeld ?_ ?_
  rotate_left
  ·rintro w' ⟨s0, s1⟩
   go_simp
   with_reducible rfl
  rotate_left
  ·simp only [Act.put, List.setIfInBounds_toArray, List.set_cons_zero, List.set_cons_succ, i64_w, i32_w]
   rfl
  refine take_ (i := 4) (N := some 7) (v := ?_) (a' := ?_) #[true, true, true, false, true, false, false, false, false, false] rfl rfl (take_ofW HT_.out HW_.out (by kernel_rfl)) (fun _ _ _ h => h) (Or.inl ⟨by rfl, ?_⟩) hHeld ?_ ?_
  rotate_left
  ·rintro w' ⟨s0, s1⟩
   go_simp
   with_reducible rfl
  rotate_left
  ·simp only [Act.put, List.setIfInBounds_toArray, List.set_cons_zero, List.set_cons_succ, i64_w, i32_w]
   rfl
  refine one_ (i := 3) (N := some 6) #[true, true, true, true, true, false, false, false, false, false] rfl rfl (one_of HT_.out (by kernel_rfl)) (by decide) (fun K hK => ?_)
  refine goes_ Tryz.func38 (by kernel_rfl) rfl #[.agg #[.int .i64 a0_0, .int .u64 a0_1]] (by rfl) rfl rfl argt ?_
  with_reducible refine (lag_Nanos.calls k a0_0 a0_1 t417 t418 _ A4.out).mono ?_
  rintro e w11 ⟨rfl, hb⟩
  refine ⟨_, rfl, ?_⟩
  replace BK415 := blkb BK415 hb
  replace HB := belb HB hb
  (try clear hb)
  (try clear hb2)
  (try clear hk)
  (try clear hi)
  refine hK.out _ _ ⟨bc BK415 0, bc BK415 1⟩ (fun hHeld => ?_)
  clear hK K
  refine norm_ (a' := ?_) ?_ ?_
  rotate_left
  ·show Act.put _ (some 6) _ = _
   simp only [Act.put, List.setIfInBounds_toArray, List.set_cons_zero, List.set_cons_succ, i64_w, i32_w]
   rfl
  refine one_ (i := 5) (N := some 8) #[true, true, true, true, true, true, false, false, false, false] rfl rfl (one_of HT_.out (by kernel_rfl)) (by decide) (fun K hK => ?_)
  refine goes_ Tryz.func35 (by kernel_rfl) rfl #[.agg #[.int .i64 a0_0, .int .u64 a0_1]] (by rfl) rfl rfl argt ?_
  with_reducible refine (turnstonelaw01_Of.calls k a0_0 a0_1 t419 t420 _ A5.out).mono ?_
  rintro e w12 ⟨v421, rfl, ho0, hb⟩
  refine ⟨_, rfl, ?_⟩
  have HO422 := Aside0.mk (Kd.V_lower (Kd.V_mono (ok' := fun k_ => k_ ≠ gb415) ho0 (fun k_ hk_ => (Kd.freshB (blkt BK415) k_ hk_))) (below_size (belt HB)))
  replace BK415 := blkb BK415 hb
  replace HB := belb HB hb
  (try clear hb)
  (try clear hb2)
  (try clear hk)
  (try clear hi)
  (try clear ho0)
  obtain ⟨Ao13, co13, eo13⟩ := Kd.V_slice HO422.out
  (first | subst eo13 | (injection eo13 with f1_ f2_ f3_; have f4_ := f1_.symm; have f5_ := f3_.symm; clear f1_ f2_ f3_; subst f4_; subst f5_))
  refine hK.out _ _ ⟨bc BK415 0, bc BK415 1⟩ (fun hHeld => ?_)
  clear hK K
  refine norm_ (a' := ?_) ?_ ?_
  rotate_left
  ·show Act.put _ (some 8) _ = _
   simp only [Act.put, List.setIfInBounds_toArray, List.set_cons_zero, List.set_cons_succ, i64_w, i32_w]
   rfl
  refine one_ (i := 6) (N := some 9) #[true, true, true, true, true, true, true, false, false, false] rfl rfl (one_of HT_.out (by kernel_rfl)) (by decide) (fun K hK => ?_)
  refine goes_ Tryz.func39 (by kernel_rfl) rfl #[.agg #[.bool t419, .slice Ao13 t420.length co13]] (by rfl) rfl rfl argt ?_
  with_reducible refine (turnstoneref09_Nanos.calls k t419 _ _ t420 t423 t424 _ ?side1 ?side2 A6.out).mono ?_
  (case side1 => repeat (first | exact (Kd.V_reads' HO422.out).2.2 | (with_reducible refine Kd.C_alloc ?_ _) | (with_reducible refine Kd.C_drewN ?_ _) | (with_reducible refine Kd.C_drew ?_)))
  (case side2 => exact (Kd.V_reads' HO422.out).2.1)
  rintro e w14 ⟨v425, rfl, ho0, hb⟩
  refine ⟨_, rfl, ?_⟩
  replace HO422 := vb HO422 hb
  have HO426 := Aside0.mk (Kd.V_lower (Kd.V_mono (ok' := fun k_ => k_ ≠ gb415) ho0 (fun k_ hk_ => (Kd.freshB (blkt BK415) k_ hk_))) (below_size (belt HB)))
  replace BK415 := blkb BK415 hb
  replace HB := belb HB hb
  (try clear hb)
  (try clear hb2)
  (try clear hk)
  (try clear hi)
  (try clear ho0)
  obtain ⟨Ao15, co15, eo15⟩ := Kd.V_slice HO426.out
  (first | subst eo15 | (injection eo15 with f1_ f2_ f3_; have f4_ := f1_.symm; have f5_ := f3_.symm; clear f1_ f2_ f3_; subst f4_; subst f5_))
  refine hK.out _ _ ⟨bc BK415 0, bc BK415 1⟩ (fun hHeld => ?_)
  clear hK K
  refine norm_ (a' := ?_) ?_ ?_
  rotate_left
  ·show Act.put _ (some 9) _ = _
   simp only [Act.put, List.setIfInBounds_toArray, List.set_cons_zero, List.set_cons_succ, i64_w, i32_w]
   rfl
  refine one_ (i := 7) (N := some 10) #[true, true, true, true, true, true, true, true, false, false] rfl rfl (one_of HT_.out (by kernel_rfl)) (by decide) (fun K hK => ?_)
  refine goes_ Tryz.func33 (by kernel_rfl) rfl #[.agg #[.int .i64 t417, .int .u64 t418], .agg #[.bool t423, .slice Ao15 t424.length co15]] (by rfl) rfl rfl argt ?_
  with_reducible refine (turnstonelaw01_Same.calls k t417 t418 t423 _ _ t424 t427 _ ?side1 ?side2 A7.out).mono ?_
  (case side1 => repeat (first | exact (Kd.V_reads' HO426.out).2.2 | (with_reducible refine Kd.C_alloc ?_ _) | (with_reducible refine Kd.C_drewN ?_ _) | (with_reducible refine Kd.C_drew ?_)))
  (case side2 => exact (Kd.V_reads' HO426.out).2.1)
  rintro e w16 ⟨rfl, hb⟩
  refine ⟨_, rfl, ?_⟩
  replace HO422 := vb HO422 hb
  replace HO426 := vb HO426 hb
  replace BK415 := blkb BK415 hb
  replace HB := belb HB hb
  (try clear hb)
  (try clear hb2)
  (try clear hk)
  (try clear hi)
  refine hK.out _ _ ⟨bc BK415 0, bc BK415 1⟩ (fun hHeld => ?_)
  clear hK K
  refine norm_ (a' := ?_) ?_ ?_
  rotate_left
  ·show Act.put _ (some 10) _ = _
   simp only [Act.put, List.setIfInBounds_toArray, List.set_cons_zero, List.set_cons_succ, i64_w, i32_w]
   rfl
  refine pure_ (i := 8) (N := some 11) (v := ?_) (a' := ?_) #[true, true, true, true, true, true, true, true, true, false] rfl rfl (any_of HT_.out (by kernel_rfl)) (fun _ _ _ h => h) (Or.inl ⟨by rfl, ?_⟩) ?_ ?_
  rotate_left
  ·intro w'
   go_simp
   with_reducible rfl
  rotate_left
  ·simp only [Act.put, List.setIfInBounds_toArray, List.set_cons_zero, List.set_cons_succ, i64_w, i32_w]
   rfl
  refine pure_ (i := 9) (N := some 2) (v := ?_) (a' := ?_) #[true, true, true, true, true, true, true, true, true, true] rfl rfl (any_of HT_.out (by kernel_rfl)) (fun _ _ _ h => h) (Or.inl ⟨by rfl, ?_⟩) ?_ ?_
  rotate_left
  ·intro w'
   go_simp
   with_reducible rfl
  rotate_left
  ·simp only [Act.put, List.setIfInBounds_toArray, List.set_cons_zero, List.set_cons_succ, i64_w, i32_w]
   rfl
  refine done_ (done_of HT_.out (by kernel_rfl)) ?_
  try go_wp2
  go_ret
  exact ⟨by first | rfl | (simp [errW_none, errW_some] <;> rfl) | (simp [*, errW_none, errW_some] <;> rfl), belt HB⟩
 replace c3 := Bool.eq_false_iff.mpr c3
 subst c3
 have H1 : (none) = some r := by rw [if_neg (show ¬ (false = true) by decide)] at H; exact H
 clear H
 have H := H1
 clear H1
 exact absurd H (by simp)

/-- THE ONE PURE STATEMENT of turnstonelaw09_LagNanos. -/
def turnstonelaw09_LagNanos.Pure : Prop := ∀ (a0_0 : Int) (a0_1 : Int), (Lit.int .i64 a0_0).wf = true → (Lit.int .u64 a0_1).wf = true → ∃ k, turnstonelaw09_LagNanos.f k a0_0 a0_1 = some true
theorem turnstonelaw09_LagNanos.walk (P : turnstonelaw09_LagNanos.Pure) (a0_0 : Int) (a0_1 : Int) (w : World) (w0_0 : (Lit.int .i64 a0_0).wf = true) (w0_1 : (Lit.int .u64 a0_1).wf = true) :
  Calls Tryz.prog 8 #[.agg #[.int .i64 a0_0, .int .u64 a0_1]] w fun e w' => e = .returned (.bool true) ∧ Below w.heap.size w w' := by
 obtain ⟨k, h⟩ := P a0_0 a0_1 w0_0 w0_1
 refine (turnstonelaw09_LagNanos.calls k a0_0 a0_1 true w h).mono ?_
 rintro e w' ⟨rfl, hd⟩
 exact ⟨rfl, hd⟩

end Go.Proofs.YtccokfebebmaeaaGreatDoor.Print
