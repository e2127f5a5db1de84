/- What each Go function that is named below answers, as a Lean function, and that its walk comes to just that: for whatever arguments that function gives an answer for. Written by a program of this session (wip/mkpr.py, pr.sh). -/
import Derived.Test.YtfbkamgdkdnpoaaGreatDoorPrint1000
import Derived.Test.YtfbkamgdkdnpoaaGreatDoorPrint1002
import Derived.Test.YtfbkamgdkdnpoaaGreatDoorPrint1010
import Derived.Test.YtfbkamgdkdnpoaaGreatDoorPrint1030
import Derived.Test.YtfbkamgdkdnpoaaGreatDoorPrint1031
namespace Go.Proofs.YtfbkamgdkdnpoaaGreatDoor.Print
open Go.RowKit Go.Proofs.YtfbkamgdkdnpoaaGreatDoorW.PrintWords Go.Proofs.YtfbkamgdkdnpoaaGreatDoorW.PrintLast Go.Proofs.YtfbkamgdkdnpoaaGreatDoorW.PrintMore
attribute [local go_sem] max2_int min2_int max_two min_two max_three min_three max_four min_four   -- for this text's walks alone
open Go.Proofs.YtfbkamgdkdnpoaaGreatDoor.Bits Go.Proofs.YtfbkamgdkdnpoaaGreatDoor.Short
attribute [local go_sem] add64_run0 sub64_run0 add64_run sub64_run
set_option linter.unusedVariables false
set_option linter.unusedSimpArgs false

/-! ### turnstonelaw12_ClampOrders: function 12 -/
def turnstonelaw12_ClampOrders.f (k : Nat) (a0_0 : Int) (a0_1 : Int) (a1_0 : Int) (a1_1 : Int) (a2 : Int) : Option (Bool) := (turnstonelaw12_awake.f).bind fun t781 => (if t781 = true then ((clamp_Clamp.f k a0_0 a0_1 a2).bind fun t782 => ((clamp_Clamp.f k a1_0 a1_1 a2).bind fun t783 => (if t782 ≥ (wrap64 (-(mx a2 0))) then (if t782 ≤ (mx a2 0) then ((wide_Of.f t782).bind fun bt784 => ((clamp_Clamp.f k bt784.1 bt784.2 a2).bind fun t786 => (if t786 = t782 then ((wide_Int_Cmp.f k a0_0 a0_1 a1_0 a1_1).bind fun t787 => (if t787 < 0 then ((wide_Int_Cmp.f k a0_0 a0_1 a1_0 a1_1).bind fun t788 => (if t788 > 0 then (some true) else (some (decide (t782 ≤ t783))))) else (if t782 ≥ t783 then ((wide_Int_Cmp.f k a0_0 a0_1 a1_0 a1_1).bind fun t789 => (if t789 > 0 then (some true) else (some (decide (t782 ≤ t783))))) else (none)))) else (none)))) else (none)) else (none)))) else (none))
theorem turnstonelaw12_ClampOrders.mono : ∀ a0 a1 a2 a3 a4 k, LeO (turnstonelaw12_ClampOrders.f k a0 a1 a2 a3 a4) (turnstonelaw12_ClampOrders.f (k + 1) a0 a1 a2 a3 a4) := by
 intro a0 a1 a2 a3 a4 k
 unfold turnstonelaw12_ClampOrders.f
 repeat' first
   | (with_reducible exact clamp_Clamp.mono _ _ _ _)
   | (with_reducible exact wide_Int_Cmp.mono _ _ _ _ _)
   | (with_reducible exact LeO.refl _)
   | (with_reducible exact LeO.none _)
   | (with_reducible refine LeO.ite ?_ ?_)
   | (with_reducible refine LeO.bind ?_ (fun _ => ?_))
   | exact clamp_Clamp.mono _ _ _ _
   | exact wide_Int_Cmp.mono _ _ _ _ _
   | exact LeO.none _
   | refine LeO.ite ?_ ?_
   | refine LeO.bind ?_ (fun _ => ?_)
def turnstonelaw12_ClampOrders.T3 : Bool × List (List Nat × List Nat) := (true, [([], []), ([], []), ([0, 1], [0, 1]), ([], []), ([], []), ([3, 4, 2], [3, 4]), ([2, 5, 0, 1, 2], [2]), ([5, 6, 0, 1, 2, 3, 4, 5, 6], [5])])
def turnstonelaw12_ClampOrders.B3 : List Nat := [0, 0, 3, 0, 0, 31, 63, 127]
theorem turnstonelaw12_ClampOrders.tab3 : rtab .any (opsOf Tryz.f12 3) = turnstonelaw12_ClampOrders.T3 := by kernel_rfl
theorem turnstonelaw12_ClampOrders.bits3 : waitsOk turnstonelaw12_ClampOrders.T3.2 turnstonelaw12_ClampOrders.B3 = true := by kernel_rfl
set_option maxHeartbeats 8000000 in
set_option maxRecDepth 100000 in
theorem turnstonelaw12_ClampOrders.calls (k : Nat) (a0_0 : Int) (a0_1 : Int) (a1_0 : Int) (a1_1 : Int) (a2 : Int) (r : Bool) (w : World) (h : turnstonelaw12_ClampOrders.f k a0_0 a0_1 a1_0 a1_1 a2 = some r) :
  Calls Tryz.prog 12 #[.agg #[.int .i64 a0_0, .int .u64 a0_1], .agg #[.int .i64 a1_0, .int .u64 a1_1], .int .i64 a2] w fun e w' => e = .returned (.bool r) ∧ Below w.heap.size w w' := by
 have hu31 := Tryz.underlying31
 have HB := Aside0.mk (Below.refl w.heap.size w)
 have H : ((turnstonelaw12_awake.f).bind fun t781 => (if t781 = true then ((clamp_Clamp.f k a0_0 a0_1 a2).bind fun t782 => ((clamp_Clamp.f k a1_0 a1_1 a2).bind fun t783 => (if t782 ≥ (wrap64 (-(mx a2 0))) then (if t782 ≤ (mx a2 0) then ((wide_Of.f t782).bind fun bt784 => ((clamp_Clamp.f k bt784.1 bt784.2 a2).bind fun t786 => (if t786 = t782 then ((wide_Int_Cmp.f k a0_0 a0_1 a1_0 a1_1).bind fun t787 => (if t787 < 0 then ((wide_Int_Cmp.f k a0_0 a0_1 a1_0 a1_1).bind fun t788 => (if t788 > 0 then (some true) else (some (decide (t782 ≤ t783))))) else (if t782 ≥ t783 then ((wide_Int_Cmp.f k a0_0 a0_1 a1_0 a1_1).bind fun t789 => (if t789 > 0 then (some true) else (some (decide (t782 ≤ t783))))) else (none)))) else (none)))) else (none)) else (none)))) else (none))) = some r := h
 clear h
 replace H := Option.bind_eq_some_iff.mp H
 obtain ⟨t781, A40, H⟩ := H
 replace H : (if t781 = true then ((clamp_Clamp.f k a0_0 a0_1 a2).bind fun t782 => ((clamp_Clamp.f k a1_0 a1_1 a2).bind fun t783 => (if t782 ≥ (wrap64 (-(mx a2 0))) then (if t782 ≤ (mx a2 0) then ((wide_Of.f t782).bind fun bt784 => ((clamp_Clamp.f k bt784.1 bt784.2 a2).bind fun t786 => (if t786 = t782 then ((wide_Int_Cmp.f k a0_0 a0_1 a1_0 a1_1).bind fun t787 => (if t787 < 0 then ((wide_Int_Cmp.f k a0_0 a0_1 a1_0 a1_1).bind fun t788 => (if t788 > 0 then (some true) else (some (decide (t782 ≤ t783))))) else (if t782 ≥ t783 then ((wide_Int_Cmp.f k a0_0 a0_1 a1_0 a1_1).bind fun t789 => (if t789 > 0 then (some true) else (some (decide (t782 ≤ t783))))) else (none)))) else (none)))) else (none)) else (none)))) else (none)) = some r := H
 have A4 := Aside0.mk A40
 clear A40
 by_cases c5 : t781 = true
 ·subst c5
  have H1 : ((clamp_Clamp.f k a0_0 a0_1 a2).bind fun t782 => ((clamp_Clamp.f k a1_0 a1_1 a2).bind fun t783 => (if t782 ≥ (wrap64 (-(mx a2 0))) then (if t782 ≤ (mx a2 0) then ((wide_Of.f t782).bind fun bt784 => ((clamp_Clamp.f k bt784.1 bt784.2 a2).bind fun t786 => (if t786 = t782 then ((wide_Int_Cmp.f k a0_0 a0_1 a1_0 a1_1).bind fun t787 => (if t787 < 0 then ((wide_Int_Cmp.f k a0_0 a0_1 a1_0 a1_1).bind fun t788 => (if t788 > 0 then (some true) else (some (decide (t782 ≤ t783))))) else (if t782 ≥ t783 then ((wide_Int_Cmp.f k a0_0 a0_1 a1_0 a1_1).bind fun t789 => (if t789 > 0 then (some true) else (some (decide (t782 ≤ t783))))) else (none)))) else (none)))) else (none)) else (none)))) = some r := by rw [if_pos rfl] at H; exact H
  clear H
  have H := H1
  clear H1
  replace H := Option.bind_eq_some_iff.mp H
  obtain ⟨t782, A60, H⟩ := H
  replace H : ((clamp_Clamp.f k a1_0 a1_1 a2).bind fun t783 => (if t782 ≥ (wrap64 (-(mx a2 0))) then (if t782 ≤ (mx a2 0) then ((wide_Of.f t782).bind fun bt784 => ((clamp_Clamp.f k bt784.1 bt784.2 a2).bind fun t786 => (if t786 = t782 then ((wide_Int_Cmp.f k a0_0 a0_1 a1_0 a1_1).bind fun t787 => (if t787 < 0 then ((wide_Int_Cmp.f k a0_0 a0_1 a1_0 a1_1).bind fun t788 => (if t788 > 0 then (some true) else (some (decide (t782 ≤ t783))))) else (if t782 ≥ t783 then ((wide_Int_Cmp.f k a0_0 a0_1 a1_0 a1_1).bind fun t789 => (if t789 > 0 then (some true) else (some (decide (t782 ≤ t783))))) else (none)))) else (none)))) else (none)) else (none))) = some r := H
  have A6 := Aside0.mk A60
  clear A60
  replace H := Option.bind_eq_some_iff.mp H
  obtain ⟨t783, A70, H⟩ := H
  replace H : (if t782 ≥ (wrap64 (-(mx a2 0))) then (if t782 ≤ (mx a2 0) then ((wide_Of.f t782).bind fun bt784 => ((clamp_Clamp.f k bt784.1 bt784.2 a2).bind fun t786 => (if t786 = t782 then ((wide_Int_Cmp.f k a0_0 a0_1 a1_0 a1_1).bind fun t787 => (if t787 < 0 then ((wide_Int_Cmp.f k a0_0 a0_1 a1_0 a1_1).bind fun t788 => (if t788 > 0 then (some true) else (some (decide (t782 ≤ t783))))) else (if t782 ≥ t783 then ((wide_Int_Cmp.f k a0_0 a0_1 a1_0 a1_1).bind fun t789 => (if t789 > 0 then (some true) else (some (decide (t782 ≤ t783))))) else (none)))) else (none)))) else (none)) else (none)) = some r := H
  have A7 := Aside0.mk A70
  clear A70
  obtain ⟨ji8, hji8⟩ : ∃ j_ : Int, (mx a2 0) = j_ := ⟨_, rfl⟩
  replace H : (if t782 ≥ (wrap64 (-(ji8))) then (if t782 ≤ (ji8) then ((wide_Of.f t782).bind fun bt784 => ((clamp_Clamp.f k bt784.1 bt784.2 a2).bind fun t786 => (if t786 = t782 then ((wide_Int_Cmp.f k a0_0 a0_1 a1_0 a1_1).bind fun t787 => (if t787 < 0 then ((wide_Int_Cmp.f k a0_0 a0_1 a1_0 a1_1).bind fun t788 => (if t788 > 0 then (some true) else (some (decide (t782 ≤ t783))))) else (if t782 ≥ t783 then ((wide_Int_Cmp.f k a0_0 a0_1 a1_0 a1_1).bind fun t789 => (if t789 > 0 then (some true) else (some (decide (t782 ≤ t783))))) else (none)))) else (none)))) else (none)) else (none)) = some r := by first | (rw [hji8] at H; exact H) | (simp only [hji8] at H ⊢; exact H)
  (try rw [hji8] at A4)
  (try rw [hji8] at A6)
  (try rw [hji8] at A7)
  (try (have hji8l : 0 ≤ ji8 := by (rw [← hji8]; unfold mx; (repeat' split) <;> omega)))
  (try (have hji8m : 0 ≤ ji8 := by omega))
  have hji8_ : (if a2 < 0 then 0 else a2) = ji8 := hji8
  by_cases c9 : t782 ≥ (wrap64 (-(ji8)))
  ·rw [if_pos c9] at H
   have c9b0 : decide ((wrap64 (-(ji8))) ≤ t782) = true := decide_eq_true c9
   clear c9
   by_cases c10 : t782 ≤ (ji8)
   ·rw [if_pos c10] at H
    have c10b0 : decide (t782 ≤ (ji8)) = true := decide_eq_true c10
    clear c10
    replace H := Option.bind_eq_some_iff.mp H
    obtain ⟨⟨t784, t785⟩, A110, H⟩ := H
    replace H : ((clamp_Clamp.f k t784 t785 a2).bind fun t786 => (if t786 = t782 then ((wide_Int_Cmp.f k a0_0 a0_1 a1_0 a1_1).bind fun t787 => (if t787 < 0 then ((wide_Int_Cmp.f k a0_0 a0_1 a1_0 a1_1).bind fun t788 => (if t788 > 0 then (some true) else (some (decide (t782 ≤ t783))))) else (if t782 ≥ t783 then ((wide_Int_Cmp.f k a0_0 a0_1 a1_0 a1_1).bind fun t789 => (if t789 > 0 then (some true) else (some (decide (t782 ≤ t783))))) else (none)))) else (none))) = some r := H
    have A11 := Aside0.mk A110
    clear A110
    replace H := Option.bind_eq_some_iff.mp H
    obtain ⟨t786, A120, H⟩ := H
    replace H : (if t786 = t782 then ((wide_Int_Cmp.f k a0_0 a0_1 a1_0 a1_1).bind fun t787 => (if t787 < 0 then ((wide_Int_Cmp.f k a0_0 a0_1 a1_0 a1_1).bind fun t788 => (if t788 > 0 then (some true) else (some (decide (t782 ≤ t783))))) else (if t782 ≥ t783 then ((wide_Int_Cmp.f k a0_0 a0_1 a1_0 a1_1).bind fun t789 => (if t789 > 0 then (some true) else (some (decide (t782 ≤ t783))))) else (none)))) else (none)) = some r := H
    have A12 := Aside0.mk A120
    clear A120
    by_cases c13 : t786 = t782
    ·rw [if_pos c13] at H
     have c13b0 : (t786 == t782) = true := beq_iff_eq.mpr c13
     have c13b1 : (t786 != t782) = false := bne_eq_false_iff_eq.mpr c13
     clear c13
     replace H := Option.bind_eq_some_iff.mp H
     obtain ⟨t787, A140, H⟩ := H
     replace H : (if t787 < 0 then ((wide_Int_Cmp.f k a0_0 a0_1 a1_0 a1_1).bind fun t788 => (if t788 > 0 then (some true) else (some (decide (t782 ≤ t783))))) else (if t782 ≥ t783 then ((wide_Int_Cmp.f k a0_0 a0_1 a1_0 a1_1).bind fun t789 => (if t789 > 0 then (some true) else (some (decide (t782 ≤ t783))))) else (none))) = some r := H
     have A14 := Aside0.mk A140
     clear A140
     by_cases c15 : t787 < 0
     ·rw [if_pos c15] at H
      have c15b0 : decide (t787 < 0) = true := decide_eq_true c15
      clear c15
      replace H := Option.bind_eq_some_iff.mp H
      obtain ⟨t788, A160, H⟩ := H
      obtain rfl : t787 = t788 := Option.some.inj (A14.out.symm.trans A160)
      replace H : (if t787 > 0 then (some true) else (some (decide (t782 ≤ t783)))) = some r := H
      have A16 := Aside0.mk A160
      clear A160
      by_cases c17 : t787 > 0
      ·rw [if_pos c17] at H
       have c17b0 : decide (0 < t787) = true := decide_eq_true c17
       clear c17
       obtain rfl := Option.some.inj H
       go_enter Tryz.func12, Tryz.ntmps12
       try go_wp2_with (first | ((with_reducible refine gate_dst (N := 3) rfl ?_); refine box_event ?hg (N := 3) ?hd (cs := #[.int .i64 a0_0, .int .u64 a0_1]) (t := 31) ?hr ?_; (case hd => rfl); (case hg => rfl); (case hr => first | (go_simp; done) | (go_simp; rfl)); intro gb779 hg w18 hbox hb; have BK779 := Aside0.mk (hbox); have GW779 := bels HB hg; have GE779 := bels HB hg; replace HB := belb HB hb; clear hb hbox hg) | ((with_reducible refine gate_dst (N := 4) rfl ?_); refine box_event ?hg (N := 4) ?hd (cs := #[.int .i64 a1_0, .int .u64 a1_1]) (t := 31) ?hr ?_; (case hd => rfl); (case hg => rfl); (case hr => first | (go_simp; done) | (go_simp; rfl)); intro gb780 hg w19 hbox hb; have BK780 := Aside0.mk (hbox); have GW780 := bels HB hg; have GE780 := bels HB hg; have NB779_780 := blkl BK779 hg; have NB780_779 := blkg BK779 hg; replace BK779 := blkb BK779 hb; replace HB := belb HB hb; clear hb hbox hg) | ((with_reducible refine gate_callee (f := 38) rfl ?_); refine goesL_ (some 10) rfl rfl Tryz.func38 (by kernel_rfl) rfl #[] rfl argt ?_; (with_reducible refine (turnstonelaw12_awake.calls  true _ A4.out).mono ?_); rintro e w20 ⟨rfl, hb⟩; refine ⟨_, rfl, ?_⟩; replace BK779 := blkb BK779 hb; replace BK780 := blkb BK780 hb; replace HB := belb HB hb; (try clear hb); (try clear hb2); (try clear hk); (try clear hi)))
       replace BK779 := Aside0.mk (blk_drew BK779.out)
       replace BK780 := Aside0.mk (blk_drew BK780.out)
       replace HB := Aside0.mk (below_drew1 HB.out)
       refine start_ (n := 8) (S := fun w' => w'.cell? ⟨gb779, 0, none⟩ = some (.int .i64 a0_0) ∧ w'.cell? ⟨gb779, 1, none⟩ = some (.int .u64 a0_1) ∧ w'.cell? ⟨gb780, 0, none⟩ = some (.int .i64 a1_0) ∧ w'.cell? ⟨gb780, 1, none⟩ = some (.int .u64 a1_1)) (ds := []) #[false, false, false, false, false, false, false, false] (by kernel_rfl) rfl rfl ⟨(blk_cell BK779.out 0).trans rfl, (blk_cell BK779.out 1).trans rfl, (blk_cell BK780.out 0).trans rfl, (blk_cell BK780.out 1).trans rfl⟩ (fun hHeld => ?_); refine with_tabW turnstonelaw12_ClampOrders.tab3 turnstonelaw12_ClampOrders.bits3 (fun HT_ HW_ => ?_)
       generalize w20.drew = w21 at BK779 BK780 HB hHeld ⊢
       refine pure_ (i := 1) (N := some 13) (v := ?_) (a' := ?_) #[false, true, false, false, false, false, false, false] rfl rfl (any_of HT_.out (by kernel_rfl)) (fun _ _ _ h => h) (Or.inl ⟨by rfl, ?_⟩) ?_ ?_
       rotate_left
       ·intro w'
        go_simp
        with_reducible rfl
       rotate_left
       ·simp only [Act.put, List.setIfInBounds_toArray, List.set_cons_zero, List.set_cons_succ, i64_w, i32_w]
        rfl
       refine pure_ (i := 4) (N := some 16) (v := ?_) (a' := ?_) #[false, true, false, false, true, false, false, false] rfl rfl (any_of HT_.out (by kernel_rfl)) (fun _ _ _ h => h) (Or.inl ⟨by rfl, ?_⟩) ?_ ?_
       rotate_left
       ·intro w'
        go_simp
        with_reducible rfl
       rotate_left
       ·simp only [Act.put, List.setIfInBounds_toArray, List.set_cons_zero, List.set_cons_succ, i64_w, i32_w]
        rfl
       refine take_ (i := 0) (N := some 12) (v := ?_) (a' := ?_) #[true, true, false, false, true, false, false, false] rfl rfl (take_ofW HT_.out HW_.out (by kernel_rfl)) (fun _ _ _ h => h) (Or.inl ⟨by rfl, ?_⟩) hHeld ?_ ?_
       rotate_left
       ·rintro w' ⟨s0, s1, s2, s3⟩
        go_simp
        with_reducible rfl
       rotate_left
       ·simp only [Act.put, List.setIfInBounds_toArray, List.set_cons_zero, List.set_cons_succ, i64_w, i32_w]
        rfl
       refine take_ (i := 3) (N := some 15) (v := ?_) (a' := ?_) #[true, true, false, true, true, false, false, false] rfl rfl (take_ofW HT_.out HW_.out (by kernel_rfl)) (fun _ _ _ h => h) (Or.inl ⟨by rfl, ?_⟩) hHeld ?_ ?_
       rotate_left
       ·rintro w' ⟨s0, s1, s2, s3⟩
        go_simp
        with_reducible rfl
       rotate_left
       ·simp only [Act.put, List.setIfInBounds_toArray, List.set_cons_zero, List.set_cons_succ, i64_w, i32_w]
        rfl
       refine one_ (i := 2) (N := some 14) #[true, true, true, true, true, false, false, false] rfl rfl (one_of HT_.out (by kernel_rfl)) (by decide) (fun K hK => ?_)
       refine goes_ Tryz.func40 (by kernel_rfl) rfl #[.agg #[.int .i64 a0_0, .int .u64 a0_1], .int .i64 a2] (by rfl) rfl rfl argt ?_
       with_reducible refine (clamp_Clamp.calls k a0_0 a0_1 a2 t782 _ A6.out).mono ?_
       rintro e w22 ⟨rfl, hb⟩
       refine ⟨_, rfl, ?_⟩
       replace BK779 := blkb BK779 hb
       replace BK780 := blkb BK780 hb
       replace HB := belb HB hb
       (try clear hb)
       (try clear hb2)
       (try clear hk)
       (try clear hi)
       refine hK.out _ _ ⟨(blk_cell BK779.out 0).trans rfl, (blk_cell BK779.out 1).trans rfl, (blk_cell BK780.out 0).trans rfl, (blk_cell BK780.out 1).trans rfl⟩ (fun hHeld => ?_)
       clear hK K
       refine norm_ (a' := ?_) ?_ ?_
       rotate_left
       ·show Act.put _ (some 14) _ = _
        simp only [Act.put, List.setIfInBounds_toArray, List.set_cons_zero, List.set_cons_succ, i64_w, i32_w]
        rfl
       refine one_ (i := 5) (N := some 17) #[true, true, true, true, true, true, false, false] rfl rfl (one_of HT_.out (by kernel_rfl)) (by decide) (fun K hK => ?_)
       refine goes_ Tryz.func40 (by kernel_rfl) rfl #[.agg #[.int .i64 a1_0, .int .u64 a1_1], .int .i64 a2] (by rfl) rfl rfl argt ?_
       with_reducible refine (clamp_Clamp.calls k a1_0 a1_1 a2 t783 _ A7.out).mono ?_
       rintro e w23 ⟨rfl, hb⟩
       refine ⟨_, rfl, ?_⟩
       replace BK779 := blkb BK779 hb
       replace BK780 := blkb BK780 hb
       replace HB := belb HB hb
       (try clear hb)
       (try clear hb2)
       (try clear hk)
       (try clear hi)
       refine hK.out _ _ ⟨(blk_cell BK779.out 0).trans rfl, (blk_cell BK779.out 1).trans rfl, (blk_cell BK780.out 0).trans rfl, (blk_cell BK780.out 1).trans rfl⟩ (fun hHeld => ?_)
       clear hK K
       refine norm_ (a' := ?_) ?_ ?_
       rotate_left
       ·show Act.put _ (some 17) _ = _
        simp only [Act.put, List.setIfInBounds_toArray, List.set_cons_zero, List.set_cons_succ, i64_w, i32_w]
        rfl
       refine pure_ (i := 6) (N := some 7) (v := ?_) (a' := ?_) #[true, true, true, true, true, true, true, false] rfl rfl (any_of HT_.out (by kernel_rfl)) (fun _ _ _ h => h) (Or.inl ⟨by rfl, ?_⟩) ?_ ?_
       rotate_left
       ·intro w'
        go_simp
        with_reducible rfl
       rotate_left
       ·simp only [Act.put, List.setIfInBounds_toArray, List.set_cons_zero, List.set_cons_succ, i64_w, i32_w]
        rfl
       refine pure_ (i := 7) (N := some 8) (v := ?_) (a' := ?_) #[true, true, true, true, true, true, true, true] rfl rfl (any_of HT_.out (by kernel_rfl)) (fun _ _ _ h => h) (Or.inl ⟨by rfl, ?_⟩) ?_ ?_
       rotate_left
       ·intro w'
        go_simp
        with_reducible rfl
       rotate_left
       ·simp only [Act.put, List.setIfInBounds_toArray, List.set_cons_zero, List.set_cons_succ, i64_w, i32_w]
        rfl
       refine done_ (done_of HT_.out (by kernel_rfl)) ?_
       try go_wp2_with (first | (go_at_call 31; (with_reducible refine (wide_Of.calls t782 t784 t785 _ A11.out).mono ?_); rintro e w24 ⟨rfl, hb⟩; replace BK779 := blkb BK779 hb; replace BK780 := blkb BK780 hb; replace HB := belb HB hb; (try clear hb); (try clear hb2); (try clear hk); (try clear hi)) | (go_at_call 40; (with_reducible refine (clamp_Clamp.calls k t784 t785 a2 t786 _ A12.out).mono ?_); rintro e w25 ⟨rfl, hb⟩; replace BK779 := blkb BK779 hb; replace BK780 := blkb BK780 hb; replace HB := belb HB hb; (try clear hb); (try clear hb2); (try clear hk); (try clear hi); have hnb26 := NB779_780.out; have hnc26 := NB780_779.out; have hcz27_0 : w25.cell? ⟨gb779, 0, none⟩ = some (.int .i64 a0_0) := (blk_cell BK779.out 0).trans rfl; have hcz27_1 : w25.cell? ⟨gb779, 1, none⟩ = some (.int .u64 a0_1) := (blk_cell BK779.out 1).trans rfl; have hfz27_0 := blk_frozen BK779.out 0; have hfz27_1 := blk_frozen BK779.out 1; have hcz28_0 : w25.cell? ⟨gb780, 0, none⟩ = some (.int .i64 a1_0) := (blk_cell BK780.out 0).trans rfl; have hcz28_1 : w25.cell? ⟨gb780, 1, none⟩ = some (.int .u64 a1_1) := (blk_cell BK780.out 1).trans rfl; have hfz28_0 := blk_frozen BK780.out 0; have hfz28_1 := blk_frozen BK780.out 1) | (go_at_call 41; (with_reducible refine (wide_Int_Cmp.calls k a0_0 a0_1 a1_0 a1_1 t787 _ A14.out).mono ?_); rintro e w29 ⟨rfl, hb⟩; replace BK779 := blkb BK779 hb; replace BK780 := blkb BK780 hb; replace HB := belb HB hb; (try clear hb); (try clear hb2); (try clear hk); (try clear hi); have hcz30_0 : w29.cell? ⟨gb779, 0, none⟩ = some (.int .i64 a0_0) := (blk_cell BK779.out 0).trans rfl; have hcz30_1 : w29.cell? ⟨gb779, 1, none⟩ = some (.int .u64 a0_1) := (blk_cell BK779.out 1).trans rfl; have hfz30_0 := blk_frozen BK779.out 0; have hfz30_1 := blk_frozen BK779.out 1; have hcz31_0 : w29.cell? ⟨gb780, 0, none⟩ = some (.int .i64 a1_0) := (blk_cell BK780.out 0).trans rfl; have hcz31_1 : w29.cell? ⟨gb780, 1, none⟩ = some (.int .u64 a1_1) := (blk_cell BK780.out 1).trans rfl; have hfz31_0 := blk_frozen BK780.out 0; have hfz31_1 := blk_frozen BK780.out 1) | (go_at_call 41; (with_reducible refine (wide_Int_Cmp.calls k a0_0 a0_1 a1_0 a1_1 t787 _ A16.out).mono ?_); rintro e w32 ⟨rfl, hb⟩; replace BK779 := blkb BK779 hb; replace BK780 := blkb BK780 hb; replace HB := belb HB hb; (try clear hb); (try clear hb2); (try clear hk); (try clear hi)))
       go_ret
       exact ⟨by first | rfl | (simp [errW_none, errW_some] <;> rfl) | (simp only [← hji8]; first | rfl | (simp [errW_none, errW_some] <;> rfl)) | (simp [*, errW_none, errW_some] <;> rfl), belt HB⟩
      ·rw [if_neg c17] at H
       have c17b0 : decide (0 < t787) = false := decide_eq_false c17
       clear c17
       obtain rfl := Option.some.inj H
       go_enter Tryz.func12, Tryz.ntmps12
       try go_wp2_with (first | ((with_reducible refine gate_dst (N := 3) rfl ?_); refine box_event ?hg (N := 3) ?hd (cs := #[.int .i64 a0_0, .int .u64 a0_1]) (t := 31) ?hr ?_; (case hd => rfl); (case hg => rfl); (case hr => first | (go_simp; done) | (go_simp; rfl)); intro gb779 hg w33 hbox hb; have BK779 := Aside0.mk (hbox); have GW779 := bels HB hg; have GE779 := bels HB hg; replace HB := belb HB hb; clear hb hbox hg) | ((with_reducible refine gate_dst (N := 4) rfl ?_); refine box_event ?hg (N := 4) ?hd (cs := #[.int .i64 a1_0, .int .u64 a1_1]) (t := 31) ?hr ?_; (case hd => rfl); (case hg => rfl); (case hr => first | (go_simp; done) | (go_simp; rfl)); intro gb780 hg w34 hbox hb; have BK780 := Aside0.mk (hbox); have GW780 := bels HB hg; have GE780 := bels HB hg; have NB779_780 := blkl BK779 hg; have NB780_779 := blkg BK779 hg; replace BK779 := blkb BK779 hb; replace HB := belb HB hb; clear hb hbox hg) | ((with_reducible refine gate_callee (f := 38) rfl ?_); refine goesL_ (some 10) rfl rfl Tryz.func38 (by kernel_rfl) rfl #[] rfl argt ?_; (with_reducible refine (turnstonelaw12_awake.calls  true _ A4.out).mono ?_); rintro e w35 ⟨rfl, hb⟩; refine ⟨_, rfl, ?_⟩; replace BK779 := blkb BK779 hb; replace BK780 := blkb BK780 hb; replace HB := belb HB hb; (try clear hb); (try clear hb2); (try clear hk); (try clear hi)))
       replace BK779 := Aside0.mk (blk_drew BK779.out)
       replace BK780 := Aside0.mk (blk_drew BK780.out)
       replace HB := Aside0.mk (below_drew1 HB.out)
       refine start_ (n := 8) (S := fun w' => w'.cell? ⟨gb779, 0, none⟩ = some (.int .i64 a0_0) ∧ w'.cell? ⟨gb779, 1, none⟩ = some (.int .u64 a0_1) ∧ w'.cell? ⟨gb780, 0, none⟩ = some (.int .i64 a1_0) ∧ w'.cell? ⟨gb780, 1, none⟩ = some (.int .u64 a1_1)) (ds := []) #[false, false, false, false, false, false, false, false] (by kernel_rfl) rfl rfl ⟨(blk_cell BK779.out 0).trans rfl, (blk_cell BK779.out 1).trans rfl, (blk_cell BK780.out 0).trans rfl, (blk_cell BK780.out 1).trans rfl⟩ (fun hHeld => ?_); refine with_tabW turnstonelaw12_ClampOrders.tab3 turnstonelaw12_ClampOrders.bits3 (fun HT_ HW_ => ?_)
       generalize w35.drew = w36 at BK779 BK780 HB hHeld ⊢
       refine pure_ (i := 1) (N := some 13) (v := ?_) (a' := ?_) #[false, true, false, false, false, false, false, false] rfl rfl (any_of HT_.out (by kernel_rfl)) (fun _ _ _ h => h) (Or.inl ⟨by rfl, ?_⟩) ?_ ?_
       rotate_left
       ·intro w'
        go_simp
        with_reducible rfl
       rotate_left
       ·simp only [Act.put, List.setIfInBounds_toArray, List.set_cons_zero, List.set_cons_succ, i64_w, i32_w]
        rfl
       refine pure_ (i := 4) (N := some 16) (v := ?_) (a' := ?_) #[false, true, false, false, true, false, false, false] rfl rfl (any_of HT_.out (by kernel_rfl)) (fun _ _ _ h => h) (Or.inl ⟨by rfl, ?_⟩) ?_ ?_
       rotate_left
       ·intro w'
        go_simp
        with_reducible rfl
       rotate_left
       ·simp only [Act.put, List.setIfInBounds_toArray, List.set_cons_zero, List.set_cons_succ, i64_w, i32_w]
        rfl
       refine take_ (i := 0) (N := some 12) (v := ?_) (a' := ?_) #[true, true, false, false, true, false, false, false] rfl rfl (take_ofW HT_.out HW_.out (by kernel_rfl)) (fun _ _ _ h => h) (Or.inl ⟨by rfl, ?_⟩) hHeld ?_ ?_
       rotate_left
       ·rintro w' ⟨s0, s1, s2, s3⟩
        go_simp
        with_reducible rfl
       rotate_left
       ·simp only [Act.put, List.setIfInBounds_toArray, List.set_cons_zero, List.set_cons_succ, i64_w, i32_w]
        rfl
       refine take_ (i := 3) (N := some 15) (v := ?_) (a' := ?_) #[true, true, false, true, true, false, false, false] rfl rfl (take_ofW HT_.out HW_.out (by kernel_rfl)) (fun _ _ _ h => h) (Or.inl ⟨by rfl, ?_⟩) hHeld ?_ ?_
       rotate_left
       ·rintro w' ⟨s0, s1, s2, s3⟩
        go_simp
        with_reducible rfl
       rotate_left
       ·simp only [Act.put, List.setIfInBounds_toArray, List.set_cons_zero, List.set_cons_succ, i64_w, i32_w]
        rfl
       refine one_ (i := 2) (N := some 14) #[true, true, true, true, true, false, false, false] rfl rfl (one_of HT_.out (by kernel_rfl)) (by decide) (fun K hK => ?_)
       refine goes_ Tryz.func40 (by kernel_rfl) rfl #[.agg #[.int .i64 a0_0, .int .u64 a0_1], .int .i64 a2] (by rfl) rfl rfl argt ?_
       with_reducible refine (clamp_Clamp.calls k a0_0 a0_1 a2 t782 _ A6.out).mono ?_
       rintro e w37 ⟨rfl, hb⟩
       refine ⟨_, rfl, ?_⟩
       replace BK779 := blkb BK779 hb
       replace BK780 := blkb BK780 hb
       replace HB := belb HB hb
       (try clear hb)
       (try clear hb2)
       (try clear hk)
       (try clear hi)
       refine hK.out _ _ ⟨(blk_cell BK779.out 0).trans rfl, (blk_cell BK779.out 1).trans rfl, (blk_cell BK780.out 0).trans rfl, (blk_cell BK780.out 1).trans rfl⟩ (fun hHeld => ?_)
       clear hK K
       refine norm_ (a' := ?_) ?_ ?_
       rotate_left
       ·show Act.put _ (some 14) _ = _
        simp only [Act.put, List.setIfInBounds_toArray, List.set_cons_zero, List.set_cons_succ, i64_w, i32_w]
        rfl
       refine one_ (i := 5) (N := some 17) #[true, true, true, true, true, true, false, false] rfl rfl (one_of HT_.out (by kernel_rfl)) (by decide) (fun K hK => ?_)
       refine goes_ Tryz.func40 (by kernel_rfl) rfl #[.agg #[.int .i64 a1_0, .int .u64 a1_1], .int .i64 a2] (by rfl) rfl rfl argt ?_
       with_reducible refine (clamp_Clamp.calls k a1_0 a1_1 a2 t783 _ A7.out).mono ?_
       rintro e w38 ⟨rfl, hb⟩
       refine ⟨_, rfl, ?_⟩
       replace BK779 := blkb BK779 hb
       replace BK780 := blkb BK780 hb
       replace HB := belb HB hb
       (try clear hb)
       (try clear hb2)
       (try clear hk)
       (try clear hi)
       refine hK.out _ _ ⟨(blk_cell BK779.out 0).trans rfl, (blk_cell BK779.out 1).trans rfl, (blk_cell BK780.out 0).trans rfl, (blk_cell BK780.out 1).trans rfl⟩ (fun hHeld => ?_)
       clear hK K
       refine norm_ (a' := ?_) ?_ ?_
       rotate_left
       ·show Act.put _ (some 17) _ = _
        simp only [Act.put, List.setIfInBounds_toArray, List.set_cons_zero, List.set_cons_succ, i64_w, i32_w]
        rfl
       refine pure_ (i := 6) (N := some 7) (v := ?_) (a' := ?_) #[true, true, true, true, true, true, true, false] rfl rfl (any_of HT_.out (by kernel_rfl)) (fun _ _ _ h => h) (Or.inl ⟨by rfl, ?_⟩) ?_ ?_
       rotate_left
       ·intro w'
        go_simp
        with_reducible rfl
       rotate_left
       ·simp only [Act.put, List.setIfInBounds_toArray, List.set_cons_zero, List.set_cons_succ, i64_w, i32_w]
        rfl
       refine pure_ (i := 7) (N := some 8) (v := ?_) (a' := ?_) #[true, true, true, true, true, true, true, true] rfl rfl (any_of HT_.out (by kernel_rfl)) (fun _ _ _ h => h) (Or.inl ⟨by rfl, ?_⟩) ?_ ?_
       rotate_left
       ·intro w'
        go_simp
        with_reducible rfl
       rotate_left
       ·simp only [Act.put, List.setIfInBounds_toArray, List.set_cons_zero, List.set_cons_succ, i64_w, i32_w]
        rfl
       refine done_ (done_of HT_.out (by kernel_rfl)) ?_
       try go_wp2_with (first | (go_at_call 31; (with_reducible refine (wide_Of.calls t782 t784 t785 _ A11.out).mono ?_); rintro e w39 ⟨rfl, hb⟩; replace BK779 := blkb BK779 hb; replace BK780 := blkb BK780 hb; replace HB := belb HB hb; (try clear hb); (try clear hb2); (try clear hk); (try clear hi)) | (go_at_call 40; (with_reducible refine (clamp_Clamp.calls k t784 t785 a2 t786 _ A12.out).mono ?_); rintro e w40 ⟨rfl, hb⟩; replace BK779 := blkb BK779 hb; replace BK780 := blkb BK780 hb; replace HB := belb HB hb; (try clear hb); (try clear hb2); (try clear hk); (try clear hi); have hnb41 := NB779_780.out; have hnc41 := NB780_779.out; have hcz42_0 : w40.cell? ⟨gb779, 0, none⟩ = some (.int .i64 a0_0) := (blk_cell BK779.out 0).trans rfl; have hcz42_1 : w40.cell? ⟨gb779, 1, none⟩ = some (.int .u64 a0_1) := (blk_cell BK779.out 1).trans rfl; have hfz42_0 := blk_frozen BK779.out 0; have hfz42_1 := blk_frozen BK779.out 1; have hcz43_0 : w40.cell? ⟨gb780, 0, none⟩ = some (.int .i64 a1_0) := (blk_cell BK780.out 0).trans rfl; have hcz43_1 : w40.cell? ⟨gb780, 1, none⟩ = some (.int .u64 a1_1) := (blk_cell BK780.out 1).trans rfl; have hfz43_0 := blk_frozen BK780.out 0; have hfz43_1 := blk_frozen BK780.out 1) | (go_at_call 41; (with_reducible refine (wide_Int_Cmp.calls k a0_0 a0_1 a1_0 a1_1 t787 _ A14.out).mono ?_); rintro e w44 ⟨rfl, hb⟩; replace BK779 := blkb BK779 hb; replace BK780 := blkb BK780 hb; replace HB := belb HB hb; (try clear hb); (try clear hb2); (try clear hk); (try clear hi); have hcz45_0 : w44.cell? ⟨gb779, 0, none⟩ = some (.int .i64 a0_0) := (blk_cell BK779.out 0).trans rfl; have hcz45_1 : w44.cell? ⟨gb779, 1, none⟩ = some (.int .u64 a0_1) := (blk_cell BK779.out 1).trans rfl; have hfz45_0 := blk_frozen BK779.out 0; have hfz45_1 := blk_frozen BK779.out 1; have hcz46_0 : w44.cell? ⟨gb780, 0, none⟩ = some (.int .i64 a1_0) := (blk_cell BK780.out 0).trans rfl; have hcz46_1 : w44.cell? ⟨gb780, 1, none⟩ = some (.int .u64 a1_1) := (blk_cell BK780.out 1).trans rfl; have hfz46_0 := blk_frozen BK780.out 0; have hfz46_1 := blk_frozen BK780.out 1) | (go_at_call 41; (with_reducible refine (wide_Int_Cmp.calls k a0_0 a0_1 a1_0 a1_1 t787 _ A16.out).mono ?_); rintro e w47 ⟨rfl, hb⟩; replace BK779 := blkb BK779 hb; replace BK780 := blkb BK780 hb; replace HB := belb HB hb; (try clear hb); (try clear hb2); (try clear hk); (try clear hi)))
       go_ret
       exact ⟨by first | rfl | (simp [errW_none, errW_some] <;> rfl) | (simp only [← hji8]; first | rfl | (simp [errW_none, errW_some] <;> rfl)) | (simp [*, errW_none, errW_some] <;> rfl), belt HB⟩
     ·rw [if_neg c15] at H
      have c15b0 : decide (t787 < 0) = false := decide_eq_false c15
      clear c15
      by_cases c48 : t782 ≥ t783
      ·rw [if_pos c48] at H
       have c48b0 : decide (t783 ≤ t782) = true := decide_eq_true c48
       clear c48
       replace H := Option.bind_eq_some_iff.mp H
       obtain ⟨t789, A490, H⟩ := H
       obtain rfl : t787 = t789 := Option.some.inj (A14.out.symm.trans A490)
       replace H : (if t787 > 0 then (some true) else (some (decide (t782 ≤ t783)))) = some r := H
       have A49 := Aside0.mk A490
       clear A490
       by_cases c50 : t787 > 0
       ·rw [if_pos c50] at H
        have c50b0 : decide (0 < t787) = true := decide_eq_true c50
        clear c50
        obtain rfl := Option.some.inj H
        go_enter Tryz.func12, Tryz.ntmps12
        try go_wp2_with (first | ((with_reducible refine gate_dst (N := 3) rfl ?_); refine box_event ?hg (N := 3) ?hd (cs := #[.int .i64 a0_0, .int .u64 a0_1]) (t := 31) ?hr ?_; (case hd => rfl); (case hg => rfl); (case hr => first | (go_simp; done) | (go_simp; rfl)); intro gb779 hg w51 hbox hb; have BK779 := Aside0.mk (hbox); have GW779 := bels HB hg; have GE779 := bels HB hg; replace HB := belb HB hb; clear hb hbox hg) | ((with_reducible refine gate_dst (N := 4) rfl ?_); refine box_event ?hg (N := 4) ?hd (cs := #[.int .i64 a1_0, .int .u64 a1_1]) (t := 31) ?hr ?_; (case hd => rfl); (case hg => rfl); (case hr => first | (go_simp; done) | (go_simp; rfl)); intro gb780 hg w52 hbox hb; have BK780 := Aside0.mk (hbox); have GW780 := bels HB hg; have GE780 := bels HB hg; have NB779_780 := blkl BK779 hg; have NB780_779 := blkg BK779 hg; replace BK779 := blkb BK779 hb; replace HB := belb HB hb; clear hb hbox hg) | ((with_reducible refine gate_callee (f := 38) rfl ?_); refine goesL_ (some 10) rfl rfl Tryz.func38 (by kernel_rfl) rfl #[] rfl argt ?_; (with_reducible refine (turnstonelaw12_awake.calls  true _ A4.out).mono ?_); rintro e w53 ⟨rfl, hb⟩; refine ⟨_, rfl, ?_⟩; replace BK779 := blkb BK779 hb; replace BK780 := blkb BK780 hb; replace HB := belb HB hb; (try clear hb); (try clear hb2); (try clear hk); (try clear hi)))
        replace BK779 := Aside0.mk (blk_drew BK779.out)
        replace BK780 := Aside0.mk (blk_drew BK780.out)
        replace HB := Aside0.mk (below_drew1 HB.out)
        refine start_ (n := 8) (S := fun w' => w'.cell? ⟨gb779, 0, none⟩ = some (.int .i64 a0_0) ∧ w'.cell? ⟨gb779, 1, none⟩ = some (.int .u64 a0_1) ∧ w'.cell? ⟨gb780, 0, none⟩ = some (.int .i64 a1_0) ∧ w'.cell? ⟨gb780, 1, none⟩ = some (.int .u64 a1_1)) (ds := []) #[false, false, false, false, false, false, false, false] (by kernel_rfl) rfl rfl ⟨(blk_cell BK779.out 0).trans rfl, (blk_cell BK779.out 1).trans rfl, (blk_cell BK780.out 0).trans rfl, (blk_cell BK780.out 1).trans rfl⟩ (fun hHeld => ?_); refine with_tabW turnstonelaw12_ClampOrders.tab3 turnstonelaw12_ClampOrders.bits3 (fun HT_ HW_ => ?_)
        generalize w53.drew = w54 at BK779 BK780 HB hHeld ⊢
        refine pure_ (i := 1) (N := some 13) (v := ?_) (a' := ?_) #[false, true, false, false, false, false, false, false] rfl rfl (any_of HT_.out (by kernel_rfl)) (fun _ _ _ h => h) (Or.inl ⟨by rfl, ?_⟩) ?_ ?_
        rotate_left
        ·intro w'
         go_simp
         with_reducible rfl
        rotate_left
        ·simp only [Act.put, List.setIfInBounds_toArray, List.set_cons_zero, List.set_cons_succ, i64_w, i32_w]
         rfl
        refine pure_ (i := 4) (N := some 16) (v := ?_) (a' := ?_) #[false, true, false, false, true, false, false, false] rfl rfl (any_of HT_.out (by kernel_rfl)) (fun _ _ _ h => h) (Or.inl ⟨by rfl, ?_⟩) ?_ ?_
        rotate_left
        ·intro w'
         go_simp
         with_reducible rfl
        rotate_left
        ·simp only [Act.put, List.setIfInBounds_toArray, List.set_cons_zero, List.set_cons_succ, i64_w, i32_w]
         rfl
        refine take_ (i := 0) (N := some 12) (v := ?_) (a' := ?_) #[true, true, false, false, true, false, false, false] rfl rfl (take_ofW HT_.out HW_.out (by kernel_rfl)) (fun _ _ _ h => h) (Or.inl ⟨by rfl, ?_⟩) hHeld ?_ ?_
        rotate_left
        ·rintro w' ⟨s0, s1, s2, s3⟩
         go_simp
         with_reducible rfl
        rotate_left
        ·simp only [Act.put, List.setIfInBounds_toArray, List.set_cons_zero, List.set_cons_succ, i64_w, i32_w]
         rfl
        refine take_ (i := 3) (N := some 15) (v := ?_) (a' := ?_) #[true, true, false, true, true, false, false, false] rfl rfl (take_ofW HT_.out HW_.out (by kernel_rfl)) (fun _ _ _ h => h) (Or.inl ⟨by rfl, ?_⟩) hHeld ?_ ?_
        rotate_left
        ·rintro w' ⟨s0, s1, s2, s3⟩
         go_simp
         with_reducible rfl
        rotate_left
        ·simp only [Act.put, List.setIfInBounds_toArray, List.set_cons_zero, List.set_cons_succ, i64_w, i32_w]
         rfl
        refine one_ (i := 2) (N := some 14) #[true, true, true, true, true, false, false, false] rfl rfl (one_of HT_.out (by kernel_rfl)) (by decide) (fun K hK => ?_)
        refine goes_ Tryz.func40 (by kernel_rfl) rfl #[.agg #[.int .i64 a0_0, .int .u64 a0_1], .int .i64 a2] (by rfl) rfl rfl argt ?_
        with_reducible refine (clamp_Clamp.calls k a0_0 a0_1 a2 t782 _ A6.out).mono ?_
        rintro e w55 ⟨rfl, hb⟩
        refine ⟨_, rfl, ?_⟩
        replace BK779 := blkb BK779 hb
        replace BK780 := blkb BK780 hb
        replace HB := belb HB hb
        (try clear hb)
        (try clear hb2)
        (try clear hk)
        (try clear hi)
        refine hK.out _ _ ⟨(blk_cell BK779.out 0).trans rfl, (blk_cell BK779.out 1).trans rfl, (blk_cell BK780.out 0).trans rfl, (blk_cell BK780.out 1).trans rfl⟩ (fun hHeld => ?_)
        clear hK K
        refine norm_ (a' := ?_) ?_ ?_
        rotate_left
        ·show Act.put _ (some 14) _ = _
         simp only [Act.put, List.setIfInBounds_toArray, List.set_cons_zero, List.set_cons_succ, i64_w, i32_w]
         rfl
        refine one_ (i := 5) (N := some 17) #[true, true, true, true, true, true, false, false] rfl rfl (one_of HT_.out (by kernel_rfl)) (by decide) (fun K hK => ?_)
        refine goes_ Tryz.func40 (by kernel_rfl) rfl #[.agg #[.int .i64 a1_0, .int .u64 a1_1], .int .i64 a2] (by rfl) rfl rfl argt ?_
        with_reducible refine (clamp_Clamp.calls k a1_0 a1_1 a2 t783 _ A7.out).mono ?_
        rintro e w56 ⟨rfl, hb⟩
        refine ⟨_, rfl, ?_⟩
        replace BK779 := blkb BK779 hb
        replace BK780 := blkb BK780 hb
        replace HB := belb HB hb
        (try clear hb)
        (try clear hb2)
        (try clear hk)
        (try clear hi)
        refine hK.out _ _ ⟨(blk_cell BK779.out 0).trans rfl, (blk_cell BK779.out 1).trans rfl, (blk_cell BK780.out 0).trans rfl, (blk_cell BK780.out 1).trans rfl⟩ (fun hHeld => ?_)
        clear hK K
        refine norm_ (a' := ?_) ?_ ?_
        rotate_left
        ·show Act.put _ (some 17) _ = _
         simp only [Act.put, List.setIfInBounds_toArray, List.set_cons_zero, List.set_cons_succ, i64_w, i32_w]
         rfl
        refine pure_ (i := 6) (N := some 7) (v := ?_) (a' := ?_) #[true, true, true, true, true, true, true, false] rfl rfl (any_of HT_.out (by kernel_rfl)) (fun _ _ _ h => h) (Or.inl ⟨by rfl, ?_⟩) ?_ ?_
        rotate_left
        ·intro w'
         go_simp
         with_reducible rfl
        rotate_left
        ·simp only [Act.put, List.setIfInBounds_toArray, List.set_cons_zero, List.set_cons_succ, i64_w, i32_w]
         rfl
        refine pure_ (i := 7) (N := some 8) (v := ?_) (a' := ?_) #[true, true, true, true, true, true, true, true] rfl rfl (any_of HT_.out (by kernel_rfl)) (fun _ _ _ h => h) (Or.inl ⟨by rfl, ?_⟩) ?_ ?_
        rotate_left
        ·intro w'
         go_simp
         with_reducible rfl
        rotate_left
        ·simp only [Act.put, List.setIfInBounds_toArray, List.set_cons_zero, List.set_cons_succ, i64_w, i32_w]
         rfl
        refine done_ (done_of HT_.out (by kernel_rfl)) ?_
        try go_wp2_with (first | (go_at_call 31; (with_reducible refine (wide_Of.calls t782 t784 t785 _ A11.out).mono ?_); rintro e w57 ⟨rfl, hb⟩; replace BK779 := blkb BK779 hb; replace BK780 := blkb BK780 hb; replace HB := belb HB hb; (try clear hb); (try clear hb2); (try clear hk); (try clear hi)) | (go_at_call 40; (with_reducible refine (clamp_Clamp.calls k t784 t785 a2 t786 _ A12.out).mono ?_); rintro e w58 ⟨rfl, hb⟩; replace BK779 := blkb BK779 hb; replace BK780 := blkb BK780 hb; replace HB := belb HB hb; (try clear hb); (try clear hb2); (try clear hk); (try clear hi); have hnb59 := NB779_780.out; have hnc59 := NB780_779.out; have hcz60_0 : w58.cell? ⟨gb779, 0, none⟩ = some (.int .i64 a0_0) := (blk_cell BK779.out 0).trans rfl; have hcz60_1 : w58.cell? ⟨gb779, 1, none⟩ = some (.int .u64 a0_1) := (blk_cell BK779.out 1).trans rfl; have hfz60_0 := blk_frozen BK779.out 0; have hfz60_1 := blk_frozen BK779.out 1; have hcz61_0 : w58.cell? ⟨gb780, 0, none⟩ = some (.int .i64 a1_0) := (blk_cell BK780.out 0).trans rfl; have hcz61_1 : w58.cell? ⟨gb780, 1, none⟩ = some (.int .u64 a1_1) := (blk_cell BK780.out 1).trans rfl; have hfz61_0 := blk_frozen BK780.out 0; have hfz61_1 := blk_frozen BK780.out 1) | (go_at_call 41; (with_reducible refine (wide_Int_Cmp.calls k a0_0 a0_1 a1_0 a1_1 t787 _ A14.out).mono ?_); rintro e w62 ⟨rfl, hb⟩; replace BK779 := blkb BK779 hb; replace BK780 := blkb BK780 hb; replace HB := belb HB hb; (try clear hb); (try clear hb2); (try clear hk); (try clear hi); have hcz63_0 : w62.cell? ⟨gb779, 0, none⟩ = some (.int .i64 a0_0) := (blk_cell BK779.out 0).trans rfl; have hcz63_1 : w62.cell? ⟨gb779, 1, none⟩ = some (.int .u64 a0_1) := (blk_cell BK779.out 1).trans rfl; have hfz63_0 := blk_frozen BK779.out 0; have hfz63_1 := blk_frozen BK779.out 1; have hcz64_0 : w62.cell? ⟨gb780, 0, none⟩ = some (.int .i64 a1_0) := (blk_cell BK780.out 0).trans rfl; have hcz64_1 : w62.cell? ⟨gb780, 1, none⟩ = some (.int .u64 a1_1) := (blk_cell BK780.out 1).trans rfl; have hfz64_0 := blk_frozen BK780.out 0; have hfz64_1 := blk_frozen BK780.out 1) | (go_at_call 41; (with_reducible refine (wide_Int_Cmp.calls k a0_0 a0_1 a1_0 a1_1 t787 _ A49.out).mono ?_); rintro e w65 ⟨rfl, hb⟩; replace BK779 := blkb BK779 hb; replace BK780 := blkb BK780 hb; replace HB := belb HB hb; (try clear hb); (try clear hb2); (try clear hk); (try clear hi)))
        go_ret
        exact ⟨by first | rfl | (simp [errW_none, errW_some] <;> rfl) | (simp only [← hji8]; first | rfl | (simp [errW_none, errW_some] <;> rfl)) | (simp [*, errW_none, errW_some] <;> rfl), belt HB⟩
       ·rw [if_neg c50] at H
        have c50b0 : decide (0 < t787) = false := decide_eq_false c50
        clear c50
        obtain rfl := Option.some.inj H
        go_enter Tryz.func12, Tryz.ntmps12
        try go_wp2_with (first | ((with_reducible refine gate_dst (N := 3) rfl ?_); refine box_event ?hg (N := 3) ?hd (cs := #[.int .i64 a0_0, .int .u64 a0_1]) (t := 31) ?hr ?_; (case hd => rfl); (case hg => rfl); (case hr => first | (go_simp; done) | (go_simp; rfl)); intro gb779 hg w66 hbox hb; have BK779 := Aside0.mk (hbox); have GW779 := bels HB hg; have GE779 := bels HB hg; replace HB := belb HB hb; clear hb hbox hg) | ((with_reducible refine gate_dst (N := 4) rfl ?_); refine box_event ?hg (N := 4) ?hd (cs := #[.int .i64 a1_0, .int .u64 a1_1]) (t := 31) ?hr ?_; (case hd => rfl); (case hg => rfl); (case hr => first | (go_simp; done) | (go_simp; rfl)); intro gb780 hg w67 hbox hb; have BK780 := Aside0.mk (hbox); have GW780 := bels HB hg; have GE780 := bels HB hg; have NB779_780 := blkl BK779 hg; have NB780_779 := blkg BK779 hg; replace BK779 := blkb BK779 hb; replace HB := belb HB hb; clear hb hbox hg) | ((with_reducible refine gate_callee (f := 38) rfl ?_); refine goesL_ (some 10) rfl rfl Tryz.func38 (by kernel_rfl) rfl #[] rfl argt ?_; (with_reducible refine (turnstonelaw12_awake.calls  true _ A4.out).mono ?_); rintro e w68 ⟨rfl, hb⟩; refine ⟨_, rfl, ?_⟩; replace BK779 := blkb BK779 hb; replace BK780 := blkb BK780 hb; replace HB := belb HB hb; (try clear hb); (try clear hb2); (try clear hk); (try clear hi)))
        replace BK779 := Aside0.mk (blk_drew BK779.out)
        replace BK780 := Aside0.mk (blk_drew BK780.out)
        replace HB := Aside0.mk (below_drew1 HB.out)
        refine start_ (n := 8) (S := fun w' => w'.cell? ⟨gb779, 0, none⟩ = some (.int .i64 a0_0) ∧ w'.cell? ⟨gb779, 1, none⟩ = some (.int .u64 a0_1) ∧ w'.cell? ⟨gb780, 0, none⟩ = some (.int .i64 a1_0) ∧ w'.cell? ⟨gb780, 1, none⟩ = some (.int .u64 a1_1)) (ds := []) #[false, false, false, false, false, false, false, false] (by kernel_rfl) rfl rfl ⟨(blk_cell BK779.out 0).trans rfl, (blk_cell BK779.out 1).trans rfl, (blk_cell BK780.out 0).trans rfl, (blk_cell BK780.out 1).trans rfl⟩ (fun hHeld => ?_); refine with_tabW turnstonelaw12_ClampOrders.tab3 turnstonelaw12_ClampOrders.bits3 (fun HT_ HW_ => ?_)
        generalize w68.drew = w69 at BK779 BK780 HB hHeld ⊢
        refine pure_ (i := 1) (N := some 13) (v := ?_) (a' := ?_) #[false, true, false, false, false, false, false, false] rfl rfl (any_of HT_.out (by kernel_rfl)) (fun _ _ _ h => h) (Or.inl ⟨by rfl, ?_⟩) ?_ ?_
        rotate_left
        ·intro w'
         go_simp
         with_reducible rfl
        rotate_left
        ·simp only [Act.put, List.setIfInBounds_toArray, List.set_cons_zero, List.set_cons_succ, i64_w, i32_w]
         rfl
        refine pure_ (i := 4) (N := some 16) (v := ?_) (a' := ?_) #[false, true, false, false, true, false, false, false] rfl rfl (any_of HT_.out (by kernel_rfl)) (fun _ _ _ h => h) (Or.inl ⟨by rfl, ?_⟩) ?_ ?_
        rotate_left
        ·intro w'
         go_simp
         with_reducible rfl
        rotate_left
        ·simp only [Act.put, List.setIfInBounds_toArray, List.set_cons_zero, List.set_cons_succ, i64_w, i32_w]
         rfl
        refine take_ (i := 0) (N := some 12) (v := ?_) (a' := ?_) #[true, true, false, false, true, false, false, false] rfl rfl (take_ofW HT_.out HW_.out (by kernel_rfl)) (fun _ _ _ h => h) (Or.inl ⟨by rfl, ?_⟩) hHeld ?_ ?_
        rotate_left
        ·rintro w' ⟨s0, s1, s2, s3⟩
         go_simp
         with_reducible rfl
        rotate_left
        ·simp only [Act.put, List.setIfInBounds_toArray, List.set_cons_zero, List.set_cons_succ, i64_w, i32_w]
         rfl
        refine take_ (i := 3) (N := some 15) (v := ?_) (a' := ?_) #[true, true, false, true, true, false, false, false] rfl rfl (take_ofW HT_.out HW_.out (by kernel_rfl)) (fun _ _ _ h => h) (Or.inl ⟨by rfl, ?_⟩) hHeld ?_ ?_
        rotate_left
        ·rintro w' ⟨s0, s1, s2, s3⟩
         go_simp
         with_reducible rfl
        rotate_left
        ·simp only [Act.put, List.setIfInBounds_toArray, List.set_cons_zero, List.set_cons_succ, i64_w, i32_w]
         rfl
        refine one_ (i := 2) (N := some 14) #[true, true, true, true, true, false, false, false] rfl rfl (one_of HT_.out (by kernel_rfl)) (by decide) (fun K hK => ?_)
        refine goes_ Tryz.func40 (by kernel_rfl) rfl #[.agg #[.int .i64 a0_0, .int .u64 a0_1], .int .i64 a2] (by rfl) rfl rfl argt ?_
        with_reducible refine (clamp_Clamp.calls k a0_0 a0_1 a2 t782 _ A6.out).mono ?_
        rintro e w70 ⟨rfl, hb⟩
        refine ⟨_, rfl, ?_⟩
        replace BK779 := blkb BK779 hb
        replace BK780 := blkb BK780 hb
        replace HB := belb HB hb
        (try clear hb)
        (try clear hb2)
        (try clear hk)
        (try clear hi)
        refine hK.out _ _ ⟨(blk_cell BK779.out 0).trans rfl, (blk_cell BK779.out 1).trans rfl, (blk_cell BK780.out 0).trans rfl, (blk_cell BK780.out 1).trans rfl⟩ (fun hHeld => ?_)
        clear hK K
        refine norm_ (a' := ?_) ?_ ?_
        rotate_left
        ·show Act.put _ (some 14) _ = _
         simp only [Act.put, List.setIfInBounds_toArray, List.set_cons_zero, List.set_cons_succ, i64_w, i32_w]
         rfl
        refine one_ (i := 5) (N := some 17) #[true, true, true, true, true, true, false, false] rfl rfl (one_of HT_.out (by kernel_rfl)) (by decide) (fun K hK => ?_)
        refine goes_ Tryz.func40 (by kernel_rfl) rfl #[.agg #[.int .i64 a1_0, .int .u64 a1_1], .int .i64 a2] (by rfl) rfl rfl argt ?_
        with_reducible refine (clamp_Clamp.calls k a1_0 a1_1 a2 t783 _ A7.out).mono ?_
        rintro e w71 ⟨rfl, hb⟩
        refine ⟨_, rfl, ?_⟩
        replace BK779 := blkb BK779 hb
        replace BK780 := blkb BK780 hb
        replace HB := belb HB hb
        (try clear hb)
        (try clear hb2)
        (try clear hk)
        (try clear hi)
        refine hK.out _ _ ⟨(blk_cell BK779.out 0).trans rfl, (blk_cell BK779.out 1).trans rfl, (blk_cell BK780.out 0).trans rfl, (blk_cell BK780.out 1).trans rfl⟩ (fun hHeld => ?_)
        clear hK K
        refine norm_ (a' := ?_) ?_ ?_
        rotate_left
        ·show Act.put _ (some 17) _ = _
         simp only [Act.put, List.setIfInBounds_toArray, List.set_cons_zero, List.set_cons_succ, i64_w, i32_w]
         rfl
        refine pure_ (i := 6) (N := some 7) (v := ?_) (a' := ?_) #[true, true, true, true, true, true, true, false] rfl rfl (any_of HT_.out (by kernel_rfl)) (fun _ _ _ h => h) (Or.inl ⟨by rfl, ?_⟩) ?_ ?_
        rotate_left
        ·intro w'
         go_simp
         with_reducible rfl
        rotate_left
        ·simp only [Act.put, List.setIfInBounds_toArray, List.set_cons_zero, List.set_cons_succ, i64_w, i32_w]
         rfl
        refine pure_ (i := 7) (N := some 8) (v := ?_) (a' := ?_) #[true, true, true, true, true, true, true, true] rfl rfl (any_of HT_.out (by kernel_rfl)) (fun _ _ _ h => h) (Or.inl ⟨by rfl, ?_⟩) ?_ ?_
        rotate_left
        ·intro w'
         go_simp
         with_reducible rfl
        rotate_left
        ·simp only [Act.put, List.setIfInBounds_toArray, List.set_cons_zero, List.set_cons_succ, i64_w, i32_w]
         rfl
        refine done_ (done_of HT_.out (by kernel_rfl)) ?_
        try go_wp2_with (first | (go_at_call 31; (with_reducible refine (wide_Of.calls t782 t784 t785 _ A11.out).mono ?_); rintro e w72 ⟨rfl, hb⟩; replace BK779 := blkb BK779 hb; replace BK780 := blkb BK780 hb; replace HB := belb HB hb; (try clear hb); (try clear hb2); (try clear hk); (try clear hi)) | (go_at_call 40; (with_reducible refine (clamp_Clamp.calls k t784 t785 a2 t786 _ A12.out).mono ?_); rintro e w73 ⟨rfl, hb⟩; replace BK779 := blkb BK779 hb; replace BK780 := blkb BK780 hb; replace HB := belb HB hb; (try clear hb); (try clear hb2); (try clear hk); (try clear hi); have hnb74 := NB779_780.out; have hnc74 := NB780_779.out; have hcz75_0 : w73.cell? ⟨gb779, 0, none⟩ = some (.int .i64 a0_0) := (blk_cell BK779.out 0).trans rfl; have hcz75_1 : w73.cell? ⟨gb779, 1, none⟩ = some (.int .u64 a0_1) := (blk_cell BK779.out 1).trans rfl; have hfz75_0 := blk_frozen BK779.out 0; have hfz75_1 := blk_frozen BK779.out 1; have hcz76_0 : w73.cell? ⟨gb780, 0, none⟩ = some (.int .i64 a1_0) := (blk_cell BK780.out 0).trans rfl; have hcz76_1 : w73.cell? ⟨gb780, 1, none⟩ = some (.int .u64 a1_1) := (blk_cell BK780.out 1).trans rfl; have hfz76_0 := blk_frozen BK780.out 0; have hfz76_1 := blk_frozen BK780.out 1) | (go_at_call 41; (with_reducible refine (wide_Int_Cmp.calls k a0_0 a0_1 a1_0 a1_1 t787 _ A14.out).mono ?_); rintro e w77 ⟨rfl, hb⟩; replace BK779 := blkb BK779 hb; replace BK780 := blkb BK780 hb; replace HB := belb HB hb; (try clear hb); (try clear hb2); (try clear hk); (try clear hi); have hcz78_0 : w77.cell? ⟨gb779, 0, none⟩ = some (.int .i64 a0_0) := (blk_cell BK779.out 0).trans rfl; have hcz78_1 : w77.cell? ⟨gb779, 1, none⟩ = some (.int .u64 a0_1) := (blk_cell BK779.out 1).trans rfl; have hfz78_0 := blk_frozen BK779.out 0; have hfz78_1 := blk_frozen BK779.out 1; have hcz79_0 : w77.cell? ⟨gb780, 0, none⟩ = some (.int .i64 a1_0) := (blk_cell BK780.out 0).trans rfl; have hcz79_1 : w77.cell? ⟨gb780, 1, none⟩ = some (.int .u64 a1_1) := (blk_cell BK780.out 1).trans rfl; have hfz79_0 := blk_frozen BK780.out 0; have hfz79_1 := blk_frozen BK780.out 1) | (go_at_call 41; (with_reducible refine (wide_Int_Cmp.calls k a0_0 a0_1 a1_0 a1_1 t787 _ A49.out).mono ?_); rintro e w80 ⟨rfl, hb⟩; replace BK779 := blkb BK779 hb; replace BK780 := blkb BK780 hb; replace HB := belb HB hb; (try clear hb); (try clear hb2); (try clear hk); (try clear hi)))
        go_ret
        exact ⟨by first | rfl | (simp [errW_none, errW_some] <;> rfl) | (simp only [← hji8]; first | rfl | (simp [errW_none, errW_some] <;> rfl)) | (simp [*, errW_none, errW_some] <;> rfl), belt HB⟩
      ·rw [if_neg c48] at H
       exact absurd H (by simp)
    ·rw [if_neg c13] at H
     exact absurd H (by simp)
   ·rw [if_neg c10] at H
    exact absurd H (by simp)
  ·rw [if_neg c9] at H
   exact absurd H (by simp)
 ·replace c5 := Bool.eq_false_iff.mpr c5
  subst c5
  have H1 : (none) = some r := by rw [if_neg (show ¬ (false = true) by decide)] at H; exact H
  clear H
  have H := H1
  clear H1
  exact absurd H (by simp)

/-- THE ONE PURE STATEMENT of turnstonelaw12_ClampOrders. -/
def turnstonelaw12_ClampOrders.Pure : Prop := ∀ (a0_0 : Int) (a0_1 : Int) (a1_0 : Int) (a1_1 : Int) (a2 : Int), (Lit.int .i64 a0_0).wf = true → (Lit.int .u64 a0_1).wf = true → (Lit.int .i64 a1_0).wf = true → (Lit.int .u64 a1_1).wf = true → (Lit.int .i64 a2).wf = true → ∃ k, turnstonelaw12_ClampOrders.f k a0_0 a0_1 a1_0 a1_1 a2 = some true
theorem turnstonelaw12_ClampOrders.walk (P : turnstonelaw12_ClampOrders.Pure) (a0_0 : Int) (a0_1 : Int) (a1_0 : Int) (a1_1 : Int) (a2 : Int) (w : World) (w0_0 : (Lit.int .i64 a0_0).wf = true) (w0_1 : (Lit.int .u64 a0_1).wf = true) (w1_0 : (Lit.int .i64 a1_0).wf = true) (w1_1 : (Lit.int .u64 a1_1).wf = true) (w2 : (Lit.int .i64 a2).wf = true) :
  Calls Tryz.prog 12 #[.agg #[.int .i64 a0_0, .int .u64 a0_1], .agg #[.int .i64 a1_0, .int .u64 a1_1], .int .i64 a2] w fun e w' => e = .returned (.bool true) ∧ Below w.heap.size w w' := by
 obtain ⟨k, h⟩ := P a0_0 a0_1 a1_0 a1_1 a2 w0_0 w0_1 w1_0 w1_1 w2
 refine (turnstonelaw12_ClampOrders.calls k a0_0 a0_1 a1_0 a1_1 a2 true w h).mono ?_
 rintro e w' ⟨rfl, hd⟩
 exact ⟨rfl, hd⟩

end Go.Proofs.YtfbkamgdkdnpoaaGreatDoor.Print
