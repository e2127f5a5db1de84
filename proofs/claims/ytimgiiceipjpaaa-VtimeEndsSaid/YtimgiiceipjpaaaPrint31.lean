/- What each Go function that is named below answers, as a Lean function, and that its walk comes to just that: for whatever arguments that function gives an answer for. Written by a program of this session (wip/mkpr.py, pr.sh). -/
import Derived.Test.YtimgiiceipjpaaaPrint0
import Derived.Test.YtimgiiceipjpaaaPrint8
import Derived.Test.YtimgiiceipjpaaaPrint9
import Derived.Test.YtimgiiceipjpaaaPrint29
import Derived.Test.YtimgiiceipjpaaaPrint30
namespace Go.Proofs.Ytimgiiceipjpaaa.Print
open Go.RowKit Go.Proofs.YtimgiiceipjpaaaW.PrintWords Go.Proofs.YtimgiiceipjpaaaW.PrintLast Go.Proofs.YtimgiiceipjpaaaW.PrintMore
attribute [local go_sem] max2_int min2_int max_two min_two max_three min_three max_four min_four   -- for this text's walks alone
open Go.Proofs.Ytimgiiceipjpaaa.Bits Go.Proofs.Ytimgiiceipjpaaa.Short
attribute [local go_sem] add64_run0 sub64_run0 add64_run sub64_run
set_option linter.unusedVariables false
set_option linter.unusedSimpArgs false

/-! ### turnstonelaw03_VtimeEnds: function 4 -/
mutual
def turnstonelaw03_VtimeEnds.j0 : Nat → List Int → Bool → Option (Bool)
 | 0, _, _ => none
 | k + 1, x0, x15 => if x15 = true then ((vtime_Spread.f k ([] : List Int)).bind fun t587 => (some (t587 == 0))) else (if 1 ≤ (x0.length : Int) then (turnstonelaw03_VtimeEnds.l0 k x0 ([] : List Int) (x0.drop 1) ((x0.drop 1).length : Int) 0) else (none))
def turnstonelaw03_VtimeEnds.l0 : Nat → List Int → List Int → List Int → Int → Int → Option (Bool)
 | 0, _, _, _, _, _ => none
 | k + 1, x0, x3, x19, x20, x21 => if x21 < x20 then (if 0 ≤ x21 then (if x21 < (x19.length : Int) then (if x3.length < 17592186044416 then (turnstonelaw03_VtimeEnds.l0 k x0 (x3 ++ [rd x19 x21]) x19 x20 (wrap64 (x21 + 1))) else (none)) else (none)) else (none)) else (if 0 < (x0.length : Int) then ((vtime_First.f k (rd x0 0) x3).bind fun t594 => ((turnstoneref03_First.f k x0).bind fun t595 => (if t594 = t595 then ((vtime_Last.f k (rd x0 0) x3).bind fun t597 => ((turnstoneref03_Last.f k x0).bind fun t598 => (some (t597 == t598)))) else (none)))) else (none))
end
def turnstonelaw03_VtimeEnds.f (k : Nat) (l0 : List Int) : Option (Bool) := (turnstonelaw03_awake.f k).bind fun t586 => (if t586 = true then (if (l0.length : Int) > 100 then (turnstonelaw03_VtimeEnds.j0 k l0 true) else (turnstonelaw03_VtimeEnds.j0 k l0 ((l0.length : Int) == 0))) else (none))
theorem turnstonelaw03_VtimeEnds.mono_l : ∀ k, (∀ y0 y1, LeO (turnstonelaw03_VtimeEnds.j0 k y0 y1) (turnstonelaw03_VtimeEnds.j0 (k + 1) y0 y1)) ∧ (∀ y0 y1 y2 y3 y4, LeO (turnstonelaw03_VtimeEnds.l0 k y0 y1 y2 y3 y4) (turnstonelaw03_VtimeEnds.l0 (k + 1) y0 y1 y2 y3 y4))
 | 0 => ⟨fun _ _ r h => by simp [turnstonelaw03_VtimeEnds.j0] at h, fun _ _ _ _ _ r h => by simp [turnstonelaw03_VtimeEnds.l0] at h⟩
 | k + 1 => by
  obtain ⟨ih0, ih1⟩ := turnstonelaw03_VtimeEnds.mono_l k
  refine ⟨?_, ?_⟩
  ·intro y0 y1
   unfold turnstonelaw03_VtimeEnds.j0
   repeat' first
   | (with_reducible exact ih0 _ _)
   | (with_reducible exact ih1 _ _ _ _ _)
   | (with_reducible exact turnstonelaw03_awake.mono _)
   | (with_reducible exact turnstoneref03_First.mono _ _)
   | (with_reducible exact turnstoneref03_Last.mono _ _)
   | (with_reducible exact vtime_First.mono _ _ _)
   | (with_reducible exact vtime_Last.mono _ _ _)
   | (with_reducible exact vtime_Spread.mono _ _)
   | (with_reducible exact LeO.refl _)
   | (with_reducible exact LeO.none _)
   | (with_reducible refine LeO.ite ?_ ?_)
   | (with_reducible refine LeO.bind ?_ (fun _ => ?_))
   | exact ih0 _ _
   | exact ih1 _ _ _ _ _
   | exact turnstonelaw03_awake.mono _
   | exact turnstoneref03_First.mono _ _
   | exact turnstoneref03_Last.mono _ _
   | exact vtime_First.mono _ _ _
   | exact vtime_Last.mono _ _ _
   | exact vtime_Spread.mono _ _
   | exact LeO.none _
   | refine LeO.ite ?_ ?_
   | refine LeO.bind ?_ (fun _ => ?_)
  ·intro y0 y1 y2 y3 y4
   unfold turnstonelaw03_VtimeEnds.l0
   repeat' first
   | (with_reducible exact ih0 _ _)
   | (with_reducible exact ih1 _ _ _ _ _)
   | (with_reducible exact turnstonelaw03_awake.mono _)
   | (with_reducible exact turnstoneref03_First.mono _ _)
   | (with_reducible exact turnstoneref03_Last.mono _ _)
   | (with_reducible exact vtime_First.mono _ _ _)
   | (with_reducible exact vtime_Last.mono _ _ _)
   | (with_reducible exact vtime_Spread.mono _ _)
   | (with_reducible exact LeO.refl _)
   | (with_reducible exact LeO.none _)
   | (with_reducible refine LeO.ite ?_ ?_)
   | (with_reducible refine LeO.bind ?_ (fun _ => ?_))
   | exact ih0 _ _
   | exact ih1 _ _ _ _ _
   | exact turnstonelaw03_awake.mono _
   | exact turnstoneref03_First.mono _ _
   | exact turnstoneref03_Last.mono _ _
   | exact vtime_First.mono _ _ _
   | exact vtime_Last.mono _ _ _
   | exact vtime_Spread.mono _ _
   | exact LeO.none _
   | refine LeO.ite ?_ ?_
   | refine LeO.bind ?_ (fun _ => ?_)
theorem turnstonelaw03_VtimeEnds.mono : ∀ a0 k, LeO (turnstonelaw03_VtimeEnds.f k a0) (turnstonelaw03_VtimeEnds.f (k + 1) a0) := by
 intro a0 k
 obtain ⟨ih0, ih1⟩ := turnstonelaw03_VtimeEnds.mono_l k
 unfold turnstonelaw03_VtimeEnds.f
 repeat' first
   | (with_reducible exact ih0 _ _)
   | (with_reducible exact ih1 _ _ _ _ _)
   | (with_reducible exact turnstonelaw03_awake.mono _)
   | (with_reducible exact turnstoneref03_First.mono _ _)
   | (with_reducible exact turnstoneref03_Last.mono _ _)
   | (with_reducible exact vtime_First.mono _ _ _)
   | (with_reducible exact vtime_Last.mono _ _ _)
   | (with_reducible exact vtime_Spread.mono _ _)
   | (with_reducible exact LeO.refl _)
   | (with_reducible exact LeO.none _)
   | (with_reducible refine LeO.ite ?_ ?_)
   | (with_reducible refine LeO.bind ?_ (fun _ => ?_))
   | exact ih0 _ _
   | exact ih1 _ _ _ _ _
   | exact turnstonelaw03_awake.mono _
   | exact turnstoneref03_First.mono _ _
   | exact turnstoneref03_Last.mono _ _
   | exact vtime_First.mono _ _ _
   | exact vtime_Last.mono _ _ _
   | exact vtime_Spread.mono _ _
   | exact LeO.none _
   | refine LeO.ite ?_ ?_
   | refine LeO.bind ?_ (fun _ => ?_)
set_option maxHeartbeats 8000000 in
set_option maxRecDepth 100000 in
theorem turnstonelaw03_VtimeEnds.calls (k : Nat) (A0 : Option Addr) (c0 : Nat) (l0 : List Int) (r : Bool) (w : World) (hr0 : Kd.C (Kd.int .u64) w A0 l0.length l0) (hc0 : l0.length ≤ c0) (h : turnstonelaw03_VtimeEnds.f k l0 = some r) :
  Calls Try.prog 4 #[.slice A0 l0.length c0] w fun e w' => e = .returned (.bool r) ∧ Below w.heap.size w w' := by
 have HR0 := Aside0.mk hr0
 have HC0 := Aside0.mk hc0
 clear hr0 hc0
 have HB := Aside0.mk (Below.refl w.heap.size w)
 have H : ((turnstonelaw03_awake.f k).bind fun t586 => (if t586 = true then (if (l0.length : Int) > 100 then (turnstonelaw03_VtimeEnds.j0 k l0 true) else (turnstonelaw03_VtimeEnds.j0 k l0 ((l0.length : Int) == 0))) else (none))) = some r := h
 clear h
 replace H := Option.bind_eq_some_iff.mp H
 obtain ⟨t586, A20, H⟩ := H
 replace H : (if t586 = true then (if (l0.length : Int) > 100 then (turnstonelaw03_VtimeEnds.j0 k l0 true) else (turnstonelaw03_VtimeEnds.j0 k l0 ((l0.length : Int) == 0))) else (none)) = some r := H
 have A2 := Aside0.mk A20
 clear A20
 by_cases c3 : t586 = true
 ·subst c3
  have H1 : (if (l0.length : Int) > 100 then (turnstonelaw03_VtimeEnds.j0 k l0 true) else (turnstonelaw03_VtimeEnds.j0 k l0 ((l0.length : Int) == 0))) = some r := by rw [if_pos rfl] at H; exact H
  clear H
  have H := H1
  clear H1
  have HC4 := Aside0.mk H
  clear H
  go_enter Try.func4, Try.ntmps4
  go_upto_region 3 with (first | ((with_reducible refine gate_callee (f := 17) rfl ?_); refine goesL_ (some 6) rfl rfl Try.func17 (by kernel_rfl) rfl #[] rfl argt ?_; (with_reducible refine (turnstonelaw03_awake.calls k  true _ A2.out).mono ?_); rintro e w5 ⟨rfl, hb⟩; refine ⟨_, rfl, ?_⟩; have n0_ := belb HB hb; clear HB; have HB := n0_; clear n0_; (try clear hb); (try clear hb2); (try clear hk); (try clear hi)))
  (try simp only [Act.put, List.setIfInBounds_toArray, List.set_cons_zero, List.set_cons_succ])
  go_cut [15] (fun v15 wc => ∃ (kq : Nat) (x15_3 : Bool), v15 = .bool x15_3 ∧ Aside0 (turnstonelaw03_VtimeEnds.j0 kq l0 x15_3 = some r) ∧ Aside0 (kq ≤ k) ∧ Aside0 (Below w.heap.size w wc))
  case first =>
   have H := HC4.out
   clear HC4
   by_cases c6 : (l0.length : Int) > 100
   ·rw [if_pos c6] at H
    have c6b0 : decide (100 < (l0.length : Int)) = true := decide_eq_true c6
    have c6b1 : decide (100 < l0.length) = true := decide_eq_true (by omega)
    clear c6
    (first | rw [c6b0] | (simp only [i64_w, i32_w]; rw [c6b0]) | skip)
    have H' := Aside0.mk H
    clear H
    go_wp2
    go_meet
    case rel => exact ⟨_, (true), (by first | rfl | (simp; done) | (simp [*]; done)), H', ⟨by first | omega | exact Nat.le_refl _⟩, ⟨by repeat (first | (with_reducible first | exact HB.out | apply below_alloc | apply pw_below_drewN | apply below_drew1) | exact HB.out)⟩⟩
   ·rw [if_neg c6] at H
    have c6b0 : decide (100 < (l0.length : Int)) = false := decide_eq_false c6
    have c6b1 : decide (100 < l0.length) = false := decide_eq_false (by omega)
    clear c6
    (first | rw [c6b0] | (simp only [i64_w, i32_w]; rw [c6b0]) | skip)
    have H' := Aside0.mk H
    clear H
    go_wp2
    go_meet
    case rel => exact ⟨_, (((l0.length : Int) == 0)), (by first | rfl | (simp; done) | (simp [*]; done)), H', ⟨by first | omega | exact Nat.le_refl _⟩, ⟨by repeat (first | (with_reducible first | exact HB.out | apply below_alloc | apply pw_below_drewN | apply below_drew1) | exact HB.out)⟩⟩
  case rest =>
   clear HC4
   try clear c1
   try clear p2
   try clear c3
   try clear c4
   try clear c6
   try clear c6b0
   try clear c6b1
   obtain ⟨kq, x15_3, rfl, HA, HJ3, HB⟩ := hcut
   cases kq with
   | zero => exact absurd HA.out (by simp [turnstonelaw03_VtimeEnds.j0])
   | succ kj3 =>
    have H := HA.out
    clear HA
    simp only [turnstonelaw03_VtimeEnds.j0] at H
    by_cases c7 : x15_3 = true
    ·subst c7
     have H1 : ((vtime_Spread.f kj3 ([] : List Int)).bind fun t587 => (some (t587 == 0))) = some r := by rw [if_pos rfl] at H; exact H
     clear H
     have H := H1
     clear H1
     replace H := Option.bind_eq_some_iff.mp H
     obtain ⟨t587, A80, H⟩ := H
     replace H : (some (t587 == 0)) = some r := H
     have A8 := Aside0.mk A80
     clear A80
     obtain rfl := Option.some.inj H
     go_wp2_with (first | ((with_reducible refine gate_callee (f := 28) rfl ?_); refine goesL_ (some 16) rfl rfl Try.func28 (by kernel_rfl) rfl #[.slice none 0 0] rfl argt ?_; (refine (vtime_Spread.calls kj3 _ _ ([] : List Int) t587 _ ?side1 ?side2 A8.out).mono ?_); (case side1 => exact Kd.C_nil _ _); (case side2 => exact Nat.le_refl _); rintro e w' ⟨rfl, ⟨nd, rfl⟩⟩; refine ⟨_, rfl, ?_⟩))
     go_ret
     exact ⟨by first | rfl | (simp [errW_none, errW_some] <;> rfl) | (simp [*, errW_none, errW_some] <;> rfl), by repeat (first | (with_reducible first | exact HB.out | apply below_alloc | apply pw_below_drewN | apply below_drew1) | exact HB.out)⟩
    ·replace c7 := Bool.eq_false_iff.mpr c7
     subst c7
     have H1 : (if 1 ≤ (l0.length : Int) then (turnstonelaw03_VtimeEnds.l0 kj3 l0 ([] : List Int) (l0.drop 1) ((l0.drop 1).length : Int) 0) else (none)) = some r := by rw [if_neg (show ¬ (false = true) by decide)] at H; exact H
     clear H
     have H := H1
     clear H1
     by_cases c9 : 1 ≤ (l0.length : Int)
     ·rw [if_pos c9] at H
      have c9b0 := eq_true c9
      have c9b1 : decide (1 ≤ (l0.length : Int)) = true := decide_eq_true c9
      clear c9
      have H' := Aside0.mk H
      clear H
      obtain ⟨i010, hi010, _, hsz10, _⟩ := info_parts info22
      obtain ⟨A10, hcut10, hA10, hC10⟩ := print_drop_of (P := Try.prog) (Value.int .u64) 0 39 22 .i64 Try.underlying39 hi010 hsz10 A0 c0 l0 1 (by omega) (of_decide_eq_true (by first | (with_reducible assumption) | assumption)) HC0.out
      have HR588 := Aside0.mk (Kd.C_of_reads (h1 := fun _ => rfl) (hA10 _ (Kd.reads_of_C HR0.out)))
      have HC588 := Aside0.mk hC10
      clear hA10 hC10 hi010 hsz10
      obtain ⟨ly, hly⟩ : ∃ y, y = l0.drop 1 := ⟨_, rfl⟩
      have hlen0 : ly.length = l0.length - 1 := by rw [hly, List.length_drop]
      replace HR588 := HR588.out
      rw [show Int.toNat 1 = 1 from rfl, ← hly] at HR588
      replace HR588 := Aside0.mk HR588
      replace H' := H'.out
      rw [← hly, hlen0] at H'
      replace H' := Aside0.mk H'
      have hlen := Aside0.mk hlen0
      clear hlen0
      replace hly := Aside0.mk hly
      go_wp2
      (try simp only [Act.put, List.setIfInBounds_toArray, List.set_cons_zero, List.set_cons_succ])
      go_loopg [3, 21] kj3 (fun kq v3 v21 w' => ∃ (x3_2 : List Int) (x21_2 : Int), v21 = .int .i64 x21_2 ∧ Aside0 (turnstonelaw03_VtimeEnds.l0 kq l0 x3_2 ly ((l0.length - 1 : Nat) : Int) x21_2 = some r) ∧ Aside0 (kq ≤ kj3) ∧ Aside0 (Kd.R (Kd.int .u64) 24 w' w.heap.size (fun _ => True) v3 x3_2) ∧ Aside0 (Below w.heap.size w w'))
      case atStart => exact ⟨(([] : List Int)), (0), (by first | rfl | (simp; done) | (simp [*]; done)), H', ⟨Nat.le_refl _⟩, ⟨by first | exact Kd.R_nil _ _ _ _ _ | exact Kd.N_nil _ _ _ _ _ | exact Kd.V_nil _ _ _ _ _ | exact Kd.Q_nil _ _ _ _ _ | exact Kd.S_nil _ _ _ _ _⟩, ⟨by repeat (first | (with_reducible first | exact HB.out | apply below_alloc | apply pw_below_drewN | apply below_drew1) | exact HB.out)⟩⟩
      case round =>
       clear H'
       try clear c1
       try clear c2
       try clear p2
       try clear c3
       try clear c4
       try clear c6
       try clear c6b0
       try clear c6b1
       try clear c7
       try clear c9
       try clear c9b0
       try clear c9b1
       try clear p2
       obtain ⟨x3_2, x21_2, rfl, HA, HK2, HO_3, HB⟩ := hrel
       cases gk with
       | zero => exact absurd HA.out (by simp [turnstonelaw03_VtimeEnds.l0])
       | succ k2 =>
        have H := HA.out
        clear HA
        simp only [turnstonelaw03_VtimeEnds.l0] at H
        rw [hlen.out] at H
        by_cases c11 : x21_2 < ((l0.length - 1 : Nat) : Int)
        ·rw [if_pos c11] at H
         have c11b0 : decide (x21_2 < ((l0.length - 1 : Nat) : Int)) = true := decide_eq_true c11
         clear c11
         by_cases c12 : 0 ≤ x21_2
         ·rw [if_pos c12] at H
          have c12b0 : decide (0 ≤ x21_2) = true := decide_eq_true c12
          clear c12
          by_cases c13 : x21_2 < ((l0.length - 1 : Nat) : Int)
          ·rw [if_pos c13] at H
           have c13b0 : decide (x21_2 < ((l0.length - 1 : Nat) : Int)) = true := decide_eq_true c13
           clear c13
           by_cases c14 : x3_2.length < 17592186044416
           ·rw [if_pos c14] at H
            have LMc14 := Aside0.mk c14
            clear c14
            obtain ⟨y590, hy590⟩ : ∃ y_ : List Int, y_ = (x3_2 ++ [rd ly x21_2]) := ⟨_, rfl⟩
            replace H : (turnstonelaw03_VtimeEnds.l0 k2 l0 y590 ly ((l0.length - 1 : Nat) : Int) (wrap64 (x21_2 + 1))) = some r := by first | (rw [hy590]; with_reducible exact H) | (have H2_ := (Option.bind_some _ _).symm.trans H; rw [hy590]; with_reducible exact H2_) | (have H2_ := (Option.bind_some _ _).symm.trans H; with_reducible exact H2_) | with_reducible exact H | (rw [hy590]; exact H) | exact H
            have Ny590 := Aside0.mk hy590
            clear hy590
            have H' := Aside0.mk H
            clear H
            have p589 : 0 ≤ (x21_2 : Int) := of_decide_eq_true (by first | (with_reducible assumption) | assumption)
            have q589 : x21_2 < ((l0.length - 1 : Nat) : Int) := of_decide_eq_true (by first | (with_reducible assumption) | assumption)
            obtain ⟨ad589, e589, hx589_0⟩ := Kd.at_int HR588.out x21_2 p589 (by rw [hlen.out]; exact q589)
            cases e589
            replace hx589_0 := (HB.out.cell (World.block_lt_of_cell? w _ hx589_0)).trans hx589_0
            replace p589 := eq_true p589
            replace q589 := eq_true q589
            go_wp2_with (first | ((with_reducible refine gate_builtin (b := .append) (xs := #[.tmp 25, .tmp 27]) rfl ?_); (try (refine gate_guard (by rfl) ?_; dsimp only)); at_builtin; refine Kd.R_append (Kd.int .u64) (w0 := w) w.heap.size rfl (.tmp 25) (.tmp 27) 41 24 (.int .u64 0) 8 rfl Try.underlying41 info24 rfl (by decide) (by omega) u3 x3_2 (rd ly x21_2) [.int .u64 (rd ly x21_2)] (fun _ => True) (fun _ => False) rfl rfl ?aP (fun _ hk => hk.elim) ?aF ?aO ?aB ?aS ?aL ?_; (case aP => exact rfl); (case aB => exact (belt HB)); (case aF => exact (fun _ _ => trivial)); (case aO => exact (rt HO_3)); (case aS => exact (below_size (belt HB))); (case aL => have := LMc14.out; omega); intro v591 w15 ho hb hg hat; rw [← Ny590.out] at ho; have n0_ := Aside0.mk (hb); have n1_ := Aside0.mk (ho); clear HB; clear HO_3; have HB := n0_; have HO592 := n1_; clear n0_ n1_; clear ho hb hg hat))
            go_roundg k2
            case measure => have := HJ3.out; have := HK2.out; omega
            case rel => exact ⟨(y590), (wrap64 (x21_2 + 1)), (by first | rfl | (simp; done) | (simp [*]; done)), H', ⟨by have := HJ3.out; have := HK2.out; omega⟩, ⟨by (with_reducible repeat (first | apply Kd.R_alloc | apply Kd.R_drewN | apply Kd.R_drew)); exact HO592.out⟩, ⟨by repeat (first | (with_reducible first | exact HB.out | apply below_alloc | apply pw_below_drewN | apply below_drew1) | exact HB.out)⟩⟩
           ·rw [if_neg c14] at H
            exact absurd H (by simp)
          ·rw [if_neg c13] at H
           exact absurd H (by simp)
         ·rw [if_neg c12] at H
          exact absurd H (by simp)
        ·rw [if_neg c11] at H
         have c11b0 : decide (x21_2 < ((l0.length - 1 : Nat) : Int)) = false := decide_eq_false c11
         clear c11
         by_cases c16 : 0 < (l0.length : Int)
         ·rw [if_pos c16] at H
          have c16b0 : decide (0 < (l0.length : Int)) = true := decide_eq_true c16
          have c16b1 : decide (0 < l0.length) = true := decide_eq_true (by omega)
          clear c16
          replace H := Option.bind_eq_some_iff.mp H
          obtain ⟨t594, A170, H⟩ := H
          replace H : ((turnstoneref03_First.f k2 l0).bind fun t595 => (if t594 = t595 then ((vtime_Last.f k2 (rd l0 0) x3_2).bind fun t597 => ((turnstoneref03_Last.f k2 l0).bind fun t598 => (some (t597 == t598)))) else (none))) = some r := H
          have A17 := Aside0.mk A170
          clear A170
          replace H := Option.bind_eq_some_iff.mp H
          obtain ⟨t595, A180, H⟩ := H
          replace H : (if t594 = t595 then ((vtime_Last.f k2 (rd l0 0) x3_2).bind fun t597 => ((turnstoneref03_Last.f k2 l0).bind fun t598 => (some (t597 == t598)))) else (none)) = some r := H
          have A18 := Aside0.mk A180
          clear A180
          by_cases c19 : t594 = t595
          ·rw [if_pos c19] at H
           have c19b0 : (t594 == t595) = true := beq_iff_eq.mpr c19
           have c19b1 : (t594 != t595) = false := bne_eq_false_iff_eq.mpr c19
           clear c19
           replace H := Option.bind_eq_some_iff.mp H
           obtain ⟨t597, A200, H⟩ := H
           replace H : ((turnstoneref03_Last.f k2 l0).bind fun t598 => (some (t597 == t598))) = some r := H
           have A20 := Aside0.mk A200
           clear A200
           replace H := Option.bind_eq_some_iff.mp H
           obtain ⟨t598, A210, H⟩ := H
           replace H : (some (t597 == t598)) = some r := H
           have A21 := Aside0.mk A210
           clear A210
           obtain rfl := Option.some.inj H
           have p593 : 0 ≤ (0 : Int) := (by omega)
           have q593 : 0 < (l0.length : Int) := of_decide_eq_true (by first | (with_reducible assumption) | assumption)
           obtain ⟨ad593, e593, hx593_0⟩ := Kd.at_int HR0.out 0 p593 q593
           cases e593
           have qi593 : (0 < l0.length) = True := eq_true (by omega)
           (try rw [show ((0 : Int)).toNat = 0 from rfl] at hx593_0)
           (try rw [Addr.add_zero'] at hx593_0)
           replace hx593_0 := (HB.out.cell (World.block_lt_of_cell? w _ hx593_0)).trans hx593_0
           replace p593 := eq_true p593
           replace q593 := eq_true q593
           obtain ⟨Ao22, co22, eo22⟩ := Kd.R_slice HO_3.out
           subst eo22
           go_wp2_with (first | ((with_reducible refine gate_callee (f := 29) rfl ?_); refine goesL_ (some 34) rfl rfl Try.func29 (by kernel_rfl) rfl #[.int .u64 (rd l0 0), .slice Ao22 x3_2.length co22] rfl argt ?_; (with_reducible refine (vtime_First.calls k2 (rd l0 0) _ _ x3_2 t594 _ ?side1 ?side2 A17.out).mono ?_); (case side1 => repeat (first | exact (Kd.R_reads' HO_3.out).2.2 | (with_reducible refine Kd.C_alloc ?_ _) | (with_reducible refine Kd.C_drewN ?_ _) | (with_reducible refine Kd.C_drew ?_))); (case side2 => exact (Kd.R_reads' HO_3.out).2.1); rintro e w' ⟨rfl, ⟨nd, rfl⟩⟩; refine ⟨_, rfl, ?_⟩) | ((with_reducible refine gate_callee (f := 30) rfl ?_); refine goesL_ (some 36) rfl rfl Try.func30 (by kernel_rfl) rfl #[.slice (some ad593) l0.length c0] rfl argt ?_; (with_reducible refine (turnstoneref03_First.calls k2 _ _ l0 t595 _ ?side1 ?side2 A18.out).mono ?_); (case side1 => repeat (first | exact (Kd.C_below HR0.out (belt HB)) | (with_reducible refine Kd.C_alloc ?_ _) | (with_reducible refine Kd.C_drewN ?_ _) | (with_reducible refine Kd.C_drew ?_))); (case side2 => exact HC0.out); rintro e w23 ⟨rfl, hb⟩; refine ⟨_, rfl, ?_⟩; have n0_ := rb HO_3 hb; have n1_ := belb HB hb; clear HO_3; clear HB; have HO_3 := n0_; have HB := n1_; clear n0_ n1_; (try clear hb); (try clear hb2); (try clear hk); (try clear hi); have p596 : 0 ≤ (0 : Int) := (by omega); have q596 : 0 < (l0.length : Int) := of_decide_eq_true (by first | (with_reducible assumption) | assumption); obtain ⟨ad596, e596, hx596_0⟩ := Kd.at_int HR0.out 0 p596 q596; obtain rfl : ad593 = ad596 := (by injection e596); have qi596 : (0 < l0.length) = True := eq_true (by omega); (try rw [show ((0 : Int)).toNat = 0 from rfl] at hx596_0); (try rw [Addr.add_zero'] at hx596_0); replace hx596_0 := (HB.out.cell (World.block_lt_of_cell? w _ hx596_0)).trans hx596_0; replace p596 := eq_true p596; replace q596 := eq_true q596) | (go_at_call 31; (with_reducible refine (vtime_Last.calls k2 (rd l0 0) _ _ x3_2 t597 _ ?side1 ?side2 A20.out).mono ?_); (case side1 => repeat (first | exact (Kd.R_reads' HO_3.out).2.2 | (with_reducible refine Kd.C_alloc ?_ _) | (with_reducible refine Kd.C_drewN ?_ _) | (with_reducible refine Kd.C_drew ?_))); (case side2 => exact (Kd.R_reads' HO_3.out).2.1); rintro e w' ⟨rfl, ⟨nd, rfl⟩⟩) | (go_at_call 32; (with_reducible refine (turnstoneref03_Last.calls k2 _ _ l0 t598 _ ?side1 ?side2 A21.out).mono ?_); (case side1 => repeat (first | exact (Kd.C_below HR0.out (belt HB)) | (with_reducible refine Kd.C_alloc ?_ _) | (with_reducible refine Kd.C_drewN ?_ _) | (with_reducible refine Kd.C_drew ?_))); (case side2 => exact HC0.out); rintro e w24 ⟨rfl, hb⟩; have n0_ := rb HO_3 hb; have n1_ := belb HB hb; clear HO_3; clear HB; have HO_3 := n0_; have HB := n1_; clear n0_ n1_; (try clear hb); (try clear hb2); (try clear hk); (try clear hi)))
           go_ret
           exact ⟨by first | rfl | (simp [errW_none, errW_some] <;> rfl) | (simp [*, errW_none, errW_some] <;> rfl), by repeat (first | (with_reducible first | exact HB.out | apply below_alloc | apply pw_below_drewN | apply below_drew1) | exact HB.out)⟩
          ·rw [if_neg c19] at H
           exact absurd H (by simp)
         ·rw [if_neg c16] at H
          exact absurd H (by simp)
     ·rw [if_neg c9] at H
      exact absurd H (by simp)
 ·replace c3 := Bool.eq_false_iff.mpr c3
  subst c3
  have H1 : (none) = some r := by rw [if_neg (show ¬ (false = true) by decide)] at H; exact H
  clear H
  have H := H1
  clear H1
  exact absurd H (by simp)

/-- THE ONE PURE STATEMENT of turnstonelaw03_VtimeEnds. -/
def turnstonelaw03_VtimeEnds.Pure : Prop := ∀ (l0 : List Int), l0.length ≤ maxLen → l0.length * 8 ≤ 140737488351232 → (∀ x ∈ l0, (Lit.int .u64 x).wf = true) → ∃ k, turnstonelaw03_VtimeEnds.f k l0 = some true
theorem turnstonelaw03_VtimeEnds.walk (P : turnstonelaw03_VtimeEnds.Pure) (A0 : Option Addr) (c0 : Nat) (l0 : List Int) (w : World) (hr0 : Kd.C (Kd.int .u64) w A0 l0.length l0) (hc0 : l0.length ≤ c0) (hm0 : l0.length ≤ maxLen) (y0 : l0.length * 8 ≤ 140737488351232) (hw0 : ∀ x ∈ l0, (Lit.int .u64 x).wf = true) :
  Calls Try.prog 4 #[.slice A0 l0.length c0] w fun e w' => e = .returned (.bool true) ∧ Below w.heap.size w w' := by
 obtain ⟨k, h⟩ := P l0 hm0 y0 hw0
 refine (turnstonelaw03_VtimeEnds.calls k _ _ l0 true w hr0 hc0 h).mono ?_
 rintro e w' ⟨rfl, hd⟩
 exact ⟨rfl, hd⟩

end Go.Proofs.Ytimgiiceipjpaaa.Print
