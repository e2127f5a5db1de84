/- What each Go function that is named below answers, as a Lean function, and that its walk comes to just that: for whatever arguments that function gives an answer for. Written by a program of this session (wip/mkpr.py, pr.sh). -/
import Derived.Test.YtimgiiceipjpaaaPrint0
import Derived.Test.YtimgiiceipjpaaaPrint6
import Derived.Test.YtimgiiceipjpaaaPrint9
namespace Go.Proofs.Ytimgiiceipjpaaa.Print
open Go.RowKit Go.Proofs.YtimgiiceipjpaaaW.PrintWords Go.Proofs.YtimgiiceipjpaaaW.PrintLast Go.Proofs.YtimgiiceipjpaaaW.PrintMore
attribute [local go_sem] max2_int min2_int max_two min_two max_three min_three max_four min_four   -- for this text's walks alone
open Go.Proofs.Ytimgiiceipjpaaa.Bits Go.Proofs.Ytimgiiceipjpaaa.Short
attribute [local go_sem] add64_run0 sub64_run0 add64_run sub64_run
set_option linter.unusedVariables false
set_option linter.unusedSimpArgs false

/-! ### turnstonelaw02_awake: function 33 -/
def turnstonelaw02_awake.f (k : Nat)  : Option (Bool) := (muldiv_Step.f k 3 5 4 1).bind fun bt169 => ((muldiv_Steps.f k 1 3 0 (([1, 1, 1] : List Int))).bind fun bt175 => ((turnstonelaw01_Awake.f k).bind fun t178 => (if t178 = true then (if bt169.2.2 = true then (if bt175.2.2 = true then (if bt169.1 = 4 then (if bt169.2.1 = 0 then (if bt175.1 = 1 then (some (bt175.2.1 == 0)) else (none)) else (none)) else (none)) else (none)) else (none)) else (none))))
theorem turnstonelaw02_awake.mono : ∀ k, LeO (turnstonelaw02_awake.f k ) (turnstonelaw02_awake.f (k + 1) ) := by
 intro  k
 unfold turnstonelaw02_awake.f
 repeat' first
   | (with_reducible exact muldiv_Step.mono _ _ _ _ _)
   | (with_reducible exact muldiv_Steps.mono _ _ _ _ _)
   | (with_reducible exact turnstonelaw01_Awake.mono _)
   | (with_reducible exact LeO.refl _)
   | (with_reducible exact LeO.none _)
   | (with_reducible refine LeO.ite ?_ ?_)
   | (with_reducible refine LeO.bind ?_ (fun _ => ?_))
   | exact muldiv_Step.mono _ _ _ _ _
   | exact muldiv_Steps.mono _ _ _ _ _
   | exact turnstonelaw01_Awake.mono _
   | exact LeO.none _
   | refine LeO.ite ?_ ?_
   | refine LeO.bind ?_ (fun _ => ?_)
set_option maxHeartbeats 8000000 in
set_option maxRecDepth 100000 in
theorem turnstonelaw02_awake.calls (k : Nat)  (r : Bool) (w : World) (h : turnstonelaw02_awake.f k  = some r) :
  Calls Try.prog 33 #[] w fun e w' => e = .returned (.bool r) ∧ Below w.heap.size w w' := by
 have HB := Aside0.mk (Below.refl w.heap.size w)
 have H : ((muldiv_Step.f k 3 5 4 1).bind fun bt169 => ((muldiv_Steps.f k 1 3 0 (([1, 1, 1] : List Int))).bind fun bt175 => ((turnstonelaw01_Awake.f k).bind fun t178 => (if t178 = true then (if bt169.2.2 = true then (if bt175.2.2 = true then (if bt169.1 = 4 then (if bt169.2.1 = 0 then (if bt175.1 = 1 then (some (bt175.2.1 == 0)) else (none)) else (none)) else (none)) else (none)) else (none)) else (none))))) = some r := h
 clear h
 replace H := Option.bind_eq_some_iff.mp H
 obtain ⟨⟨t169, t170, t171⟩, A10, H⟩ := H
 replace H : ((muldiv_Steps.f k 1 3 0 (([1, 1, 1] : List Int))).bind fun bt175 => ((turnstonelaw01_Awake.f k).bind fun t178 => (if t178 = true then (if t171 = true then (if bt175.2.2 = true then (if t169 = 4 then (if t170 = 0 then (if bt175.1 = 1 then (some (bt175.2.1 == 0)) else (none)) else (none)) else (none)) else (none)) else (none)) else (none)))) = some r := H
 have A1 := Aside0.mk A10
 clear A10
 obtain ⟨y172, hy172⟩ : ∃ y_ : List Int, y_ = (([1, 1, 1] : List Int)) := ⟨_, rfl⟩
 replace H : ((muldiv_Steps.f k 1 3 0 y172).bind fun bt175 => ((turnstonelaw01_Awake.f k).bind fun t178 => (if t178 = true then (if t171 = true then (if bt175.2.2 = true then (if t169 = 4 then (if t170 = 0 then (if bt175.1 = 1 then (some (bt175.2.1 == 0)) else (none)) else (none)) else (none)) else (none)) else (none)) else (none)))) = some r := by first | (rw [hy172]; with_reducible exact H) | (have H2_ := (Option.bind_some _ _).symm.trans H; rw [hy172]; with_reducible exact H2_) | (have H2_ := (Option.bind_some _ _).symm.trans H; with_reducible exact H2_) | with_reducible exact H | (rw [hy172]; exact H) | exact H
 have Ny172 := Aside0.mk hy172
 clear hy172
 replace H := Option.bind_eq_some_iff.mp H
 obtain ⟨⟨t175, t176, t177⟩, A20, H⟩ := H
 replace H : ((turnstonelaw01_Awake.f k).bind fun t178 => (if t178 = true then (if t171 = true then (if t177 = true then (if t169 = 4 then (if t170 = 0 then (if t175 = 1 then (some (t176 == 0)) else (none)) else (none)) else (none)) else (none)) else (none)) else (none))) = some r := H
 have A2 := Aside0.mk A20
 clear A20
 replace H := Option.bind_eq_some_iff.mp H
 obtain ⟨t178, A30, H⟩ := H
 replace H : (if t178 = true then (if t171 = true then (if t177 = true then (if t169 = 4 then (if t170 = 0 then (if t175 = 1 then (some (t176 == 0)) else (none)) else (none)) else (none)) else (none)) else (none)) else (none)) = some r := H
 have A3 := Aside0.mk A30
 clear A30
 by_cases c4 : t178 = true
 ·subst c4
  have H1 : (if t171 = true then (if t177 = true then (if t169 = 4 then (if t170 = 0 then (if t175 = 1 then (some (t176 == 0)) else (none)) else (none)) else (none)) else (none)) else (none)) = some r := by rw [if_pos rfl] at H; exact H
  clear H
  have H := H1
  clear H1
  by_cases c5 : t171 = true
  ·subst c5
   have H1 : (if t177 = true then (if t169 = 4 then (if t170 = 0 then (if t175 = 1 then (some (t176 == 0)) else (none)) else (none)) else (none)) else (none)) = some r := by rw [if_pos rfl] at H; exact H
   clear H
   have H := H1
   clear H1
   by_cases c6 : t177 = true
   ·subst c6
    have H1 : (if t169 = 4 then (if t170 = 0 then (if t175 = 1 then (some (t176 == 0)) else (none)) else (none)) else (none)) = some r := by rw [if_pos rfl] at H; exact H
    clear H
    have H := H1
    clear H1
    by_cases c7 : t169 = 4
    ·rw [if_pos c7] at H
     have c7b0 : (t169 == 4) = true := beq_iff_eq.mpr c7
     have c7b1 : (t169 != 4) = false := bne_eq_false_iff_eq.mpr c7
     clear c7
     by_cases c8 : t170 = 0
     ·rw [if_pos c8] at H
      have c8b0 : (t170 == 0) = true := beq_iff_eq.mpr c8
      have c8b1 : (t170 != 0) = false := bne_eq_false_iff_eq.mpr c8
      clear c8
      by_cases c9 : t175 = 1
      ·rw [if_pos c9] at H
       have c9b0 : (t175 == 1) = true := beq_iff_eq.mpr c9
       have c9b1 : (t175 != 1) = false := bne_eq_false_iff_eq.mpr c9
       clear c9
       obtain rfl := Option.some.inj H
       go_enter Try.func33, Try.ntmps33
       go_wp2_with (first | ((with_reducible refine gate_callee (f := 34) rfl ?_); refine goesL_ (some 8) rfl rfl Try.func34 (by kernel_rfl) rfl #[.int .u64 3, .int .u64 5, .int .u64 4, .int .u64 1] rfl argt ?_; (with_reducible refine (muldiv_Step.calls k 3 5 4 1 t169 t170 true _ A1.out).mono ?_); rintro e w' ⟨rfl, ⟨nd, rfl⟩⟩; refine ⟨_, rfl, ?_⟩) | ((with_reducible refine gate_dst (N := 13) rfl ?_); refine Kd.R_lit (Kd.int .u64) _ 22 ?hg (N := 13) ?hd (xs := ([1, 1, 1] : List Int)) (inner := [.int .u64 1, .int .u64 1, .int .u64 1]) (ok := fun _ => True) (okp := fun _ => True) ?hr ?hp (fun _ hk => hk) trivial (Below.refl _ _) (Nat.le_refl _) (by simp) ?_; (case hd => rfl); (case hg => rfl); (case hr => first | (go_simp; done) | (go_simp; rfl)); (case hp => exact (Reps.one (show Kd.M (Kd.int .u64) _ _ _ 1 [.int .u64 1] from rfl) (Reps.one (show Kd.M (Kd.int .u64) _ _ _ 1 [.int .u64 1] from rfl) (Reps.one (show Kd.M (Kd.int .u64) _ _ _ 1 [.int .u64 1] from rfl) (Reps.none _ _))))); intro v173 w10 ho11 hb hg_ hnew_; clear hg_ hnew_; (first | rw [← Ny172.out] at ho11 | (simp only [Int.reduceToNat] at ho11; rw [← Ny172.out] at ho11)); have n0_ := Aside0.mk (Kd.R_lower ho11 (below_size (belt HB))); have n1_ := belb HB hb; clear HB; have HO174 := n0_; have HB := n1_; clear n0_ n1_; clear hb ho11; obtain ⟨Ao12, co12, eo12⟩ := Kd.R_slice HO174.out; subst eo12) | ((with_reducible refine gate_callee (f := 38) rfl ?_); refine goesL_ (some 14) rfl rfl Try.func38 (by kernel_rfl) rfl #[.int .u64 1, .int .u64 3, .int .u64 0, .slice Ao12 y172.length co12] rfl argt ?_; (with_reducible refine (muldiv_Steps.calls k 1 3 0 _ _ y172 t175 t176 true _ ?side1 ?side2 A2.out).mono ?_); (case side1 => repeat (first | exact (Kd.R_reads' HO174.out).2.2 | (with_reducible refine Kd.C_alloc ?_ _) | (with_reducible refine Kd.C_drewN ?_ _) | (with_reducible refine Kd.C_drew ?_))); (case side2 => exact (Kd.R_reads' HO174.out).2.1); rintro e w' ⟨rfl, ⟨nd, rfl⟩⟩; refine ⟨_, rfl, ?_⟩) | ((with_reducible refine gate_callee (f := 58) rfl ?_); refine goesL_ (some 18) rfl rfl Try.func58 (by kernel_rfl) rfl #[] rfl argt ?_; (with_reducible refine (turnstonelaw01_Awake.calls k  true _ A3.out).mono ?_); rintro e w13 ⟨rfl, hb⟩; refine ⟨_, rfl, ?_⟩; have n0_ := rb HO174 hb; have n1_ := belb HB hb; clear HO174; clear HB; have HO174 := n0_; have HB := n1_; clear n0_ n1_; (try clear hb); (try clear hb2); (try clear hk); (try clear hi)))
       go_ret
       exact ⟨by first | rfl | (simp [errW_none, errW_some] <;> rfl) | (simp [*, errW_none, errW_some] <;> rfl), by repeat (first | (with_reducible first | exact HB.out | apply below_alloc | apply pw_below_drewN | apply below_drew1) | exact HB.out)⟩
      ·rw [if_neg c9] at H
       exact absurd H (by simp)
     ·rw [if_neg c8] at H
      exact absurd H (by simp)
    ·rw [if_neg c7] at H
     exact absurd H (by simp)
   ·replace c6 := Bool.eq_false_iff.mpr c6
    subst c6
    have H1 : (none) = some r := by rw [if_neg (show ¬ (false = true) by decide)] at H; exact H
    clear H
    have H := H1
    clear H1
    exact absurd H (by simp)
  ·replace c5 := Bool.eq_false_iff.mpr c5
   subst c5
   have H1 : (none) = some r := by rw [if_neg (show ¬ (false = true) by decide)] at H; exact H
   clear H
   have H := H1
   clear H1
   exact absurd H (by simp)
 ·replace c4 := Bool.eq_false_iff.mpr c4
  subst c4
  have H1 : (none) = some r := by rw [if_neg (show ¬ (false = true) by decide)] at H; exact H
  clear H
  have H := H1
  clear H1
  exact absurd H (by simp)

/-! ### turnstoneref01_trim: function 62 -/
def turnstoneref01_trim.l0 : Nat → Bool → List Int → Option (Bool × List Int)
 | 0, _, _ => none
 | k + 1, x180000, x180001 => if (x180001.length : Int) > 0 then (if 0 ≤ (wrap64 ((x180001.length : Int) - 1)) then (if (wrap64 ((x180001.length : Int) - 1)) < (x180001.length : Int) then (if (rd x180001 (wrap64 ((x180001.length : Int) - 1))) = 0 then (if (wrap64 ((x180001.length : Int) - 1)) ≤ (x180001.length : Int) then (turnstoneref01_trim.l0 k x180000 (x180001.take ((wrap64 ((x180001.length : Int) - 1)) : Int).toNat)) else (none)) else (if (x180001.length : Int) = 0 then (some (false, ([] : List Int))) else (some (x180000, x180001)))) else (none)) else (none)) else (if (x180001.length : Int) = 0 then (some (false, ([] : List Int))) else (some (x180000, x180001)))
def turnstoneref01_trim.f (k : Nat) (a0_0 : Bool) (l0_1 : List Int) : Option (Bool × List Int) := turnstoneref01_trim.l0 k a0_0 l0_1
theorem turnstoneref01_trim.mono_l : ∀ k, (∀ y0 y1, LeO (turnstoneref01_trim.l0 k y0 y1) (turnstoneref01_trim.l0 (k + 1) y0 y1))
 | 0 => fun _ _ r h => by simp [turnstoneref01_trim.l0] at h
 | k + 1 => by
  have ih0 := turnstoneref01_trim.mono_l k
  ·intro y0 y1
   unfold turnstoneref01_trim.l0
   repeat' first
   | (with_reducible exact ih0 _ _)
   | (with_reducible exact LeO.refl _)
   | (with_reducible exact LeO.none _)
   | (with_reducible refine LeO.ite ?_ ?_)
   | (with_reducible refine LeO.bind ?_ (fun _ => ?_))
   | exact ih0 _ _
   | exact LeO.none _
   | refine LeO.ite ?_ ?_
   | refine LeO.bind ?_ (fun _ => ?_)
theorem turnstoneref01_trim.mono : ∀ a0 a1 k, LeO (turnstoneref01_trim.f k a0 a1) (turnstoneref01_trim.f (k + 1) a0 a1) := by
 intro a0 a1 k
 have ih0 := turnstoneref01_trim.mono_l k
 unfold turnstoneref01_trim.f
 repeat' first
   | (with_reducible exact ih0 _ _)
   | (with_reducible exact LeO.refl _)
   | (with_reducible exact LeO.none _)
   | (with_reducible refine LeO.ite ?_ ?_)
   | (with_reducible refine LeO.bind ?_ (fun _ => ?_))
   | exact ih0 _ _
   | exact LeO.none _
   | refine LeO.ite ?_ ?_
   | refine LeO.bind ?_ (fun _ => ?_)
set_option maxHeartbeats 8000000 in
set_option maxRecDepth 100000 in
theorem turnstoneref01_trim.calls (k : Nat) (a0_0 : Bool) (P0_1_ : Nat → Prop) (A0_1 : Option Addr) (c0_1 : Nat) (l0_1 : List Int) (r1 : Bool) (r2 : List Int) (w : World) (hs0_1 : Kd.V (Kd.int .i64) 3 w w.heap.size (fun k_ => P0_1_ k_) (.slice A0_1 l0_1.length c0_1) l0_1) (h : turnstoneref01_trim.f k a0_0 l0_1 = some (r1, r2)) :
  Calls Try.prog 62 #[.agg #[.bool a0_0, .slice A0_1 l0_1.length c0_1]] w fun e w' => ∃ v1_ : Value, e = .returned (.agg #[.bool r1, v1_]) ∧ Kd.V (Kd.int .i64) 3 w' w.heap.size (fun k_ => (P0_1_ k_ ∨ w.heap.size ≤ k_)) v1_ r2 ∧ Below w.heap.size w w' := by
 have hu28 := Try.underlying28
 have HO0_1 := Aside0.mk (show Kd.V (Kd.int .i64) 3 w w.heap.size (fun k_ => (P0_1_ k_ ∨ w.heap.size ≤ k_)) (.slice A0_1 l0_1.length c0_1) l0_1 from Kd.V_mono hs0_1 (fun k_ hk => .inl hk))
 have HB := Aside0.mk (Below.refl w.heap.size w)
 have H : (turnstoneref01_trim.l0 k a0_0 l0_1) = some (r1, r2) := h
 clear h
 have H' := Aside0.mk H
 clear H
 go_enter Try.func62, Try.ntmps62
 go_wp2_with (first | ((with_reducible refine gate_dst (N := 1) rfl ?_); (try (refine gate_guard (by rfl) ?_; dsimp only)); refine box_event ?hg (N := 1) ?hd (cs := #[.bool a0_0, .slice A0_1 l0_1.length c0_1]) (t := 28) ?hr ?_; (case hd => rfl); (case hg => rfl); (case hr => first | (go_simp; done) | (go_simp; rfl)); intro gb179 hg w2 hbox hb; have n0_ := Aside0.mk (Kd.V_below (Kd.V_elderB (vt HO0_1) gb179 (Nat.le_of_eq hg.symm)) hb); have n1_ := belb HB hb; have n2_ := Aside0.mk (hbox); have n3_ := bels HB hg; have n4_ := bels HB hg; clear HO0_1; clear HB; have HO0_1 := n0_; have HB := n1_; have BK179 := n2_; have GW179 := n3_; have GE179 := n4_; clear n0_ n1_ n2_ n3_ n4_; clear hb hbox hg) | ((with_reducible refine gate_dst (N := 2) rfl ?_); (try (refine gate_guard (by rfl) ?_; dsimp only)); refine box_event ?hg (N := 2) ?hd (cs := #[.bool false, .slice none 0 0]) (t := 28) ?hr ?_; (case hd => rfl); (case hg => rfl); (case hr => first | (go_simp; done) | (go_simp; rfl)); intro gb180 hg w3 hbox hb; have n0_ := Aside0.mk (Kd.V_below (Kd.V_elderB (vt HO0_1) gb180 (Nat.le_of_eq hg.symm)) hb); have n1_ := blkb BK179 hb; have n2_ := belb HB hb; have n3_ := Aside0.mk (hbox); have n4_ := bels HB hg; have n5_ := bels HB hg; have n6_ := blkl BK179 hg; have n7_ := blkg BK179 hg; clear HO0_1; clear BK179; clear HB; have HO0_1 := n0_; have BK179 := n1_; have HB := n2_; have BK180 := n3_; have GW180 := n4_; have GE180 := n5_; have NB179_180 := n6_; have NB180_179 := n7_; clear n0_ n1_ n2_ n3_ n4_ n5_ n6_ n7_; clear hb hbox hg))
 (try simp only [Act.put, List.setIfInBounds_toArray, List.set_cons_zero, List.set_cons_succ])
 go_loopg [] k (fun kq w' => ∃ (x180001_1 : List Int) (u180001 : Value), Aside0 (turnstoneref01_trim.l0 kq a0_0 x180001_1 = some (r1, r2)) ∧ Aside0 (kq ≤ k) ∧ Aside0 (Kd.V (Kd.int .i64) 3 w' w.heap.size (fun k_ => (P0_1_ k_ ∨ w.heap.size ≤ k_) ∧ k_ ≠ gb179 ∧ k_ ≠ gb180) u180001 x180001_1) ∧ Aside0 (w'.heap[gb179]? = some (.cells #[.bool a0_0, u180001] 28 (0, 0))) ∧ Aside0 (w'.heap[gb180]? = some (.cells #[.bool false, (.slice none 0 0)] 28 (0, 0))) ∧ Aside0 (Below w.heap.size w w'))
 case atStart => exact ⟨(l0_1), (.slice A0_1 l0_1.length c0_1), H', ⟨Nat.le_refl _⟩, ⟨by (with_reducible repeat (first | apply Kd.V_alloc | apply Kd.V_drewN | apply Kd.V_drew)); exact Kd.V_mono HO0_1.out (fun _ hk => ⟨hk.1.1, ⟨hk.1.2, hk.2⟩⟩)⟩, ⟨by (with_reducible repeat (first | refine blk_drewN ?_ _ | refine blk_drew ?_ | refine blk_alloc ?_ _)); exact BK179.out⟩, ⟨by (with_reducible repeat (first | refine blk_drewN ?_ _ | refine blk_drew ?_ | refine blk_alloc ?_ _)); exact BK180.out⟩, ⟨by repeat (first | (with_reducible first | exact HB.out | apply below_alloc | apply pw_below_drewN | apply below_drew1 | refine below_set ?_ GE179.out | refine below_set ?_ GE180.out) | exact HB.out)⟩⟩
 case round =>
  clear H'
  try clear p2
  obtain ⟨x180001_1, u180001, HA, HK1, HO_180001, BK179, BK180, HB⟩ := hrel
  cases gk with
  | zero => exact absurd HA.out (by simp [turnstoneref01_trim.l0])
  | succ k1 =>
   have H := HA.out
   clear HA
   simp only [turnstoneref01_trim.l0] at H
   by_cases c4 : (x180001_1.length : Int) > 0
   ·rw [if_pos c4] at H
    have c4b0 : decide (0 < (x180001_1.length : Int)) = true := decide_eq_true c4
    have c4b1 : decide (0 < x180001_1.length) = true := decide_eq_true (by omega)
    clear c4
    obtain ⟨ji5, hji5⟩ : ∃ j_ : Int, (wrap64 ((x180001_1.length : Int) - 1)) = j_ := ⟨_, rfl⟩
    replace H : (if 0 ≤ (ji5) then (if (ji5) < (x180001_1.length : Int) then (if (rd x180001_1 (ji5)) = 0 then (if (ji5) ≤ (x180001_1.length : Int) then (turnstoneref01_trim.l0 k1 a0_0 (x180001_1.take ((ji5) : Int).toNat)) else (none)) else (if (x180001_1.length : Int) = 0 then (some (false, ([] : List Int))) else (some (a0_0, x180001_1)))) else (none)) else (none)) = some (r1, r2) := by first | (rw [hji5] at H; exact H) | (simp only [hji5] at H ⊢; exact H)
    have hji5w : (IntKind.i64.wrap ((x180001_1.length : Int) - 1)) = ji5 := (i64_w _).trans hji5
    by_cases c6 : 0 ≤ (ji5)
    ·rw [if_pos c6] at H
     have c6b0 : decide (0 ≤ (ji5)) = true := decide_eq_true c6
     clear c6
     by_cases c7 : (ji5) < (x180001_1.length : Int)
     ·rw [if_pos c7] at H
      have c7b0 : decide ((ji5) < (x180001_1.length : Int)) = true := decide_eq_true c7
      clear c7
      by_cases c8 : (rd x180001_1 (ji5)) = 0
      ·rw [if_pos c8] at H
       have c8b0 : ((rd x180001_1 (ji5)) == 0) = true := beq_iff_eq.mpr c8
       have c8b1 : ((rd x180001_1 (ji5)) != 0) = false := bne_eq_false_iff_eq.mpr c8
       clear c8
       have c9b0 := eq_true (of_decide_eq_true (by first | (with_reducible assumption) | assumption) : 0 ≤ (ji5))
       by_cases c10 : (ji5) ≤ (x180001_1.length : Int)
       ·rw [if_pos c10] at H
        have c10b0 := eq_true c10
        have c10b1 : decide ((ji5) ≤ (x180001_1.length : Int)) = true := decide_eq_true c10
        clear c10
        obtain ⟨y182, hy182⟩ : ∃ y_ : List Int, y_ = (x180001_1.take ((ji5) : Int).toNat) := ⟨_, rfl⟩
        replace H : (turnstoneref01_trim.l0 k1 a0_0 y182) = some (r1, r2) := by first | (rw [hy182]; with_reducible exact H) | (have H2_ := (Option.bind_some _ _).symm.trans H; rw [hy182]; with_reducible exact H2_) | (have H2_ := (Option.bind_some _ _).symm.trans H; with_reducible exact H2_) | with_reducible exact H | (rw [hy182]; exact H) | exact H
        have Ny182 := Aside0.mk hy182
        clear hy182
        have H' := Aside0.mk H
        clear H
        have hnb11 := NB179_180.out
        have hnc11 := NB180_179.out
        have hcz12_0 : wr.cell? ⟨gb179, 0, none⟩ = some (.bool a0_0) := (blk_cell BK179.out 0).trans rfl
        have hcz12_1 : wr.cell? ⟨gb179, 1, none⟩ = some (u180001) := (blk_cell BK179.out 1).trans rfl
        have hfz12_0 := blk_frozen BK179.out 0
        have hfz12_1 := blk_frozen BK179.out 1
        obtain ⟨Ao13, co13, eo13⟩ := Kd.V_slice HO_180001.out
        subst eo13
        have p181 : 0 ≤ ((ji5) : Int) := of_decide_eq_true (by first | (with_reducible assumption) | assumption)
        have q181 : (ji5) < (x180001_1.length : Int) := of_decide_eq_true (by first | (with_reducible assumption) | assumption)
        obtain ⟨ad181, e181, hx181_0⟩ := Kd.at_int (Kd.V_reads' HO_180001.out).2.2 (ji5) p181 q181
        cases e181
        replace p181 := eq_true p181
        replace q181 := eq_true q181
        have q14 : ((ji5) : Int) ≤ ((x180001_1.length : Int) : Int) := of_decide_eq_true (by first | (with_reducible assumption) | assumption)
        obtain ⟨i014, hi014, _, hsz14, _⟩ := info_parts info3
        have hroom14 : x180001_1.length ≤ co13 := (Kd.V_reads' HO_180001.out).2.1
        have hC14 : Kd.F (Kd.int .i64) _ _ (some ad181) x180001_1.length x180001_1 := (Kd.V_at (base := w.heap.size) HO_180001.out).2.2
        have hcut14 := cut_to (P := Try.prog) 26 3 .i64 Try.underlying26 hi014 (some ad181) x180001_1.length co13 (ji5) (of_decide_eq_true (by first | (with_reducible assumption) | assumption)) q14 hroom14
        have hr14 := Kd.F_take (m := ((ji5) : Int).toNat) hC14 (by omega)
        have hy14 : y182.length = ((ji5) : Int).toNat := (by rw [Ny182.out, List.length_take]; omega)
        rw [← Ny182.out] at hr14
        rw [← hy14] at hcut14
        have HO186 := Aside0.mk (show Kd.V (Kd.int .i64) 3 _ w.heap.size _ (.slice (some ad181) y182.length co13) y182 from Kd.V_mk (by omega) hr14)
        have HC186 := Aside0.mk (show y182.length ≤ co13 from by omega)
        clear hr14 hC14 hroom14 hi014 hsz14
        have KY14 := Aside0.mk hy14
        clear hy14
        replace q14 := eq_true q14
        go_wp2
        go_roundg k1
        case measure => have := HK1.out; omega
        case rel => exact ⟨(y182), (.slice (some ad181) y182.length co13), H', ⟨by have := HK1.out; omega⟩, ⟨by (with_reducible repeat (first | apply Kd.V_alloc | apply Kd.V_drewN | apply Kd.V_drew)); exact Kd.V_mono (Kd.V_far (p := ⟨gb179, 1, none⟩) (Kd.V_mono HO186.out (fun k_ hk => (⟨hk, hk.2.1⟩ : _ ∧ k_ ≠ gb179))) (fun _ hk => hk.2) (.slice (some ad181) y182.length co13)) (fun _ hk => ⟨hk.1.1, ⟨hk.1.2.1, hk.1.2.2⟩⟩)⟩, ⟨by (with_reducible repeat (first | refine blk_drewN ?_ _ | refine blk_drew ?_ | refine blk_alloc ?_ _)); refine blk_put (cs := #[.bool a0_0, .slice (some ad181) x180001_1.length co13]) ?_ 1 _ rfl; (with_reducible repeat (first | refine blk_drewN ?_ _ | refine blk_drew ?_ | refine blk_alloc ?_ _)); exact BK179.out⟩, ⟨by (with_reducible repeat (first | refine blk_drewN ?_ _ | refine blk_drew ?_ | refine blk_alloc ?_ _)); refine blk_far ?_ NB180_179.out _; (with_reducible repeat (first | refine blk_drewN ?_ _ | refine blk_drew ?_ | refine blk_alloc ?_ _)); exact BK180.out⟩, ⟨by repeat (first | (with_reducible first | exact HB.out | apply below_alloc | apply pw_below_drewN | apply below_drew1 | refine below_set ?_ GE179.out | refine below_set ?_ GE180.out) | exact HB.out)⟩⟩
       ·rw [if_neg c10] at H
        exact absurd H (by simp)
      ·rw [if_neg c8] at H
       have c8b0 : ((rd x180001_1 (ji5)) == 0) = false := beq_eq_false_iff_ne.mpr c8
       have c8b1 : ((rd x180001_1 (ji5)) != 0) = true := bne_iff_ne.mpr c8
       by_cases c15 : (x180001_1.length : Int) = 0
       ·rw [if_pos c15] at H
        have c15b0 : ((x180001_1.length : Int) == 0) = true := beq_iff_eq.mpr c15
        have c15b1 : ((x180001_1.length : Int) != 0) = false := bne_eq_false_iff_eq.mpr c15
        clear c15
        simp only [Option.some.injEq, Prod.mk.injEq] at H
        obtain ⟨rfl, rfl⟩ := H
        have hnb16 := NB179_180.out
        have hnc16 := NB180_179.out
        have hcz17_0 : wr.cell? ⟨gb179, 0, none⟩ = some (.bool a0_0) := (blk_cell BK179.out 0).trans rfl
        have hcz17_1 : wr.cell? ⟨gb179, 1, none⟩ = some (u180001) := (blk_cell BK179.out 1).trans rfl
        have hfz17_0 := blk_frozen BK179.out 0
        have hfz17_1 := blk_frozen BK179.out 1
        obtain ⟨Ao18, co18, eo18⟩ := Kd.V_slice HO_180001.out
        subst eo18
        have p181 : 0 ≤ ((ji5) : Int) := of_decide_eq_true (by first | (with_reducible assumption) | assumption)
        have q181 : (ji5) < (x180001_1.length : Int) := of_decide_eq_true (by first | (with_reducible assumption) | assumption)
        obtain ⟨ad181, e181, hx181_0⟩ := Kd.at_int (Kd.V_reads' HO_180001.out).2.2 (ji5) p181 q181
        cases e181
        replace p181 := eq_true p181
        replace q181 := eq_true q181
        have hcz19_0 : wr.cell? ⟨gb180, 0, none⟩ = some (.bool false) := (blk_cell BK180.out 0).trans rfl
        have hcz19_1 : wr.cell? ⟨gb180, 1, none⟩ = some (.slice none 0 0) := (blk_cell BK180.out 1).trans rfl
        have hfz19_0 := blk_frozen BK180.out 0
        have hfz19_1 := blk_frozen BK180.out 1
        go_wp2
        refine bodyPost_ret (results_cell_row rfl _ _ gb180 28 #[.bool false, .slice none 0 0] (0, 0) _ rfl (by (with_reducible repeat (first | refine blk_drewN ?_ _ | refine blk_drew ?_ | refine blk_alloc ?_ _)); refine blk_put (cs := #[.bool false, .slice none 0 0]) ?_ 1 _ rfl; (with_reducible repeat (first | refine blk_drewN ?_ _ | refine blk_drew ?_ | refine blk_alloc ?_ _)); refine blk_put (cs := #[.bool false, .slice none 0 0]) ?_ 0 _ rfl; (with_reducible repeat (first | refine blk_drewN ?_ _ | refine blk_drew ?_ | refine blk_alloc ?_ _)); exact BK180.out) Try.underlying28 rfl (by kernel_rfl)) rfl ?_
        exact ⟨_, by first | rfl | (simp [errW_none, errW_some] <;> rfl) | (simp only [← hji5]; first | rfl | (simp [errW_none, errW_some] <;> rfl)) | (simp [*, errW_none, errW_some] <;> rfl), Kd.V_nil _ _ _ _ _, by repeat (first | (with_reducible first | exact HB.out | apply below_alloc | apply pw_below_drewN | apply below_drew1 | refine below_set ?_ GE179.out | refine below_set ?_ GE180.out) | exact HB.out)⟩
       ·rw [if_neg c15] at H
        have c15b0 : ((x180001_1.length : Int) == 0) = false := beq_eq_false_iff_ne.mpr c15
        have c15b1 : ((x180001_1.length : Int) != 0) = true := bne_iff_ne.mpr c15
        have c15b2 : ¬ (x180001_1 = []) := fun h_ => c15 (by rw [h_]; rfl)
        simp only [Option.some.injEq, Prod.mk.injEq] at H
        obtain ⟨rfl, rfl⟩ := H
        have hnb20 := NB179_180.out
        have hnc20 := NB180_179.out
        have hcz21_0 : wr.cell? ⟨gb179, 0, none⟩ = some (.bool a0_0) := (blk_cell BK179.out 0).trans rfl
        have hcz21_1 : wr.cell? ⟨gb179, 1, none⟩ = some (u180001) := (blk_cell BK179.out 1).trans rfl
        have hfz21_0 := blk_frozen BK179.out 0
        have hfz21_1 := blk_frozen BK179.out 1
        obtain ⟨Ao22, co22, eo22⟩ := Kd.V_slice HO_180001.out
        subst eo22
        have p181 : 0 ≤ ((ji5) : Int) := of_decide_eq_true (by first | (with_reducible assumption) | assumption)
        have q181 : (ji5) < (x180001_1.length : Int) := of_decide_eq_true (by first | (with_reducible assumption) | assumption)
        obtain ⟨ad181, e181, hx181_0⟩ := Kd.at_int (Kd.V_reads' HO_180001.out).2.2 (ji5) p181 q181
        cases e181
        replace p181 := eq_true p181
        replace q181 := eq_true q181
        have hcz23_0 : wr.cell? ⟨gb180, 0, none⟩ = some (.bool false) := (blk_cell BK180.out 0).trans rfl
        have hcz23_1 : wr.cell? ⟨gb180, 1, none⟩ = some (.slice none 0 0) := (blk_cell BK180.out 1).trans rfl
        have hfz23_0 := blk_frozen BK180.out 0
        have hfz23_1 := blk_frozen BK180.out 1
        go_wp2
        refine bodyPost_ret (results_cell_row rfl _ _ gb180 28 #[.bool a0_0, .slice (some ad181) x180001_1.length co22] (0, 0) _ rfl (by (with_reducible repeat (first | refine blk_drewN ?_ _ | refine blk_drew ?_ | refine blk_alloc ?_ _)); refine blk_put (cs := #[.bool a0_0, .slice none 0 0]) ?_ 1 _ rfl; (with_reducible repeat (first | refine blk_drewN ?_ _ | refine blk_drew ?_ | refine blk_alloc ?_ _)); refine blk_put (cs := #[.bool false, .slice none 0 0]) ?_ 0 _ rfl; (with_reducible repeat (first | refine blk_drewN ?_ _ | refine blk_drew ?_ | refine blk_alloc ?_ _)); exact BK180.out) Try.underlying28 rfl (by kernel_rfl)) rfl ?_
        exact ⟨_, by first | rfl | (simp [errW_none, errW_some] <;> rfl) | (simp only [← hji5]; first | rfl | (simp [errW_none, errW_some] <;> rfl)) | (simp [*, errW_none, errW_some] <;> rfl), by (with_reducible repeat (first | apply Kd.V_alloc | apply Kd.V_drewN | apply Kd.V_drew)); exact Kd.V_mono (Kd.V_far (p := ⟨gb180, 1, none⟩) (Kd.V_far (p := ⟨gb180, 0, none⟩) (Kd.V_mono HO_180001.out (fun k_ hk => (⟨hk, hk.2.2⟩ : _ ∧ k_ ≠ gb180))) (fun _ hk => hk.2) (.bool a0_0)) (fun _ hk => hk.2) (.slice (some ad181) x180001_1.length co22)) (fun _ hk => hk.1.1), by repeat (first | (with_reducible first | exact HB.out | apply below_alloc | apply pw_below_drewN | apply below_drew1 | refine below_set ?_ GE179.out | refine below_set ?_ GE180.out) | exact HB.out)⟩
     ·rw [if_neg c7] at H
      exact absurd H (by simp)
    ·rw [if_neg c6] at H
     exact absurd H (by simp)
   ·rw [if_neg c4] at H
    have c4b0 : decide (0 < (x180001_1.length : Int)) = false := decide_eq_false c4
    have c4b1 : decide (0 < x180001_1.length) = false := decide_eq_false (by omega)
    clear c4
    by_cases c24 : (x180001_1.length : Int) = 0
    ·rw [if_pos c24] at H
     have c24b0 : ((x180001_1.length : Int) == 0) = true := beq_iff_eq.mpr c24
     have c24b1 : ((x180001_1.length : Int) != 0) = false := bne_eq_false_iff_eq.mpr c24
     clear c24
     simp only [Option.some.injEq, Prod.mk.injEq] at H
     obtain ⟨rfl, rfl⟩ := H
     have hnb25 := NB179_180.out
     have hnc25 := NB180_179.out
     have hcz26_0 : wr.cell? ⟨gb179, 0, none⟩ = some (.bool a0_0) := (blk_cell BK179.out 0).trans rfl
     have hcz26_1 : wr.cell? ⟨gb179, 1, none⟩ = some (u180001) := (blk_cell BK179.out 1).trans rfl
     have hfz26_0 := blk_frozen BK179.out 0
     have hfz26_1 := blk_frozen BK179.out 1
     obtain ⟨Ao27, co27, eo27⟩ := Kd.V_slice HO_180001.out
     subst eo27
     have hcz28_0 : wr.cell? ⟨gb180, 0, none⟩ = some (.bool false) := (blk_cell BK180.out 0).trans rfl
     have hcz28_1 : wr.cell? ⟨gb180, 1, none⟩ = some (.slice none 0 0) := (blk_cell BK180.out 1).trans rfl
     have hfz28_0 := blk_frozen BK180.out 0
     have hfz28_1 := blk_frozen BK180.out 1
     go_wp2
     refine bodyPost_ret (results_cell_row rfl _ _ gb180 28 #[.bool false, .slice none 0 0] (0, 0) _ rfl (by (with_reducible repeat (first | refine blk_drewN ?_ _ | refine blk_drew ?_ | refine blk_alloc ?_ _)); refine blk_put (cs := #[.bool false, .slice none 0 0]) ?_ 1 _ rfl; (with_reducible repeat (first | refine blk_drewN ?_ _ | refine blk_drew ?_ | refine blk_alloc ?_ _)); refine blk_put (cs := #[.bool false, .slice none 0 0]) ?_ 0 _ rfl; (with_reducible repeat (first | refine blk_drewN ?_ _ | refine blk_drew ?_ | refine blk_alloc ?_ _)); exact BK180.out) Try.underlying28 rfl (by kernel_rfl)) rfl ?_
     exact ⟨_, by first | rfl | (simp [errW_none, errW_some] <;> rfl) | (simp [*, errW_none, errW_some] <;> rfl), Kd.V_nil _ _ _ _ _, by repeat (first | (with_reducible first | exact HB.out | apply below_alloc | apply pw_below_drewN | apply below_drew1 | refine below_set ?_ GE179.out | refine below_set ?_ GE180.out) | exact HB.out)⟩
    ·rw [if_neg c24] at H
     have c24b0 : ((x180001_1.length : Int) == 0) = false := beq_eq_false_iff_ne.mpr c24
     have c24b1 : ((x180001_1.length : Int) != 0) = true := bne_iff_ne.mpr c24
     have c24b2 : ¬ (x180001_1 = []) := fun h_ => c24 (by rw [h_]; rfl)
     simp only [Option.some.injEq, Prod.mk.injEq] at H
     obtain ⟨rfl, rfl⟩ := H
     have hnb29 := NB179_180.out
     have hnc29 := NB180_179.out
     have hcz30_0 : wr.cell? ⟨gb179, 0, none⟩ = some (.bool a0_0) := (blk_cell BK179.out 0).trans rfl
     have hcz30_1 : wr.cell? ⟨gb179, 1, none⟩ = some (u180001) := (blk_cell BK179.out 1).trans rfl
     have hfz30_0 := blk_frozen BK179.out 0
     have hfz30_1 := blk_frozen BK179.out 1
     obtain ⟨Ao31, co31, eo31⟩ := Kd.V_slice HO_180001.out
     subst eo31
     have hcz32_0 : wr.cell? ⟨gb180, 0, none⟩ = some (.bool false) := (blk_cell BK180.out 0).trans rfl
     have hcz32_1 : wr.cell? ⟨gb180, 1, none⟩ = some (.slice none 0 0) := (blk_cell BK180.out 1).trans rfl
     have hfz32_0 := blk_frozen BK180.out 0
     have hfz32_1 := blk_frozen BK180.out 1
     go_wp2
     refine bodyPost_ret (results_cell_row rfl _ _ gb180 28 #[.bool a0_0, .slice Ao31 x180001_1.length co31] (0, 0) _ rfl (by (with_reducible repeat (first | refine blk_drewN ?_ _ | refine blk_drew ?_ | refine blk_alloc ?_ _)); refine blk_put (cs := #[.bool a0_0, .slice none 0 0]) ?_ 1 _ rfl; (with_reducible repeat (first | refine blk_drewN ?_ _ | refine blk_drew ?_ | refine blk_alloc ?_ _)); refine blk_put (cs := #[.bool false, .slice none 0 0]) ?_ 0 _ rfl; (with_reducible repeat (first | refine blk_drewN ?_ _ | refine blk_drew ?_ | refine blk_alloc ?_ _)); exact BK180.out) Try.underlying28 rfl (by kernel_rfl)) rfl ?_
     exact ⟨_, by first | rfl | (simp [errW_none, errW_some] <;> rfl) | (simp [*, errW_none, errW_some] <;> rfl), by (with_reducible repeat (first | apply Kd.V_alloc | apply Kd.V_drewN | apply Kd.V_drew)); exact Kd.V_mono (Kd.V_far (p := ⟨gb180, 1, none⟩) (Kd.V_far (p := ⟨gb180, 0, none⟩) (Kd.V_mono HO_180001.out (fun k_ hk => (⟨hk, hk.2.2⟩ : _ ∧ k_ ≠ gb180))) (fun _ hk => hk.2) (.bool a0_0)) (fun _ hk => hk.2) (.slice Ao31 x180001_1.length co31)) (fun _ hk => hk.1.1), by repeat (first | (with_reducible first | exact HB.out | apply below_alloc | apply pw_below_drewN | apply below_drew1 | refine below_set ?_ GE179.out | refine below_set ?_ GE180.out) | exact HB.out)⟩

end Go.Proofs.Ytimgiiceipjpaaa.Print
