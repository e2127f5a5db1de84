/- What each Go function that is named below answers, as a Lean function, and that its walk comes to just that: for whatever arguments that function gives an answer for. Written by a program of this session (wip/mkpr.py, pr.sh). -/
import Derived.Test.YtimgiiceipjpaaaPrint0
namespace Go.Proofs.Ytimgiiceipjpaaa.Print
open Go.RowKit Go.Proofs.YtimgiiceipjpaaaW.PrintWords Go.Proofs.YtimgiiceipjpaaaW.PrintLast Go.Proofs.YtimgiiceipjpaaaW.PrintMore
attribute [local go_sem] max2_int min2_int max_two min_two max_three min_three max_four min_four   -- for this text's walks alone
open Go.Proofs.Ytimgiiceipjpaaa.Bits Go.Proofs.Ytimgiiceipjpaaa.Short
attribute [local go_sem] add64_run0 sub64_run0 add64_run sub64_run
set_option linter.unusedVariables false
set_option linter.unusedSimpArgs false

/-! ### turnstoneref01_trim: function 62 -/
def turnstoneref01_trim.l0 : Nat → Bool → List Int → Option (Bool × List Int)
 | 0, _, _ => none
 | k + 1, x372000, x372001 => if (x372001.length : Int) > 0 then (if 0 ≤ (wrap64 ((x372001.length : Int) - 1)) then (if (wrap64 ((x372001.length : Int) - 1)) < (x372001.length : Int) then (if (rd x372001 (wrap64 ((x372001.length : Int) - 1))) = 0 then (if (wrap64 ((x372001.length : Int) - 1)) ≤ (x372001.length : Int) then (turnstoneref01_trim.l0 k x372000 (x372001.take ((wrap64 ((x372001.length : Int) - 1)) : Int).toNat)) else (none)) else (if (x372001.length : Int) = 0 then (some (false, ([] : List Int))) else (some (x372000, x372001)))) else (none)) else (none)) else (if (x372001.length : Int) = 0 then (some (false, ([] : List Int))) else (some (x372000, x372001)))
def turnstoneref01_trim.f (k : Nat) (a0_0 : Bool) (l0_1 : List Int) : Option (Bool × List Int) := turnstoneref01_trim.l0 k a0_0 l0_1
theorem turnstoneref01_trim.mono_l : ∀ k, (∀ y0 y1, LeO (turnstoneref01_trim.l0 k y0 y1) (turnstoneref01_trim.l0 (k + 1) y0 y1))
 | 0 => fun _ _ r h => by simp [turnstoneref01_trim.l0] at h
 | k + 1 => by
  have ih0 := turnstoneref01_trim.mono_l k
  ·intro y0 y1
   unfold turnstoneref01_trim.l0
   repeat' first
   | (with_reducible exact ih0 _ _)
   | (with_reducible exact LeO.refl _)
   | (with_reducible exact LeO.none _)
   | (with_reducible refine LeO.ite ?_ ?_)
   | (with_reducible refine LeO.bind ?_ (fun _ => ?_))
   | exact ih0 _ _
   | exact LeO.none _
   | refine LeO.ite ?_ ?_
   | refine LeO.bind ?_ (fun _ => ?_)
theorem turnstoneref01_trim.mono : ∀ a0 a1 k, LeO (turnstoneref01_trim.f k a0 a1) (turnstoneref01_trim.f (k + 1) a0 a1) := by
 intro a0 a1 k
 have ih0 := turnstoneref01_trim.mono_l k
 unfold turnstoneref01_trim.f
 repeat' first
   | (with_reducible exact ih0 _ _)
   | (with_reducible exact LeO.refl _)
   | (with_reducible exact LeO.none _)
   | (with_reducible refine LeO.ite ?_ ?_)
   | (with_reducible refine LeO.bind ?_ (fun _ => ?_))
   | exact ih0 _ _
   | exact LeO.none _
   | refine LeO.ite ?_ ?_
   | refine LeO.bind ?_ (fun _ => ?_)
set_option maxHeartbeats 8000000 in
set_option maxRecDepth 100000 in
theorem turnstoneref01_trim.calls (k : Nat) (a0_0 : Bool) (P0_1_ : Nat → Prop) (A0_1 : Option Addr) (c0_1 : Nat) (l0_1 : List Int) (r1 : Bool) (r2 : List Int) (w : World) (hs0_1 : Kd.V (Kd.int .i64) 3 w w.heap.size (fun k_ => P0_1_ k_) (.slice A0_1 l0_1.length c0_1) l0_1) (h : turnstoneref01_trim.f k a0_0 l0_1 = some (r1, r2)) :
  Calls Try.prog 62 #[.agg #[.bool a0_0, .slice A0_1 l0_1.length c0_1]] w fun e w' => ∃ v1_ : Value, e = .returned (.agg #[.bool r1, v1_]) ∧ Kd.V (Kd.int .i64) 3 w' w.heap.size (fun k_ => (P0_1_ k_ ∨ w.heap.size ≤ k_)) v1_ r2 ∧ Below w.heap.size w w' := by
 have hu28 := Try.underlying28
 have HO0_1 := Aside0.mk (show Kd.V (Kd.int .i64) 3 w w.heap.size (fun k_ => (P0_1_ k_ ∨ w.heap.size ≤ k_)) (.slice A0_1 l0_1.length c0_1) l0_1 from Kd.V_mono hs0_1 (fun k_ hk => .inl hk))
 have HB := Aside0.mk (Below.refl w.heap.size w)
 have H : (turnstoneref01_trim.l0 k a0_0 l0_1) = some (r1, r2) := h
 clear h
 have H' := Aside0.mk H
 clear H
 go_enter Try.func62, Try.ntmps62
 go_wp2_with (first | ((with_reducible refine gate_dst (N := 1) rfl ?_); (try (refine gate_guard (by rfl) ?_; dsimp only)); refine box_event ?hg (N := 1) ?hd (cs := #[.bool a0_0, .slice A0_1 l0_1.length c0_1]) (t := 28) ?hr ?_; (case hd => rfl); (case hg => rfl); (case hr => first | (go_simp; done) | (go_simp; rfl)); intro gb371 hg w2 hbox hb; have n0_ := Aside0.mk (Kd.V_below (Kd.V_elderB (vt HO0_1) gb371 (Nat.le_of_eq hg.symm)) hb); have n1_ := belb HB hb; have n2_ := Aside0.mk (hbox); have n3_ := bels HB hg; have n4_ := bels HB hg; clear HO0_1; clear HB; have HO0_1 := n0_; have HB := n1_; have BK371 := n2_; have GW371 := n3_; have GE371 := n4_; clear n0_ n1_ n2_ n3_ n4_; clear hb hbox hg) | ((with_reducible refine gate_dst (N := 2) rfl ?_); (try (refine gate_guard (by rfl) ?_; dsimp only)); refine box_event ?hg (N := 2) ?hd (cs := #[.bool false, .slice none 0 0]) (t := 28) ?hr ?_; (case hd => rfl); (case hg => rfl); (case hr => first | (go_simp; done) | (go_simp; rfl)); intro gb372 hg w3 hbox hb; have n0_ := Aside0.mk (Kd.V_below (Kd.V_elderB (vt HO0_1) gb372 (Nat.le_of_eq hg.symm)) hb); have n1_ := blkb BK371 hb; have n2_ := belb HB hb; have n3_ := Aside0.mk (hbox); have n4_ := bels HB hg; have n5_ := bels HB hg; have n6_ := blkl BK371 hg; have n7_ := blkg BK371 hg; clear HO0_1; clear BK371; clear HB; have HO0_1 := n0_; have BK371 := n1_; have HB := n2_; have BK372 := n3_; have GW372 := n4_; have GE372 := n5_; have NB371_372 := n6_; have NB372_371 := n7_; clear n0_ n1_ n2_ n3_ n4_ n5_ n6_ n7_; clear hb hbox hg))
 (try simp only [Act.put, List.setIfInBounds_toArray, List.set_cons_zero, List.set_cons_succ])
 go_loopg [] k (fun kq w' => ∃ (x372001_1 : List Int) (u372001 : Value), Aside0 (turnstoneref01_trim.l0 kq a0_0 x372001_1 = some (r1, r2)) ∧ Aside0 (kq ≤ k) ∧ Aside0 (Kd.V (Kd.int .i64) 3 w' w.heap.size (fun k_ => (P0_1_ k_ ∨ w.heap.size ≤ k_) ∧ k_ ≠ gb371 ∧ k_ ≠ gb372) u372001 x372001_1) ∧ Aside0 (w'.heap[gb371]? = some (.cells #[.bool a0_0, u372001] 28 (0, 0))) ∧ Aside0 (w'.heap[gb372]? = some (.cells #[.bool false, (.slice none 0 0)] 28 (0, 0))) ∧ Aside0 (Below w.heap.size w w'))
 case atStart => exact ⟨(l0_1), (.slice A0_1 l0_1.length c0_1), H', ⟨Nat.le_refl _⟩, ⟨by (with_reducible repeat (first | apply Kd.V_alloc | apply Kd.V_drewN | apply Kd.V_drew)); exact Kd.V_mono HO0_1.out (fun _ hk => ⟨hk.1.1, ⟨hk.1.2, hk.2⟩⟩)⟩, ⟨by (with_reducible repeat (first | refine blk_drewN ?_ _ | refine blk_drew ?_ | refine blk_alloc ?_ _)); exact BK371.out⟩, ⟨by (with_reducible repeat (first | refine blk_drewN ?_ _ | refine blk_drew ?_ | refine blk_alloc ?_ _)); exact BK372.out⟩, ⟨by repeat (first | (with_reducible first | exact HB.out | apply below_alloc | apply pw_below_drewN | apply below_drew1 | refine below_set ?_ GE371.out | refine below_set ?_ GE372.out) | exact HB.out)⟩⟩
 case round =>
  clear H'
  try clear p2
  obtain ⟨x372001_1, u372001, HA, HK1, HO_372001, BK371, BK372, HB⟩ := hrel
  cases gk with
  | zero => exact absurd HA.out (by simp [turnstoneref01_trim.l0])
  | succ k1 =>
   have H := HA.out
   clear HA
   simp only [turnstoneref01_trim.l0] at H
   by_cases c4 : (x372001_1.length : Int) > 0
   ·rw [if_pos c4] at H
    have c4b0 : decide (0 < (x372001_1.length : Int)) = true := decide_eq_true c4
    have c4b1 : decide (0 < x372001_1.length) = true := decide_eq_true (by omega)
    clear c4
    obtain ⟨ji5, hji5⟩ : ∃ j_ : Int, (wrap64 ((x372001_1.length : Int) - 1)) = j_ := ⟨_, rfl⟩
    replace H : (if 0 ≤ (ji5) then (if (ji5) < (x372001_1.length : Int) then (if (rd x372001_1 (ji5)) = 0 then (if (ji5) ≤ (x372001_1.length : Int) then (turnstoneref01_trim.l0 k1 a0_0 (x372001_1.take ((ji5) : Int).toNat)) else (none)) else (if (x372001_1.length : Int) = 0 then (some (false, ([] : List Int))) else (some (a0_0, x372001_1)))) else (none)) else (none)) = some (r1, r2) := by first | (rw [hji5] at H; exact H) | (simp only [hji5] at H ⊢; exact H)
    have hji5w : (IntKind.i64.wrap ((x372001_1.length : Int) - 1)) = ji5 := (i64_w _).trans hji5
    by_cases c6 : 0 ≤ (ji5)
    ·rw [if_pos c6] at H
     have c6b0 : decide (0 ≤ (ji5)) = true := decide_eq_true c6
     clear c6
     by_cases c7 : (ji5) < (x372001_1.length : Int)
     ·rw [if_pos c7] at H
      have c7b0 : decide ((ji5) < (x372001_1.length : Int)) = true := decide_eq_true c7
      clear c7
      by_cases c8 : (rd x372001_1 (ji5)) = 0
      ·rw [if_pos c8] at H
       have c8b0 : ((rd x372001_1 (ji5)) == 0) = true := beq_iff_eq.mpr c8
       have c8b1 : ((rd x372001_1 (ji5)) != 0) = false := bne_eq_false_iff_eq.mpr c8
       clear c8
       have c9b0 := eq_true (of_decide_eq_true (by first | (with_reducible assumption) | assumption) : 0 ≤ (ji5))
       by_cases c10 : (ji5) ≤ (x372001_1.length : Int)
       ·rw [if_pos c10] at H
        have c10b0 := eq_true c10
        have c10b1 : decide ((ji5) ≤ (x372001_1.length : Int)) = true := decide_eq_true c10
        clear c10
        obtain ⟨y374, hy374⟩ : ∃ y_ : List Int, y_ = (x372001_1.take ((ji5) : Int).toNat) := ⟨_, rfl⟩
        replace H : (turnstoneref01_trim.l0 k1 a0_0 y374) = some (r1, r2) := by first | (rw [hy374]; with_reducible exact H) | (have H2_ := (Option.bind_some _ _).symm.trans H; rw [hy374]; with_reducible exact H2_) | (have H2_ := (Option.bind_some _ _).symm.trans H; with_reducible exact H2_) | with_reducible exact H | (rw [hy374]; exact H) | exact H
        have Ny374 := Aside0.mk hy374
        clear hy374
        have H' := Aside0.mk H
        clear H
        have hnb11 := NB371_372.out
        have hnc11 := NB372_371.out
        have hcz12_0 : wr.cell? ⟨gb371, 0, none⟩ = some (.bool a0_0) := (blk_cell BK371.out 0).trans rfl
        have hcz12_1 : wr.cell? ⟨gb371, 1, none⟩ = some (u372001) := (blk_cell BK371.out 1).trans rfl
        have hfz12_0 := blk_frozen BK371.out 0
        have hfz12_1 := blk_frozen BK371.out 1
        obtain ⟨Ao13, co13, eo13⟩ := Kd.V_slice HO_372001.out
        subst eo13
        have p373 : 0 ≤ ((ji5) : Int) := of_decide_eq_true (by first | (with_reducible assumption) | assumption)
        have q373 : (ji5) < (x372001_1.length : Int) := of_decide_eq_true (by first | (with_reducible assumption) | assumption)
        obtain ⟨ad373, e373, hx373_0⟩ := Kd.at_int (Kd.V_reads' HO_372001.out).2.2 (ji5) p373 q373
        cases e373
        replace p373 := eq_true p373
        replace q373 := eq_true q373
        have q14 : ((ji5) : Int) ≤ ((x372001_1.length : Int) : Int) := of_decide_eq_true (by first | (with_reducible assumption) | assumption)
        obtain ⟨i014, hi014, _, hsz14, _⟩ := info_parts info3
        have hroom14 : x372001_1.length ≤ co13 := (Kd.V_reads' HO_372001.out).2.1
        have hC14 : Kd.F (Kd.int .i64) _ _ (some ad373) x372001_1.length x372001_1 := (Kd.V_at (base := w.heap.size) HO_372001.out).2.2
        have hcut14 := cut_to (P := Try.prog) 26 3 .i64 Try.underlying26 hi014 (some ad373) x372001_1.length co13 (ji5) (of_decide_eq_true (by first | (with_reducible assumption) | assumption)) q14 hroom14
        have hr14 := Kd.F_take (m := ((ji5) : Int).toNat) hC14 (by omega)
        have hy14 : y374.length = ((ji5) : Int).toNat := (by rw [Ny374.out, List.length_take]; omega)
        rw [← Ny374.out] at hr14
        rw [← hy14] at hcut14
        have HO378 := Aside0.mk (show Kd.V (Kd.int .i64) 3 _ w.heap.size _ (.slice (some ad373) y374.length co13) y374 from Kd.V_mk (by omega) hr14)
        have HC378 := Aside0.mk (show y374.length ≤ co13 from by omega)
        clear hr14 hC14 hroom14 hi014 hsz14
        have KY14 := Aside0.mk hy14
        clear hy14
        replace q14 := eq_true q14
        go_wp2
        go_roundg k1
        case measure => have := HK1.out; omega
        case rel => exact ⟨(y374), (.slice (some ad373) y374.length co13), H', ⟨by have := HK1.out; omega⟩, ⟨by (with_reducible repeat (first | apply Kd.V_alloc | apply Kd.V_drewN | apply Kd.V_drew)); exact Kd.V_mono (Kd.V_far (p := ⟨gb371, 1, none⟩) (Kd.V_mono HO378.out (fun k_ hk => (⟨hk, hk.2.1⟩ : _ ∧ k_ ≠ gb371))) (fun _ hk => hk.2) (.slice (some ad373) y374.length co13)) (fun _ hk => ⟨hk.1.1, ⟨hk.1.2.1, hk.1.2.2⟩⟩)⟩, ⟨by (with_reducible repeat (first | refine blk_drewN ?_ _ | refine blk_drew ?_ | refine blk_alloc ?_ _)); refine blk_put (cs := #[.bool a0_0, .slice (some ad373) x372001_1.length co13]) ?_ 1 _ rfl; (with_reducible repeat (first | refine blk_drewN ?_ _ | refine blk_drew ?_ | refine blk_alloc ?_ _)); exact BK371.out⟩, ⟨by (with_reducible repeat (first | refine blk_drewN ?_ _ | refine blk_drew ?_ | refine blk_alloc ?_ _)); refine blk_far ?_ NB372_371.out _; (with_reducible repeat (first | refine blk_drewN ?_ _ | refine blk_drew ?_ | refine blk_alloc ?_ _)); exact BK372.out⟩, ⟨by repeat (first | (with_reducible first | exact HB.out | apply below_alloc | apply pw_below_drewN | apply below_drew1 | refine below_set ?_ GE371.out | refine below_set ?_ GE372.out) | exact HB.out)⟩⟩
       ·rw [if_neg c10] at H
        exact absurd H (by simp)
      ·rw [if_neg c8] at H
       have c8b0 : ((rd x372001_1 (ji5)) == 0) = false := beq_eq_false_iff_ne.mpr c8
       have c8b1 : ((rd x372001_1 (ji5)) != 0) = true := bne_iff_ne.mpr c8
       by_cases c15 : (x372001_1.length : Int) = 0
       ·rw [if_pos c15] at H
        have c15b0 : ((x372001_1.length : Int) == 0) = true := beq_iff_eq.mpr c15
        have c15b1 : ((x372001_1.length : Int) != 0) = false := bne_eq_false_iff_eq.mpr c15
        clear c15
        simp only [Option.some.injEq, Prod.mk.injEq] at H
        obtain ⟨rfl, rfl⟩ := H
        have hnb16 := NB371_372.out
        have hnc16 := NB372_371.out
        have hcz17_0 : wr.cell? ⟨gb371, 0, none⟩ = some (.bool a0_0) := (blk_cell BK371.out 0).trans rfl
        have hcz17_1 : wr.cell? ⟨gb371, 1, none⟩ = some (u372001) := (blk_cell BK371.out 1).trans rfl
        have hfz17_0 := blk_frozen BK371.out 0
        have hfz17_1 := blk_frozen BK371.out 1
        obtain ⟨Ao18, co18, eo18⟩ := Kd.V_slice HO_372001.out
        subst eo18
        have p373 : 0 ≤ ((ji5) : Int) := of_decide_eq_true (by first | (with_reducible assumption) | assumption)
        have q373 : (ji5) < (x372001_1.length : Int) := of_decide_eq_true (by first | (with_reducible assumption) | assumption)
        obtain ⟨ad373, e373, hx373_0⟩ := Kd.at_int (Kd.V_reads' HO_372001.out).2.2 (ji5) p373 q373
        cases e373
        replace p373 := eq_true p373
        replace q373 := eq_true q373
        have hcz19_0 : wr.cell? ⟨gb372, 0, none⟩ = some (.bool false) := (blk_cell BK372.out 0).trans rfl
        have hcz19_1 : wr.cell? ⟨gb372, 1, none⟩ = some (.slice none 0 0) := (blk_cell BK372.out 1).trans rfl
        have hfz19_0 := blk_frozen BK372.out 0
        have hfz19_1 := blk_frozen BK372.out 1
        go_wp2
        refine bodyPost_ret (results_cell_row rfl _ _ gb372 28 #[.bool false, .slice none 0 0] (0, 0) _ rfl (by (with_reducible repeat (first | refine blk_drewN ?_ _ | refine blk_drew ?_ | refine blk_alloc ?_ _)); refine blk_put (cs := #[.bool false, .slice none 0 0]) ?_ 1 _ rfl; (with_reducible repeat (first | refine blk_drewN ?_ _ | refine blk_drew ?_ | refine blk_alloc ?_ _)); refine blk_put (cs := #[.bool false, .slice none 0 0]) ?_ 0 _ rfl; (with_reducible repeat (first | refine blk_drewN ?_ _ | refine blk_drew ?_ | refine blk_alloc ?_ _)); exact BK372.out) Try.underlying28 rfl (by kernel_rfl)) rfl ?_
        exact ⟨_, by first | rfl | (simp [errW_none, errW_some] <;> rfl) | (simp only [← hji5]; first | rfl | (simp [errW_none, errW_some] <;> rfl)) | (simp [*, errW_none, errW_some] <;> rfl), Kd.V_nil _ _ _ _ _, by repeat (first | (with_reducible first | exact HB.out | apply below_alloc | apply pw_below_drewN | apply below_drew1 | refine below_set ?_ GE371.out | refine below_set ?_ GE372.out) | exact HB.out)⟩
       ·rw [if_neg c15] at H
        have c15b0 : ((x372001_1.length : Int) == 0) = false := beq_eq_false_iff_ne.mpr c15
        have c15b1 : ((x372001_1.length : Int) != 0) = true := bne_iff_ne.mpr c15
        have c15b2 : ¬ (x372001_1 = []) := fun h_ => c15 (by rw [h_]; rfl)
        simp only [Option.some.injEq, Prod.mk.injEq] at H
        obtain ⟨rfl, rfl⟩ := H
        have hnb20 := NB371_372.out
        have hnc20 := NB372_371.out
        have hcz21_0 : wr.cell? ⟨gb371, 0, none⟩ = some (.bool a0_0) := (blk_cell BK371.out 0).trans rfl
        have hcz21_1 : wr.cell? ⟨gb371, 1, none⟩ = some (u372001) := (blk_cell BK371.out 1).trans rfl
        have hfz21_0 := blk_frozen BK371.out 0
        have hfz21_1 := blk_frozen BK371.out 1
        obtain ⟨Ao22, co22, eo22⟩ := Kd.V_slice HO_372001.out
        subst eo22
        have p373 : 0 ≤ ((ji5) : Int) := of_decide_eq_true (by first | (with_reducible assumption) | assumption)
        have q373 : (ji5) < (x372001_1.length : Int) := of_decide_eq_true (by first | (with_reducible assumption) | assumption)
        obtain ⟨ad373, e373, hx373_0⟩ := Kd.at_int (Kd.V_reads' HO_372001.out).2.2 (ji5) p373 q373
        cases e373
        replace p373 := eq_true p373
        replace q373 := eq_true q373
        have hcz23_0 : wr.cell? ⟨gb372, 0, none⟩ = some (.bool false) := (blk_cell BK372.out 0).trans rfl
        have hcz23_1 : wr.cell? ⟨gb372, 1, none⟩ = some (.slice none 0 0) := (blk_cell BK372.out 1).trans rfl
        have hfz23_0 := blk_frozen BK372.out 0
        have hfz23_1 := blk_frozen BK372.out 1
        go_wp2
        refine bodyPost_ret (results_cell_row rfl _ _ gb372 28 #[.bool a0_0, .slice (some ad373) x372001_1.length co22] (0, 0) _ rfl (by (with_reducible repeat (first | refine blk_drewN ?_ _ | refine blk_drew ?_ | refine blk_alloc ?_ _)); refine blk_put (cs := #[.bool a0_0, .slice none 0 0]) ?_ 1 _ rfl; (with_reducible repeat (first | refine blk_drewN ?_ _ | refine blk_drew ?_ | refine blk_alloc ?_ _)); refine blk_put (cs := #[.bool false, .slice none 0 0]) ?_ 0 _ rfl; (with_reducible repeat (first | refine blk_drewN ?_ _ | refine blk_drew ?_ | refine blk_alloc ?_ _)); exact BK372.out) Try.underlying28 rfl (by kernel_rfl)) rfl ?_
        exact ⟨_, by first | rfl | (simp [errW_none, errW_some] <;> rfl) | (simp only [← hji5]; first | rfl | (simp [errW_none, errW_some] <;> rfl)) | (simp [*, errW_none, errW_some] <;> rfl), by (with_reducible repeat (first | apply Kd.V_alloc | apply Kd.V_drewN | apply Kd.V_drew)); exact Kd.V_mono (Kd.V_far (p := ⟨gb372, 1, none⟩) (Kd.V_far (p := ⟨gb372, 0, none⟩) (Kd.V_mono HO_372001.out (fun k_ hk => (⟨hk, hk.2.2⟩ : _ ∧ k_ ≠ gb372))) (fun _ hk => hk.2) (.bool a0_0)) (fun _ hk => hk.2) (.slice (some ad373) x372001_1.length co22)) (fun _ hk => hk.1.1), by repeat (first | (with_reducible first | exact HB.out | apply below_alloc | apply pw_below_drewN | apply below_drew1 | refine below_set ?_ GE371.out | refine below_set ?_ GE372.out) | exact HB.out)⟩
     ·rw [if_neg c7] at H
      exact absurd H (by simp)
    ·rw [if_neg c6] at H
     exact absurd H (by simp)
   ·rw [if_neg c4] at H
    have c4b0 : decide (0 < (x372001_1.length : Int)) = false := decide_eq_false c4
    have c4b1 : decide (0 < x372001_1.length) = false := decide_eq_false (by omega)
    clear c4
    by_cases c24 : (x372001_1.length : Int) = 0
    ·rw [if_pos c24] at H
     have c24b0 : ((x372001_1.length : Int) == 0) = true := beq_iff_eq.mpr c24
     have c24b1 : ((x372001_1.length : Int) != 0) = false := bne_eq_false_iff_eq.mpr c24
     clear c24
     simp only [Option.some.injEq, Prod.mk.injEq] at H
     obtain ⟨rfl, rfl⟩ := H
     have hnb25 := NB371_372.out
     have hnc25 := NB372_371.out
     have hcz26_0 : wr.cell? ⟨gb371, 0, none⟩ = some (.bool a0_0) := (blk_cell BK371.out 0).trans rfl
     have hcz26_1 : wr.cell? ⟨gb371, 1, none⟩ = some (u372001) := (blk_cell BK371.out 1).trans rfl
     have hfz26_0 := blk_frozen BK371.out 0
     have hfz26_1 := blk_frozen BK371.out 1
     obtain ⟨Ao27, co27, eo27⟩ := Kd.V_slice HO_372001.out
     subst eo27
     have hcz28_0 : wr.cell? ⟨gb372, 0, none⟩ = some (.bool false) := (blk_cell BK372.out 0).trans rfl
     have hcz28_1 : wr.cell? ⟨gb372, 1, none⟩ = some (.slice none 0 0) := (blk_cell BK372.out 1).trans rfl
     have hfz28_0 := blk_frozen BK372.out 0
     have hfz28_1 := blk_frozen BK372.out 1
     go_wp2
     refine bodyPost_ret (results_cell_row rfl _ _ gb372 28 #[.bool false, .slice none 0 0] (0, 0) _ rfl (by (with_reducible repeat (first | refine blk_drewN ?_ _ | refine blk_drew ?_ | refine blk_alloc ?_ _)); refine blk_put (cs := #[.bool false, .slice none 0 0]) ?_ 1 _ rfl; (with_reducible repeat (first | refine blk_drewN ?_ _ | refine blk_drew ?_ | refine blk_alloc ?_ _)); refine blk_put (cs := #[.bool false, .slice none 0 0]) ?_ 0 _ rfl; (with_reducible repeat (first | refine blk_drewN ?_ _ | refine blk_drew ?_ | refine blk_alloc ?_ _)); exact BK372.out) Try.underlying28 rfl (by kernel_rfl)) rfl ?_
     exact ⟨_, by first | rfl | (simp [errW_none, errW_some] <;> rfl) | (simp [*, errW_none, errW_some] <;> rfl), Kd.V_nil _ _ _ _ _, by repeat (first | (with_reducible first | exact HB.out | apply below_alloc | apply pw_below_drewN | apply below_drew1 | refine below_set ?_ GE371.out | refine below_set ?_ GE372.out) | exact HB.out)⟩
    ·rw [if_neg c24] at H
     have c24b0 : ((x372001_1.length : Int) == 0) = false := beq_eq_false_iff_ne.mpr c24
     have c24b1 : ((x372001_1.length : Int) != 0) = true := bne_iff_ne.mpr c24
     have c24b2 : ¬ (x372001_1 = []) := fun h_ => c24 (by rw [h_]; rfl)
     simp only [Option.some.injEq, Prod.mk.injEq] at H
     obtain ⟨rfl, rfl⟩ := H
     have hnb29 := NB371_372.out
     have hnc29 := NB372_371.out
     have hcz30_0 : wr.cell? ⟨gb371, 0, none⟩ = some (.bool a0_0) := (blk_cell BK371.out 0).trans rfl
     have hcz30_1 : wr.cell? ⟨gb371, 1, none⟩ = some (u372001) := (blk_cell BK371.out 1).trans rfl
     have hfz30_0 := blk_frozen BK371.out 0
     have hfz30_1 := blk_frozen BK371.out 1
     obtain ⟨Ao31, co31, eo31⟩ := Kd.V_slice HO_372001.out
     subst eo31
     have hcz32_0 : wr.cell? ⟨gb372, 0, none⟩ = some (.bool false) := (blk_cell BK372.out 0).trans rfl
     have hcz32_1 : wr.cell? ⟨gb372, 1, none⟩ = some (.slice none 0 0) := (blk_cell BK372.out 1).trans rfl
     have hfz32_0 := blk_frozen BK372.out 0
     have hfz32_1 := blk_frozen BK372.out 1
     go_wp2
     refine bodyPost_ret (results_cell_row rfl _ _ gb372 28 #[.bool a0_0, .slice Ao31 x372001_1.length co31] (0, 0) _ rfl (by (with_reducible repeat (first | refine blk_drewN ?_ _ | refine blk_drew ?_ | refine blk_alloc ?_ _)); refine blk_put (cs := #[.bool a0_0, .slice none 0 0]) ?_ 1 _ rfl; (with_reducible repeat (first | refine blk_drewN ?_ _ | refine blk_drew ?_ | refine blk_alloc ?_ _)); refine blk_put (cs := #[.bool false, .slice none 0 0]) ?_ 0 _ rfl; (with_reducible repeat (first | refine blk_drewN ?_ _ | refine blk_drew ?_ | refine blk_alloc ?_ _)); exact BK372.out) Try.underlying28 rfl (by kernel_rfl)) rfl ?_
     exact ⟨_, by first | rfl | (simp [errW_none, errW_some] <;> rfl) | (simp [*, errW_none, errW_some] <;> rfl), by (with_reducible repeat (first | apply Kd.V_alloc | apply Kd.V_drewN | apply Kd.V_drew)); exact Kd.V_mono (Kd.V_far (p := ⟨gb372, 1, none⟩) (Kd.V_far (p := ⟨gb372, 0, none⟩) (Kd.V_mono HO_372001.out (fun k_ hk => (⟨hk, hk.2.2⟩ : _ ∧ k_ ≠ gb372))) (fun _ hk => hk.2) (.bool a0_0)) (fun _ hk => hk.2) (.slice Ao31 x372001_1.length co31)) (fun _ hk => hk.1.1), by repeat (first | (with_reducible first | exact HB.out | apply below_alloc | apply pw_below_drewN | apply below_drew1 | refine below_set ?_ GE371.out | refine below_set ?_ GE372.out) | exact HB.out)⟩

/-! ### turnstoneref01_digit: function 71 -/
def turnstoneref01_digit.f (a0_0 : Bool) (l0_1 : List Int) (a1 : Int) : Option (Int) := if a1 < (l0_1.length : Int) then (if 0 ≤ a1 then (some (rd l0_1 a1)) else (none)) else (some 0)
set_option maxHeartbeats 8000000 in
set_option maxRecDepth 100000 in
theorem turnstoneref01_digit.calls (a0_0 : Bool) (A0_1 : Option Addr) (c0_1 : Nat) (l0_1 : List Int) (a1 : Int) (r : Int) (w : World) (hr0_1 : Kd.C (Kd.int .i64) w A0_1 l0_1.length l0_1) (hc0_1 : l0_1.length ≤ c0_1) (h : turnstoneref01_digit.f a0_0 l0_1 a1 = some r) :
  Calls Try.prog 71 #[.agg #[.bool a0_0, .slice A0_1 l0_1.length c0_1], .int .i64 a1] w fun e w' => e = .returned (.int .i64 r) ∧ Below w.heap.size w w' := by
 have hu28 := Try.underlying28
 have HR0_1 := Aside0.mk hr0_1
 have HC0_1 := Aside0.mk hc0_1
 clear hr0_1 hc0_1
 have HB := Aside0.mk (Below.refl w.heap.size w)
 have H : (if a1 < (l0_1.length : Int) then (if 0 ≤ a1 then (some (rd l0_1 a1)) else (none)) else (some 0)) = some r := h
 clear h
 by_cases c3 : a1 < (l0_1.length : Int)
 ·rw [if_pos c3] at H
  have c3b0 : decide (a1 < (l0_1.length : Int)) = true := decide_eq_true c3
  clear c3
  by_cases c4 : 0 ≤ a1
  ·rw [if_pos c4] at H
   have c4b0 : decide (0 ≤ a1) = true := decide_eq_true c4
   clear c4
   obtain rfl := Option.some.inj H
   go_enter Try.func71, Try.ntmps71
   go_wp2_with (first | ((with_reducible refine gate_dst (N := 2) rfl ?_); refine box_event ?hg (N := 2) ?hd (cs := #[.bool a0_0, .slice A0_1 l0_1.length c0_1]) (t := 28) ?hr ?_; (case hd => rfl); (case hg => rfl); (case hr => first | (go_simp; done) | (go_simp; rfl)); intro gb379 hg w5 hbox hb; have n0_ := belb HB hb; have n1_ := Aside0.mk (hbox); have n2_ := bels HB hg; have n3_ := bels HB hg; clear HB; have HB := n0_; have BK379 := n1_; have GW379 := n2_; have GE379 := n3_; clear n0_ n1_ n2_ n3_; clear hb hbox hg; have hcz6_0 : w5.cell? ⟨gb379, 0, none⟩ = some (.bool a0_0) := (blk_cell BK379.out 0).trans rfl; have hcz6_1 : w5.cell? ⟨gb379, 1, none⟩ = some (.slice A0_1 l0_1.length c0_1) := (blk_cell BK379.out 1).trans rfl; have hfz6_0 := blk_frozen BK379.out 0; have hfz6_1 := blk_frozen BK379.out 1; have p380 : 0 ≤ (a1 : Int) := of_decide_eq_true (by first | (with_reducible assumption) | assumption); have q380 : a1 < (l0_1.length : Int) := of_decide_eq_true (by first | (with_reducible assumption) | assumption); obtain ⟨ad380, e380, hx380_0⟩ := Kd.at_int HR0_1.out a1 p380 q380; cases e380; replace hx380_0 := (HB.out.cell (World.block_lt_of_cell? w _ hx380_0)).trans hx380_0; replace p380 := eq_true p380; replace q380 := eq_true q380))
   go_ret
   exact ⟨by first | rfl | (simp [errW_none, errW_some] <;> rfl) | (simp [*, errW_none, errW_some] <;> rfl), by repeat (first | (with_reducible first | exact HB.out | apply below_alloc | apply pw_below_drewN | apply below_drew1 | refine below_set ?_ GE379.out) | exact HB.out)⟩
  ·rw [if_neg c4] at H
   exact absurd H (by simp)
 ·rw [if_neg c3] at H
  have c3b0 : decide (a1 < (l0_1.length : Int)) = false := decide_eq_false c3
  clear c3
  obtain rfl := Option.some.inj H
  go_enter Try.func71, Try.ntmps71
  go_wp2_with (first | ((with_reducible refine gate_dst (N := 2) rfl ?_); refine box_event ?hg (N := 2) ?hd (cs := #[.bool a0_0, .slice A0_1 l0_1.length c0_1]) (t := 28) ?hr ?_; (case hd => rfl); (case hg => rfl); (case hr => first | (go_simp; done) | (go_simp; rfl)); intro gb379 hg w7 hbox hb; have n0_ := belb HB hb; have n1_ := Aside0.mk (hbox); have n2_ := bels HB hg; have n3_ := bels HB hg; clear HB; have HB := n0_; have BK379 := n1_; have GW379 := n2_; have GE379 := n3_; clear n0_ n1_ n2_ n3_; clear hb hbox hg; have hcz8_0 : w7.cell? ⟨gb379, 0, none⟩ = some (.bool a0_0) := (blk_cell BK379.out 0).trans rfl; have hcz8_1 : w7.cell? ⟨gb379, 1, none⟩ = some (.slice A0_1 l0_1.length c0_1) := (blk_cell BK379.out 1).trans rfl; have hfz8_0 := blk_frozen BK379.out 0; have hfz8_1 := blk_frozen BK379.out 1))
  go_ret
  exact ⟨by first | rfl | (simp [errW_none, errW_some] <;> rfl) | (simp [*, errW_none, errW_some] <;> rfl), by repeat (first | (with_reducible first | exact HB.out | apply below_alloc | apply pw_below_drewN | apply below_drew1 | refine below_set ?_ GE379.out) | exact HB.out)⟩

end Go.Proofs.Ytimgiiceipjpaaa.Print
