/- What each Go function that is named below answers, as a Lean function, and that its walk comes to just that: for whatever arguments that function gives an answer for. Written by a program of this session (wip/mkpr.py, pr.sh). -/
import Derived.Test.YtccokfebebmaeaaGreatDoorPrint1000
namespace Go.Proofs.YtccokfebebmaeaaGreatDoor.Print
open Go.RowKit Go.Proofs.YtccokfebebmaeaaGreatDoorW.PrintWords Go.Proofs.YtccokfebebmaeaaGreatDoorW.PrintLast Go.Proofs.YtccokfebebmaeaaGreatDoorW.PrintMore
attribute [local go_sem] max2_int min2_int max_two min_two max_three min_three max_four min_four   -- for this text's walks alone
open Go.Proofs.YtccokfebebmaeaaGreatDoor.Bits Go.Proofs.YtccokfebebmaeaaGreatDoor.Short
attribute [local go_sem] add64_run0 sub64_run0 add64_run sub64_run
set_option linter.unusedVariables false
set_option linter.unusedSimpArgs false

/-! ### turnstonelaw09_awake: function 25 -/
def turnstonelaw09_awake.f : Option Bool := some true
theorem turnstonelaw09_awake.calls (r : Bool) (w : World) (h : turnstonelaw09_awake.f = some r) : Calls Tryz.prog 25 #[] w fun e w' => e = .returned (.bool r) ∧ Below w.heap.size w w' := by
 obtain rfl := Option.some.inj h
 exact Go.Proofs.YtccokfebebmaeaaGreatDoor.Awake.at25 w


/-! ### turnstoneref01_trim: function 67 -/
def turnstoneref01_trim.l0 : Nat → Bool → List Int → Option (Bool × List Int)
 | 0, _, _ => none
 | k + 1, x215000, x215001 => if (x215001.length : Int) > 0 then (if 0 ≤ (wrap64 ((x215001.length : Int) - 1)) then (if (wrap64 ((x215001.length : Int) - 1)) < (x215001.length : Int) then (if (rd x215001 (wrap64 ((x215001.length : Int) - 1))) = 0 then (if (wrap64 ((x215001.length : Int) - 1)) ≤ (x215001.length : Int) then (turnstoneref01_trim.l0 k x215000 (x215001.take ((wrap64 ((x215001.length : Int) - 1)) : Int).toNat)) else (none)) else (if (x215001.length : Int) = 0 then (some (false, ([] : List Int))) else (some (x215000, x215001)))) else (none)) else (none)) else (if (x215001.length : Int) = 0 then (some (false, ([] : List Int))) else (some (x215000, x215001)))
def turnstoneref01_trim.f (k : Nat) (a0_0 : Bool) (l0_1 : List Int) : Option (Bool × List Int) := turnstoneref01_trim.l0 k a0_0 l0_1
theorem turnstoneref01_trim.mono_l : ∀ k, (∀ y0 y1, LeO (turnstoneref01_trim.l0 k y0 y1) (turnstoneref01_trim.l0 (k + 1) y0 y1))
 | 0 => fun _ _ r h => by simp [turnstoneref01_trim.l0] at h
 | k + 1 => by
  have ih0 := turnstoneref01_trim.mono_l k
  ·intro y0 y1
   unfold turnstoneref01_trim.l0
   repeat' first
   | (with_reducible exact ih0 _ _)
   | (with_reducible exact LeO.refl _)
   | (with_reducible exact LeO.none _)
   | (with_reducible refine LeO.ite ?_ ?_)
   | (with_reducible refine LeO.bind ?_ (fun _ => ?_))
   | exact ih0 _ _
   | exact LeO.none _
   | refine LeO.ite ?_ ?_
   | refine LeO.bind ?_ (fun _ => ?_)
theorem turnstoneref01_trim.mono : ∀ a0 a1 k, LeO (turnstoneref01_trim.f k a0 a1) (turnstoneref01_trim.f (k + 1) a0 a1) := by
 intro a0 a1 k
 have ih0 := turnstoneref01_trim.mono_l k
 unfold turnstoneref01_trim.f
 repeat' first
   | (with_reducible exact ih0 _ _)
   | (with_reducible exact LeO.refl _)
   | (with_reducible exact LeO.none _)
   | (with_reducible refine LeO.ite ?_ ?_)
   | (with_reducible refine LeO.bind ?_ (fun _ => ?_))
   | exact ih0 _ _
   | exact LeO.none _
   | refine LeO.ite ?_ ?_
   | refine LeO.bind ?_ (fun _ => ?_)
set_option maxHeartbeats 8000000 in
set_option maxRecDepth 100000 in
theorem turnstoneref01_trim.calls (k : Nat) (a0_0 : Bool) (P0_1_ : Nat → Prop) (A0_1 : Option Addr) (c0_1 : Nat) (l0_1 : List Int) (r1 : Bool) (r2 : List Int) (w : World) (hs0_1 : Kd.V (Kd.int .i64) 3 w w.heap.size (fun k_ => P0_1_ k_) (.slice A0_1 l0_1.length c0_1) l0_1) (h : turnstoneref01_trim.f k a0_0 l0_1 = some (r1, r2)) :
  Calls Tryz.prog 67 #[.agg #[.bool a0_0, .slice A0_1 l0_1.length c0_1]] w fun e w' => ∃ v1_ : Value, e = .returned (.agg #[.bool r1, v1_]) ∧ Kd.V (Kd.int .i64) 3 w' w.heap.size (fun k_ => (P0_1_ k_ ∨ w.heap.size ≤ k_)) v1_ r2 ∧ Below w.heap.size w w' := by
 have hu51 := Tryz.underlying51
 have HO0_1 := Aside0.mk (show Kd.V (Kd.int .i64) 3 w w.heap.size (fun k_ => (P0_1_ k_ ∨ w.heap.size ≤ k_)) (.slice A0_1 l0_1.length c0_1) l0_1 from Kd.V_mono hs0_1 (fun k_ hk => .inl hk))
 have HB := Aside0.mk (Below.refl w.heap.size w)
 have H : (turnstoneref01_trim.l0 k a0_0 l0_1) = some (r1, r2) := h
 clear h
 have H' := Aside0.mk H
 clear H
 go_enter Tryz.func67, Tryz.ntmps67
 go_wp2_with (first | ((with_reducible refine gate_dst (N := 1) rfl ?_); (try (refine gate_guard (by rfl) ?_; dsimp only)); refine box_event ?hg (N := 1) ?hd (cs := #[.bool a0_0, .slice A0_1 l0_1.length c0_1]) (t := 51) ?hr ?_; (case hd => rfl); (case hg => rfl); (case hr => first | (go_simp; done) | (go_simp; rfl)); intro gb214 hg w2 hbox hb; replace HO0_1 := Aside0.mk (Kd.V_below (Kd.V_elderB (vt HO0_1) gb214 (Nat.le_of_eq hg.symm)) hb); have BK214 := Aside0.mk (hbox); have GW214 := bels HB hg; have GE214 := bels HB hg; replace HB := belb HB hb; clear hb hbox hg) | ((with_reducible refine gate_dst (N := 2) rfl ?_); (try (refine gate_guard (by rfl) ?_; dsimp only)); refine box_event ?hg (N := 2) ?hd (cs := #[.bool false, .slice none 0 0]) (t := 51) ?hr ?_; (case hd => rfl); (case hg => rfl); (case hr => first | (go_simp; done) | (go_simp; rfl)); intro gb215 hg w3 hbox hb; replace HO0_1 := Aside0.mk (Kd.V_below (Kd.V_elderB (vt HO0_1) gb215 (Nat.le_of_eq hg.symm)) hb); have BK215 := Aside0.mk (hbox); have GW215 := bels HB hg; have GE215 := bels HB hg; have NB214_215 := blkl BK214 hg; have NB215_214 := blkg BK214 hg; replace BK214 := blkb BK214 hb; replace HB := belb HB hb; clear hb hbox hg))
 (try simp only [Act.put, List.setIfInBounds_toArray, List.set_cons_zero, List.set_cons_succ])
 go_loopg [] k (fun kq w' => ∃ (x215001_1 : List Int) (u215001 : Value), Aside0 (turnstoneref01_trim.l0 kq a0_0 x215001_1 = some (r1, r2)) ∧ Aside0 (kq ≤ k) ∧ Aside0 (Kd.V (Kd.int .i64) 3 w' w.heap.size (fun k_ => (P0_1_ k_ ∨ w.heap.size ≤ k_) ∧ k_ ≠ gb214 ∧ k_ ≠ gb215) u215001 x215001_1) ∧ Aside0 (w'.heap[gb214]? = some (.cells #[.bool a0_0, u215001] 51 (0, 0))) ∧ Aside0 (w'.heap[gb215]? = some (.cells #[.bool false, (.slice none 0 0)] 51 (0, 0))) ∧ Aside0 (Below w.heap.size w w'))
 case atStart => exact ⟨(l0_1), (.slice A0_1 l0_1.length c0_1), H', ⟨Nat.le_refl _⟩, ⟨by (with_reducible repeat (first | apply Kd.V_alloc | apply Kd.V_drewN | apply Kd.V_drew)); exact Kd.V_mono HO0_1.out (fun _ hk => ⟨hk.1.1, ⟨hk.1.2, hk.2⟩⟩)⟩, ⟨blkt BK214⟩, ⟨blkt BK215⟩, ⟨belt HB⟩⟩
 case round =>
  clear H'
  try clear p2
  obtain ⟨x215001_1, u215001, HA, HK1, HO_215001, BK214, BK215, HB⟩ := hrel
  cases gk with
  | zero => exact absurd HA.out (by simp [turnstoneref01_trim.l0])
  | succ k1 =>
   have H := HA.out
   clear HA
   simp only [turnstoneref01_trim.l0] at H
   by_cases c4 : (x215001_1.length : Int) > 0
   ·rw [if_pos c4] at H
    have c4b0 : decide (0 < (x215001_1.length : Int)) = true := decide_eq_true c4
    have c4b1 : decide (0 < x215001_1.length) = true := decide_eq_true (by omega)
    clear c4
    obtain ⟨ji5, hji5⟩ : ∃ j_ : Int, (wrap64 ((x215001_1.length : Int) - 1)) = j_ := ⟨_, rfl⟩
    replace H : (if 0 ≤ (ji5) then (if (ji5) < (x215001_1.length : Int) then (if (rd x215001_1 (ji5)) = 0 then (if (ji5) ≤ (x215001_1.length : Int) then (turnstoneref01_trim.l0 k1 a0_0 (x215001_1.take ((ji5) : Int).toNat)) else (none)) else (if (x215001_1.length : Int) = 0 then (some (false, ([] : List Int))) else (some (a0_0, x215001_1)))) else (none)) else (none)) = some (r1, r2) := by first | (rw [hji5] at H; exact H) | (simp only [hji5] at H ⊢; exact H)
    have hji5w : (IntKind.i64.wrap ((x215001_1.length : Int) - 1)) = ji5 := (i64_w _).trans hji5
    by_cases c6 : 0 ≤ (ji5)
    ·rw [if_pos c6] at H
     have c6b0 : decide (0 ≤ (ji5)) = true := decide_eq_true c6
     clear c6
     by_cases c7 : (ji5) < (x215001_1.length : Int)
     ·rw [if_pos c7] at H
      have c7b0 : decide ((ji5) < (x215001_1.length : Int)) = true := decide_eq_true c7
      clear c7
      by_cases c8 : (rd x215001_1 (ji5)) = 0
      ·rw [if_pos c8] at H
       have c8b0 : ((rd x215001_1 (ji5)) == 0) = true := beq_iff_eq.mpr c8
       have c8b1 : ((rd x215001_1 (ji5)) != 0) = false := bne_eq_false_iff_eq.mpr c8
       clear c8
       have c9b0 := eq_true (of_decide_eq_true (by first | (with_reducible assumption) | assumption) : 0 ≤ (ji5))
       by_cases c10 : (ji5) ≤ (x215001_1.length : Int)
       ·rw [if_pos c10] at H
        have c10b0 := eq_true c10
        have c10b1 : decide ((ji5) ≤ (x215001_1.length : Int)) = true := decide_eq_true c10
        clear c10
        obtain ⟨y217, hy217⟩ : ∃ y_ : List Int, y_ = (x215001_1.take ((ji5) : Int).toNat) := ⟨_, rfl⟩
        replace H : (turnstoneref01_trim.l0 k1 a0_0 y217) = some (r1, r2) := by first | (rw [hy217]; with_reducible exact H) | (have H2_ := (Option.bind_some _ _).symm.trans H; rw [hy217]; with_reducible exact H2_) | (have H2_ := (Option.bind_some _ _).symm.trans H; with_reducible exact H2_) | with_reducible exact H | (rw [hy217]; exact H) | exact H
        have Ny217 := Aside0.mk hy217
        clear hy217
        have H' := Aside0.mk H
        clear H
        have hnb11 := NB214_215.out
        have hnc11 := NB215_214.out
        have hcz12_0 : wr.cell? ⟨gb214, 0, none⟩ = some (.bool a0_0) := bc BK214 0
        have hcz12_1 : wr.cell? ⟨gb214, 1, none⟩ = some (u215001) := bc BK214 1
        have hfz12_0 := blk_frozen BK214.out 0
        have hfz12_1 := blk_frozen BK214.out 1
        obtain ⟨Ao13, co13, eo13⟩ := Kd.V_slice HO_215001.out
        subst eo13
        have p216 : 0 ≤ ((ji5) : Int) := of_decide_eq_true (by first | (with_reducible assumption) | assumption)
        have q216 : (ji5) < (x215001_1.length : Int) := of_decide_eq_true (by first | (with_reducible assumption) | assumption)
        obtain ⟨ad216, e216, hx216_0⟩ := Kd.at_int (Kd.V_reads' HO_215001.out).2.2 (ji5) p216 q216
        cases e216
        replace p216 := eq_true p216
        replace q216 := eq_true q216
        have q14 : ((ji5) : Int) ≤ ((x215001_1.length : Int) : Int) := of_decide_eq_true (by first | (with_reducible assumption) | assumption)
        obtain ⟨i014, hi014, _, hsz14, _⟩ := info_parts info3
        have hroom14 : x215001_1.length ≤ co13 := (Kd.V_reads' HO_215001.out).2.1
        have hC14 : Kd.F (Kd.int .i64) _ _ (some ad216) x215001_1.length x215001_1 := (Kd.V_at (base := w.heap.size) HO_215001.out).2.2
        have hcut14 := cut_to (P := Tryz.prog) 49 3 .i64 Tryz.underlying49 hi014 (some ad216) x215001_1.length co13 (ji5) (of_decide_eq_true (by first | (with_reducible assumption) | assumption)) q14 hroom14
        have hr14 := Kd.F_take (m := ((ji5) : Int).toNat) hC14 (by omega)
        have hy14 : y217.length = ((ji5) : Int).toNat := (by rw [Ny217.out, List.length_take]; omega)
        rw [← Ny217.out] at hr14
        rw [← hy14] at hcut14
        have HO221 := Aside0.mk (show Kd.V (Kd.int .i64) 3 _ w.heap.size _ (.slice (some ad216) y217.length co13) y217 from Kd.V_mk (by omega) hr14)
        have HC221 := Aside0.mk (show y217.length ≤ co13 from by omega)
        clear hr14 hC14 hroom14 hi014 hsz14
        have KY14 := Aside0.mk hy14
        clear hy14
        replace q14 := eq_true q14
        go_wp2
        go_roundg k1
        case measure => have := HK1.out; omega
        case rel => exact ⟨(y217), (.slice (some ad216) y217.length co13), H', ⟨by have := HK1.out; omega⟩, ⟨by (with_reducible repeat (first | apply Kd.V_alloc | apply Kd.V_drewN | apply Kd.V_drew)); exact Kd.V_mono (Kd.V_far (p := ⟨gb214, 1, none⟩) (Kd.V_mono HO221.out (fun k_ hk => (⟨hk, hk.2.1⟩ : _ ∧ k_ ≠ gb214))) (fun _ hk => hk.2) (.slice (some ad216) y217.length co13)) (fun _ hk => ⟨hk.1.1, ⟨hk.1.2.1, hk.1.2.2⟩⟩)⟩, ⟨by (with_reducible repeat (first | refine blk_drewN ?_ _ | refine blk_drew ?_ | refine blk_alloc ?_ _)); refine blk_put (cs := #[.bool a0_0, .slice (some ad216) x215001_1.length co13]) ?_ 1 _ rfl; exact blkt BK214⟩, ⟨by (with_reducible repeat (first | refine blk_drewN ?_ _ | refine blk_drew ?_ | refine blk_alloc ?_ _)); refine blk_far ?_ NB215_214.out _; exact blkt BK215⟩, ⟨belt HB⟩⟩
       rw [if_neg c10] at H
       exact absurd H (by simp)
      rw [if_neg c8] at H
      have c8b0 : ((rd x215001_1 (ji5)) == 0) = false := beq_eq_false_iff_ne.mpr c8
      have c8b1 : ((rd x215001_1 (ji5)) != 0) = true := bne_iff_ne.mpr c8
      by_cases c15 : (x215001_1.length : Int) = 0
      ·rw [if_pos c15] at H
       have c15b0 : ((x215001_1.length : Int) == 0) = true := beq_iff_eq.mpr c15
       have c15b1 : ((x215001_1.length : Int) != 0) = false := bne_eq_false_iff_eq.mpr c15
       clear c15
       simp only [Option.some.injEq, Prod.mk.injEq] at H
       obtain ⟨rfl, rfl⟩ := H
       have hnb16 := NB214_215.out
       have hnc16 := NB215_214.out
       have hcz17_0 : wr.cell? ⟨gb214, 0, none⟩ = some (.bool a0_0) := bc BK214 0
       have hcz17_1 : wr.cell? ⟨gb214, 1, none⟩ = some (u215001) := bc BK214 1
       have hfz17_0 := blk_frozen BK214.out 0
       have hfz17_1 := blk_frozen BK214.out 1
       obtain ⟨Ao18, co18, eo18⟩ := Kd.V_slice HO_215001.out
       subst eo18
       have p216 : 0 ≤ ((ji5) : Int) := of_decide_eq_true (by first | (with_reducible assumption) | assumption)
       have q216 : (ji5) < (x215001_1.length : Int) := of_decide_eq_true (by first | (with_reducible assumption) | assumption)
       obtain ⟨ad216, e216, hx216_0⟩ := Kd.at_int (Kd.V_reads' HO_215001.out).2.2 (ji5) p216 q216
       cases e216
       replace p216 := eq_true p216
       replace q216 := eq_true q216
       have hcz19_0 : wr.cell? ⟨gb215, 0, none⟩ = some (.bool false) := bc BK215 0
       have hcz19_1 : wr.cell? ⟨gb215, 1, none⟩ = some (.slice none 0 0) := bc BK215 1
       have hfz19_0 := blk_frozen BK215.out 0
       have hfz19_1 := blk_frozen BK215.out 1
       go_wp2
       refine bodyPost_ret (results_cell_row rfl _ _ gb215 51 #[.bool false, .slice none 0 0] (0, 0) _ rfl (by (with_reducible repeat (first | refine blk_drewN ?_ _ | refine blk_drew ?_ | refine blk_alloc ?_ _)); refine blk_put (cs := #[.bool false, .slice none 0 0]) ?_ 1 _ rfl; (with_reducible repeat (first | refine blk_drewN ?_ _ | refine blk_drew ?_ | refine blk_alloc ?_ _)); refine blk_put (cs := #[.bool false, .slice none 0 0]) ?_ 0 _ rfl; exact blkt BK215) Tryz.underlying51 rfl (by kernel_rfl)) rfl ?_
       exact ⟨_, by first | rfl | (simp [errW_none, errW_some] <;> rfl) | (simp only [← hji5]; first | rfl | (simp [errW_none, errW_some] <;> rfl)) | (simp [*, errW_none, errW_some] <;> rfl), Kd.V_nil _ _ _ _ _, belt HB⟩
      rw [if_neg c15] at H
      have c15b0 : ((x215001_1.length : Int) == 0) = false := beq_eq_false_iff_ne.mpr c15
      have c15b1 : ((x215001_1.length : Int) != 0) = true := bne_iff_ne.mpr c15
      have c15b2 : ¬ (x215001_1 = []) := fun h_ => c15 (by rw [h_]; rfl)
      simp only [Option.some.injEq, Prod.mk.injEq] at H
      obtain ⟨rfl, rfl⟩ := H
      have hnb20 := NB214_215.out
      have hnc20 := NB215_214.out
      have hcz21_0 : wr.cell? ⟨gb214, 0, none⟩ = some (.bool a0_0) := bc BK214 0
      have hcz21_1 : wr.cell? ⟨gb214, 1, none⟩ = some (u215001) := bc BK214 1
      have hfz21_0 := blk_frozen BK214.out 0
      have hfz21_1 := blk_frozen BK214.out 1
      obtain ⟨Ao22, co22, eo22⟩ := Kd.V_slice HO_215001.out
      subst eo22
      have p216 : 0 ≤ ((ji5) : Int) := of_decide_eq_true (by first | (with_reducible assumption) | assumption)
      have q216 : (ji5) < (x215001_1.length : Int) := of_decide_eq_true (by first | (with_reducible assumption) | assumption)
      obtain ⟨ad216, e216, hx216_0⟩ := Kd.at_int (Kd.V_reads' HO_215001.out).2.2 (ji5) p216 q216
      cases e216
      replace p216 := eq_true p216
      replace q216 := eq_true q216
      have hcz23_0 : wr.cell? ⟨gb215, 0, none⟩ = some (.bool false) := bc BK215 0
      have hcz23_1 : wr.cell? ⟨gb215, 1, none⟩ = some (.slice none 0 0) := bc BK215 1
      have hfz23_0 := blk_frozen BK215.out 0
      have hfz23_1 := blk_frozen BK215.out 1
      go_wp2
      refine bodyPost_ret (results_cell_row rfl _ _ gb215 51 #[.bool a0_0, .slice (some ad216) x215001_1.length co22] (0, 0) _ rfl (by (with_reducible repeat (first | refine blk_drewN ?_ _ | refine blk_drew ?_ | refine blk_alloc ?_ _)); refine blk_put (cs := #[.bool a0_0, .slice none 0 0]) ?_ 1 _ rfl; (with_reducible repeat (first | refine blk_drewN ?_ _ | refine blk_drew ?_ | refine blk_alloc ?_ _)); refine blk_put (cs := #[.bool false, .slice none 0 0]) ?_ 0 _ rfl; exact blkt BK215) Tryz.underlying51 rfl (by kernel_rfl)) rfl ?_
      exact ⟨_, by first | rfl | (simp [errW_none, errW_some] <;> rfl) | (simp only [← hji5]; first | rfl | (simp [errW_none, errW_some] <;> rfl)) | (simp [*, errW_none, errW_some] <;> rfl), by (with_reducible repeat (first | apply Kd.V_alloc | apply Kd.V_drewN | apply Kd.V_drew)); exact Kd.V_mono (Kd.V_far (p := ⟨gb215, 1, none⟩) (Kd.V_far (p := ⟨gb215, 0, none⟩) (Kd.V_mono HO_215001.out (fun k_ hk => (⟨hk, hk.2.2⟩ : _ ∧ k_ ≠ gb215))) (fun _ hk => hk.2) (.bool a0_0)) (fun _ hk => hk.2) (.slice (some ad216) x215001_1.length co22)) (fun _ hk => hk.1.1), belt HB⟩
     rw [if_neg c7] at H
     exact absurd H (by simp)
    rw [if_neg c6] at H
    exact absurd H (by simp)
   rw [if_neg c4] at H
   have c4b0 : decide (0 < (x215001_1.length : Int)) = false := decide_eq_false c4
   have c4b1 : decide (0 < x215001_1.length) = false := decide_eq_false (by omega)
   clear c4
   by_cases c24 : (x215001_1.length : Int) = 0
   ·rw [if_pos c24] at H
    have c24b0 : ((x215001_1.length : Int) == 0) = true := beq_iff_eq.mpr c24
    have c24b1 : ((x215001_1.length : Int) != 0) = false := bne_eq_false_iff_eq.mpr c24
    clear c24
    simp only [Option.some.injEq, Prod.mk.injEq] at H
    obtain ⟨rfl, rfl⟩ := H
    have hnb25 := NB214_215.out
    have hnc25 := NB215_214.out
    have hcz26_0 : wr.cell? ⟨gb214, 0, none⟩ = some (.bool a0_0) := bc BK214 0
    have hcz26_1 : wr.cell? ⟨gb214, 1, none⟩ = some (u215001) := bc BK214 1
    have hfz26_0 := blk_frozen BK214.out 0
    have hfz26_1 := blk_frozen BK214.out 1
    obtain ⟨Ao27, co27, eo27⟩ := Kd.V_slice HO_215001.out
    subst eo27
    have hcz28_0 : wr.cell? ⟨gb215, 0, none⟩ = some (.bool false) := bc BK215 0
    have hcz28_1 : wr.cell? ⟨gb215, 1, none⟩ = some (.slice none 0 0) := bc BK215 1
    have hfz28_0 := blk_frozen BK215.out 0
    have hfz28_1 := blk_frozen BK215.out 1
    go_wp2
    refine bodyPost_ret (results_cell_row rfl _ _ gb215 51 #[.bool false, .slice none 0 0] (0, 0) _ rfl (by (with_reducible repeat (first | refine blk_drewN ?_ _ | refine blk_drew ?_ | refine blk_alloc ?_ _)); refine blk_put (cs := #[.bool false, .slice none 0 0]) ?_ 1 _ rfl; (with_reducible repeat (first | refine blk_drewN ?_ _ | refine blk_drew ?_ | refine blk_alloc ?_ _)); refine blk_put (cs := #[.bool false, .slice none 0 0]) ?_ 0 _ rfl; exact blkt BK215) Tryz.underlying51 rfl (by kernel_rfl)) rfl ?_
    exact ⟨_, by first | rfl | (simp [errW_none, errW_some] <;> rfl) | (simp [*, errW_none, errW_some] <;> rfl), Kd.V_nil _ _ _ _ _, belt HB⟩
   rw [if_neg c24] at H
   have c24b0 : ((x215001_1.length : Int) == 0) = false := beq_eq_false_iff_ne.mpr c24
   have c24b1 : ((x215001_1.length : Int) != 0) = true := bne_iff_ne.mpr c24
   have c24b2 : ¬ (x215001_1 = []) := fun h_ => c24 (by rw [h_]; rfl)
   simp only [Option.some.injEq, Prod.mk.injEq] at H
   obtain ⟨rfl, rfl⟩ := H
   have hnb29 := NB214_215.out
   have hnc29 := NB215_214.out
   have hcz30_0 : wr.cell? ⟨gb214, 0, none⟩ = some (.bool a0_0) := bc BK214 0
   have hcz30_1 : wr.cell? ⟨gb214, 1, none⟩ = some (u215001) := bc BK214 1
   have hfz30_0 := blk_frozen BK214.out 0
   have hfz30_1 := blk_frozen BK214.out 1
   obtain ⟨Ao31, co31, eo31⟩ := Kd.V_slice HO_215001.out
   subst eo31
   have hcz32_0 : wr.cell? ⟨gb215, 0, none⟩ = some (.bool false) := bc BK215 0
   have hcz32_1 : wr.cell? ⟨gb215, 1, none⟩ = some (.slice none 0 0) := bc BK215 1
   have hfz32_0 := blk_frozen BK215.out 0
   have hfz32_1 := blk_frozen BK215.out 1
   go_wp2
   refine bodyPost_ret (results_cell_row rfl _ _ gb215 51 #[.bool a0_0, .slice Ao31 x215001_1.length co31] (0, 0) _ rfl (by (with_reducible repeat (first | refine blk_drewN ?_ _ | refine blk_drew ?_ | refine blk_alloc ?_ _)); refine blk_put (cs := #[.bool a0_0, .slice none 0 0]) ?_ 1 _ rfl; (with_reducible repeat (first | refine blk_drewN ?_ _ | refine blk_drew ?_ | refine blk_alloc ?_ _)); refine blk_put (cs := #[.bool false, .slice none 0 0]) ?_ 0 _ rfl; exact blkt BK215) Tryz.underlying51 rfl (by kernel_rfl)) rfl ?_
   exact ⟨_, by first | rfl | (simp [errW_none, errW_some] <;> rfl) | (simp [*, errW_none, errW_some] <;> rfl), by (with_reducible repeat (first | apply Kd.V_alloc | apply Kd.V_drewN | apply Kd.V_drew)); exact Kd.V_mono (Kd.V_far (p := ⟨gb215, 1, none⟩) (Kd.V_far (p := ⟨gb215, 0, none⟩) (Kd.V_mono HO_215001.out (fun k_ hk => (⟨hk, hk.2.2⟩ : _ ∧ k_ ≠ gb215))) (fun _ hk => hk.2) (.bool a0_0)) (fun _ hk => hk.2) (.slice Ao31 x215001_1.length co31)) (fun _ hk => hk.1.1), belt HB⟩


/-! ### turnstoneref01_digit: function 86 -/
def turnstoneref01_digit.f (a0_0 : Bool) (l0_1 : List Int) (a1 : Int) : Option (Int) := if a1 < (l0_1.length : Int) then (if 0 ≤ a1 then (some (rd l0_1 a1)) else (none)) else (some 0)
set_option maxHeartbeats 8000000 in
set_option maxRecDepth 100000 in
theorem turnstoneref01_digit.calls (a0_0 : Bool) (A0_1 : Option Addr) (c0_1 : Nat) (l0_1 : List Int) (a1 : Int) (r : Int) (w : World) (hr0_1 : Kd.C (Kd.int .i64) w A0_1 l0_1.length l0_1) (hc0_1 : l0_1.length ≤ c0_1) (h : turnstoneref01_digit.f a0_0 l0_1 a1 = some r) :
  Calls Tryz.prog 86 #[.agg #[.bool a0_0, .slice A0_1 l0_1.length c0_1], .int .i64 a1] w fun e w' => e = .returned (.int .i64 r) ∧ Below w.heap.size w w' := by
 have hu51 := Tryz.underlying51
 have HR0_1 := Aside0.mk hr0_1
 have HC0_1 := Aside0.mk hc0_1
 clear hr0_1 hc0_1
 have HB := Aside0.mk (Below.refl w.heap.size w)
 have H : (if a1 < (l0_1.length : Int) then (if 0 ≤ a1 then (some (rd l0_1 a1)) else (none)) else (some 0)) = some r := h
 clear h
 by_cases c3 : a1 < (l0_1.length : Int)
 ·rw [if_pos c3] at H
  have c3b0 : decide (a1 < (l0_1.length : Int)) = true := decide_eq_true c3
  clear c3
  by_cases c4 : 0 ≤ a1
  ·rw [if_pos c4] at H
   have c4b0 : decide (0 ≤ a1) = true := decide_eq_true c4
   clear c4
   obtain rfl := Option.some.inj H
   go_enter Tryz.func86, Tryz.ntmps86
   go_wp2_with (first | ((with_reducible refine gate_dst (N := 2) rfl ?_); refine box_event ?hg (N := 2) ?hd (cs := #[.bool a0_0, .slice A0_1 l0_1.length c0_1]) (t := 51) ?hr ?_; (case hd => rfl); (case hg => rfl); (case hr => first | (go_simp; done) | (go_simp; rfl)); intro gb222 hg w5 hbox hb; have BK222 := Aside0.mk (hbox); have GW222 := bels HB hg; have GE222 := bels HB hg; replace HB := belb HB hb; clear hb hbox hg; have hcz6_0 : w5.cell? ⟨gb222, 0, none⟩ = some (.bool a0_0) := bc BK222 0; have hcz6_1 : w5.cell? ⟨gb222, 1, none⟩ = some (.slice A0_1 l0_1.length c0_1) := bc BK222 1; have hfz6_0 := blk_frozen BK222.out 0; have hfz6_1 := blk_frozen BK222.out 1; have p223 : 0 ≤ (a1 : Int) := of_decide_eq_true (by first | (with_reducible assumption) | assumption); have q223 : a1 < (l0_1.length : Int) := of_decide_eq_true (by first | (with_reducible assumption) | assumption); obtain ⟨ad223, e223, hx223_0⟩ := Kd.at_int HR0_1.out a1 p223 q223; cases e223; replace hx223_0 := (HB.out.cell (World.block_lt_of_cell? w _ hx223_0)).trans hx223_0; replace p223 := eq_true p223; replace q223 := eq_true q223))
   go_ret
   exact ⟨by first | rfl | (simp [errW_none, errW_some] <;> rfl) | (simp [*, errW_none, errW_some] <;> rfl), belt HB⟩
  rw [if_neg c4] at H
  exact absurd H (by simp)
 rw [if_neg c3] at H
 have c3b0 : decide (a1 < (l0_1.length : Int)) = false := decide_eq_false c3
 clear c3
 obtain rfl := Option.some.inj H
 go_enter Tryz.func86, Tryz.ntmps86
 go_wp2_with (first | ((with_reducible refine gate_dst (N := 2) rfl ?_); refine box_event ?hg (N := 2) ?hd (cs := #[.bool a0_0, .slice A0_1 l0_1.length c0_1]) (t := 51) ?hr ?_; (case hd => rfl); (case hg => rfl); (case hr => first | (go_simp; done) | (go_simp; rfl)); intro gb222 hg w7 hbox hb; have BK222 := Aside0.mk (hbox); have GW222 := bels HB hg; have GE222 := bels HB hg; replace HB := belb HB hb; clear hb hbox hg; have hcz8_0 : w7.cell? ⟨gb222, 0, none⟩ = some (.bool a0_0) := bc BK222 0; have hcz8_1 : w7.cell? ⟨gb222, 1, none⟩ = some (.slice A0_1 l0_1.length c0_1) := bc BK222 1; have hfz8_0 := blk_frozen BK222.out 0; have hfz8_1 := blk_frozen BK222.out 1))
 go_ret
 exact ⟨by first | rfl | (simp [errW_none, errW_some] <;> rfl) | (simp [*, errW_none, errW_some] <;> rfl), belt HB⟩


/-! ### turnstoneref01_plus: function 68 -/
mutual
def turnstoneref01_plus.l0 : Nat → List Int → Int → Int → Bool → List Int → Bool → List Int → Option (List Int)
 | 0, _, _, _, _, _, _, _ => none
 | k + 1, x5, x6, x7, x225000, x225001, x226000, x226001 => if x7 < (x225001.length : Int) then (turnstoneref01_plus.j1 k x5 x6 x7 true x225000 x225001 x226000 x226001) else (if x7 < (x226001.length : Int) then (turnstoneref01_plus.j1 k x5 x6 x7 true x225000 x225001 x226000 x226001) else (turnstoneref01_plus.j1 k x5 x6 x7 (decide (x6 > 0)) x225000 x225001 x226000 x226001))
def turnstoneref01_plus.j1 : Nat → List Int → Int → Int → Bool → Bool → List Int → Bool → List Int → Option (List Int)
 | 0, _, _, _, _, _, _, _, _ => none
 | k + 1, x5, x6, x7, x24, x225000, x225001, x226000, x226001 => if x24 = true then ((turnstoneref01_digit.f x225000 x225001 x7).bind fun t226 => ((turnstoneref01_digit.f x226000 x226001 x7).bind fun t227 => (if x5.length < 17592186044416 then (turnstoneref01_plus.l0 k (x5 ++ [Int.tmod (wrap64 ((wrap64 (t226 + t227)) + x6)) 10000]) (wrap64 (Int.tdiv (wrap64 ((wrap64 (t226 + t227)) + x6)) 10000)) (wrap64 (x7 + 1)) x225000 x225001 x226000 x226001) else (none)))) else (some x5)
end
def turnstoneref01_plus.f (k : Nat) (a0_0 : Bool) (l0_1 : List Int) (a1_0 : Bool) (l1_1 : List Int) : Option (List Int) := turnstoneref01_plus.l0 k ([] : List Int) 0 0 a0_0 l0_1 a1_0 l1_1
theorem turnstoneref01_plus.mono_l : ∀ k, (∀ y0 y1 y2 y3 y4 y5 y6, LeO (turnstoneref01_plus.l0 k y0 y1 y2 y3 y4 y5 y6) (turnstoneref01_plus.l0 (k + 1) y0 y1 y2 y3 y4 y5 y6)) ∧ (∀ y0 y1 y2 y3 y4 y5 y6 y7, LeO (turnstoneref01_plus.j1 k y0 y1 y2 y3 y4 y5 y6 y7) (turnstoneref01_plus.j1 (k + 1) y0 y1 y2 y3 y4 y5 y6 y7))
 | 0 => ⟨fun _ _ _ _ _ _ _ r h => by simp [turnstoneref01_plus.l0] at h, fun _ _ _ _ _ _ _ _ r h => by simp [turnstoneref01_plus.j1] at h⟩
 | k + 1 => by
  obtain ⟨ih0, ih1⟩ := turnstoneref01_plus.mono_l k
  refine ⟨?_, ?_⟩
  ·intro y0 y1 y2 y3 y4 y5 y6
   unfold turnstoneref01_plus.l0
   repeat' first
   | (with_reducible exact ih0 _ _ _ _ _ _ _)
   | (with_reducible exact ih1 _ _ _ _ _ _ _ _)
   | (with_reducible exact LeO.refl _)
   | (with_reducible exact LeO.none _)
   | (with_reducible refine LeO.ite ?_ ?_)
   | (with_reducible refine LeO.bind ?_ (fun _ => ?_))
   | exact ih0 _ _ _ _ _ _ _
   | exact ih1 _ _ _ _ _ _ _ _
   | exact LeO.none _
   | refine LeO.ite ?_ ?_
   | refine LeO.bind ?_ (fun _ => ?_)
  intro y0 y1 y2 y3 y4 y5 y6 y7
  unfold turnstoneref01_plus.j1
  repeat' first
  | (with_reducible exact ih0 _ _ _ _ _ _ _)
  | (with_reducible exact ih1 _ _ _ _ _ _ _ _)
  | (with_reducible exact LeO.refl _)
  | (with_reducible exact LeO.none _)
  | (with_reducible refine LeO.ite ?_ ?_)
  | (with_reducible refine LeO.bind ?_ (fun _ => ?_))
  | exact ih0 _ _ _ _ _ _ _
  | exact ih1 _ _ _ _ _ _ _ _
  | exact LeO.none _
  | refine LeO.ite ?_ ?_
  | refine LeO.bind ?_ (fun _ => ?_)
theorem turnstoneref01_plus.mono : ∀ a0 a1 a2 a3 k, LeO (turnstoneref01_plus.f k a0 a1 a2 a3) (turnstoneref01_plus.f (k + 1) a0 a1 a2 a3) := by
 intro a0 a1 a2 a3 k
 obtain ⟨ih0, ih1⟩ := turnstoneref01_plus.mono_l k
 unfold turnstoneref01_plus.f
 repeat' first
   | (with_reducible exact ih0 _ _ _ _ _ _ _)
   | (with_reducible exact ih1 _ _ _ _ _ _ _ _)
   | (with_reducible exact LeO.refl _)
   | (with_reducible exact LeO.none _)
   | (with_reducible refine LeO.ite ?_ ?_)
   | (with_reducible refine LeO.bind ?_ (fun _ => ?_))
   | exact ih0 _ _ _ _ _ _ _
   | exact ih1 _ _ _ _ _ _ _ _
   | exact LeO.none _
   | refine LeO.ite ?_ ?_
   | refine LeO.bind ?_ (fun _ => ?_)
def turnstoneref01_plus.T6 : Bool × List (List Nat × List Nat) := (true, [([], []), ([], []), ([0, 1], [0, 1]), ([], []), ([], []), ([3, 4, 2], [3, 4]), ([2, 5], [2, 5]), ([], []), ([6, 7], [6, 7]), ([8, 5, 0, 1, 2, 3, 4, 5, 6, 7, 8], [8])])
def turnstoneref01_plus.B6 : List Nat := [0, 0, 3, 0, 0, 31, 63, 0, 255, 511]
theorem turnstoneref01_plus.tab6 : rtab .any (opsOf Tryz.f68 6) = turnstoneref01_plus.T6 := by kernel_rfl
theorem turnstoneref01_plus.bits6 : waitsOk turnstoneref01_plus.T6.2 turnstoneref01_plus.B6 = true := by kernel_rfl
set_option maxHeartbeats 8000000 in
set_option maxRecDepth 100000 in
theorem turnstoneref01_plus.calls (k : Nat) (a0_0 : Bool) (A0_1 : Option Addr) (c0_1 : Nat) (l0_1 : List Int) (a1_0 : Bool) (A1_1 : Option Addr) (c1_1 : Nat) (l1_1 : List Int) (r : List Int) (w : World) (hr0_1 : Kd.C (Kd.int .i64) w A0_1 l0_1.length l0_1) (hc0_1 : l0_1.length ≤ c0_1) (hr1_1 : Kd.C (Kd.int .i64) w A1_1 l1_1.length l1_1) (hc1_1 : l1_1.length ≤ c1_1) (h : turnstoneref01_plus.f k a0_0 l0_1 a1_0 l1_1 = some r) :
  Calls Tryz.prog 68 #[.agg #[.bool a0_0, .slice A0_1 l0_1.length c0_1], .agg #[.bool a1_0, .slice A1_1 l1_1.length c1_1]] w fun e w' => ∃ v0_ : Value, e = .returned (v0_) ∧ Kd.R (Kd.int .i64) 3 w' w.heap.size (fun _ => True) v0_ r ∧ Below w.heap.size w w' := by
 have hu51 := Tryz.underlying51
 have HR0_1 := Aside0.mk hr0_1
 have HC0_1 := Aside0.mk hc0_1
 clear hr0_1 hc0_1
 have HR1_1 := Aside0.mk hr1_1
 have HC1_1 := Aside0.mk hc1_1
 clear hr1_1 hc1_1
 have HB := Aside0.mk (Below.refl w.heap.size w)
 have H : (turnstoneref01_plus.l0 k ([] : List Int) 0 0 a0_0 l0_1 a1_0 l1_1) = some r := h
 clear h
 have H' := Aside0.mk H
 clear H
 go_enter Tryz.func68, Tryz.ntmps68
 go_wp2_with (first | ((with_reducible refine gate_dst (N := 2) rfl ?_); (try (refine gate_guard (by rfl) ?_; dsimp only)); refine box_event ?hg (N := 2) ?hd (cs := #[.bool a0_0, .slice A0_1 l0_1.length c0_1]) (t := 51) ?hr ?_; (case hd => rfl); (case hg => rfl); (case hr => first | (go_simp; done) | (go_simp; rfl)); intro gb224 hg w3 hbox hb; have BK224 := Aside0.mk (hbox); have GW224 := bels HB hg; have GE224 := bels HB hg; replace HB := belb HB hb; clear hb hbox hg) | ((with_reducible refine gate_dst (N := 3) rfl ?_); (try (refine gate_guard (by rfl) ?_; dsimp only)); refine box_event ?hg (N := 3) ?hd (cs := #[.bool a1_0, .slice A1_1 l1_1.length c1_1]) (t := 51) ?hr ?_; (case hd => rfl); (case hg => rfl); (case hr => first | (go_simp; done) | (go_simp; rfl)); intro gb225 hg w4 hbox hb; have BK225 := Aside0.mk (hbox); have GW225 := bels HB hg; have GE225 := bels HB hg; have NB224_225 := blkl BK224 hg; have NB225_224 := blkg BK224 hg; replace BK224 := blkb BK224 hb; replace HB := belb HB hb; clear hb hbox hg))
 (try simp only [Act.put, List.setIfInBounds_toArray, List.set_cons_zero, List.set_cons_succ])
 go_loopg [5, 6, 7] k (fun kq v5 v6 v7 w' => ∃ (x5_1 : List Int) (x6_1 : Int) (x7_1 : Int), v6 = .int .i64 x6_1 ∧ v7 = .int .i64 x7_1 ∧ Aside0 (turnstoneref01_plus.l0 kq x5_1 x6_1 x7_1 a0_0 l0_1 a1_0 l1_1 = some r) ∧ Aside0 (kq ≤ k) ∧ Aside0 (Kd.R (Kd.int .i64) 3 w' w.heap.size (fun _ => True) v5 x5_1) ∧ Aside0 (w'.heap[gb224]? = some (.cells #[.bool a0_0, (.slice A0_1 l0_1.length c0_1)] 51 (0, 0))) ∧ Aside0 (w'.heap[gb225]? = some (.cells #[.bool a1_0, (.slice A1_1 l1_1.length c1_1)] 51 (0, 0))) ∧ Aside0 (Below w.heap.size w w'))
 case atStart => exact ⟨(([] : List Int)), (0), (0), (by first | rfl | (simp; done) | (simp [*]; done)), (by first | rfl | (simp; done) | (simp [*]; done)), H', ⟨Nat.le_refl _⟩, ⟨by first | exact Kd.R_nil _ _ _ _ _ | exact Kd.N_nil _ _ _ _ _ | exact Kd.V_nil _ _ _ _ _ | exact Kd.Q_nil _ _ _ _ _ | exact Kd.S_nil _ _ _ _ _⟩, ⟨blkt BK224⟩, ⟨blkt BK225⟩, ⟨belt HB⟩⟩
 case round =>
  clear H'
  try clear c1
  try clear p2
  obtain ⟨x5_1, x6_1, x7_1, rfl, rfl, HA, HK1, HO_5, BK224, BK225, HB⟩ := hrel
  cases gk with
  | zero => exact absurd HA.out (by simp [turnstoneref01_plus.l0])
  | succ k1 =>
   have H := HA.out
   clear HA
   simp only [turnstoneref01_plus.l0] at H
   have HC5 := Aside0.mk H
   clear H
   go_upto_region 4 with (fail)
   go_cut [24] (fun v24 wc => ∃ (kq : Nat) (x24_4 : Bool), v24 = .bool x24_4 ∧ Aside0 (turnstoneref01_plus.j1 kq x5_1 x6_1 x7_1 x24_4 a0_0 l0_1 a1_0 l1_1 = some r) ∧ Aside0 (kq ≤ k1) ∧ Aside0 (Kd.R (Kd.int .i64) 3 wc w.heap.size (fun _ => True) u5 x5_1) ∧ Aside0 (wc.heap[gb224]? = some (.cells #[.bool a0_0, (.slice A0_1 l0_1.length c0_1)] 51 (0, 0))) ∧ Aside0 (wc.heap[gb225]? = some (.cells #[.bool a1_0, (.slice A1_1 l1_1.length c1_1)] 51 (0, 0))) ∧ Aside0 (Below w.heap.size w wc))
   case first =>
    have H := HC5.out
    clear HC5
    by_cases c6 : x7_1 < (l0_1.length : Int)
    ·rw [if_pos c6] at H
     have c6b0 : decide (x7_1 < (l0_1.length : Int)) = true := decide_eq_true c6
     clear c6
     (first | rw [c6b0] | (simp only [i64_w, i32_w]; rw [c6b0]) | skip)
     have H' := Aside0.mk H
     clear H
     have hnb7 := NB224_225.out
     have hnc7 := NB225_224.out
     have hcz8_0 : wr.cell? ⟨gb224, 0, none⟩ = some (.bool a0_0) := bc BK224 0
     have hcz8_1 : wr.cell? ⟨gb224, 1, none⟩ = some (.slice A0_1 l0_1.length c0_1) := bc BK224 1
     have hfz8_0 := blk_frozen BK224.out 0
     have hfz8_1 := blk_frozen BK224.out 1
     go_wp2
     go_meet
     case rel => exact ⟨_, (true), (by first | rfl | (simp; done) | (simp [*]; done)), H', ⟨by have := HK1.out; first | omega | exact Nat.le_refl _⟩, ⟨by (with_reducible repeat (first | apply Kd.R_alloc | apply Kd.R_drewN | apply Kd.R_drew)); exact HO_5.out⟩, ⟨blkt BK224⟩, ⟨blkt BK225⟩, ⟨belt HB⟩⟩
    rw [if_neg c6] at H
    have c6b0 : decide (x7_1 < (l0_1.length : Int)) = false := decide_eq_false c6
    clear c6
    (first | rw [c6b0] | (simp only [i64_w, i32_w]; rw [c6b0]) | skip)
    by_cases c9 : x7_1 < (l1_1.length : Int)
    ·rw [if_pos c9] at H
     have c9b0 : decide (x7_1 < (l1_1.length : Int)) = true := decide_eq_true c9
     clear c9
     have H' := Aside0.mk H
     clear H
     have hnb10 := NB224_225.out
     have hnc10 := NB225_224.out
     have hcz11_0 : wr.cell? ⟨gb224, 0, none⟩ = some (.bool a0_0) := bc BK224 0
     have hcz11_1 : wr.cell? ⟨gb224, 1, none⟩ = some (.slice A0_1 l0_1.length c0_1) := bc BK224 1
     have hfz11_0 := blk_frozen BK224.out 0
     have hfz11_1 := blk_frozen BK224.out 1
     have hcz12_0 : wr.cell? ⟨gb225, 0, none⟩ = some (.bool a1_0) := bc BK225 0
     have hcz12_1 : wr.cell? ⟨gb225, 1, none⟩ = some (.slice A1_1 l1_1.length c1_1) := bc BK225 1
     have hfz12_0 := blk_frozen BK225.out 0
     have hfz12_1 := blk_frozen BK225.out 1
     go_wp2
     go_meet
     case rel => exact ⟨_, (true), (by first | rfl | (simp; done) | (simp [*]; done)), H', ⟨by have := HK1.out; first | omega | exact Nat.le_refl _⟩, ⟨by (with_reducible repeat (first | apply Kd.R_alloc | apply Kd.R_drewN | apply Kd.R_drew)); exact HO_5.out⟩, ⟨blkt BK224⟩, ⟨blkt BK225⟩, ⟨belt HB⟩⟩
    rw [if_neg c9] at H
    have c9b0 : decide (x7_1 < (l1_1.length : Int)) = false := decide_eq_false c9
    clear c9
    have H' := Aside0.mk H
    clear H
    have hnb13 := NB224_225.out
    have hnc13 := NB225_224.out
    have hcz14_0 : wr.cell? ⟨gb224, 0, none⟩ = some (.bool a0_0) := bc BK224 0
    have hcz14_1 : wr.cell? ⟨gb224, 1, none⟩ = some (.slice A0_1 l0_1.length c0_1) := bc BK224 1
    have hfz14_0 := blk_frozen BK224.out 0
    have hfz14_1 := blk_frozen BK224.out 1
    have hcz15_0 : wr.cell? ⟨gb225, 0, none⟩ = some (.bool a1_0) := bc BK225 0
    have hcz15_1 : wr.cell? ⟨gb225, 1, none⟩ = some (.slice A1_1 l1_1.length c1_1) := bc BK225 1
    have hfz15_0 := blk_frozen BK225.out 0
    have hfz15_1 := blk_frozen BK225.out 1
    go_wp2
    go_meet
    case rel => exact ⟨_, (decide (x6_1 > 0)), (by first | rfl | (simp; done) | (simp [*]; done)), H', ⟨by have := HK1.out; first | omega | exact Nat.le_refl _⟩, ⟨by (with_reducible repeat (first | apply Kd.R_alloc | apply Kd.R_drewN | apply Kd.R_drew)); exact HO_5.out⟩, ⟨blkt BK224⟩, ⟨blkt BK225⟩, ⟨belt HB⟩⟩
   case rest =>
    clear HC5
    try clear c1
    try clear p2
    try clear c6
    try clear c6b0
    try clear c7
    try clear c9
    try clear c9b0
    try clear c10
    try clear c13
    try clear hcz11_0
    try clear hcz11_1
    try clear hcz12_0
    try clear hcz12_1
    try clear hcz14_0
    try clear hcz14_1
    try clear hcz15_0
    try clear hcz15_1
    try clear hcz8_0
    try clear hcz8_1
    try clear hfz11_0
    try clear hfz11_1
    try clear hfz12_0
    try clear hfz12_1
    try clear hfz14_0
    try clear hfz14_1
    try clear hfz15_0
    try clear hfz15_1
    try clear hfz8_0
    try clear hfz8_1
    try clear p2
    obtain ⟨kq, x24_4, rfl, HA, HJ4, HO_5, BK224, BK225, HB⟩ := hcut
    cases kq with
    | zero => exact absurd HA.out (by simp [turnstoneref01_plus.j1])
    | succ kj4 =>
     have H := HA.out
     clear HA
     simp only [turnstoneref01_plus.j1] at H
     by_cases c16 : x24_4 = true
     ·subst c16
      have H1 : ((turnstoneref01_digit.f a0_0 l0_1 x7_1).bind fun t226 => ((turnstoneref01_digit.f a1_0 l1_1 x7_1).bind fun t227 => (if x5_1.length < 17592186044416 then (turnstoneref01_plus.l0 kj4 (x5_1 ++ [Int.tmod (wrap64 ((wrap64 (t226 + t227)) + x6_1)) 10000]) (wrap64 (Int.tdiv (wrap64 ((wrap64 (t226 + t227)) + x6_1)) 10000)) (wrap64 (x7_1 + 1)) a0_0 l0_1 a1_0 l1_1) else (none)))) = some r := by rw [if_pos rfl] at H; exact H
      clear H
      have H := H1
      clear H1
      replace H := Option.bind_eq_some_iff.mp H
      obtain ⟨t226, A170, H⟩ := H
      replace H : ((turnstoneref01_digit.f a1_0 l1_1 x7_1).bind fun t227 => (if x5_1.length < 17592186044416 then (turnstoneref01_plus.l0 kj4 (x5_1 ++ [Int.tmod (wrap64 ((wrap64 (t226 + t227)) + x6_1)) 10000]) (wrap64 (Int.tdiv (wrap64 ((wrap64 (t226 + t227)) + x6_1)) 10000)) (wrap64 (x7_1 + 1)) a0_0 l0_1 a1_0 l1_1) else (none))) = some r := H
      have A17 := Aside0.mk A170
      clear A170
      replace H := Option.bind_eq_some_iff.mp H
      obtain ⟨t227, A180, H⟩ := H
      replace H : (if x5_1.length < 17592186044416 then (turnstoneref01_plus.l0 kj4 (x5_1 ++ [Int.tmod (wrap64 ((wrap64 (t226 + t227)) + x6_1)) 10000]) (wrap64 (Int.tdiv (wrap64 ((wrap64 (t226 + t227)) + x6_1)) 10000)) (wrap64 (x7_1 + 1)) a0_0 l0_1 a1_0 l1_1) else (none)) = some r := H
      have A18 := Aside0.mk A180
      clear A180
      by_cases c19 : x5_1.length < 17592186044416
      ·rw [if_pos c19] at H
       have LMc19 := Aside0.mk c19
       clear c19
       obtain ⟨y228, hy228⟩ : ∃ y_ : List Int, y_ = (x5_1 ++ [Int.tmod (wrap64 ((wrap64 (t226 + t227)) + x6_1)) 10000]) := ⟨_, rfl⟩
       replace H : (turnstoneref01_plus.l0 kj4 y228 (wrap64 (Int.tdiv (wrap64 ((wrap64 (t226 + t227)) + x6_1)) 10000)) (wrap64 (x7_1 + 1)) a0_0 l0_1 a1_0 l1_1) = some r := by first | (rw [hy228]; with_reducible exact H) | (have H2_ := (Option.bind_some _ _).symm.trans H; rw [hy228]; with_reducible exact H2_) | (have H2_ := (Option.bind_some _ _).symm.trans H; with_reducible exact H2_) | with_reducible exact H | (rw [hy228]; exact H) | exact H
       have Ny228 := Aside0.mk hy228
       clear hy228
       have H' := Aside0.mk H
       clear H
       try go_wp2
       replace HO_5 := Aside0.mk (Kd.R_drew HO_5.out)
       replace BK224 := Aside0.mk (blk_drew BK224.out)
       replace BK225 := Aside0.mk (blk_drew BK225.out)
       replace HB := Aside0.mk (below_drew1 HB.out)
       refine start_ (n := 10) (S := fun w' => w'.cell? ⟨gb224, 0, none⟩ = some (.bool a0_0) ∧ w'.cell? ⟨gb224, 1, none⟩ = some (.slice A0_1 l0_1.length c0_1) ∧ w'.cell? ⟨gb225, 0, none⟩ = some (.bool a1_0) ∧ w'.cell? ⟨gb225, 1, none⟩ = some (.slice A1_1 l1_1.length c1_1)) (ds := []) #[false, false, false, false, false, false, false, false, false, false] (by kernel_rfl) rfl rfl ⟨bc BK224 0, bc BK224 1, bc BK225 0, bc BK225 1⟩ (fun hHeld => ?_); refine with_tabW turnstoneref01_plus.tab6 turnstoneref01_plus.bits6 (fun HT_ HW_ => ?_)
       generalize wc.drew = w20 at HO_5 BK224 BK225 HB hHeld ⊢
       refine pure_ (i := 1) (N := some 28) (v := ?_) (a' := ?_) #[false, true, false, false, false, false, false, false, false, false] rfl rfl (any_of HT_.out (by kernel_rfl)) (fun _ _ _ h => h) (Or.inl ⟨by rfl, ?_⟩) ?_ ?_
       rotate_left
       ·intro w'
        go_simp
        with_reducible rfl
       rotate_left
       ·simp only [Act.put, List.setIfInBounds_toArray, List.set_cons_zero, List.set_cons_succ, i64_w, i32_w]
        rfl
       refine pure_ (i := 4) (N := some 31) (v := ?_) (a' := ?_) #[false, true, false, false, true, false, false, false, false, false] rfl rfl (any_of HT_.out (by kernel_rfl)) (fun _ _ _ h => h) (Or.inl ⟨by rfl, ?_⟩) ?_ ?_
       rotate_left
       ·intro w'
        go_simp
        with_reducible rfl
       rotate_left
       ·simp only [Act.put, List.setIfInBounds_toArray, List.set_cons_zero, List.set_cons_succ, i64_w, i32_w]
        rfl
       refine pure_ (i := 7) (N := some 34) (v := ?_) (a' := ?_) #[false, true, false, false, true, false, false, true, false, false] rfl rfl (any_of HT_.out (by kernel_rfl)) (fun _ _ _ h => h) (Or.inl ⟨by rfl, ?_⟩) ?_ ?_
       rotate_left
       ·intro w'
        go_simp
        with_reducible rfl
       rotate_left
       ·simp only [Act.put, List.setIfInBounds_toArray, List.set_cons_zero, List.set_cons_succ, i64_w, i32_w]
        rfl
       refine take_ (i := 0) (N := some 27) (v := ?_) (a' := ?_) #[true, true, false, false, true, false, false, true, false, false] rfl rfl (take_ofW HT_.out HW_.out (by kernel_rfl)) (fun _ _ _ h => h) (Or.inl ⟨by rfl, ?_⟩) hHeld ?_ ?_
       rotate_left
       ·rintro w' ⟨s0, s1, s2, s3⟩
        go_simp
        with_reducible rfl
       rotate_left
       ·simp only [Act.put, List.setIfInBounds_toArray, List.set_cons_zero, List.set_cons_succ, i64_w, i32_w]
        rfl
       refine take_ (i := 3) (N := some 30) (v := ?_) (a' := ?_) #[true, true, false, true, true, false, false, true, false, false] rfl rfl (take_ofW HT_.out HW_.out (by kernel_rfl)) (fun _ _ _ h => h) (Or.inl ⟨by rfl, ?_⟩) hHeld ?_ ?_
       rotate_left
       ·rintro w' ⟨s0, s1, s2, s3⟩
        go_simp
        with_reducible rfl
       rotate_left
       ·simp only [Act.put, List.setIfInBounds_toArray, List.set_cons_zero, List.set_cons_succ, i64_w, i32_w]
        rfl
       refine one_ (i := 2) (N := some 29) #[true, true, true, true, true, false, false, true, false, false] rfl rfl (one_of HT_.out (by kernel_rfl)) (by decide) (fun K hK => ?_)
       refine goes_ Tryz.func86 (by kernel_rfl) rfl #[.agg #[.bool a0_0, .slice A0_1 l0_1.length c0_1], .int .i64 x7_1] (by rfl) rfl rfl argt ?_
       with_reducible refine (turnstoneref01_digit.calls a0_0 _ _ l0_1 x7_1 t226 _ ?side1 ?side2 A17.out).mono ?_
       (case side1 => exact (ct (Kd.C_below HR0_1.out HB.out)))
       (case side2 => exact HC0_1.out)
       rintro e w21 ⟨rfl, hb⟩
       refine ⟨_, rfl, ?_⟩
       replace HO_5 := rb HO_5 hb
       replace BK224 := blkb BK224 hb
       replace BK225 := blkb BK225 hb
       replace HB := belb HB hb
       (try clear hb)
       (try clear hb2)
       (try clear hk)
       (try clear hi)
       refine hK.out _ _ ⟨bc BK224 0, bc BK224 1, bc BK225 0, bc BK225 1⟩ (fun hHeld => ?_)
       clear hK K
       refine norm_ (a' := ?_) ?_ ?_
       rotate_left
       ·show Act.put _ (some 29) _ = _
        simp only [Act.put, List.setIfInBounds_toArray, List.set_cons_zero, List.set_cons_succ, i64_w, i32_w]
        rfl
       refine one_ (i := 5) (N := some 32) #[true, true, true, true, true, true, false, true, false, false] rfl rfl (one_of HT_.out (by kernel_rfl)) (by decide) (fun K hK => ?_)
       refine goes_ Tryz.func86 (by kernel_rfl) rfl #[.agg #[.bool a1_0, .slice A1_1 l1_1.length c1_1], .int .i64 x7_1] (by rfl) rfl rfl argt ?_
       with_reducible refine (turnstoneref01_digit.calls a1_0 _ _ l1_1 x7_1 t227 _ ?side1 ?side2 A18.out).mono ?_
       (case side1 => exact (ct (Kd.C_below HR1_1.out HB.out)))
       (case side2 => exact HC1_1.out)
       rintro e w22 ⟨rfl, hb⟩
       refine ⟨_, rfl, ?_⟩
       replace HO_5 := rb HO_5 hb
       replace BK224 := blkb BK224 hb
       replace BK225 := blkb BK225 hb
       replace HB := belb HB hb
       (try clear hb)
       (try clear hb2)
       (try clear hk)
       (try clear hi)
       refine hK.out _ _ ⟨bc BK224 0, bc BK224 1, bc BK225 0, bc BK225 1⟩ (fun hHeld => ?_)
       clear hK K
       refine norm_ (a' := ?_) ?_ ?_
       rotate_left
       ·show Act.put _ (some 32) _ = _
        simp only [Act.put, List.setIfInBounds_toArray, List.set_cons_zero, List.set_cons_succ, i64_w, i32_w]
        rfl
       refine pure_ (i := 6) (N := some 33) (v := ?_) (a' := ?_) #[true, true, true, true, true, true, true, true, false, false] rfl rfl (any_of HT_.out (by kernel_rfl)) (fun _ _ _ h => h) (Or.inl ⟨by rfl, ?_⟩) ?_ ?_
       rotate_left
       ·intro w'
        go_simp
        with_reducible rfl
       rotate_left
       ·simp only [Act.put, List.setIfInBounds_toArray, List.set_cons_zero, List.set_cons_succ, i64_w, i32_w]
        rfl
       refine pure_ (i := 8) (N := some 35) (v := ?_) (a' := ?_) #[true, true, true, true, true, true, true, true, true, false] rfl rfl (any_of HT_.out (by kernel_rfl)) (fun _ _ _ h => h) (Or.inl ⟨by rfl, ?_⟩) ?_ ?_
       rotate_left
       ·intro w'
        go_simp
        with_reducible rfl
       rotate_left
       ·simp only [Act.put, List.setIfInBounds_toArray, List.set_cons_zero, List.set_cons_succ, i64_w, i32_w]
        rfl
       refine pure_ (i := 9) (N := some 8) (v := ?_) (a' := ?_) #[true, true, true, true, true, true, true, true, true, true] rfl rfl (any_of HT_.out (by kernel_rfl)) (fun _ _ _ h => h) (Or.inl ⟨by rfl, ?_⟩) ?_ ?_
       rotate_left
       ·intro w'
        go_simp
        with_reducible rfl
       rotate_left
       ·simp only [Act.put, List.setIfInBounds_toArray, List.set_cons_zero, List.set_cons_succ, i64_w, i32_w]
        rfl
       refine done_ (done_of HT_.out (by kernel_rfl)) ?_
       try go_wp2_with (first | ((with_reducible refine gate_builtin (b := .append) (xs := #[.tmp 36, .tmp 39]) rfl ?_); (try (refine gate_guard (by rfl) ?_; dsimp only)); at_builtin; refine Kd.R_append (Kd.int .i64) (w0 := w) w.heap.size rfl (.tmp 36) (.tmp 39) 49 3 (.int .i64 0) 8 rfl Tryz.underlying49 info3 rfl (by decide) (by omega) u5 x5_1 (Int.tmod (wrap64 ((wrap64 (t226 + t227)) + x6_1)) 10000) [.int .i64 (Int.tmod (wrap64 ((wrap64 (t226 + t227)) + x6_1)) 10000)] (fun _ => True) (fun _ => False) rfl rfl ?aP (fun _ hk => hk.elim) ?aF ?aO ?aB ?aS ?aL ?_; (case aP => exact rfl); (case aB => exact (belt HB)); (case aF => exact (fun _ _ => trivial)); (case aO => exact (rt HO_5)); (case aS => exact (below_size (belt HB))); (case aL => have := LMc19.out; omega); intro v229 w23 ho hb hg hat; rw [← Ny228.out] at ho; replace BK224 := Aside0.mk (blk_grown (blkt BK224) hg (Kd.R_ne HO_5.out BK224.out (by decide))); replace BK225 := Aside0.mk (blk_grown (blkt BK225) hg (Kd.R_ne HO_5.out BK225.out (by decide))); replace HB := Aside0.mk (hb); have HO230 := Aside0.mk (ho); clear HO_5; clear ho hb hg hat))
       go_roundg kj4
       case measure => have := HK1.out; have := HJ4.out; omega
       case rel => exact ⟨(y228), (wrap64 (Int.tdiv (wrap64 ((wrap64 (t226 + t227)) + x6_1)) 10000)), (wrap64 (x7_1 + 1)), (by first | rfl | (simp; done) | (simp [*]; done)), (by first | rfl | (simp; done) | (simp [*]; done)), H', ⟨by have := HK1.out; have := HJ4.out; omega⟩, ⟨by (with_reducible repeat (first | apply Kd.R_alloc | apply Kd.R_drewN | apply Kd.R_drew)); exact HO230.out⟩, ⟨blkt BK224⟩, ⟨blkt BK225⟩, ⟨belt HB⟩⟩
      rw [if_neg c19] at H
      exact absurd H (by simp)
     replace c16 := Bool.eq_false_iff.mpr c16
     subst c16
     have H1 : (some x5_1) = some r := by rw [if_neg (show ¬ (false = true) by decide)] at H; exact H
     clear H
     have H := H1
     clear H1
     obtain rfl := Option.some.inj H
     go_wp2
     go_ret
     exact ⟨_, by first | rfl | (simp [errW_none, errW_some] <;> rfl) | (simp [*, errW_none, errW_some] <;> rfl), by (with_reducible repeat (first | apply Kd.R_alloc | apply Kd.R_drewN | apply Kd.R_drew)); exact HO_5.out, belt HB⟩


/-! ### turnstoneref01_larger: function 69 -/
def turnstoneref01_larger.l0 : Nat → Int → Bool → List Int → Bool → List Int → Option (Int)
 | 0, _, _, _, _, _ => none
 | k + 1, x5, x232000, x232001, x233000, x233001 => if x5 ≥ 0 then ((turnstoneref01_digit.f x232000 x232001 x5).bind fun t233 => ((turnstoneref01_digit.f x233000 x233001 x5).bind fun t234 => (if t233 < t234 then (some (-1)) else ((turnstoneref01_digit.f x232000 x232001 x5).bind fun t235 => ((turnstoneref01_digit.f x233000 x233001 x5).bind fun t236 => (if t235 > t236 then (some 1) else (turnstoneref01_larger.l0 k (wrap64 (x5 - 1)) x232000 x232001 x233000 x233001))))))) else (some 0)
def turnstoneref01_larger.f (k : Nat) (a0_0 : Bool) (l0_1 : List Int) (a1_0 : Bool) (l1_1 : List Int) : Option (Int) := turnstoneref01_larger.l0 k (wrap64 ((mx (l0_1.length : Int) (l1_1.length : Int)) - 1)) a0_0 l0_1 a1_0 l1_1
theorem turnstoneref01_larger.mono_l : ∀ k, (∀ y0 y1 y2 y3 y4, LeO (turnstoneref01_larger.l0 k y0 y1 y2 y3 y4) (turnstoneref01_larger.l0 (k + 1) y0 y1 y2 y3 y4))
 | 0 => fun _ _ _ _ _ r h => by simp [turnstoneref01_larger.l0] at h
 | k + 1 => by
  have ih0 := turnstoneref01_larger.mono_l k
  ·intro y0 y1 y2 y3 y4
   unfold turnstoneref01_larger.l0
   repeat' first
   | (with_reducible exact ih0 _ _ _ _ _)
   | (with_reducible exact LeO.refl _)
   | (with_reducible exact LeO.none _)
   | (with_reducible refine LeO.ite ?_ ?_)
   | (with_reducible refine LeO.bind ?_ (fun _ => ?_))
   | exact ih0 _ _ _ _ _
   | exact LeO.none _
   | refine LeO.ite ?_ ?_
   | refine LeO.bind ?_ (fun _ => ?_)
theorem turnstoneref01_larger.mono : ∀ a0 a1 a2 a3 k, LeO (turnstoneref01_larger.f k a0 a1 a2 a3) (turnstoneref01_larger.f (k + 1) a0 a1 a2 a3) := by
 intro a0 a1 a2 a3 k
 have ih0 := turnstoneref01_larger.mono_l k
 unfold turnstoneref01_larger.f
 repeat' first
   | (with_reducible exact ih0 _ _ _ _ _)
   | (with_reducible exact LeO.refl _)
   | (with_reducible exact LeO.none _)
   | (with_reducible refine LeO.ite ?_ ?_)
   | (with_reducible refine LeO.bind ?_ (fun _ => ?_))
   | exact ih0 _ _ _ _ _
   | exact LeO.none _
   | refine LeO.ite ?_ ?_
   | refine LeO.bind ?_ (fun _ => ?_)
set_option maxHeartbeats 8000000 in
set_option maxRecDepth 100000 in
theorem turnstoneref01_larger.calls (k : Nat) (a0_0 : Bool) (A0_1 : Option Addr) (c0_1 : Nat) (l0_1 : List Int) (a1_0 : Bool) (A1_1 : Option Addr) (c1_1 : Nat) (l1_1 : List Int) (r : Int) (w : World) (hr0_1 : Kd.C (Kd.int .i64) w A0_1 l0_1.length l0_1) (hc0_1 : l0_1.length ≤ c0_1) (hr1_1 : Kd.C (Kd.int .i64) w A1_1 l1_1.length l1_1) (hc1_1 : l1_1.length ≤ c1_1) (h : turnstoneref01_larger.f k a0_0 l0_1 a1_0 l1_1 = some r) :
  Calls Tryz.prog 69 #[.agg #[.bool a0_0, .slice A0_1 l0_1.length c0_1], .agg #[.bool a1_0, .slice A1_1 l1_1.length c1_1]] w fun e w' => e = .returned (.int .i64 r) ∧ Below w.heap.size w w' := by
 have hu51 := Tryz.underlying51
 have HR0_1 := Aside0.mk hr0_1
 have HC0_1 := Aside0.mk hc0_1
 clear hr0_1 hc0_1
 have HR1_1 := Aside0.mk hr1_1
 have HC1_1 := Aside0.mk hc1_1
 clear hr1_1 hc1_1
 have HB := Aside0.mk (Below.refl w.heap.size w)
 have H : (turnstoneref01_larger.l0 k (wrap64 ((mx (l0_1.length : Int) (l1_1.length : Int)) - 1)) a0_0 l0_1 a1_0 l1_1) = some r := h
 clear h
 obtain ⟨ji3, hji3⟩ : ∃ j_ : Int, (mx (l0_1.length : Int) (l1_1.length : Int)) = j_ := ⟨_, rfl⟩
 replace H : (turnstoneref01_larger.l0 k (wrap64 ((ji3) - 1)) a0_0 l0_1 a1_0 l1_1) = some r := by first | (rw [hji3] at H; exact H) | (simp only [hji3] at H ⊢; exact H)
 (try (have hji3l : 0 ≤ ji3 := by (rw [← hji3]; unfold mx; (repeat' split) <;> omega)))
 (try (have hji3m : 0 ≤ ji3 := by omega))
 have hji3_ : (if (l0_1.length : Int) < (l1_1.length : Int) then (l1_1.length : Int) else (l0_1.length : Int)) = ji3 := hji3
 have hji3n : (if l0_1.length < l1_1.length then (l1_1.length : Int) else (l0_1.length : Int)) = ji3 := by (rw [← hji3_]; simp only [Int.ofNat_lt])
 have H' := Aside0.mk H
 clear H
 go_enter Tryz.func69, Tryz.ntmps69
 go_wp2_with (first | ((with_reducible refine gate_dst (N := 2) rfl ?_); refine box_event ?hg (N := 2) ?hd (cs := #[.bool a0_0, .slice A0_1 l0_1.length c0_1]) (t := 51) ?hr ?_; (case hd => rfl); (case hg => rfl); (case hr => first | (go_simp; done) | (go_simp; rfl)); intro gb231 hg w4 hbox hb; have BK231 := Aside0.mk (hbox); have GW231 := bels HB hg; have GE231 := bels HB hg; replace HB := belb HB hb; clear hb hbox hg) | ((with_reducible refine gate_dst (N := 3) rfl ?_); refine box_event ?hg (N := 3) ?hd (cs := #[.bool a1_0, .slice A1_1 l1_1.length c1_1]) (t := 51) ?hr ?_; (case hd => rfl); (case hg => rfl); (case hr => first | (go_simp; done) | (go_simp; rfl)); intro gb232 hg w5 hbox hb; have BK232 := Aside0.mk (hbox); have GW232 := bels HB hg; have GE232 := bels HB hg; have NB231_232 := blkl BK231 hg; have NB232_231 := blkg BK231 hg; replace BK231 := blkb BK231 hb; replace HB := belb HB hb; clear hb hbox hg; have hnb6 := NB231_232.out; have hnc6 := NB232_231.out; have hcz7_0 : w5.cell? ⟨gb231, 0, none⟩ = some (.bool a0_0) := bc BK231 0; have hcz7_1 : w5.cell? ⟨gb231, 1, none⟩ = some (.slice A0_1 l0_1.length c0_1) := bc BK231 1; have hfz7_0 := blk_frozen BK231.out 0; have hfz7_1 := blk_frozen BK231.out 1; have hcz8_0 : w5.cell? ⟨gb232, 0, none⟩ = some (.bool a1_0) := bc BK232 0; have hcz8_1 : w5.cell? ⟨gb232, 1, none⟩ = some (.slice A1_1 l1_1.length c1_1) := bc BK232 1; have hfz8_0 := blk_frozen BK232.out 0; have hfz8_1 := blk_frozen BK232.out 1))
 (try simp only [Act.put, List.setIfInBounds_toArray, List.set_cons_zero, List.set_cons_succ])
 go_loopg [5] k (fun kq v5 w' => ∃ (x5_1 : Int), v5 = .int .i64 x5_1 ∧ Aside0 (turnstoneref01_larger.l0 kq x5_1 a0_0 l0_1 a1_0 l1_1 = some r) ∧ Aside0 (kq ≤ k) ∧ Aside0 (w'.heap[gb231]? = some (.cells #[.bool a0_0, (.slice A0_1 l0_1.length c0_1)] 51 (0, 0))) ∧ Aside0 (w'.heap[gb232]? = some (.cells #[.bool a1_0, (.slice A1_1 l1_1.length c1_1)] 51 (0, 0))) ∧ Aside0 (Below w.heap.size w w'))
 case atStart => exact ⟨(wrap64 ((ji3) - 1)), (by first | rfl | (simp; done) | (simp only [← hji3]; first | rfl | (simp; done) | (simp [mn, mx]; done)) | (simp [*]; done)), H', ⟨Nat.le_refl _⟩, ⟨blkt BK231⟩, ⟨blkt BK232⟩, ⟨belt HB⟩⟩
 case round =>
  clear H'
  try clear c1
  try clear p2
  try clear c6
  try clear p6
  try clear hcz7_0
  try clear hcz7_1
  try clear hcz8_0
  try clear hcz8_1
  try clear hfz7_0
  try clear hfz7_1
  try clear hfz8_0
  try clear hfz8_1
  obtain ⟨x5_1, rfl, HA, HK1, BK231, BK232, HB⟩ := hrel
  cases gk with
  | zero => exact absurd HA.out (by simp [turnstoneref01_larger.l0])
  | succ k1 =>
   have H := HA.out
   clear HA
   simp only [turnstoneref01_larger.l0] at H
   by_cases c9 : x5_1 ≥ 0
   ·rw [if_pos c9] at H
    have c9b0 : decide (0 ≤ x5_1) = true := decide_eq_true c9
    clear c9
    replace H := Option.bind_eq_some_iff.mp H
    obtain ⟨t233, A100, H⟩ := H
    replace H : ((turnstoneref01_digit.f a1_0 l1_1 x5_1).bind fun t234 => (if t233 < t234 then (some (-1)) else ((turnstoneref01_digit.f a0_0 l0_1 x5_1).bind fun t235 => ((turnstoneref01_digit.f a1_0 l1_1 x5_1).bind fun t236 => (if t235 > t236 then (some 1) else (turnstoneref01_larger.l0 k1 (wrap64 (x5_1 - 1)) a0_0 l0_1 a1_0 l1_1)))))) = some r := H
    have A10 := Aside0.mk A100
    clear A100
    replace H := Option.bind_eq_some_iff.mp H
    obtain ⟨t234, A110, H⟩ := H
    replace H : (if t233 < t234 then (some (-1)) else ((turnstoneref01_digit.f a0_0 l0_1 x5_1).bind fun t235 => ((turnstoneref01_digit.f a1_0 l1_1 x5_1).bind fun t236 => (if t235 > t236 then (some 1) else (turnstoneref01_larger.l0 k1 (wrap64 (x5_1 - 1)) a0_0 l0_1 a1_0 l1_1))))) = some r := H
    have A11 := Aside0.mk A110
    clear A110
    by_cases c12 : t233 < t234
    ·rw [if_pos c12] at H
     have c12b0 : decide (t233 < t234) = true := decide_eq_true c12
     clear c12
     obtain rfl := Option.some.inj H
     try go_wp2
     replace BK231 := Aside0.mk (blk_drew BK231.out)
     replace BK232 := Aside0.mk (blk_drew BK232.out)
     replace HB := Aside0.mk (below_drew1 HB.out)
     refine start_ (n := 7) (S := fun w' => w'.cell? ⟨gb231, 0, none⟩ = some (.bool a0_0) ∧ w'.cell? ⟨gb231, 1, none⟩ = some (.slice A0_1 l0_1.length c0_1) ∧ w'.cell? ⟨gb232, 0, none⟩ = some (.bool a1_0) ∧ w'.cell? ⟨gb232, 1, none⟩ = some (.slice A1_1 l1_1.length c1_1)) (ds := []) #[false, false, false, false, false, false, false] (by kernel_rfl) rfl rfl ⟨bc BK231 0, bc BK231 1, bc BK232 0, bc BK232 1⟩ (fun hHeld => ?_)
     generalize wr.drew = w13 at BK231 BK232 HB hHeld ⊢
     refine pure_ (i := 1) (N := some 19) (v := ?_) (a' := ?_) #[false, true, false, false, false, false, false] rfl rfl (by kernel_rfl) (fun _ _ _ h => h) (Or.inl ⟨by rfl, ?_⟩) ?_ ?_
     rotate_left
     ·intro w'
      go_simp
      with_reducible rfl
     rotate_left
     ·simp only [Act.put, List.setIfInBounds_toArray, List.set_cons_zero, List.set_cons_succ, i64_w, i32_w]
      rfl
     refine pure_ (i := 4) (N := some 22) (v := ?_) (a' := ?_) #[false, true, false, false, true, false, false] rfl rfl (by kernel_rfl) (fun _ _ _ h => h) (Or.inl ⟨by rfl, ?_⟩) ?_ ?_
     rotate_left
     ·intro w'
      go_simp
      with_reducible rfl
     rotate_left
     ·simp only [Act.put, List.setIfInBounds_toArray, List.set_cons_zero, List.set_cons_succ, i64_w, i32_w]
      rfl
     refine take_ (i := 0) (N := some 18) (v := ?_) (a' := ?_) #[true, true, false, false, true, false, false] rfl rfl (by kernel_rfl) (fun _ _ _ h => h) (Or.inl ⟨by rfl, ?_⟩) hHeld ?_ ?_
     rotate_left
     ·rintro w' ⟨s0, s1, s2, s3⟩
      go_simp
      with_reducible rfl
     rotate_left
     ·simp only [Act.put, List.setIfInBounds_toArray, List.set_cons_zero, List.set_cons_succ, i64_w, i32_w]
      rfl
     refine take_ (i := 3) (N := some 21) (v := ?_) (a' := ?_) #[true, true, false, true, true, false, false] rfl rfl (by kernel_rfl) (fun _ _ _ h => h) (Or.inl ⟨by rfl, ?_⟩) hHeld ?_ ?_
     rotate_left
     ·rintro w' ⟨s0, s1, s2, s3⟩
      go_simp
      with_reducible rfl
     rotate_left
     ·simp only [Act.put, List.setIfInBounds_toArray, List.set_cons_zero, List.set_cons_succ, i64_w, i32_w]
      rfl
     refine one_ (i := 2) (N := some 20) #[true, true, true, true, true, false, false] rfl rfl (by kernel_rfl) (by decide) (fun K hK => ?_)
     refine goes_ Tryz.func86 (by kernel_rfl) rfl #[.agg #[.bool a0_0, .slice A0_1 l0_1.length c0_1], .int .i64 x5_1] (by rfl) rfl rfl argt ?_
     with_reducible refine (turnstoneref01_digit.calls a0_0 _ _ l0_1 x5_1 t233 _ ?side1 ?side2 A10.out).mono ?_
     (case side1 => exact (ct (Kd.C_below HR0_1.out HB.out)))
     (case side2 => exact HC0_1.out)
     rintro e w14 ⟨rfl, hb⟩
     refine ⟨_, rfl, ?_⟩
     replace BK231 := blkb BK231 hb
     replace BK232 := blkb BK232 hb
     replace HB := belb HB hb
     (try clear hb)
     (try clear hb2)
     (try clear hk)
     (try clear hi)
     refine hK.out _ _ ⟨bc BK231 0, bc BK231 1, bc BK232 0, bc BK232 1⟩ (fun hHeld => ?_)
     clear hK K
     refine norm_ (a' := ?_) ?_ ?_
     rotate_left
     ·show Act.put _ (some 20) _ = _
      simp only [Act.put, List.setIfInBounds_toArray, List.set_cons_zero, List.set_cons_succ, i64_w, i32_w]
      rfl
     refine one_ (i := 5) (N := some 23) #[true, true, true, true, true, true, false] rfl rfl (by kernel_rfl) (by decide) (fun K hK => ?_)
     refine goes_ Tryz.func86 (by kernel_rfl) rfl #[.agg #[.bool a1_0, .slice A1_1 l1_1.length c1_1], .int .i64 x5_1] (by rfl) rfl rfl argt ?_
     with_reducible refine (turnstoneref01_digit.calls a1_0 _ _ l1_1 x5_1 t234 _ ?side1 ?side2 A11.out).mono ?_
     (case side1 => exact (ct (Kd.C_below HR1_1.out HB.out)))
     (case side2 => exact HC1_1.out)
     rintro e w15 ⟨rfl, hb⟩
     refine ⟨_, rfl, ?_⟩
     replace BK231 := blkb BK231 hb
     replace BK232 := blkb BK232 hb
     replace HB := belb HB hb
     (try clear hb)
     (try clear hb2)
     (try clear hk)
     (try clear hi)
     refine hK.out _ _ ⟨bc BK231 0, bc BK231 1, bc BK232 0, bc BK232 1⟩ (fun hHeld => ?_)
     clear hK K
     refine norm_ (a' := ?_) ?_ ?_
     rotate_left
     ·show Act.put _ (some 23) _ = _
      simp only [Act.put, List.setIfInBounds_toArray, List.set_cons_zero, List.set_cons_succ, i64_w, i32_w]
      rfl
     refine pure_ (i := 6) (N := some 24) (v := ?_) (a' := ?_) #[true, true, true, true, true, true, true] rfl rfl (by kernel_rfl) (fun _ _ _ h => h) (Or.inl ⟨by rfl, ?_⟩) ?_ ?_
     rotate_left
     ·intro w'
      go_simp
      with_reducible rfl
     rotate_left
     ·simp only [Act.put, List.setIfInBounds_toArray, List.set_cons_zero, List.set_cons_succ, i64_w, i32_w]
      rfl
     refine done_ (by kernel_rfl) ?_
     try go_wp2
     go_ret
     exact ⟨by first | rfl | (simp [errW_none, errW_some] <;> rfl) | (simp only [← hji3]; first | rfl | (simp [errW_none, errW_some] <;> rfl)) | (simp [*, errW_none, errW_some] <;> rfl), belt HB⟩
    rw [if_neg c12] at H
    have c12b0 : decide (t233 < t234) = false := decide_eq_false c12
    clear c12
    replace H := Option.bind_eq_some_iff.mp H
    obtain ⟨t235, A160, H⟩ := H
    replace H : ((turnstoneref01_digit.f a1_0 l1_1 x5_1).bind fun t236 => (if t235 > t236 then (some 1) else (turnstoneref01_larger.l0 k1 (wrap64 (x5_1 - 1)) a0_0 l0_1 a1_0 l1_1))) = some r := H
    have A16 := Aside0.mk A160
    clear A160
    replace H := Option.bind_eq_some_iff.mp H
    obtain ⟨t236, A170, H⟩ := H
    replace H : (if t235 > t236 then (some 1) else (turnstoneref01_larger.l0 k1 (wrap64 (x5_1 - 1)) a0_0 l0_1 a1_0 l1_1)) = some r := H
    have A17 := Aside0.mk A170
    clear A170
    by_cases c18 : t235 > t236
    ·rw [if_pos c18] at H
     have c18b0 : decide (t236 < t235) = true := decide_eq_true c18
     clear c18
     obtain rfl := Option.some.inj H
     try go_wp2
     replace BK231 := Aside0.mk (blk_drew BK231.out)
     replace BK232 := Aside0.mk (blk_drew BK232.out)
     replace HB := Aside0.mk (below_drew1 HB.out)
     refine start_ (n := 7) (S := fun w' => w'.cell? ⟨gb231, 0, none⟩ = some (.bool a0_0) ∧ w'.cell? ⟨gb231, 1, none⟩ = some (.slice A0_1 l0_1.length c0_1) ∧ w'.cell? ⟨gb232, 0, none⟩ = some (.bool a1_0) ∧ w'.cell? ⟨gb232, 1, none⟩ = some (.slice A1_1 l1_1.length c1_1)) (ds := []) #[false, false, false, false, false, false, false] (by kernel_rfl) rfl rfl ⟨bc BK231 0, bc BK231 1, bc BK232 0, bc BK232 1⟩ (fun hHeld => ?_)
     generalize wr.drew = w19 at BK231 BK232 HB hHeld ⊢
     refine pure_ (i := 1) (N := some 19) (v := ?_) (a' := ?_) #[false, true, false, false, false, false, false] rfl rfl (by kernel_rfl) (fun _ _ _ h => h) (Or.inl ⟨by rfl, ?_⟩) ?_ ?_
     rotate_left
     ·intro w'
      go_simp
      with_reducible rfl
     rotate_left
     ·simp only [Act.put, List.setIfInBounds_toArray, List.set_cons_zero, List.set_cons_succ, i64_w, i32_w]
      rfl
     refine pure_ (i := 4) (N := some 22) (v := ?_) (a' := ?_) #[false, true, false, false, true, false, false] rfl rfl (by kernel_rfl) (fun _ _ _ h => h) (Or.inl ⟨by rfl, ?_⟩) ?_ ?_
     rotate_left
     ·intro w'
      go_simp
      with_reducible rfl
     rotate_left
     ·simp only [Act.put, List.setIfInBounds_toArray, List.set_cons_zero, List.set_cons_succ, i64_w, i32_w]
      rfl
     refine take_ (i := 0) (N := some 18) (v := ?_) (a' := ?_) #[true, true, false, false, true, false, false] rfl rfl (by kernel_rfl) (fun _ _ _ h => h) (Or.inl ⟨by rfl, ?_⟩) hHeld ?_ ?_
     rotate_left
     ·rintro w' ⟨s0, s1, s2, s3⟩
      go_simp
      with_reducible rfl
     rotate_left
     ·simp only [Act.put, List.setIfInBounds_toArray, List.set_cons_zero, List.set_cons_succ, i64_w, i32_w]
      rfl
     refine take_ (i := 3) (N := some 21) (v := ?_) (a' := ?_) #[true, true, false, true, true, false, false] rfl rfl (by kernel_rfl) (fun _ _ _ h => h) (Or.inl ⟨by rfl, ?_⟩) hHeld ?_ ?_
     rotate_left
     ·rintro w' ⟨s0, s1, s2, s3⟩
      go_simp
      with_reducible rfl
     rotate_left
     ·simp only [Act.put, List.setIfInBounds_toArray, List.set_cons_zero, List.set_cons_succ, i64_w, i32_w]
      rfl
     refine one_ (i := 2) (N := some 20) #[true, true, true, true, true, false, false] rfl rfl (by kernel_rfl) (by decide) (fun K hK => ?_)
     refine goes_ Tryz.func86 (by kernel_rfl) rfl #[.agg #[.bool a0_0, .slice A0_1 l0_1.length c0_1], .int .i64 x5_1] (by rfl) rfl rfl argt ?_
     with_reducible refine (turnstoneref01_digit.calls a0_0 _ _ l0_1 x5_1 t233 _ ?side1 ?side2 A10.out).mono ?_
     (case side1 => exact (ct (Kd.C_below HR0_1.out HB.out)))
     (case side2 => exact HC0_1.out)
     rintro e w20 ⟨rfl, hb⟩
     refine ⟨_, rfl, ?_⟩
     replace BK231 := blkb BK231 hb
     replace BK232 := blkb BK232 hb
     replace HB := belb HB hb
     (try clear hb)
     (try clear hb2)
     (try clear hk)
     (try clear hi)
     refine hK.out _ _ ⟨bc BK231 0, bc BK231 1, bc BK232 0, bc BK232 1⟩ (fun hHeld => ?_)
     clear hK K
     refine norm_ (a' := ?_) ?_ ?_
     rotate_left
     ·show Act.put _ (some 20) _ = _
      simp only [Act.put, List.setIfInBounds_toArray, List.set_cons_zero, List.set_cons_succ, i64_w, i32_w]
      rfl
     refine one_ (i := 5) (N := some 23) #[true, true, true, true, true, true, false] rfl rfl (by kernel_rfl) (by decide) (fun K hK => ?_)
     refine goes_ Tryz.func86 (by kernel_rfl) rfl #[.agg #[.bool a1_0, .slice A1_1 l1_1.length c1_1], .int .i64 x5_1] (by rfl) rfl rfl argt ?_
     with_reducible refine (turnstoneref01_digit.calls a1_0 _ _ l1_1 x5_1 t234 _ ?side1 ?side2 A11.out).mono ?_
     (case side1 => exact (ct (Kd.C_below HR1_1.out HB.out)))
     (case side2 => exact HC1_1.out)
     rintro e w21 ⟨rfl, hb⟩
     refine ⟨_, rfl, ?_⟩
     replace BK231 := blkb BK231 hb
     replace BK232 := blkb BK232 hb
     replace HB := belb HB hb
     (try clear hb)
     (try clear hb2)
     (try clear hk)
     (try clear hi)
     refine hK.out _ _ ⟨bc BK231 0, bc BK231 1, bc BK232 0, bc BK232 1⟩ (fun hHeld => ?_)
     clear hK K
     refine norm_ (a' := ?_) ?_ ?_
     rotate_left
     ·show Act.put _ (some 23) _ = _
      simp only [Act.put, List.setIfInBounds_toArray, List.set_cons_zero, List.set_cons_succ, i64_w, i32_w]
      rfl
     refine pure_ (i := 6) (N := some 24) (v := ?_) (a' := ?_) #[true, true, true, true, true, true, true] rfl rfl (by kernel_rfl) (fun _ _ _ h => h) (Or.inl ⟨by rfl, ?_⟩) ?_ ?_
     rotate_left
     ·intro w'
      go_simp
      with_reducible rfl
     rotate_left
     ·simp only [Act.put, List.setIfInBounds_toArray, List.set_cons_zero, List.set_cons_succ, i64_w, i32_w]
      rfl
     refine done_ (by kernel_rfl) ?_
     try go_wp2
     replace BK231 := Aside0.mk (blk_drew BK231.out)
     replace BK232 := Aside0.mk (blk_drew BK232.out)
     replace HB := Aside0.mk (below_drew1 HB.out)
     refine start_ (n := 7) (S := fun w' => w'.cell? ⟨gb231, 0, none⟩ = some (.bool a0_0) ∧ w'.cell? ⟨gb231, 1, none⟩ = some (.slice A0_1 l0_1.length c0_1) ∧ w'.cell? ⟨gb232, 0, none⟩ = some (.bool a1_0) ∧ w'.cell? ⟨gb232, 1, none⟩ = some (.slice A1_1 l1_1.length c1_1)) (ds := []) #[false, false, false, false, false, false, false] (by kernel_rfl) rfl rfl ⟨bc BK231 0, bc BK231 1, bc BK232 0, bc BK232 1⟩ (fun hHeld => ?_)
     generalize w21.drew = w22 at BK231 BK232 HB hHeld ⊢
     refine pure_ (i := 1) (N := some 26) (v := ?_) (a' := ?_) #[false, true, false, false, false, false, false] rfl rfl (by kernel_rfl) (fun _ _ _ h => h) (Or.inl ⟨by rfl, ?_⟩) ?_ ?_
     rotate_left
     ·intro w'
      go_simp
      with_reducible rfl
     rotate_left
     ·simp only [Act.put, List.setIfInBounds_toArray, List.set_cons_zero, List.set_cons_succ, i64_w, i32_w]
      rfl
     refine pure_ (i := 4) (N := some 29) (v := ?_) (a' := ?_) #[false, true, false, false, true, false, false] rfl rfl (by kernel_rfl) (fun _ _ _ h => h) (Or.inl ⟨by rfl, ?_⟩) ?_ ?_
     rotate_left
     ·intro w'
      go_simp
      with_reducible rfl
     rotate_left
     ·simp only [Act.put, List.setIfInBounds_toArray, List.set_cons_zero, List.set_cons_succ, i64_w, i32_w]
      rfl
     refine take_ (i := 0) (N := some 25) (v := ?_) (a' := ?_) #[true, true, false, false, true, false, false] rfl rfl (by kernel_rfl) (fun _ _ _ h => h) (Or.inl ⟨by rfl, ?_⟩) hHeld ?_ ?_
     rotate_left
     ·rintro w' ⟨s0, s1, s2, s3⟩
      go_simp
      with_reducible rfl
     rotate_left
     ·simp only [Act.put, List.setIfInBounds_toArray, List.set_cons_zero, List.set_cons_succ, i64_w, i32_w]
      rfl
     refine take_ (i := 3) (N := some 28) (v := ?_) (a' := ?_) #[true, true, false, true, true, false, false] rfl rfl (by kernel_rfl) (fun _ _ _ h => h) (Or.inl ⟨by rfl, ?_⟩) hHeld ?_ ?_
     rotate_left
     ·rintro w' ⟨s0, s1, s2, s3⟩
      go_simp
      with_reducible rfl
     rotate_left
     ·simp only [Act.put, List.setIfInBounds_toArray, List.set_cons_zero, List.set_cons_succ, i64_w, i32_w]
      rfl
     refine one_ (i := 2) (N := some 27) #[true, true, true, true, true, false, false] rfl rfl (by kernel_rfl) (by decide) (fun K hK => ?_)
     refine goes_ Tryz.func86 (by kernel_rfl) rfl #[.agg #[.bool a0_0, .slice A0_1 l0_1.length c0_1], .int .i64 x5_1] (by rfl) rfl rfl argt ?_
     with_reducible refine (turnstoneref01_digit.calls a0_0 _ _ l0_1 x5_1 t235 _ ?side1 ?side2 A16.out).mono ?_
     (case side1 => exact (ct (Kd.C_below HR0_1.out HB.out)))
     (case side2 => exact HC0_1.out)
     rintro e w23 ⟨rfl, hb⟩
     refine ⟨_, rfl, ?_⟩
     replace BK231 := blkb BK231 hb
     replace BK232 := blkb BK232 hb
     replace HB := belb HB hb
     (try clear hb)
     (try clear hb2)
     (try clear hk)
     (try clear hi)
     refine hK.out _ _ ⟨bc BK231 0, bc BK231 1, bc BK232 0, bc BK232 1⟩ (fun hHeld => ?_)
     clear hK K
     refine norm_ (a' := ?_) ?_ ?_
     rotate_left
     ·show Act.put _ (some 27) _ = _
      simp only [Act.put, List.setIfInBounds_toArray, List.set_cons_zero, List.set_cons_succ, i64_w, i32_w]
      rfl
     refine one_ (i := 5) (N := some 30) #[true, true, true, true, true, true, false] rfl rfl (by kernel_rfl) (by decide) (fun K hK => ?_)
     refine goes_ Tryz.func86 (by kernel_rfl) rfl #[.agg #[.bool a1_0, .slice A1_1 l1_1.length c1_1], .int .i64 x5_1] (by rfl) rfl rfl argt ?_
     with_reducible refine (turnstoneref01_digit.calls a1_0 _ _ l1_1 x5_1 t236 _ ?side1 ?side2 A17.out).mono ?_
     (case side1 => exact (ct (Kd.C_below HR1_1.out HB.out)))
     (case side2 => exact HC1_1.out)
     rintro e w24 ⟨rfl, hb⟩
     refine ⟨_, rfl, ?_⟩
     replace BK231 := blkb BK231 hb
     replace BK232 := blkb BK232 hb
     replace HB := belb HB hb
     (try clear hb)
     (try clear hb2)
     (try clear hk)
     (try clear hi)
     refine hK.out _ _ ⟨bc BK231 0, bc BK231 1, bc BK232 0, bc BK232 1⟩ (fun hHeld => ?_)
     clear hK K
     refine norm_ (a' := ?_) ?_ ?_
     rotate_left
     ·show Act.put _ (some 30) _ = _
      simp only [Act.put, List.setIfInBounds_toArray, List.set_cons_zero, List.set_cons_succ, i64_w, i32_w]
      rfl
     refine pure_ (i := 6) (N := some 31) (v := ?_) (a' := ?_) #[true, true, true, true, true, true, true] rfl rfl (by kernel_rfl) (fun _ _ _ h => h) (Or.inl ⟨by rfl, ?_⟩) ?_ ?_
     rotate_left
     ·intro w'
      go_simp
      with_reducible rfl
     rotate_left
     ·simp only [Act.put, List.setIfInBounds_toArray, List.set_cons_zero, List.set_cons_succ, i64_w, i32_w]
      rfl
     refine done_ (by kernel_rfl) ?_
     try go_wp2
     go_ret
     exact ⟨by first | rfl | (simp [errW_none, errW_some] <;> rfl) | (simp only [← hji3]; first | rfl | (simp [errW_none, errW_some] <;> rfl)) | (simp [*, errW_none, errW_some] <;> rfl), belt HB⟩
    rw [if_neg c18] at H
    have c18b0 : decide (t236 < t235) = false := decide_eq_false c18
    clear c18
    have H' := Aside0.mk H
    clear H
    try go_wp2
    replace BK231 := Aside0.mk (blk_drew BK231.out)
    replace BK232 := Aside0.mk (blk_drew BK232.out)
    replace HB := Aside0.mk (below_drew1 HB.out)
    refine start_ (n := 7) (S := fun w' => w'.cell? ⟨gb231, 0, none⟩ = some (.bool a0_0) ∧ w'.cell? ⟨gb231, 1, none⟩ = some (.slice A0_1 l0_1.length c0_1) ∧ w'.cell? ⟨gb232, 0, none⟩ = some (.bool a1_0) ∧ w'.cell? ⟨gb232, 1, none⟩ = some (.slice A1_1 l1_1.length c1_1)) (ds := []) #[false, false, false, false, false, false, false] (by kernel_rfl) rfl rfl ⟨bc BK231 0, bc BK231 1, bc BK232 0, bc BK232 1⟩ (fun hHeld => ?_)
    generalize wr.drew = w25 at BK231 BK232 HB hHeld ⊢
    refine pure_ (i := 1) (N := some 19) (v := ?_) (a' := ?_) #[false, true, false, false, false, false, false] rfl rfl (by kernel_rfl) (fun _ _ _ h => h) (Or.inl ⟨by rfl, ?_⟩) ?_ ?_
    rotate_left
    ·intro w'
     go_simp
     with_reducible rfl
    rotate_left
    ·simp only [Act.put, List.setIfInBounds_toArray, List.set_cons_zero, List.set_cons_succ, i64_w, i32_w]
     rfl
    refine pure_ (i := 4) (N := some 22) (v := ?_) (a' := ?_) #[false, true, false, false, true, false, false] rfl rfl (by kernel_rfl) (fun _ _ _ h => h) (Or.inl ⟨by rfl, ?_⟩) ?_ ?_
    rotate_left
    ·intro w'
     go_simp
     with_reducible rfl
    rotate_left
    ·simp only [Act.put, List.setIfInBounds_toArray, List.set_cons_zero, List.set_cons_succ, i64_w, i32_w]
     rfl
    refine take_ (i := 0) (N := some 18) (v := ?_) (a' := ?_) #[true, true, false, false, true, false, false] rfl rfl (by kernel_rfl) (fun _ _ _ h => h) (Or.inl ⟨by rfl, ?_⟩) hHeld ?_ ?_
    rotate_left
    ·rintro w' ⟨s0, s1, s2, s3⟩
     go_simp
     with_reducible rfl
    rotate_left
    ·simp only [Act.put, List.setIfInBounds_toArray, List.set_cons_zero, List.set_cons_succ, i64_w, i32_w]
     rfl
    refine take_ (i := 3) (N := some 21) (v := ?_) (a' := ?_) #[true, true, false, true, true, false, false] rfl rfl (by kernel_rfl) (fun _ _ _ h => h) (Or.inl ⟨by rfl, ?_⟩) hHeld ?_ ?_
    rotate_left
    ·rintro w' ⟨s0, s1, s2, s3⟩
     go_simp
     with_reducible rfl
    rotate_left
    ·simp only [Act.put, List.setIfInBounds_toArray, List.set_cons_zero, List.set_cons_succ, i64_w, i32_w]
     rfl
    refine one_ (i := 2) (N := some 20) #[true, true, true, true, true, false, false] rfl rfl (by kernel_rfl) (by decide) (fun K hK => ?_)
    refine goes_ Tryz.func86 (by kernel_rfl) rfl #[.agg #[.bool a0_0, .slice A0_1 l0_1.length c0_1], .int .i64 x5_1] (by rfl) rfl rfl argt ?_
    with_reducible refine (turnstoneref01_digit.calls a0_0 _ _ l0_1 x5_1 t233 _ ?side1 ?side2 A10.out).mono ?_
    (case side1 => exact (ct (Kd.C_below HR0_1.out HB.out)))
    (case side2 => exact HC0_1.out)
    rintro e w26 ⟨rfl, hb⟩
    refine ⟨_, rfl, ?_⟩
    replace BK231 := blkb BK231 hb
    replace BK232 := blkb BK232 hb
    replace HB := belb HB hb
    (try clear hb)
    (try clear hb2)
    (try clear hk)
    (try clear hi)
    refine hK.out _ _ ⟨bc BK231 0, bc BK231 1, bc BK232 0, bc BK232 1⟩ (fun hHeld => ?_)
    clear hK K
    refine norm_ (a' := ?_) ?_ ?_
    rotate_left
    ·show Act.put _ (some 20) _ = _
     simp only [Act.put, List.setIfInBounds_toArray, List.set_cons_zero, List.set_cons_succ, i64_w, i32_w]
     rfl
    refine one_ (i := 5) (N := some 23) #[true, true, true, true, true, true, false] rfl rfl (by kernel_rfl) (by decide) (fun K hK => ?_)
    refine goes_ Tryz.func86 (by kernel_rfl) rfl #[.agg #[.bool a1_0, .slice A1_1 l1_1.length c1_1], .int .i64 x5_1] (by rfl) rfl rfl argt ?_
    with_reducible refine (turnstoneref01_digit.calls a1_0 _ _ l1_1 x5_1 t234 _ ?side1 ?side2 A11.out).mono ?_
    (case side1 => exact (ct (Kd.C_below HR1_1.out HB.out)))
    (case side2 => exact HC1_1.out)
    rintro e w27 ⟨rfl, hb⟩
    refine ⟨_, rfl, ?_⟩
    replace BK231 := blkb BK231 hb
    replace BK232 := blkb BK232 hb
    replace HB := belb HB hb
    (try clear hb)
    (try clear hb2)
    (try clear hk)
    (try clear hi)
    refine hK.out _ _ ⟨bc BK231 0, bc BK231 1, bc BK232 0, bc BK232 1⟩ (fun hHeld => ?_)
    clear hK K
    refine norm_ (a' := ?_) ?_ ?_
    rotate_left
    ·show Act.put _ (some 23) _ = _
     simp only [Act.put, List.setIfInBounds_toArray, List.set_cons_zero, List.set_cons_succ, i64_w, i32_w]
     rfl
    refine pure_ (i := 6) (N := some 24) (v := ?_) (a' := ?_) #[true, true, true, true, true, true, true] rfl rfl (by kernel_rfl) (fun _ _ _ h => h) (Or.inl ⟨by rfl, ?_⟩) ?_ ?_
    rotate_left
    ·intro w'
     go_simp
     with_reducible rfl
    rotate_left
    ·simp only [Act.put, List.setIfInBounds_toArray, List.set_cons_zero, List.set_cons_succ, i64_w, i32_w]
     rfl
    refine done_ (by kernel_rfl) ?_
    try go_wp2
    replace BK231 := Aside0.mk (blk_drew BK231.out)
    replace BK232 := Aside0.mk (blk_drew BK232.out)
    replace HB := Aside0.mk (below_drew1 HB.out)
    refine start_ (n := 7) (S := fun w' => w'.cell? ⟨gb231, 0, none⟩ = some (.bool a0_0) ∧ w'.cell? ⟨gb231, 1, none⟩ = some (.slice A0_1 l0_1.length c0_1) ∧ w'.cell? ⟨gb232, 0, none⟩ = some (.bool a1_0) ∧ w'.cell? ⟨gb232, 1, none⟩ = some (.slice A1_1 l1_1.length c1_1)) (ds := []) #[false, false, false, false, false, false, false] (by kernel_rfl) rfl rfl ⟨bc BK231 0, bc BK231 1, bc BK232 0, bc BK232 1⟩ (fun hHeld => ?_)
    generalize w27.drew = w28 at BK231 BK232 HB hHeld ⊢
    refine pure_ (i := 1) (N := some 26) (v := ?_) (a' := ?_) #[false, true, false, false, false, false, false] rfl rfl (by kernel_rfl) (fun _ _ _ h => h) (Or.inl ⟨by rfl, ?_⟩) ?_ ?_
    rotate_left
    ·intro w'
     go_simp
     with_reducible rfl
    rotate_left
    ·simp only [Act.put, List.setIfInBounds_toArray, List.set_cons_zero, List.set_cons_succ, i64_w, i32_w]
     rfl
    refine pure_ (i := 4) (N := some 29) (v := ?_) (a' := ?_) #[false, true, false, false, true, false, false] rfl rfl (by kernel_rfl) (fun _ _ _ h => h) (Or.inl ⟨by rfl, ?_⟩) ?_ ?_
    rotate_left
    ·intro w'
     go_simp
     with_reducible rfl
    rotate_left
    ·simp only [Act.put, List.setIfInBounds_toArray, List.set_cons_zero, List.set_cons_succ, i64_w, i32_w]
     rfl
    refine take_ (i := 0) (N := some 25) (v := ?_) (a' := ?_) #[true, true, false, false, true, false, false] rfl rfl (by kernel_rfl) (fun _ _ _ h => h) (Or.inl ⟨by rfl, ?_⟩) hHeld ?_ ?_
    rotate_left
    ·rintro w' ⟨s0, s1, s2, s3⟩
     go_simp
     with_reducible rfl
    rotate_left
    ·simp only [Act.put, List.setIfInBounds_toArray, List.set_cons_zero, List.set_cons_succ, i64_w, i32_w]
     rfl
    refine take_ (i := 3) (N := some 28) (v := ?_) (a' := ?_) #[true, true, false, true, true, false, false] rfl rfl (by kernel_rfl) (fun _ _ _ h => h) (Or.inl ⟨by rfl, ?_⟩) hHeld ?_ ?_
    rotate_left
    ·rintro w' ⟨s0, s1, s2, s3⟩
     go_simp
     with_reducible rfl
    rotate_left
    ·simp only [Act.put, List.setIfInBounds_toArray, List.set_cons_zero, List.set_cons_succ, i64_w, i32_w]
     rfl
    refine one_ (i := 2) (N := some 27) #[true, true, true, true, true, false, false] rfl rfl (by kernel_rfl) (by decide) (fun K hK => ?_)
    refine goes_ Tryz.func86 (by kernel_rfl) rfl #[.agg #[.bool a0_0, .slice A0_1 l0_1.length c0_1], .int .i64 x5_1] (by rfl) rfl rfl argt ?_
    with_reducible refine (turnstoneref01_digit.calls a0_0 _ _ l0_1 x5_1 t235 _ ?side1 ?side2 A16.out).mono ?_
    (case side1 => exact (ct (Kd.C_below HR0_1.out HB.out)))
    (case side2 => exact HC0_1.out)
    rintro e w29 ⟨rfl, hb⟩
    refine ⟨_, rfl, ?_⟩
    replace BK231 := blkb BK231 hb
    replace BK232 := blkb BK232 hb
    replace HB := belb HB hb
    (try clear hb)
    (try clear hb2)
    (try clear hk)
    (try clear hi)
    refine hK.out _ _ ⟨bc BK231 0, bc BK231 1, bc BK232 0, bc BK232 1⟩ (fun hHeld => ?_)
    clear hK K
    refine norm_ (a' := ?_) ?_ ?_
    rotate_left
    ·show Act.put _ (some 27) _ = _
     simp only [Act.put, List.setIfInBounds_toArray, List.set_cons_zero, List.set_cons_succ, i64_w, i32_w]
     rfl
    refine one_ (i := 5) (N := some 30) #[true, true, true, true, true, true, false] rfl rfl (by kernel_rfl) (by decide) (fun K hK => ?_)
    refine goes_ Tryz.func86 (by kernel_rfl) rfl #[.agg #[.bool a1_0, .slice A1_1 l1_1.length c1_1], .int .i64 x5_1] (by rfl) rfl rfl argt ?_
    with_reducible refine (turnstoneref01_digit.calls a1_0 _ _ l1_1 x5_1 t236 _ ?side1 ?side2 A17.out).mono ?_
    (case side1 => exact (ct (Kd.C_below HR1_1.out HB.out)))
    (case side2 => exact HC1_1.out)
    rintro e w30 ⟨rfl, hb⟩
    refine ⟨_, rfl, ?_⟩
    replace BK231 := blkb BK231 hb
    replace BK232 := blkb BK232 hb
    replace HB := belb HB hb
    (try clear hb)
    (try clear hb2)
    (try clear hk)
    (try clear hi)
    refine hK.out _ _ ⟨bc BK231 0, bc BK231 1, bc BK232 0, bc BK232 1⟩ (fun hHeld => ?_)
    clear hK K
    refine norm_ (a' := ?_) ?_ ?_
    rotate_left
    ·show Act.put _ (some 30) _ = _
     simp only [Act.put, List.setIfInBounds_toArray, List.set_cons_zero, List.set_cons_succ, i64_w, i32_w]
     rfl
    refine pure_ (i := 6) (N := some 31) (v := ?_) (a' := ?_) #[true, true, true, true, true, true, true] rfl rfl (by kernel_rfl) (fun _ _ _ h => h) (Or.inl ⟨by rfl, ?_⟩) ?_ ?_
    rotate_left
    ·intro w'
     go_simp
     with_reducible rfl
    rotate_left
    ·simp only [Act.put, List.setIfInBounds_toArray, List.set_cons_zero, List.set_cons_succ, i64_w, i32_w]
     rfl
    refine done_ (by kernel_rfl) ?_
    try go_wp2
    go_roundg k1
    case measure => have := HK1.out; omega
    case rel => exact ⟨(wrap64 (x5_1 - 1)), (by first | rfl | (simp; done) | (simp [*]; done)), H', ⟨by have := HK1.out; omega⟩, ⟨blkt BK231⟩, ⟨blkt BK232⟩, ⟨belt HB⟩⟩
   rw [if_neg c9] at H
   have c9b0 : decide (0 ≤ x5_1) = false := decide_eq_false c9
   clear c9
   obtain rfl := Option.some.inj H
   go_wp2
   go_ret
   exact ⟨by first | rfl | (simp [errW_none, errW_some] <;> rfl) | (simp only [← hji3]; first | rfl | (simp [errW_none, errW_some] <;> rfl)) | (simp [*, errW_none, errW_some] <;> rfl), belt HB⟩


/-! ### turnstoneref01_minus: function 70 -/
def turnstoneref01_minus.l0 : Nat → List Int → Int → Int → Bool → List Int → Bool → List Int → Option (List Int)
 | 0, _, _, _, _, _, _, _ => none
 | k + 1, x5, x6, x7, x238000, x238001, x239000, x239001 => if x7 < (x238001.length : Int) then (if 0 ≤ x7 then ((turnstoneref01_digit.f x239000 x239001 x7).bind fun t240 => (if (wrap64 ((wrap64 ((rd x238001 x7) - t240)) - x6)) < 0 then (if x5.length < 17592186044416 then (turnstoneref01_minus.l0 k (x5 ++ [wrap64 ((wrap64 ((wrap64 ((rd x238001 x7) - t240)) - x6)) + 10000)]) 1 (wrap64 (x7 + 1)) x238000 x238001 x239000 x239001) else (none)) else (if x5.length < 17592186044416 then (turnstoneref01_minus.l0 k (x5 ++ [wrap64 ((wrap64 ((rd x238001 x7) - t240)) - x6)]) 0 (wrap64 (x7 + 1)) x238000 x238001 x239000 x239001) else (none)))) else (none)) else (some x5)
def turnstoneref01_minus.f (k : Nat) (a0_0 : Bool) (l0_1 : List Int) (a1_0 : Bool) (l1_1 : List Int) : Option (List Int) := turnstoneref01_minus.l0 k ([] : List Int) 0 0 a0_0 l0_1 a1_0 l1_1
theorem turnstoneref01_minus.mono_l : ∀ k, (∀ y0 y1 y2 y3 y4 y5 y6, LeO (turnstoneref01_minus.l0 k y0 y1 y2 y3 y4 y5 y6) (turnstoneref01_minus.l0 (k + 1) y0 y1 y2 y3 y4 y5 y6))
 | 0 => fun _ _ _ _ _ _ _ r h => by simp [turnstoneref01_minus.l0] at h
 | k + 1 => by
  have ih0 := turnstoneref01_minus.mono_l k
  ·intro y0 y1 y2 y3 y4 y5 y6
   unfold turnstoneref01_minus.l0
   repeat' first
   | (with_reducible exact ih0 _ _ _ _ _ _ _)
   | (with_reducible exact LeO.refl _)
   | (with_reducible exact LeO.none _)
   | (with_reducible refine LeO.ite ?_ ?_)
   | (with_reducible refine LeO.bind ?_ (fun _ => ?_))
   | exact ih0 _ _ _ _ _ _ _
   | exact LeO.none _
   | refine LeO.ite ?_ ?_
   | refine LeO.bind ?_ (fun _ => ?_)
theorem turnstoneref01_minus.mono : ∀ a0 a1 a2 a3 k, LeO (turnstoneref01_minus.f k a0 a1 a2 a3) (turnstoneref01_minus.f (k + 1) a0 a1 a2 a3) := by
 intro a0 a1 a2 a3 k
 have ih0 := turnstoneref01_minus.mono_l k
 unfold turnstoneref01_minus.f
 repeat' first
   | (with_reducible exact ih0 _ _ _ _ _ _ _)
   | (with_reducible exact LeO.refl _)
   | (with_reducible exact LeO.none _)
   | (with_reducible refine LeO.ite ?_ ?_)
   | (with_reducible refine LeO.bind ?_ (fun _ => ?_))
   | exact ih0 _ _ _ _ _ _ _
   | exact LeO.none _
   | refine LeO.ite ?_ ?_
   | refine LeO.bind ?_ (fun _ => ?_)
def turnstoneref01_minus.T6 : Bool × List (List Nat × List Nat) := (true, [([], []), ([0], [0]), ([], []), ([1, 2], [1, 2]), ([3], [3]), ([], []), ([], []), ([5, 6], [5, 6]), ([4, 7], [4, 7]), ([], []), ([8, 9], [8, 9]), ([10, 7, 0, 1, 2, 3, 4, 5, 6, 7, 8, 9, 10], [10])])
def turnstoneref01_minus.B6 : List Nat := [0, 1, 0, 7, 15, 0, 0, 96, 255, 0, 1023, 2047]
theorem turnstoneref01_minus.tab6 : rtab .any (opsOf Tryz.f70 6) = turnstoneref01_minus.T6 := by kernel_rfl
theorem turnstoneref01_minus.bits6 : waitsOk turnstoneref01_minus.T6.2 turnstoneref01_minus.B6 = true := by kernel_rfl
set_option maxHeartbeats 8000000 in
set_option maxRecDepth 100000 in
theorem turnstoneref01_minus.calls (k : Nat) (a0_0 : Bool) (A0_1 : Option Addr) (c0_1 : Nat) (l0_1 : List Int) (a1_0 : Bool) (A1_1 : Option Addr) (c1_1 : Nat) (l1_1 : List Int) (r : List Int) (w : World) (hr0_1 : Kd.C (Kd.int .i64) w A0_1 l0_1.length l0_1) (hc0_1 : l0_1.length ≤ c0_1) (hr1_1 : Kd.C (Kd.int .i64) w A1_1 l1_1.length l1_1) (hc1_1 : l1_1.length ≤ c1_1) (h : turnstoneref01_minus.f k a0_0 l0_1 a1_0 l1_1 = some r) :
  Calls Tryz.prog 70 #[.agg #[.bool a0_0, .slice A0_1 l0_1.length c0_1], .agg #[.bool a1_0, .slice A1_1 l1_1.length c1_1]] w fun e w' => ∃ v0_ : Value, e = .returned (v0_) ∧ Kd.R (Kd.int .i64) 3 w' w.heap.size (fun _ => True) v0_ r ∧ Below w.heap.size w w' := by
 have hu51 := Tryz.underlying51
 have HR0_1 := Aside0.mk hr0_1
 have HC0_1 := Aside0.mk hc0_1
 clear hr0_1 hc0_1
 have HR1_1 := Aside0.mk hr1_1
 have HC1_1 := Aside0.mk hc1_1
 clear hr1_1 hc1_1
 have HB := Aside0.mk (Below.refl w.heap.size w)
 have H : (turnstoneref01_minus.l0 k ([] : List Int) 0 0 a0_0 l0_1 a1_0 l1_1) = some r := h
 clear h
 have H' := Aside0.mk H
 clear H
 go_enter Tryz.func70, Tryz.ntmps70
 go_wp2_with (first | ((with_reducible refine gate_dst (N := 2) rfl ?_); refine box_event ?hg (N := 2) ?hd (cs := #[.bool a0_0, .slice A0_1 l0_1.length c0_1]) (t := 51) ?hr ?_; (case hd => rfl); (case hg => rfl); (case hr => first | (go_simp; done) | (go_simp; rfl)); intro gb237 hg w3 hbox hb; have BK237 := Aside0.mk (hbox); have GW237 := bels HB hg; have GE237 := bels HB hg; replace HB := belb HB hb; clear hb hbox hg) | ((with_reducible refine gate_dst (N := 3) rfl ?_); refine box_event ?hg (N := 3) ?hd (cs := #[.bool a1_0, .slice A1_1 l1_1.length c1_1]) (t := 51) ?hr ?_; (case hd => rfl); (case hg => rfl); (case hr => first | (go_simp; done) | (go_simp; rfl)); intro gb238 hg w4 hbox hb; have BK238 := Aside0.mk (hbox); have GW238 := bels HB hg; have GE238 := bels HB hg; have NB237_238 := blkl BK237 hg; have NB238_237 := blkg BK237 hg; replace BK237 := blkb BK237 hb; replace HB := belb HB hb; clear hb hbox hg))
 (try simp only [Act.put, List.setIfInBounds_toArray, List.set_cons_zero, List.set_cons_succ])
 go_loopg [5, 6, 7] k (fun kq v5 v6 v7 w' => ∃ (x5_1 : List Int) (x6_1 : Int) (x7_1 : Int), v6 = .int .i64 x6_1 ∧ v7 = .int .i64 x7_1 ∧ Aside0 (turnstoneref01_minus.l0 kq x5_1 x6_1 x7_1 a0_0 l0_1 a1_0 l1_1 = some r) ∧ Aside0 (kq ≤ k) ∧ Aside0 (Kd.R (Kd.int .i64) 3 w' w.heap.size (fun _ => True) v5 x5_1) ∧ Aside0 (w'.heap[gb237]? = some (.cells #[.bool a0_0, (.slice A0_1 l0_1.length c0_1)] 51 (0, 0))) ∧ Aside0 (w'.heap[gb238]? = some (.cells #[.bool a1_0, (.slice A1_1 l1_1.length c1_1)] 51 (0, 0))) ∧ Aside0 (Below w.heap.size w w'))
 case atStart => exact ⟨(([] : List Int)), (0), (0), (by first | rfl | (simp; done) | (simp [*]; done)), (by first | rfl | (simp; done) | (simp [*]; done)), H', ⟨Nat.le_refl _⟩, ⟨by first | exact Kd.R_nil _ _ _ _ _ | exact Kd.N_nil _ _ _ _ _ | exact Kd.V_nil _ _ _ _ _ | exact Kd.Q_nil _ _ _ _ _ | exact Kd.S_nil _ _ _ _ _⟩, ⟨blkt BK237⟩, ⟨blkt BK238⟩, ⟨belt HB⟩⟩
 case round =>
  clear H'
  try clear c1
  try clear p2
  obtain ⟨x5_1, x6_1, x7_1, rfl, rfl, HA, HK1, HO_5, BK237, BK238, HB⟩ := hrel
  cases gk with
  | zero => exact absurd HA.out (by simp [turnstoneref01_minus.l0])
  | succ k1 =>
   have H := HA.out
   clear HA
   simp only [turnstoneref01_minus.l0] at H
   by_cases c5 : x7_1 < (l0_1.length : Int)
   ·rw [if_pos c5] at H
    have c5b0 : decide (x7_1 < (l0_1.length : Int)) = true := decide_eq_true c5
    clear c5
    by_cases c6 : 0 ≤ x7_1
    ·rw [if_pos c6] at H
     have c6b0 : decide (0 ≤ x7_1) = true := decide_eq_true c6
     clear c6
     replace H := Option.bind_eq_some_iff.mp H
     obtain ⟨t240, A70, H⟩ := H
     replace H : (if (wrap64 ((wrap64 ((rd l0_1 x7_1) - t240)) - x6_1)) < 0 then (if x5_1.length < 17592186044416 then (turnstoneref01_minus.l0 k1 (x5_1 ++ [wrap64 ((wrap64 ((wrap64 ((rd l0_1 x7_1) - t240)) - x6_1)) + 10000)]) 1 (wrap64 (x7_1 + 1)) a0_0 l0_1 a1_0 l1_1) else (none)) else (if x5_1.length < 17592186044416 then (turnstoneref01_minus.l0 k1 (x5_1 ++ [wrap64 ((wrap64 ((rd l0_1 x7_1) - t240)) - x6_1)]) 0 (wrap64 (x7_1 + 1)) a0_0 l0_1 a1_0 l1_1) else (none))) = some r := H
     have A7 := Aside0.mk A70
     clear A70
     by_cases c8 : (wrap64 ((wrap64 ((rd l0_1 x7_1) - t240)) - x6_1)) < 0
     ·rw [if_pos c8] at H
      have c8b0 : decide ((wrap64 ((wrap64 ((rd l0_1 x7_1) - t240)) - x6_1)) < 0) = true := decide_eq_true c8
      clear c8
      by_cases c9 : x5_1.length < 17592186044416
      ·rw [if_pos c9] at H
       have LMc9 := Aside0.mk c9
       clear c9
       obtain ⟨y241, hy241⟩ : ∃ y_ : List Int, y_ = (x5_1 ++ [wrap64 ((wrap64 ((wrap64 ((rd l0_1 x7_1) - t240)) - x6_1)) + 10000)]) := ⟨_, rfl⟩
       replace H : (turnstoneref01_minus.l0 k1 y241 1 (wrap64 (x7_1 + 1)) a0_0 l0_1 a1_0 l1_1) = some r := by first | (rw [hy241]; with_reducible exact H) | (have H2_ := (Option.bind_some _ _).symm.trans H; rw [hy241]; with_reducible exact H2_) | (have H2_ := (Option.bind_some _ _).symm.trans H; with_reducible exact H2_) | with_reducible exact H | (rw [hy241]; exact H) | exact H
       have Ny241 := Aside0.mk hy241
       clear hy241
       have H' := Aside0.mk H
       clear H
       have hnb10 := NB237_238.out
       have hnc10 := NB238_237.out
       have hcz11_0 : wr.cell? ⟨gb237, 0, none⟩ = some (.bool a0_0) := bc BK237 0
       have hcz11_1 : wr.cell? ⟨gb237, 1, none⟩ = some (.slice A0_1 l0_1.length c0_1) := bc BK237 1
       have hfz11_0 := blk_frozen BK237.out 0
       have hfz11_1 := blk_frozen BK237.out 1
       try go_wp2
       replace HO_5 := Aside0.mk (Kd.R_drew HO_5.out)
       replace BK237 := Aside0.mk (blk_drew BK237.out)
       replace BK238 := Aside0.mk (blk_drew BK238.out)
       replace HB := Aside0.mk (below_drew1 HB.out)
       have p239 : 0 ≤ (x7_1 : Int) := of_decide_eq_true (by first | (with_reducible assumption) | assumption)
       have q239 : x7_1 < (l0_1.length : Int) := of_decide_eq_true (by first | (with_reducible assumption) | assumption)
       obtain ⟨ad239, e239, hx239_0⟩ := Kd.at_int HR0_1.out x7_1 p239 q239
       have hw239_0 := hx239_0
       cases e239
       replace hx239_0 := (HB.out.cell (World.block_lt_of_cell? w _ hx239_0)).trans hx239_0
       replace p239 := eq_true p239
       replace q239 := eq_true q239
       refine start_ (n := 12) (S := fun w' => w'.cell? ⟨gb237, 0, none⟩ = some (.bool a0_0) ∧ w'.cell? ⟨gb237, 1, none⟩ = some (.slice (some ad239) l0_1.length c0_1) ∧ w'.cell? ⟨gb238, 0, none⟩ = some (.bool a1_0) ∧ w'.cell? ⟨gb238, 1, none⟩ = some (.slice A1_1 l1_1.length c1_1) ∧ w'.cell? (ad239.add (x7_1).toNat) = some (.int .i64 (rd l0_1 x7_1))) (ds := []) #[false, false, false, false, false, false, false, false, false, false, false, false] (by kernel_rfl) rfl rfl ⟨bc BK237 0, bc BK237 1, bc BK238 0, bc BK238 1, ((HB.out.cell (World.block_lt_of_cell? w _ hw239_0)).trans hw239_0)⟩ (fun hHeld => ?_); refine with_tabW turnstoneref01_minus.tab6 turnstoneref01_minus.bits6 (fun HT_ HW_ => ?_)
       generalize wr.drew = w12 at HO_5 BK237 BK238 HB hx239_0 hHeld ⊢
       refine pure_ (i := 0) (N := some 16) (v := ?_) (a' := ?_) #[true, false, false, false, false, false, false, false, false, false, false, false] rfl rfl (any_of HT_.out (by kernel_rfl)) (fun _ _ _ h => h) (Or.inl ⟨by rfl, ?_⟩) ?_ ?_
       rotate_left
       ·intro w'
        go_simp
        with_reducible rfl
       rotate_left
       ·simp only [Act.put, List.setIfInBounds_toArray, List.set_cons_zero, List.set_cons_succ, i64_w, i32_w]
        rfl
       refine pure_ (i := 2) (N := some 18) (v := ?_) (a' := ?_) #[true, false, true, false, false, false, false, false, false, false, false, false] rfl rfl (any_of HT_.out (by kernel_rfl)) (fun _ _ _ h => h) (Or.inl ⟨by rfl, ?_⟩) ?_ ?_
       rotate_left
       ·intro w'
        go_simp
        with_reducible rfl
       rotate_left
       ·simp only [Act.put, List.setIfInBounds_toArray, List.set_cons_zero, List.set_cons_succ, i64_w, i32_w]
        rfl
       refine pure_ (i := 6) (N := some 22) (v := ?_) (a' := ?_) #[true, false, true, false, false, false, true, false, false, false, false, false] rfl rfl (any_of HT_.out (by kernel_rfl)) (fun _ _ _ h => h) (Or.inl ⟨by rfl, ?_⟩) ?_ ?_
       rotate_left
       ·intro w'
        go_simp
        with_reducible rfl
       rotate_left
       ·simp only [Act.put, List.setIfInBounds_toArray, List.set_cons_zero, List.set_cons_succ, i64_w, i32_w]
        rfl
       refine pure_ (i := 9) (N := some 25) (v := ?_) (a' := ?_) #[true, false, true, false, false, false, true, false, false, true, false, false] rfl rfl (any_of HT_.out (by kernel_rfl)) (fun _ _ _ h => h) (Or.inl ⟨by rfl, ?_⟩) ?_ ?_
       rotate_left
       ·intro w'
        go_simp
        with_reducible rfl
       rotate_left
       ·simp only [Act.put, List.setIfInBounds_toArray, List.set_cons_zero, List.set_cons_succ, i64_w, i32_w]
        rfl
       refine take_ (i := 1) (N := some 17) (v := ?_) (a' := ?_) #[true, true, true, false, false, false, true, false, false, true, false, false] rfl rfl (take_ofW HT_.out HW_.out (by kernel_rfl)) (fun _ _ _ h => h) (Or.inl ⟨by rfl, ?_⟩) hHeld ?_ ?_
       rotate_left
       ·rintro w' ⟨s0, s1, s2, s3, s4⟩
        go_simp
        with_reducible rfl
       rotate_left
       ·simp only [Act.put, List.setIfInBounds_toArray, List.set_cons_zero, List.set_cons_succ, i64_w, i32_w]
        rfl
       refine pure_ (i := 3) (N := some 19) (v := ?_) (a' := ?_) #[true, true, true, true, false, false, true, false, false, true, false, false] rfl rfl (any_of HT_.out (by kernel_rfl)) (fun _ _ _ h => h) (Or.inl ⟨by rfl, ?_⟩) ?_ ?_
       rotate_left
       ·intro w'
        go_simp
        with_reducible rfl
       rotate_left
       ·simp only [Act.put, List.setIfInBounds_toArray, List.set_cons_zero, List.set_cons_succ, i64_w, i32_w]
        rfl
       refine take_ (i := 4) (N := some 20) (v := ?_) (a' := ?_) #[true, true, true, true, true, false, true, false, false, true, false, false] rfl rfl (take_ofW HT_.out HW_.out (by kernel_rfl)) (fun _ _ _ h => h) (Or.inl ⟨by rfl, ?_⟩) hHeld ?_ ?_
       rotate_left
       ·rintro w' ⟨s0, s1, s2, s3, s4⟩
        go_simp
        with_reducible rfl
       rotate_left
       ·simp only [Act.put, List.setIfInBounds_toArray, List.set_cons_zero, List.set_cons_succ, i64_w, i32_w]
        rfl
       refine take_ (i := 5) (N := some 21) (v := ?_) (a' := ?_) #[true, true, true, true, true, true, true, false, false, true, false, false] rfl rfl (take_ofW HT_.out HW_.out (by kernel_rfl)) (fun _ _ _ h => h) (Or.inl ⟨by rfl, ?_⟩) hHeld ?_ ?_
       rotate_left
       ·rintro w' ⟨s0, s1, s2, s3, s4⟩
        go_simp
        with_reducible rfl
       rotate_left
       ·simp only [Act.put, List.setIfInBounds_toArray, List.set_cons_zero, List.set_cons_succ, i64_w, i32_w]
        rfl
       refine one_ (i := 7) (N := some 23) #[true, true, true, true, true, true, true, true, false, true, false, false] rfl rfl (one_of HT_.out (by kernel_rfl)) (by decide) (fun K hK => ?_)
       refine goes_ Tryz.func86 (by kernel_rfl) rfl #[.agg #[.bool a1_0, .slice A1_1 l1_1.length c1_1], .int .i64 x7_1] (by rfl) rfl rfl argt ?_
       with_reducible refine (turnstoneref01_digit.calls a1_0 _ _ l1_1 x7_1 t240 _ ?side1 ?side2 A7.out).mono ?_
       (case side1 => exact (ct (Kd.C_below HR1_1.out HB.out)))
       (case side2 => exact HC1_1.out)
       rintro e w13 ⟨rfl, hb⟩
       refine ⟨_, rfl, ?_⟩
       replace HO_5 := rb HO_5 hb
       replace BK237 := blkb BK237 hb
       replace BK238 := blkb BK238 hb
       replace HB := belb HB hb
       (try clear hb)
       (try clear hb2)
       (try clear hk)
       (try clear hi)
       refine hK.out _ _ ⟨bc BK237 0, bc BK237 1, bc BK238 0, bc BK238 1, ((HB.out.cell (World.block_lt_of_cell? w _ hw239_0)).trans hw239_0)⟩ (fun hHeld => ?_)
       clear hK K
       refine norm_ (a' := ?_) ?_ ?_
       rotate_left
       ·show Act.put _ (some 23) _ = _
        simp only [Act.put, List.setIfInBounds_toArray, List.set_cons_zero, List.set_cons_succ, i64_w, i32_w]
        rfl
       refine pure_ (i := 8) (N := some 24) (v := ?_) (a' := ?_) #[true, true, true, true, true, true, true, true, true, true, false, false] rfl rfl (any_of HT_.out (by kernel_rfl)) (fun _ _ _ h => h) (Or.inl ⟨by rfl, ?_⟩) ?_ ?_
       rotate_left
       ·intro w'
        go_simp
        with_reducible rfl
       rotate_left
       ·simp only [Act.put, List.setIfInBounds_toArray, List.set_cons_zero, List.set_cons_succ, i64_w, i32_w]
        rfl
       refine pure_ (i := 10) (N := some 26) (v := ?_) (a' := ?_) #[true, true, true, true, true, true, true, true, true, true, true, false] rfl rfl (any_of HT_.out (by kernel_rfl)) (fun _ _ _ h => h) (Or.inl ⟨by rfl, ?_⟩) ?_ ?_
       rotate_left
       ·intro w'
        go_simp
        with_reducible rfl
       rotate_left
       ·simp only [Act.put, List.setIfInBounds_toArray, List.set_cons_zero, List.set_cons_succ, i64_w, i32_w]
        rfl
       refine pure_ (i := 11) (N := some 8) (v := ?_) (a' := ?_) #[true, true, true, true, true, true, true, true, true, true, true, true] rfl rfl (any_of HT_.out (by kernel_rfl)) (fun _ _ _ h => h) (Or.inl ⟨by rfl, ?_⟩) ?_ ?_
       rotate_left
       ·intro w'
        go_simp
        with_reducible rfl
       rotate_left
       ·simp only [Act.put, List.setIfInBounds_toArray, List.set_cons_zero, List.set_cons_succ, i64_w, i32_w]
        rfl
       refine done_ (done_of HT_.out (by kernel_rfl)) ?_
       try go_wp2_with (first | ((with_reducible refine gate_builtin (b := .append) (xs := #[.tmp 31, .tmp 33]) rfl ?_); at_builtin; refine Kd.R_append (Kd.int .i64) (w0 := w) w.heap.size rfl (.tmp 31) (.tmp 33) 49 3 (.int .i64 0) 8 rfl Tryz.underlying49 info3 rfl (by decide) (by omega) u5 x5_1 (wrap64 ((wrap64 ((wrap64 ((rd l0_1 x7_1) - t240)) - x6_1)) + 10000)) [.int .i64 (wrap64 ((wrap64 ((wrap64 ((rd l0_1 x7_1) - t240)) - x6_1)) + 10000))] (fun _ => True) (fun _ => False) rfl rfl ?aP (fun _ hk => hk.elim) ?aF ?aO ?aB ?aS ?aL ?_; (case aP => exact rfl); (case aB => exact (belt HB)); (case aF => exact (fun _ _ => trivial)); (case aO => exact (rt HO_5)); (case aS => exact (below_size (belt HB))); (case aL => have := LMc9.out; omega); intro v242 w14 ho hb hg hat; rw [← Ny241.out] at ho; replace BK237 := Aside0.mk (blk_grown (blkt BK237) hg (Kd.R_ne HO_5.out BK237.out (by decide))); replace BK238 := Aside0.mk (blk_grown (blkt BK238) hg (Kd.R_ne HO_5.out BK238.out (by decide))); replace HB := Aside0.mk (hb); have HO243 := Aside0.mk (ho); clear HO_5; clear ho hb hg hat))
       go_roundg k1
       case measure => have := HK1.out; omega
       case rel => exact ⟨(y241), (1), (wrap64 (x7_1 + 1)), (by first | rfl | (simp; done) | (simp [*]; done)), (by first | rfl | (simp; done) | (simp [*]; done)), H', ⟨by have := HK1.out; omega⟩, ⟨by (with_reducible repeat (first | apply Kd.R_alloc | apply Kd.R_drewN | apply Kd.R_drew)); exact HO243.out⟩, ⟨blkt BK237⟩, ⟨blkt BK238⟩, ⟨belt HB⟩⟩
      rw [if_neg c9] at H
      exact absurd H (by simp)
     rw [if_neg c8] at H
     have c8b0 : decide ((wrap64 ((wrap64 ((rd l0_1 x7_1) - t240)) - x6_1)) < 0) = false := decide_eq_false c8
     clear c8
     by_cases c15 : x5_1.length < 17592186044416
     ·rw [if_pos c15] at H
      have LMc15 := Aside0.mk c15
      clear c15
      obtain ⟨y244, hy244⟩ : ∃ y_ : List Int, y_ = (x5_1 ++ [wrap64 ((wrap64 ((rd l0_1 x7_1) - t240)) - x6_1)]) := ⟨_, rfl⟩
      replace H : (turnstoneref01_minus.l0 k1 y244 0 (wrap64 (x7_1 + 1)) a0_0 l0_1 a1_0 l1_1) = some r := by first | (rw [hy244]; with_reducible exact H) | (have H2_ := (Option.bind_some _ _).symm.trans H; rw [hy244]; with_reducible exact H2_) | (have H2_ := (Option.bind_some _ _).symm.trans H; with_reducible exact H2_) | with_reducible exact H | (rw [hy244]; exact H) | exact H
      have Ny244 := Aside0.mk hy244
      clear hy244
      have H' := Aside0.mk H
      clear H
      have hnb16 := NB237_238.out
      have hnc16 := NB238_237.out
      have hcz17_0 : wr.cell? ⟨gb237, 0, none⟩ = some (.bool a0_0) := bc BK237 0
      have hcz17_1 : wr.cell? ⟨gb237, 1, none⟩ = some (.slice A0_1 l0_1.length c0_1) := bc BK237 1
      have hfz17_0 := blk_frozen BK237.out 0
      have hfz17_1 := blk_frozen BK237.out 1
      try go_wp2
      replace HO_5 := Aside0.mk (Kd.R_drew HO_5.out)
      replace BK237 := Aside0.mk (blk_drew BK237.out)
      replace BK238 := Aside0.mk (blk_drew BK238.out)
      replace HB := Aside0.mk (below_drew1 HB.out)
      have p239 : 0 ≤ (x7_1 : Int) := of_decide_eq_true (by first | (with_reducible assumption) | assumption)
      have q239 : x7_1 < (l0_1.length : Int) := of_decide_eq_true (by first | (with_reducible assumption) | assumption)
      obtain ⟨ad239, e239, hx239_0⟩ := Kd.at_int HR0_1.out x7_1 p239 q239
      have hw239_0 := hx239_0
      cases e239
      replace hx239_0 := (HB.out.cell (World.block_lt_of_cell? w _ hx239_0)).trans hx239_0
      replace p239 := eq_true p239
      replace q239 := eq_true q239
      refine start_ (n := 12) (S := fun w' => w'.cell? ⟨gb237, 0, none⟩ = some (.bool a0_0) ∧ w'.cell? ⟨gb237, 1, none⟩ = some (.slice (some ad239) l0_1.length c0_1) ∧ w'.cell? ⟨gb238, 0, none⟩ = some (.bool a1_0) ∧ w'.cell? ⟨gb238, 1, none⟩ = some (.slice A1_1 l1_1.length c1_1) ∧ w'.cell? (ad239.add (x7_1).toNat) = some (.int .i64 (rd l0_1 x7_1))) (ds := []) #[false, false, false, false, false, false, false, false, false, false, false, false] (by kernel_rfl) rfl rfl ⟨bc BK237 0, bc BK237 1, bc BK238 0, bc BK238 1, ((HB.out.cell (World.block_lt_of_cell? w _ hw239_0)).trans hw239_0)⟩ (fun hHeld => ?_); refine with_tabW turnstoneref01_minus.tab6 turnstoneref01_minus.bits6 (fun HT_ HW_ => ?_)
      generalize wr.drew = w18 at HO_5 BK237 BK238 HB hx239_0 hHeld ⊢
      refine pure_ (i := 0) (N := some 16) (v := ?_) (a' := ?_) #[true, false, false, false, false, false, false, false, false, false, false, false] rfl rfl (any_of HT_.out (by kernel_rfl)) (fun _ _ _ h => h) (Or.inl ⟨by rfl, ?_⟩) ?_ ?_
      rotate_left
      ·intro w'
       go_simp
       with_reducible rfl
      rotate_left
      ·simp only [Act.put, List.setIfInBounds_toArray, List.set_cons_zero, List.set_cons_succ, i64_w, i32_w]
       rfl
      refine pure_ (i := 2) (N := some 18) (v := ?_) (a' := ?_) #[true, false, true, false, false, false, false, false, false, false, false, false] rfl rfl (any_of HT_.out (by kernel_rfl)) (fun _ _ _ h => h) (Or.inl ⟨by rfl, ?_⟩) ?_ ?_
      rotate_left
      ·intro w'
       go_simp
       with_reducible rfl
      rotate_left
      ·simp only [Act.put, List.setIfInBounds_toArray, List.set_cons_zero, List.set_cons_succ, i64_w, i32_w]
       rfl
      refine pure_ (i := 6) (N := some 22) (v := ?_) (a' := ?_) #[true, false, true, false, false, false, true, false, false, false, false, false] rfl rfl (any_of HT_.out (by kernel_rfl)) (fun _ _ _ h => h) (Or.inl ⟨by rfl, ?_⟩) ?_ ?_
      rotate_left
      ·intro w'
       go_simp
       with_reducible rfl
      rotate_left
      ·simp only [Act.put, List.setIfInBounds_toArray, List.set_cons_zero, List.set_cons_succ, i64_w, i32_w]
       rfl
      refine pure_ (i := 9) (N := some 25) (v := ?_) (a' := ?_) #[true, false, true, false, false, false, true, false, false, true, false, false] rfl rfl (any_of HT_.out (by kernel_rfl)) (fun _ _ _ h => h) (Or.inl ⟨by rfl, ?_⟩) ?_ ?_
      rotate_left
      ·intro w'
       go_simp
       with_reducible rfl
      rotate_left
      ·simp only [Act.put, List.setIfInBounds_toArray, List.set_cons_zero, List.set_cons_succ, i64_w, i32_w]
       rfl
      refine take_ (i := 1) (N := some 17) (v := ?_) (a' := ?_) #[true, true, true, false, false, false, true, false, false, true, false, false] rfl rfl (take_ofW HT_.out HW_.out (by kernel_rfl)) (fun _ _ _ h => h) (Or.inl ⟨by rfl, ?_⟩) hHeld ?_ ?_
      rotate_left
      ·rintro w' ⟨s0, s1, s2, s3, s4⟩
       go_simp
       with_reducible rfl
      rotate_left
      ·simp only [Act.put, List.setIfInBounds_toArray, List.set_cons_zero, List.set_cons_succ, i64_w, i32_w]
       rfl
      refine pure_ (i := 3) (N := some 19) (v := ?_) (a' := ?_) #[true, true, true, true, false, false, true, false, false, true, false, false] rfl rfl (any_of HT_.out (by kernel_rfl)) (fun _ _ _ h => h) (Or.inl ⟨by rfl, ?_⟩) ?_ ?_
      rotate_left
      ·intro w'
       go_simp
       with_reducible rfl
      rotate_left
      ·simp only [Act.put, List.setIfInBounds_toArray, List.set_cons_zero, List.set_cons_succ, i64_w, i32_w]
       rfl
      refine take_ (i := 4) (N := some 20) (v := ?_) (a' := ?_) #[true, true, true, true, true, false, true, false, false, true, false, false] rfl rfl (take_ofW HT_.out HW_.out (by kernel_rfl)) (fun _ _ _ h => h) (Or.inl ⟨by rfl, ?_⟩) hHeld ?_ ?_
      rotate_left
      ·rintro w' ⟨s0, s1, s2, s3, s4⟩
       go_simp
       with_reducible rfl
      rotate_left
      ·simp only [Act.put, List.setIfInBounds_toArray, List.set_cons_zero, List.set_cons_succ, i64_w, i32_w]
       rfl
      refine take_ (i := 5) (N := some 21) (v := ?_) (a' := ?_) #[true, true, true, true, true, true, true, false, false, true, false, false] rfl rfl (take_ofW HT_.out HW_.out (by kernel_rfl)) (fun _ _ _ h => h) (Or.inl ⟨by rfl, ?_⟩) hHeld ?_ ?_
      rotate_left
      ·rintro w' ⟨s0, s1, s2, s3, s4⟩
       go_simp
       with_reducible rfl
      rotate_left
      ·simp only [Act.put, List.setIfInBounds_toArray, List.set_cons_zero, List.set_cons_succ, i64_w, i32_w]
       rfl
      refine one_ (i := 7) (N := some 23) #[true, true, true, true, true, true, true, true, false, true, false, false] rfl rfl (one_of HT_.out (by kernel_rfl)) (by decide) (fun K hK => ?_)
      refine goes_ Tryz.func86 (by kernel_rfl) rfl #[.agg #[.bool a1_0, .slice A1_1 l1_1.length c1_1], .int .i64 x7_1] (by rfl) rfl rfl argt ?_
      with_reducible refine (turnstoneref01_digit.calls a1_0 _ _ l1_1 x7_1 t240 _ ?side1 ?side2 A7.out).mono ?_
      (case side1 => exact (ct (Kd.C_below HR1_1.out HB.out)))
      (case side2 => exact HC1_1.out)
      rintro e w19 ⟨rfl, hb⟩
      refine ⟨_, rfl, ?_⟩
      replace HO_5 := rb HO_5 hb
      replace BK237 := blkb BK237 hb
      replace BK238 := blkb BK238 hb
      replace HB := belb HB hb
      (try clear hb)
      (try clear hb2)
      (try clear hk)
      (try clear hi)
      refine hK.out _ _ ⟨bc BK237 0, bc BK237 1, bc BK238 0, bc BK238 1, ((HB.out.cell (World.block_lt_of_cell? w _ hw239_0)).trans hw239_0)⟩ (fun hHeld => ?_)
      clear hK K
      refine norm_ (a' := ?_) ?_ ?_
      rotate_left
      ·show Act.put _ (some 23) _ = _
       simp only [Act.put, List.setIfInBounds_toArray, List.set_cons_zero, List.set_cons_succ, i64_w, i32_w]
       rfl
      refine pure_ (i := 8) (N := some 24) (v := ?_) (a' := ?_) #[true, true, true, true, true, true, true, true, true, true, false, false] rfl rfl (any_of HT_.out (by kernel_rfl)) (fun _ _ _ h => h) (Or.inl ⟨by rfl, ?_⟩) ?_ ?_
      rotate_left
      ·intro w'
       go_simp
       with_reducible rfl
      rotate_left
      ·simp only [Act.put, List.setIfInBounds_toArray, List.set_cons_zero, List.set_cons_succ, i64_w, i32_w]
       rfl
      refine pure_ (i := 10) (N := some 26) (v := ?_) (a' := ?_) #[true, true, true, true, true, true, true, true, true, true, true, false] rfl rfl (any_of HT_.out (by kernel_rfl)) (fun _ _ _ h => h) (Or.inl ⟨by rfl, ?_⟩) ?_ ?_
      rotate_left
      ·intro w'
       go_simp
       with_reducible rfl
      rotate_left
      ·simp only [Act.put, List.setIfInBounds_toArray, List.set_cons_zero, List.set_cons_succ, i64_w, i32_w]
       rfl
      refine pure_ (i := 11) (N := some 8) (v := ?_) (a' := ?_) #[true, true, true, true, true, true, true, true, true, true, true, true] rfl rfl (any_of HT_.out (by kernel_rfl)) (fun _ _ _ h => h) (Or.inl ⟨by rfl, ?_⟩) ?_ ?_
      rotate_left
      ·intro w'
       go_simp
       with_reducible rfl
      rotate_left
      ·simp only [Act.put, List.setIfInBounds_toArray, List.set_cons_zero, List.set_cons_succ, i64_w, i32_w]
       rfl
      refine done_ (done_of HT_.out (by kernel_rfl)) ?_
      try go_wp2_with (first | ((with_reducible refine gate_builtin (b := .append) (xs := #[.tmp 31, .tmp 33]) rfl ?_); at_builtin; refine Kd.R_append (Kd.int .i64) (w0 := w) w.heap.size rfl (.tmp 31) (.tmp 33) 49 3 (.int .i64 0) 8 rfl Tryz.underlying49 info3 rfl (by decide) (by omega) u5 x5_1 (wrap64 ((wrap64 ((rd l0_1 x7_1) - t240)) - x6_1)) [.int .i64 (wrap64 ((wrap64 ((rd l0_1 x7_1) - t240)) - x6_1))] (fun _ => True) (fun _ => False) rfl rfl ?aP (fun _ hk => hk.elim) ?aF ?aO ?aB ?aS ?aL ?_; (case aP => exact rfl); (case aB => exact (belt HB)); (case aF => exact (fun _ _ => trivial)); (case aO => exact (rt HO_5)); (case aS => exact (below_size (belt HB))); (case aL => have := LMc15.out; omega); intro v245 w20 ho hb hg hat; rw [← Ny244.out] at ho; replace BK237 := Aside0.mk (blk_grown (blkt BK237) hg (Kd.R_ne HO_5.out BK237.out (by decide))); replace BK238 := Aside0.mk (blk_grown (blkt BK238) hg (Kd.R_ne HO_5.out BK238.out (by decide))); replace HB := Aside0.mk (hb); have HO246 := Aside0.mk (ho); clear HO_5; clear ho hb hg hat))
      go_roundg k1
      case measure => have := HK1.out; omega
      case rel => exact ⟨(y244), (0), (wrap64 (x7_1 + 1)), (by first | rfl | (simp; done) | (simp [*]; done)), (by first | rfl | (simp; done) | (simp [*]; done)), H', ⟨by have := HK1.out; omega⟩, ⟨by (with_reducible repeat (first | apply Kd.R_alloc | apply Kd.R_drewN | apply Kd.R_drew)); exact HO246.out⟩, ⟨blkt BK237⟩, ⟨blkt BK238⟩, ⟨belt HB⟩⟩
     rw [if_neg c15] at H
     exact absurd H (by simp)
    rw [if_neg c6] at H
    exact absurd H (by simp)
   rw [if_neg c5] at H
   have c5b0 : decide (x7_1 < (l0_1.length : Int)) = false := decide_eq_false c5
   clear c5
   obtain rfl := Option.some.inj H
   have hnb21 := NB237_238.out
   have hnc21 := NB238_237.out
   have hcz22_0 : wr.cell? ⟨gb237, 0, none⟩ = some (.bool a0_0) := bc BK237 0
   have hcz22_1 : wr.cell? ⟨gb237, 1, none⟩ = some (.slice A0_1 l0_1.length c0_1) := bc BK237 1
   have hfz22_0 := blk_frozen BK237.out 0
   have hfz22_1 := blk_frozen BK237.out 1
   go_wp2
   go_ret
   exact ⟨_, by first | rfl | (simp [errW_none, errW_some] <;> rfl) | (simp [*, errW_none, errW_some] <;> rfl), by (with_reducible repeat (first | apply Kd.R_alloc | apply Kd.R_drewN | apply Kd.R_drew)); exact HO_5.out, belt HB⟩


/-! ### turnstoneref01_Add: function 34 -/
def turnstoneref01_Add.f (k : Nat) (a0_0 : Bool) (l0_1 : List Int) (a1_0 : Bool) (l1_1 : List Int) : Option (Bool × List Int) := if (a0_0 == a1_0) = true then ((turnstoneref01_plus.f k a0_0 l0_1 a1_0 l1_1).bind fun t250 => ((turnstoneref01_trim.f k a0_0 t250).bind fun bt253 => (some (bt253.1, bt253.2)))) else ((turnstoneref01_larger.f k a0_0 l0_1 a1_0 l1_1).bind fun t257 => (if t257 ≥ 0 then ((turnstoneref01_minus.f k a0_0 l0_1 a1_0 l1_1).bind fun t258 => ((turnstoneref01_trim.f k a0_0 t258).bind fun bt261 => (some (bt261.1, bt261.2)))) else ((turnstoneref01_minus.f k a1_0 l1_1 a0_0 l0_1).bind fun t265 => ((turnstoneref01_trim.f k a1_0 t265).bind fun bt268 => (some (bt268.1, bt268.2))))))
theorem turnstoneref01_Add.mono : ∀ a0 a1 a2 a3 k, LeO (turnstoneref01_Add.f k a0 a1 a2 a3) (turnstoneref01_Add.f (k + 1) a0 a1 a2 a3) := by
 intro a0 a1 a2 a3 k
 unfold turnstoneref01_Add.f
 repeat' first
   | (with_reducible exact turnstoneref01_larger.mono _ _ _ _ _)
   | (with_reducible exact turnstoneref01_minus.mono _ _ _ _ _)
   | (with_reducible exact turnstoneref01_plus.mono _ _ _ _ _)
   | (with_reducible exact turnstoneref01_trim.mono _ _ _)
   | (with_reducible exact LeO.refl _)
   | (with_reducible exact LeO.none _)
   | (with_reducible refine LeO.ite ?_ ?_)
   | (with_reducible refine LeO.bind ?_ (fun _ => ?_))
   | exact turnstoneref01_larger.mono _ _ _ _ _
   | exact turnstoneref01_minus.mono _ _ _ _ _
   | exact turnstoneref01_plus.mono _ _ _ _ _
   | exact turnstoneref01_trim.mono _ _ _
   | exact LeO.none _
   | refine LeO.ite ?_ ?_
   | refine LeO.bind ?_ (fun _ => ?_)
def turnstoneref01_Add.T2 : Bool × List (List Nat × List Nat) := (true, [([], []), ([0], [0]), ([], []), ([], []), ([2, 3], [2, 3]), ([1, 4], [1, 4]), ([5, 4], [5]), ([6, 6, 0, 1, 2, 3, 4, 5, 6], [6])])
def turnstoneref01_Add.B2 : List Nat := [0, 1, 0, 0, 12, 31, 63, 127]
theorem turnstoneref01_Add.tab2 : rtab .any (opsOf Tryz.f34 2) = turnstoneref01_Add.T2 := by kernel_rfl
theorem turnstoneref01_Add.bits2 : waitsOk turnstoneref01_Add.T2.2 turnstoneref01_Add.B2 = true := by kernel_rfl
def turnstoneref01_Add.T4 : Bool × List (List Nat × List Nat) := (true, [([], []), ([0], [0]), ([], []), ([], []), ([2, 3], [2, 3]), ([1, 4], [1, 4]), ([5, 4], [5]), ([6, 6, 0, 1, 2, 3, 4, 5, 6], [6])])
def turnstoneref01_Add.B4 : List Nat := [0, 1, 0, 0, 12, 31, 63, 127]
theorem turnstoneref01_Add.tab4 : rtab .any (opsOf Tryz.f34 4) = turnstoneref01_Add.T4 := by kernel_rfl
theorem turnstoneref01_Add.bits4 : waitsOk turnstoneref01_Add.T4.2 turnstoneref01_Add.B4 = true := by kernel_rfl
def turnstoneref01_Add.T5 : Bool × List (List Nat × List Nat) := (true, [([], []), ([0], [0]), ([], []), ([], []), ([2, 3], [2, 3]), ([1, 4], [1, 4]), ([5, 4], [5]), ([6, 6, 0, 1, 2, 3, 4, 5, 6], [6])])
def turnstoneref01_Add.B5 : List Nat := [0, 1, 0, 0, 12, 31, 63, 127]
theorem turnstoneref01_Add.tab5 : rtab .any (opsOf Tryz.f34 5) = turnstoneref01_Add.T5 := by kernel_rfl
theorem turnstoneref01_Add.bits5 : waitsOk turnstoneref01_Add.T5.2 turnstoneref01_Add.B5 = true := by kernel_rfl
set_option maxHeartbeats 8000000 in
set_option maxRecDepth 100000 in
theorem turnstoneref01_Add.calls (k : Nat) (a0_0 : Bool) (A0_1 : Option Addr) (c0_1 : Nat) (l0_1 : List Int) (a1_0 : Bool) (A1_1 : Option Addr) (c1_1 : Nat) (l1_1 : List Int) (r1 : Bool) (r2 : List Int) (w : World) (hr0_1 : Kd.C (Kd.int .i64) w A0_1 l0_1.length l0_1) (hc0_1 : l0_1.length ≤ c0_1) (hr1_1 : Kd.C (Kd.int .i64) w A1_1 l1_1.length l1_1) (hc1_1 : l1_1.length ≤ c1_1) (h : turnstoneref01_Add.f k a0_0 l0_1 a1_0 l1_1 = some (r1, r2)) :
  Calls Tryz.prog 34 #[.agg #[.bool a0_0, .slice A0_1 l0_1.length c0_1], .agg #[.bool a1_0, .slice A1_1 l1_1.length c1_1]] w fun e w' => ∃ v1_ : Value, e = .returned (.agg #[.bool r1, v1_]) ∧ Kd.V (Kd.int .i64) 3 w' w.heap.size (fun k_ => (w.heap.size ≤ k_)) v1_ r2 ∧ Below w.heap.size w w' := by
 have hu51 := Tryz.underlying51
 have HR0_1 := Aside0.mk hr0_1
 have HC0_1 := Aside0.mk hc0_1
 clear hr0_1 hc0_1
 have HR1_1 := Aside0.mk hr1_1
 have HC1_1 := Aside0.mk hc1_1
 clear hr1_1 hc1_1
 have HB := Aside0.mk (Below.refl w.heap.size w)
 have H : (if (a0_0 == a1_0) = true then ((turnstoneref01_plus.f k a0_0 l0_1 a1_0 l1_1).bind fun t250 => ((turnstoneref01_trim.f k a0_0 t250).bind fun bt253 => (some (bt253.1, bt253.2)))) else ((turnstoneref01_larger.f k a0_0 l0_1 a1_0 l1_1).bind fun t257 => (if t257 ≥ 0 then ((turnstoneref01_minus.f k a0_0 l0_1 a1_0 l1_1).bind fun t258 => ((turnstoneref01_trim.f k a0_0 t258).bind fun bt261 => (some (bt261.1, bt261.2)))) else ((turnstoneref01_minus.f k a1_0 l1_1 a0_0 l0_1).bind fun t265 => ((turnstoneref01_trim.f k a1_0 t265).bind fun bt268 => (some (bt268.1, bt268.2))))))) = some (r1, r2) := h
 clear h
 by_cases c3 : (a0_0 == a1_0) = true
 ·rw [if_pos c3] at H
  have c3b0 : (a0_0 == a1_0) = true := c3
  (try (have c3b1 : decide (a0_0 = a1_0) = true := by simpa using c3))
  (try (have c3b2 : (a0_0 == a1_0) = true := by simpa using c3))
  clear c3
  replace H := Option.bind_eq_some_iff.mp H
  obtain ⟨t250, A40, H⟩ := H
  replace H : ((turnstoneref01_trim.f k a0_0 t250).bind fun bt253 => (some (bt253.1, bt253.2))) = some (r1, r2) := H
  have A4 := Aside0.mk A40
  clear A40
  replace H := Option.bind_eq_some_iff.mp H
  obtain ⟨⟨t253, t254⟩, A50, H⟩ := H
  replace H : (some (t253, t254)) = some (r1, r2) := H
  have A5 := Aside0.mk A50
  clear A50
  simp only [Option.some.injEq, Prod.mk.injEq] at H
  obtain ⟨rfl, rfl⟩ := H
  go_enter Tryz.func34, Tryz.ntmps34
  try go_wp2_with (first | ((with_reducible refine gate_dst (N := 2) rfl ?_); refine box_event ?hg (N := 2) ?hd (cs := #[.bool a0_0, .slice A0_1 l0_1.length c0_1]) (t := 51) ?hr ?_; (case hd => rfl); (case hg => rfl); (case hr => first | (go_simp; done) | (go_simp; rfl)); intro gb247 hg w6 hbox hb; have BK247 := Aside0.mk (hbox); have GW247 := bels HB hg; have GE247 := bels HB hg; replace HB := belb HB hb; clear hb hbox hg) | ((with_reducible refine gate_dst (N := 3) rfl ?_); refine box_event ?hg (N := 3) ?hd (cs := #[.bool a1_0, .slice A1_1 l1_1.length c1_1]) (t := 51) ?hr ?_; (case hd => rfl); (case hg => rfl); (case hr => first | (go_simp; done) | (go_simp; rfl)); intro gb248 hg w7 hbox hb; have BK248 := Aside0.mk (hbox); have GW248 := bels HB hg; have GE248 := bels HB hg; have NB247_248 := blkl BK247 hg; have NB248_247 := blkg BK247 hg; replace BK247 := blkb BK247 hb; replace HB := belb HB hb; clear hb hbox hg) | ((with_reducible refine gate_dst (N := 4) rfl ?_); refine box_event ?hg (N := 4) ?hd (cs := #[.bool false, .slice none 0 0]) (t := 51) ?hr ?_; (case hd => rfl); (case hg => rfl); (case hr => first | (go_simp; done) | (go_simp; rfl)); intro gb249 hg w8 hbox hb; have BK249 := Aside0.mk (hbox); have GW249 := bels HB hg; have GE249 := bels HB hg; have NB247_249 := blkl BK247 hg; have NB249_247 := blkg BK247 hg; have NB248_249 := blkl BK248 hg; have NB249_248 := blkg BK248 hg; replace BK247 := blkb BK247 hb; replace BK248 := blkb BK248 hb; replace HB := belb HB hb; clear hb hbox hg; have hnb9 := NB247_248.out; have hnc9 := NB248_247.out; have hnb10 := NB247_249.out; have hnc10 := NB249_247.out; have hcz11_0 : w8.cell? ⟨gb247, 0, none⟩ = some (.bool a0_0) := bc BK247 0; have hcz11_1 : w8.cell? ⟨gb247, 1, none⟩ = some (.slice A0_1 l0_1.length c0_1) := bc BK247 1; have hfz11_0 := blk_frozen BK247.out 0; have hfz11_1 := blk_frozen BK247.out 1; have hnb12 := NB248_249.out; have hnc12 := NB249_248.out; have hcz13_0 : w8.cell? ⟨gb248, 0, none⟩ = some (.bool a1_0) := bc BK248 0; have hcz13_1 : w8.cell? ⟨gb248, 1, none⟩ = some (.slice A1_1 l1_1.length c1_1) := bc BK248 1; have hfz13_0 := blk_frozen BK248.out 0; have hfz13_1 := blk_frozen BK248.out 1))
  replace BK247 := Aside0.mk (blk_drew BK247.out)
  replace BK248 := Aside0.mk (blk_drew BK248.out)
  replace BK249 := Aside0.mk (blk_drew BK249.out)
  replace HB := Aside0.mk (below_drew1 HB.out)
  refine start_ (n := 8) (S := fun w' => w'.cell? ⟨gb247, 0, none⟩ = some (.bool a0_0) ∧ w'.cell? ⟨gb247, 1, none⟩ = some (.slice A0_1 l0_1.length c0_1) ∧ w'.cell? ⟨gb248, 0, none⟩ = some (.bool a1_0) ∧ w'.cell? ⟨gb248, 1, none⟩ = some (.slice A1_1 l1_1.length c1_1)) (ds := []) #[false, false, false, false, false, false, false, false] (by kernel_rfl) rfl rfl ⟨bc BK247 0, bc BK247 1, bc BK248 0, bc BK248 1⟩ (fun hHeld => ?_); refine with_tabW turnstoneref01_Add.tab2 turnstoneref01_Add.bits2 (fun HT_ HW_ => ?_)
  generalize w8.drew = w14 at BK247 BK248 BK249 HB hHeld ⊢
  refine pure_ (i := 0) (N := some 10) (v := ?_) (a' := ?_) #[true, false, false, false, false, false, false, false] rfl rfl (any_of HT_.out (by kernel_rfl)) (fun _ _ _ h => h) (Or.inl ⟨by rfl, ?_⟩) ?_ ?_
  rotate_left
  ·intro w'
   go_simp
   with_reducible rfl
  rotate_left
  ·simp only [Act.put, List.setIfInBounds_toArray, List.set_cons_zero, List.set_cons_succ, i64_w, i32_w]
   rfl
  refine take_ (i := 1) (N := some 11) (v := ?_) (a' := ?_) #[true, true, false, false, false, false, false, false] rfl rfl (take_ofW HT_.out HW_.out (by kernel_rfl)) (fun _ _ _ h => h) (Or.inl ⟨by rfl, ?_⟩) hHeld ?_ ?_
  rotate_left
  ·rintro w' ⟨s0, s1, s2, s3⟩
   go_simp
   with_reducible rfl
  rotate_left
  ·simp only [Act.put, List.setIfInBounds_toArray, List.set_cons_zero, List.set_cons_succ, i64_w, i32_w]
   rfl
  refine take_ (i := 2) (N := some 12) (v := ?_) (a' := ?_) #[true, true, true, false, false, false, false, false] rfl rfl (take_ofW HT_.out HW_.out (by kernel_rfl)) (fun _ _ _ h => h) (Or.inl ⟨by rfl, ?_⟩) hHeld ?_ ?_
  rotate_left
  ·rintro w' ⟨s0, s1, s2, s3⟩
   go_simp
   with_reducible rfl
  rotate_left
  ·simp only [Act.put, List.setIfInBounds_toArray, List.set_cons_zero, List.set_cons_succ, i64_w, i32_w]
   rfl
  refine take_ (i := 3) (N := some 13) (v := ?_) (a' := ?_) #[true, true, true, true, false, false, false, false] rfl rfl (take_ofW HT_.out HW_.out (by kernel_rfl)) (fun _ _ _ h => h) (Or.inl ⟨by rfl, ?_⟩) hHeld ?_ ?_
  rotate_left
  ·rintro w' ⟨s0, s1, s2, s3⟩
   go_simp
   with_reducible rfl
  rotate_left
  ·simp only [Act.put, List.setIfInBounds_toArray, List.set_cons_zero, List.set_cons_succ, i64_w, i32_w]
   rfl
  refine one_ (i := 4) (N := some 14) #[true, true, true, true, true, false, false, false] rfl rfl (one_of HT_.out (by kernel_rfl)) (by decide) (fun K hK => ?_)
  refine goes_ Tryz.func68 (by kernel_rfl) rfl #[.agg #[.bool a0_0, .slice A0_1 l0_1.length c0_1], .agg #[.bool a1_0, .slice A1_1 l1_1.length c1_1]] (by rfl) rfl rfl argt ?_
  with_reducible refine (turnstoneref01_plus.calls k a0_0 _ _ l0_1 a1_0 _ _ l1_1 t250 _ ?side1 ?side2 ?side3 ?side4 A4.out).mono ?_
  (case side1 => exact (ct (Kd.C_below HR0_1.out HB.out)))
  (case side2 => exact HC0_1.out)
  (case side3 => exact (ct (Kd.C_below HR1_1.out HB.out)))
  (case side4 => exact HC1_1.out)
  rintro e w15 ⟨v251, rfl, ho0, hb⟩
  refine ⟨_, rfl, ?_⟩
  have HO252 := Aside0.mk (Kd.R_lower (Kd.R_newM (M := fun k_ => (w.heap.size ≤ k_)) ho0 (below_size (belt HB)) (fun k_ h_ => h_)) (below_size (belt HB)))
  replace BK247 := blkb BK247 hb
  replace BK248 := blkb BK248 hb
  replace BK249 := blkb BK249 hb
  replace HB := belb HB hb
  (try clear hb)
  (try clear hb2)
  (try clear hk)
  (try clear hi)
  (try clear ho0)
  obtain ⟨Ao16, co16, eo16⟩ := Kd.R_slice HO252.out
  (first | subst eo16 | (injection eo16 with f1_ f2_ f3_; have f4_ := f1_.symm; have f5_ := f3_.symm; clear f1_ f2_ f3_; subst f4_; subst f5_))
  refine hK.out _ _ ⟨bc BK247 0, bc BK247 1, bc BK248 0, bc BK248 1⟩ (fun hHeld => ?_)
  clear hK K
  refine norm_ (a' := ?_) ?_ ?_
  rotate_left
  ·show Act.put _ (some 14) _ = _
   simp only [Act.put, List.setIfInBounds_toArray, List.set_cons_zero, List.set_cons_succ, i64_w, i32_w]
   rfl
  refine pure_ (i := 5) (N := some 15) (v := ?_) (a' := ?_) #[true, true, true, true, true, true, false, false] rfl rfl (any_of HT_.out (by kernel_rfl)) (fun _ _ _ h => h) (Or.inl ⟨by rfl, ?_⟩) ?_ ?_
  rotate_left
  ·intro w'
   go_simp
   with_reducible rfl
  rotate_left
  ·simp only [Act.put, List.setIfInBounds_toArray, List.set_cons_zero, List.set_cons_succ, i64_w, i32_w]
   rfl
  refine one_ (i := 6) (N := some 16) #[true, true, true, true, true, true, true, false] rfl rfl (one_of HT_.out (by kernel_rfl)) (by decide) (fun K hK => ?_)
  refine goes_ Tryz.func67 (by kernel_rfl) rfl #[.agg #[.bool a0_0, .slice Ao16 t250.length co16]] (by rfl) rfl rfl argt ?_
  with_reducible refine (turnstoneref01_trim.calls k a0_0 (fun k_ => some k_ = (.slice Ao16 t250.length co16 : Value).ownBlock) _ _ t250 t253 t254 _ ?side1 A5.out).mono ?_
  (case side1 => exact Kd.R_V (Kd.R_tight rfl (Kd.R_types (Kd.R_types (Kd.R_types (HO252.out) BK247.out (by decide)) BK248.out (by decide)) BK249.out (by decide))))
  rintro e w17 ⟨v255, rfl, ho0, hb⟩
  refine ⟨_, rfl, ?_⟩
  have HO256 := Aside0.mk (Kd.V_lower (Kd.V_mono (ok' := fun k_ => (w.heap.size ≤ k_) ∧ k_ ≠ gb247 ∧ k_ ≠ gb248 ∧ k_ ≠ gb249) ho0 (fun k_ hk_ => ⟨Or.elim hk_ (fun hs_ => ((Kd.R_types (Kd.R_types (Kd.R_types (HO252.out) BK247.out (by decide)) BK248.out (by decide)) BK249.out (by decide)).1 k_ hs_.symm).1.1.1.1) (fun hn_ => (Nat.le_trans (below_size (belt HB)) hn_)), Or.elim hk_ (fun hs_ => ((Kd.R_types (Kd.R_types (Kd.R_types (HO252.out) BK247.out (by decide)) BK248.out (by decide)) BK249.out (by decide)).1 k_ hs_.symm).1.1.2) (fun hn_ => (Kd.freshB (blkt BK247) k_ hn_)), Or.elim hk_ (fun hs_ => ((Kd.R_types (Kd.R_types (Kd.R_types (HO252.out) BK247.out (by decide)) BK248.out (by decide)) BK249.out (by decide)).1 k_ hs_.symm).1.2) (fun hn_ => (Kd.freshB (blkt BK248) k_ hn_)), Or.elim hk_ (fun hs_ => ((Kd.R_types (Kd.R_types (Kd.R_types (HO252.out) BK247.out (by decide)) BK248.out (by decide)) BK249.out (by decide)).1 k_ hs_.symm).2) (fun hn_ => (Kd.freshB (blkt BK249) k_ hn_))⟩)) (below_size (belt HB)))
  replace HO252 := rb HO252 hb
  replace BK247 := blkb BK247 hb
  replace BK248 := blkb BK248 hb
  replace BK249 := blkb BK249 hb
  replace HB := belb HB hb
  (try clear hb)
  (try clear hb2)
  (try clear hk)
  (try clear hi)
  (try clear ho0)
  obtain ⟨Ao19, co19, eo19⟩ := Kd.V_slice HO256.out
  (first | subst eo19 | (injection eo19 with f1_ f2_ f3_; have f4_ := f1_.symm; have f5_ := f3_.symm; clear f1_ f2_ f3_; subst f4_; subst f5_))
  refine hK.out _ _ ⟨bc BK247 0, bc BK247 1, bc BK248 0, bc BK248 1⟩ (fun hHeld => ?_)
  clear hK K
  refine norm_ (a' := ?_) ?_ ?_
  rotate_left
  ·show Act.put _ (some 16) _ = _
   simp only [Act.put, List.setIfInBounds_toArray, List.set_cons_zero, List.set_cons_succ, i64_w, i32_w]
   rfl
  refine one_ (i := 7) (N := none) #[true, true, true, true, true, true, true, true] rfl rfl (one_of HT_.out (by kernel_rfl)) (by decide) (fun K hK => ?_)
  have hs18 : w17.cell? ⟨gb249, 0, none⟩ = some (.bool false) := bc BK249 0
  have hfs18 := blk_frozen BK249.out 0
  have hns18_0 := NB247_249.out
  have hns18_1 := NB248_249.out
  have hms18_0 := NB249_247.out
  have hms18_1 := NB249_248.out
  have hs20 : w17.cell? ⟨gb249, 1, none⟩ = some (.slice none 0 0) := bc BK249 1
  have hfs20 := blk_frozen BK249.out 1
  have hns20_0 := NB247_249.out
  have hns20_1 := NB248_249.out
  have hms20_0 := NB249_247.out
  have hms20_1 := NB249_248.out
  refine skip_ (w1 := ?_) (by rfl) rfl ?_ ?_
  rotate_left
  ·go_simp
   rfl
  refine hK.out _ _ ⟨((cell_far (p := ⟨gb249, _, none⟩) NB247_249.out _).trans (((cell_far (p := ⟨gb249, _, none⟩) NB247_249.out _).trans (hHeld.1)))), ((cell_far (p := ⟨gb249, _, none⟩) NB247_249.out _).trans (((cell_far (p := ⟨gb249, _, none⟩) NB247_249.out _).trans (hHeld.2.1)))), ((cell_far (p := ⟨gb249, _, none⟩) NB248_249.out _).trans (((cell_far (p := ⟨gb249, _, none⟩) NB248_249.out _).trans (hHeld.2.2.1)))), ((cell_far (p := ⟨gb249, _, none⟩) NB248_249.out _).trans (((cell_far (p := ⟨gb249, _, none⟩) NB248_249.out _).trans (hHeld.2.2.2))))⟩ (fun hHeld => ?_)
  clear hK K
  refine done_ (done_of HT_.out (by kernel_rfl)) ?_
  try go_wp2
  refine bodyPost_ret (results_cell_row rfl _ _ gb249 51 #[.bool t253, .slice Ao19 t254.length co19] (0, 0) _ rfl (by (with_reducible repeat (first | refine blk_drewN ?_ _ | refine blk_drew ?_ | refine blk_alloc ?_ _)); refine blk_put (cs := #[.bool t253, .slice none 0 0]) ?_ 1 _ rfl; (with_reducible repeat (first | refine blk_drewN ?_ _ | refine blk_drew ?_ | refine blk_alloc ?_ _)); refine blk_put (cs := #[.bool false, .slice none 0 0]) ?_ 0 _ rfl; exact blkt BK249) Tryz.underlying51 rfl (by kernel_rfl)) rfl ?_
  exact ⟨_, by first | rfl | (simp [errW_none, errW_some] <;> rfl) | (simp [*, errW_none, errW_some] <;> rfl), by (with_reducible repeat (first | apply Kd.V_alloc | apply Kd.V_drewN | apply Kd.V_drew)); exact Kd.V_mono (Kd.V_far (p := ⟨gb249, 1, none⟩) (Kd.V_far (p := ⟨gb249, 0, none⟩) (Kd.V_mono HO256.out (fun k_ hk => (⟨hk, hk.2.2.2⟩ : _ ∧ k_ ≠ gb249))) (fun _ hk => hk.2) (.bool t253)) (fun _ hk => hk.2) (.slice Ao19 t254.length co19)) (fun _ hk => hk.1.1), belt HB⟩
 rw [if_neg c3] at H
 have c3b0 : (a0_0 == a1_0) = false := by simpa using c3
 (try (have c3b1 : decide (a0_0 = a1_0) = false := by simpa using c3))
 (try (have c3b2 : (a0_0 == a1_0) = false := by simpa using c3))
 (try (have c3b3 : ¬ (a0_0 = a1_0) := by simpa using c3))
 clear c3
 replace H := Option.bind_eq_some_iff.mp H
 obtain ⟨t257, A210, H⟩ := H
 replace H : (if t257 ≥ 0 then ((turnstoneref01_minus.f k a0_0 l0_1 a1_0 l1_1).bind fun t258 => ((turnstoneref01_trim.f k a0_0 t258).bind fun bt261 => (some (bt261.1, bt261.2)))) else ((turnstoneref01_minus.f k a1_0 l1_1 a0_0 l0_1).bind fun t265 => ((turnstoneref01_trim.f k a1_0 t265).bind fun bt268 => (some (bt268.1, bt268.2))))) = some (r1, r2) := H
 have A21 := Aside0.mk A210
 clear A210
 by_cases c22 : t257 ≥ 0
 ·rw [if_pos c22] at H
  have c22b0 : decide (0 ≤ t257) = true := decide_eq_true c22
  clear c22
  replace H := Option.bind_eq_some_iff.mp H
  obtain ⟨t258, A230, H⟩ := H
  replace H : ((turnstoneref01_trim.f k a0_0 t258).bind fun bt261 => (some (bt261.1, bt261.2))) = some (r1, r2) := H
  have A23 := Aside0.mk A230
  clear A230
  replace H := Option.bind_eq_some_iff.mp H
  obtain ⟨⟨t261, t262⟩, A240, H⟩ := H
  replace H : (some (t261, t262)) = some (r1, r2) := H
  have A24 := Aside0.mk A240
  clear A240
  simp only [Option.some.injEq, Prod.mk.injEq] at H
  obtain ⟨rfl, rfl⟩ := H
  go_enter Tryz.func34, Tryz.ntmps34
  try go_wp2_with (first | ((with_reducible refine gate_dst (N := 2) rfl ?_); refine box_event ?hg (N := 2) ?hd (cs := #[.bool a0_0, .slice A0_1 l0_1.length c0_1]) (t := 51) ?hr ?_; (case hd => rfl); (case hg => rfl); (case hr => first | (go_simp; done) | (go_simp; rfl)); intro gb247 hg w25 hbox hb; have BK247 := Aside0.mk (hbox); have GW247 := bels HB hg; have GE247 := bels HB hg; replace HB := belb HB hb; clear hb hbox hg) | ((with_reducible refine gate_dst (N := 3) rfl ?_); refine box_event ?hg (N := 3) ?hd (cs := #[.bool a1_0, .slice A1_1 l1_1.length c1_1]) (t := 51) ?hr ?_; (case hd => rfl); (case hg => rfl); (case hr => first | (go_simp; done) | (go_simp; rfl)); intro gb248 hg w26 hbox hb; have BK248 := Aside0.mk (hbox); have GW248 := bels HB hg; have GE248 := bels HB hg; have NB247_248 := blkl BK247 hg; have NB248_247 := blkg BK247 hg; replace BK247 := blkb BK247 hb; replace HB := belb HB hb; clear hb hbox hg) | ((with_reducible refine gate_dst (N := 4) rfl ?_); refine box_event ?hg (N := 4) ?hd (cs := #[.bool false, .slice none 0 0]) (t := 51) ?hr ?_; (case hd => rfl); (case hg => rfl); (case hr => first | (go_simp; done) | (go_simp; rfl)); intro gb249 hg w27 hbox hb; have BK249 := Aside0.mk (hbox); have GW249 := bels HB hg; have GE249 := bels HB hg; have NB247_249 := blkl BK247 hg; have NB249_247 := blkg BK247 hg; have NB248_249 := blkl BK248 hg; have NB249_248 := blkg BK248 hg; replace BK247 := blkb BK247 hb; replace BK248 := blkb BK248 hb; replace HB := belb HB hb; clear hb hbox hg; have hnb28 := NB247_248.out; have hnc28 := NB248_247.out; have hnb29 := NB247_249.out; have hnc29 := NB249_247.out; have hcz30_0 : w27.cell? ⟨gb247, 0, none⟩ = some (.bool a0_0) := bc BK247 0; have hcz30_1 : w27.cell? ⟨gb247, 1, none⟩ = some (.slice A0_1 l0_1.length c0_1) := bc BK247 1; have hfz30_0 := blk_frozen BK247.out 0; have hfz30_1 := blk_frozen BK247.out 1; have hnb31 := NB248_249.out; have hnc31 := NB249_248.out; have hcz32_0 : w27.cell? ⟨gb248, 0, none⟩ = some (.bool a1_0) := bc BK248 0; have hcz32_1 : w27.cell? ⟨gb248, 1, none⟩ = some (.slice A1_1 l1_1.length c1_1) := bc BK248 1; have hfz32_0 := blk_frozen BK248.out 0; have hfz32_1 := blk_frozen BK248.out 1) | ((with_reducible refine gate_callee (f := 69) rfl ?_); refine goesL_ (some 19) rfl rfl Tryz.func69 (by kernel_rfl) rfl #[.agg #[.bool a0_0, .slice A0_1 l0_1.length c0_1], .agg #[.bool a1_0, .slice A1_1 l1_1.length c1_1]] rfl argt ?_; (with_reducible refine (turnstoneref01_larger.calls k a0_0 _ _ l0_1 a1_0 _ _ l1_1 t257 _ ?side1 ?side2 ?side3 ?side4 A21.out).mono ?_); (case side1 => exact (ct (Kd.C_below HR0_1.out HB.out))); (case side2 => exact HC0_1.out); (case side3 => exact (ct (Kd.C_below HR1_1.out HB.out))); (case side4 => exact HC1_1.out); rintro e w33 ⟨rfl, hb⟩; refine ⟨_, rfl, ?_⟩; replace BK247 := blkb BK247 hb; replace BK248 := blkb BK248 hb; replace BK249 := blkb BK249 hb; replace HB := belb HB hb; (try clear hb); (try clear hb2); (try clear hk); (try clear hi)))
  replace BK247 := Aside0.mk (blk_drew BK247.out)
  replace BK248 := Aside0.mk (blk_drew BK248.out)
  replace BK249 := Aside0.mk (blk_drew BK249.out)
  replace HB := Aside0.mk (below_drew1 HB.out)
  refine start_ (n := 8) (S := fun w' => w'.cell? ⟨gb247, 0, none⟩ = some (.bool a0_0) ∧ w'.cell? ⟨gb247, 1, none⟩ = some (.slice A0_1 l0_1.length c0_1) ∧ w'.cell? ⟨gb248, 0, none⟩ = some (.bool a1_0) ∧ w'.cell? ⟨gb248, 1, none⟩ = some (.slice A1_1 l1_1.length c1_1)) (ds := []) #[false, false, false, false, false, false, false, false] (by kernel_rfl) rfl rfl ⟨bc BK247 0, bc BK247 1, bc BK248 0, bc BK248 1⟩ (fun hHeld => ?_); refine with_tabW turnstoneref01_Add.tab4 turnstoneref01_Add.bits4 (fun HT_ HW_ => ?_)
  generalize w33.drew = w34 at BK247 BK248 BK249 HB hHeld ⊢
  refine pure_ (i := 0) (N := some 21) (v := ?_) (a' := ?_) #[true, false, false, false, false, false, false, false] rfl rfl (any_of HT_.out (by kernel_rfl)) (fun _ _ _ h => h) (Or.inl ⟨by rfl, ?_⟩) ?_ ?_
  rotate_left
  ·intro w'
   go_simp
   with_reducible rfl
  rotate_left
  ·simp only [Act.put, List.setIfInBounds_toArray, List.set_cons_zero, List.set_cons_succ, i64_w, i32_w]
   rfl
  refine take_ (i := 1) (N := some 22) (v := ?_) (a' := ?_) #[true, true, false, false, false, false, false, false] rfl rfl (take_ofW HT_.out HW_.out (by kernel_rfl)) (fun _ _ _ h => h) (Or.inl ⟨by rfl, ?_⟩) hHeld ?_ ?_
  rotate_left
  ·rintro w' ⟨s0, s1, s2, s3⟩
   go_simp
   with_reducible rfl
  rotate_left
  ·simp only [Act.put, List.setIfInBounds_toArray, List.set_cons_zero, List.set_cons_succ, i64_w, i32_w]
   rfl
  refine take_ (i := 2) (N := some 23) (v := ?_) (a' := ?_) #[true, true, true, false, false, false, false, false] rfl rfl (take_ofW HT_.out HW_.out (by kernel_rfl)) (fun _ _ _ h => h) (Or.inl ⟨by rfl, ?_⟩) hHeld ?_ ?_
  rotate_left
  ·rintro w' ⟨s0, s1, s2, s3⟩
   go_simp
   with_reducible rfl
  rotate_left
  ·simp only [Act.put, List.setIfInBounds_toArray, List.set_cons_zero, List.set_cons_succ, i64_w, i32_w]
   rfl
  refine take_ (i := 3) (N := some 24) (v := ?_) (a' := ?_) #[true, true, true, true, false, false, false, false] rfl rfl (take_ofW HT_.out HW_.out (by kernel_rfl)) (fun _ _ _ h => h) (Or.inl ⟨by rfl, ?_⟩) hHeld ?_ ?_
  rotate_left
  ·rintro w' ⟨s0, s1, s2, s3⟩
   go_simp
   with_reducible rfl
  rotate_left
  ·simp only [Act.put, List.setIfInBounds_toArray, List.set_cons_zero, List.set_cons_succ, i64_w, i32_w]
   rfl
  refine one_ (i := 4) (N := some 25) #[true, true, true, true, true, false, false, false] rfl rfl (one_of HT_.out (by kernel_rfl)) (by decide) (fun K hK => ?_)
  refine goes_ Tryz.func70 (by kernel_rfl) rfl #[.agg #[.bool a0_0, .slice A0_1 l0_1.length c0_1], .agg #[.bool a1_0, .slice A1_1 l1_1.length c1_1]] (by rfl) rfl rfl argt ?_
  with_reducible refine (turnstoneref01_minus.calls k a0_0 _ _ l0_1 a1_0 _ _ l1_1 t258 _ ?side1 ?side2 ?side3 ?side4 A23.out).mono ?_
  (case side1 => exact (ct (Kd.C_below HR0_1.out HB.out)))
  (case side2 => exact HC0_1.out)
  (case side3 => exact (ct (Kd.C_below HR1_1.out HB.out)))
  (case side4 => exact HC1_1.out)
  rintro e w35 ⟨v259, rfl, ho0, hb⟩
  refine ⟨_, rfl, ?_⟩
  have HO260 := Aside0.mk (Kd.R_lower (Kd.R_newM (M := fun k_ => (w.heap.size ≤ k_)) ho0 (below_size (belt HB)) (fun k_ h_ => h_)) (below_size (belt HB)))
  replace BK247 := blkb BK247 hb
  replace BK248 := blkb BK248 hb
  replace BK249 := blkb BK249 hb
  replace HB := belb HB hb
  (try clear hb)
  (try clear hb2)
  (try clear hk)
  (try clear hi)
  (try clear ho0)
  obtain ⟨Ao36, co36, eo36⟩ := Kd.R_slice HO260.out
  (first | subst eo36 | (injection eo36 with f1_ f2_ f3_; have f4_ := f1_.symm; have f5_ := f3_.symm; clear f1_ f2_ f3_; subst f4_; subst f5_))
  refine hK.out _ _ ⟨bc BK247 0, bc BK247 1, bc BK248 0, bc BK248 1⟩ (fun hHeld => ?_)
  clear hK K
  refine norm_ (a' := ?_) ?_ ?_
  rotate_left
  ·show Act.put _ (some 25) _ = _
   simp only [Act.put, List.setIfInBounds_toArray, List.set_cons_zero, List.set_cons_succ, i64_w, i32_w]
   rfl
  refine pure_ (i := 5) (N := some 26) (v := ?_) (a' := ?_) #[true, true, true, true, true, true, false, false] rfl rfl (any_of HT_.out (by kernel_rfl)) (fun _ _ _ h => h) (Or.inl ⟨by rfl, ?_⟩) ?_ ?_
  rotate_left
  ·intro w'
   go_simp
   with_reducible rfl
  rotate_left
  ·simp only [Act.put, List.setIfInBounds_toArray, List.set_cons_zero, List.set_cons_succ, i64_w, i32_w]
   rfl
  refine one_ (i := 6) (N := some 27) #[true, true, true, true, true, true, true, false] rfl rfl (one_of HT_.out (by kernel_rfl)) (by decide) (fun K hK => ?_)
  refine goes_ Tryz.func67 (by kernel_rfl) rfl #[.agg #[.bool a0_0, .slice Ao36 t258.length co36]] (by rfl) rfl rfl argt ?_
  with_reducible refine (turnstoneref01_trim.calls k a0_0 (fun k_ => some k_ = (.slice Ao36 t258.length co36 : Value).ownBlock) _ _ t258 t261 t262 _ ?side1 A24.out).mono ?_
  (case side1 => exact Kd.R_V (Kd.R_tight rfl (Kd.R_types (Kd.R_types (Kd.R_types (HO260.out) BK247.out (by decide)) BK248.out (by decide)) BK249.out (by decide))))
  rintro e w37 ⟨v263, rfl, ho0, hb⟩
  refine ⟨_, rfl, ?_⟩
  have HO264 := Aside0.mk (Kd.V_lower (Kd.V_mono (ok' := fun k_ => (w.heap.size ≤ k_) ∧ k_ ≠ gb247 ∧ k_ ≠ gb248 ∧ k_ ≠ gb249) ho0 (fun k_ hk_ => ⟨Or.elim hk_ (fun hs_ => ((Kd.R_types (Kd.R_types (Kd.R_types (HO260.out) BK247.out (by decide)) BK248.out (by decide)) BK249.out (by decide)).1 k_ hs_.symm).1.1.1.1) (fun hn_ => (Nat.le_trans (below_size (belt HB)) hn_)), Or.elim hk_ (fun hs_ => ((Kd.R_types (Kd.R_types (Kd.R_types (HO260.out) BK247.out (by decide)) BK248.out (by decide)) BK249.out (by decide)).1 k_ hs_.symm).1.1.2) (fun hn_ => (Kd.freshB (blkt BK247) k_ hn_)), Or.elim hk_ (fun hs_ => ((Kd.R_types (Kd.R_types (Kd.R_types (HO260.out) BK247.out (by decide)) BK248.out (by decide)) BK249.out (by decide)).1 k_ hs_.symm).1.2) (fun hn_ => (Kd.freshB (blkt BK248) k_ hn_)), Or.elim hk_ (fun hs_ => ((Kd.R_types (Kd.R_types (Kd.R_types (HO260.out) BK247.out (by decide)) BK248.out (by decide)) BK249.out (by decide)).1 k_ hs_.symm).2) (fun hn_ => (Kd.freshB (blkt BK249) k_ hn_))⟩)) (below_size (belt HB)))
  replace HO260 := rb HO260 hb
  replace BK247 := blkb BK247 hb
  replace BK248 := blkb BK248 hb
  replace BK249 := blkb BK249 hb
  replace HB := belb HB hb
  (try clear hb)
  (try clear hb2)
  (try clear hk)
  (try clear hi)
  (try clear ho0)
  obtain ⟨Ao39, co39, eo39⟩ := Kd.V_slice HO264.out
  (first | subst eo39 | (injection eo39 with f1_ f2_ f3_; have f4_ := f1_.symm; have f5_ := f3_.symm; clear f1_ f2_ f3_; subst f4_; subst f5_))
  refine hK.out _ _ ⟨bc BK247 0, bc BK247 1, bc BK248 0, bc BK248 1⟩ (fun hHeld => ?_)
  clear hK K
  refine norm_ (a' := ?_) ?_ ?_
  rotate_left
  ·show Act.put _ (some 27) _ = _
   simp only [Act.put, List.setIfInBounds_toArray, List.set_cons_zero, List.set_cons_succ, i64_w, i32_w]
   rfl
  refine one_ (i := 7) (N := none) #[true, true, true, true, true, true, true, true] rfl rfl (one_of HT_.out (by kernel_rfl)) (by decide) (fun K hK => ?_)
  have hs38 : w37.cell? ⟨gb249, 0, none⟩ = some (.bool false) := bc BK249 0
  have hfs38 := blk_frozen BK249.out 0
  have hns38_0 := NB247_249.out
  have hns38_1 := NB248_249.out
  have hms38_0 := NB249_247.out
  have hms38_1 := NB249_248.out
  have hs40 : w37.cell? ⟨gb249, 1, none⟩ = some (.slice none 0 0) := bc BK249 1
  have hfs40 := blk_frozen BK249.out 1
  have hns40_0 := NB247_249.out
  have hns40_1 := NB248_249.out
  have hms40_0 := NB249_247.out
  have hms40_1 := NB249_248.out
  refine skip_ (w1 := ?_) (by rfl) rfl ?_ ?_
  rotate_left
  ·go_simp
   rfl
  refine hK.out _ _ ⟨((cell_far (p := ⟨gb249, _, none⟩) NB247_249.out _).trans (((cell_far (p := ⟨gb249, _, none⟩) NB247_249.out _).trans (hHeld.1)))), ((cell_far (p := ⟨gb249, _, none⟩) NB247_249.out _).trans (((cell_far (p := ⟨gb249, _, none⟩) NB247_249.out _).trans (hHeld.2.1)))), ((cell_far (p := ⟨gb249, _, none⟩) NB248_249.out _).trans (((cell_far (p := ⟨gb249, _, none⟩) NB248_249.out _).trans (hHeld.2.2.1)))), ((cell_far (p := ⟨gb249, _, none⟩) NB248_249.out _).trans (((cell_far (p := ⟨gb249, _, none⟩) NB248_249.out _).trans (hHeld.2.2.2))))⟩ (fun hHeld => ?_)
  clear hK K
  refine done_ (done_of HT_.out (by kernel_rfl)) ?_
  try go_wp2
  refine bodyPost_ret (results_cell_row rfl _ _ gb249 51 #[.bool t261, .slice Ao39 t262.length co39] (0, 0) _ rfl (by (with_reducible repeat (first | refine blk_drewN ?_ _ | refine blk_drew ?_ | refine blk_alloc ?_ _)); refine blk_put (cs := #[.bool t261, .slice none 0 0]) ?_ 1 _ rfl; (with_reducible repeat (first | refine blk_drewN ?_ _ | refine blk_drew ?_ | refine blk_alloc ?_ _)); refine blk_put (cs := #[.bool false, .slice none 0 0]) ?_ 0 _ rfl; exact blkt BK249) Tryz.underlying51 rfl (by kernel_rfl)) rfl ?_
  exact ⟨_, by first | rfl | (simp [errW_none, errW_some] <;> rfl) | (simp [*, errW_none, errW_some] <;> rfl), by (with_reducible repeat (first | apply Kd.V_alloc | apply Kd.V_drewN | apply Kd.V_drew)); exact Kd.V_mono (Kd.V_far (p := ⟨gb249, 1, none⟩) (Kd.V_far (p := ⟨gb249, 0, none⟩) (Kd.V_mono HO264.out (fun k_ hk => (⟨hk, hk.2.2.2⟩ : _ ∧ k_ ≠ gb249))) (fun _ hk => hk.2) (.bool t261)) (fun _ hk => hk.2) (.slice Ao39 t262.length co39)) (fun _ hk => hk.1.1), belt HB⟩
 rw [if_neg c22] at H
 have c22b0 : decide (0 ≤ t257) = false := decide_eq_false c22
 clear c22
 replace H := Option.bind_eq_some_iff.mp H
 obtain ⟨t265, A410, H⟩ := H
 replace H : ((turnstoneref01_trim.f k a1_0 t265).bind fun bt268 => (some (bt268.1, bt268.2))) = some (r1, r2) := H
 have A41 := Aside0.mk A410
 clear A410
 replace H := Option.bind_eq_some_iff.mp H
 obtain ⟨⟨t268, t269⟩, A420, H⟩ := H
 replace H : (some (t268, t269)) = some (r1, r2) := H
 have A42 := Aside0.mk A420
 clear A420
 simp only [Option.some.injEq, Prod.mk.injEq] at H
 obtain ⟨rfl, rfl⟩ := H
 go_enter Tryz.func34, Tryz.ntmps34
 try go_wp2_with (first | ((with_reducible refine gate_dst (N := 2) rfl ?_); refine box_event ?hg (N := 2) ?hd (cs := #[.bool a0_0, .slice A0_1 l0_1.length c0_1]) (t := 51) ?hr ?_; (case hd => rfl); (case hg => rfl); (case hr => first | (go_simp; done) | (go_simp; rfl)); intro gb247 hg w43 hbox hb; have BK247 := Aside0.mk (hbox); have GW247 := bels HB hg; have GE247 := bels HB hg; replace HB := belb HB hb; clear hb hbox hg) | ((with_reducible refine gate_dst (N := 3) rfl ?_); refine box_event ?hg (N := 3) ?hd (cs := #[.bool a1_0, .slice A1_1 l1_1.length c1_1]) (t := 51) ?hr ?_; (case hd => rfl); (case hg => rfl); (case hr => first | (go_simp; done) | (go_simp; rfl)); intro gb248 hg w44 hbox hb; have BK248 := Aside0.mk (hbox); have GW248 := bels HB hg; have GE248 := bels HB hg; have NB247_248 := blkl BK247 hg; have NB248_247 := blkg BK247 hg; replace BK247 := blkb BK247 hb; replace HB := belb HB hb; clear hb hbox hg) | ((with_reducible refine gate_dst (N := 4) rfl ?_); refine box_event ?hg (N := 4) ?hd (cs := #[.bool false, .slice none 0 0]) (t := 51) ?hr ?_; (case hd => rfl); (case hg => rfl); (case hr => first | (go_simp; done) | (go_simp; rfl)); intro gb249 hg w45 hbox hb; have BK249 := Aside0.mk (hbox); have GW249 := bels HB hg; have GE249 := bels HB hg; have NB247_249 := blkl BK247 hg; have NB249_247 := blkg BK247 hg; have NB248_249 := blkl BK248 hg; have NB249_248 := blkg BK248 hg; replace BK247 := blkb BK247 hb; replace BK248 := blkb BK248 hb; replace HB := belb HB hb; clear hb hbox hg; have hnb46 := NB247_248.out; have hnc46 := NB248_247.out; have hnb47 := NB247_249.out; have hnc47 := NB249_247.out; have hcz48_0 : w45.cell? ⟨gb247, 0, none⟩ = some (.bool a0_0) := bc BK247 0; have hcz48_1 : w45.cell? ⟨gb247, 1, none⟩ = some (.slice A0_1 l0_1.length c0_1) := bc BK247 1; have hfz48_0 := blk_frozen BK247.out 0; have hfz48_1 := blk_frozen BK247.out 1; have hnb49 := NB248_249.out; have hnc49 := NB249_248.out; have hcz50_0 : w45.cell? ⟨gb248, 0, none⟩ = some (.bool a1_0) := bc BK248 0; have hcz50_1 : w45.cell? ⟨gb248, 1, none⟩ = some (.slice A1_1 l1_1.length c1_1) := bc BK248 1; have hfz50_0 := blk_frozen BK248.out 0; have hfz50_1 := blk_frozen BK248.out 1) | ((with_reducible refine gate_callee (f := 69) rfl ?_); refine goesL_ (some 19) rfl rfl Tryz.func69 (by kernel_rfl) rfl #[.agg #[.bool a0_0, .slice A0_1 l0_1.length c0_1], .agg #[.bool a1_0, .slice A1_1 l1_1.length c1_1]] rfl argt ?_; (with_reducible refine (turnstoneref01_larger.calls k a0_0 _ _ l0_1 a1_0 _ _ l1_1 t257 _ ?side1 ?side2 ?side3 ?side4 A21.out).mono ?_); (case side1 => exact (ct (Kd.C_below HR0_1.out HB.out))); (case side2 => exact HC0_1.out); (case side3 => exact (ct (Kd.C_below HR1_1.out HB.out))); (case side4 => exact HC1_1.out); rintro e w51 ⟨rfl, hb⟩; refine ⟨_, rfl, ?_⟩; replace BK247 := blkb BK247 hb; replace BK248 := blkb BK248 hb; replace BK249 := blkb BK249 hb; replace HB := belb HB hb; (try clear hb); (try clear hb2); (try clear hk); (try clear hi)))
 replace BK247 := Aside0.mk (blk_drew BK247.out)
 replace BK248 := Aside0.mk (blk_drew BK248.out)
 replace BK249 := Aside0.mk (blk_drew BK249.out)
 replace HB := Aside0.mk (below_drew1 HB.out)
 refine start_ (n := 8) (S := fun w' => w'.cell? ⟨gb248, 0, none⟩ = some (.bool a1_0) ∧ w'.cell? ⟨gb248, 1, none⟩ = some (.slice A1_1 l1_1.length c1_1) ∧ w'.cell? ⟨gb247, 0, none⟩ = some (.bool a0_0) ∧ w'.cell? ⟨gb247, 1, none⟩ = some (.slice A0_1 l0_1.length c0_1)) (ds := []) #[false, false, false, false, false, false, false, false] (by kernel_rfl) rfl rfl ⟨bc BK248 0, bc BK248 1, bc BK247 0, bc BK247 1⟩ (fun hHeld => ?_); refine with_tabW turnstoneref01_Add.tab5 turnstoneref01_Add.bits5 (fun HT_ HW_ => ?_)
 generalize w51.drew = w52 at BK247 BK248 BK249 HB hHeld ⊢
 refine pure_ (i := 0) (N := some 28) (v := ?_) (a' := ?_) #[true, false, false, false, false, false, false, false] rfl rfl (any_of HT_.out (by kernel_rfl)) (fun _ _ _ h => h) (Or.inl ⟨by rfl, ?_⟩) ?_ ?_
 rotate_left
 ·intro w'
  go_simp
  with_reducible rfl
 rotate_left
 ·simp only [Act.put, List.setIfInBounds_toArray, List.set_cons_zero, List.set_cons_succ, i64_w, i32_w]
  rfl
 refine take_ (i := 1) (N := some 29) (v := ?_) (a' := ?_) #[true, true, false, false, false, false, false, false] rfl rfl (take_ofW HT_.out HW_.out (by kernel_rfl)) (fun _ _ _ h => h) (Or.inl ⟨by rfl, ?_⟩) hHeld ?_ ?_
 rotate_left
 ·rintro w' ⟨s0, s1, s2, s3⟩
  go_simp
  with_reducible rfl
 rotate_left
 ·simp only [Act.put, List.setIfInBounds_toArray, List.set_cons_zero, List.set_cons_succ, i64_w, i32_w]
  rfl
 refine take_ (i := 2) (N := some 30) (v := ?_) (a' := ?_) #[true, true, true, false, false, false, false, false] rfl rfl (take_ofW HT_.out HW_.out (by kernel_rfl)) (fun _ _ _ h => h) (Or.inl ⟨by rfl, ?_⟩) hHeld ?_ ?_
 rotate_left
 ·rintro w' ⟨s0, s1, s2, s3⟩
  go_simp
  with_reducible rfl
 rotate_left
 ·simp only [Act.put, List.setIfInBounds_toArray, List.set_cons_zero, List.set_cons_succ, i64_w, i32_w]
  rfl
 refine take_ (i := 3) (N := some 31) (v := ?_) (a' := ?_) #[true, true, true, true, false, false, false, false] rfl rfl (take_ofW HT_.out HW_.out (by kernel_rfl)) (fun _ _ _ h => h) (Or.inl ⟨by rfl, ?_⟩) hHeld ?_ ?_
 rotate_left
 ·rintro w' ⟨s0, s1, s2, s3⟩
  go_simp
  with_reducible rfl
 rotate_left
 ·simp only [Act.put, List.setIfInBounds_toArray, List.set_cons_zero, List.set_cons_succ, i64_w, i32_w]
  rfl
 refine one_ (i := 4) (N := some 32) #[true, true, true, true, true, false, false, false] rfl rfl (one_of HT_.out (by kernel_rfl)) (by decide) (fun K hK => ?_)
 refine goes_ Tryz.func70 (by kernel_rfl) rfl #[.agg #[.bool a1_0, .slice A1_1 l1_1.length c1_1], .agg #[.bool a0_0, .slice A0_1 l0_1.length c0_1]] (by rfl) rfl rfl argt ?_
 with_reducible refine (turnstoneref01_minus.calls k a1_0 _ _ l1_1 a0_0 _ _ l0_1 t265 _ ?side1 ?side2 ?side3 ?side4 A41.out).mono ?_
 (case side1 => exact (ct (Kd.C_below HR1_1.out HB.out)))
 (case side2 => exact HC1_1.out)
 (case side3 => exact (ct (Kd.C_below HR0_1.out HB.out)))
 (case side4 => exact HC0_1.out)
 rintro e w53 ⟨v266, rfl, ho0, hb⟩
 refine ⟨_, rfl, ?_⟩
 have HO267 := Aside0.mk (Kd.R_lower (Kd.R_newM (M := fun k_ => (w.heap.size ≤ k_)) ho0 (below_size (belt HB)) (fun k_ h_ => h_)) (below_size (belt HB)))
 replace BK247 := blkb BK247 hb
 replace BK248 := blkb BK248 hb
 replace BK249 := blkb BK249 hb
 replace HB := belb HB hb
 (try clear hb)
 (try clear hb2)
 (try clear hk)
 (try clear hi)
 (try clear ho0)
 obtain ⟨Ao54, co54, eo54⟩ := Kd.R_slice HO267.out
 (first | subst eo54 | (injection eo54 with f1_ f2_ f3_; have f4_ := f1_.symm; have f5_ := f3_.symm; clear f1_ f2_ f3_; subst f4_; subst f5_))
 refine hK.out _ _ ⟨bc BK248 0, bc BK248 1, bc BK247 0, bc BK247 1⟩ (fun hHeld => ?_)
 clear hK K
 refine norm_ (a' := ?_) ?_ ?_
 rotate_left
 ·show Act.put _ (some 32) _ = _
  simp only [Act.put, List.setIfInBounds_toArray, List.set_cons_zero, List.set_cons_succ, i64_w, i32_w]
  rfl
 refine pure_ (i := 5) (N := some 33) (v := ?_) (a' := ?_) #[true, true, true, true, true, true, false, false] rfl rfl (any_of HT_.out (by kernel_rfl)) (fun _ _ _ h => h) (Or.inl ⟨by rfl, ?_⟩) ?_ ?_
 rotate_left
 ·intro w'
  go_simp
  with_reducible rfl
 rotate_left
 ·simp only [Act.put, List.setIfInBounds_toArray, List.set_cons_zero, List.set_cons_succ, i64_w, i32_w]
  rfl
 refine one_ (i := 6) (N := some 34) #[true, true, true, true, true, true, true, false] rfl rfl (one_of HT_.out (by kernel_rfl)) (by decide) (fun K hK => ?_)
 refine goes_ Tryz.func67 (by kernel_rfl) rfl #[.agg #[.bool a1_0, .slice Ao54 t265.length co54]] (by rfl) rfl rfl argt ?_
 with_reducible refine (turnstoneref01_trim.calls k a1_0 (fun k_ => some k_ = (.slice Ao54 t265.length co54 : Value).ownBlock) _ _ t265 t268 t269 _ ?side1 A42.out).mono ?_
 (case side1 => exact Kd.R_V (Kd.R_tight rfl (Kd.R_types (Kd.R_types (Kd.R_types (HO267.out) BK247.out (by decide)) BK248.out (by decide)) BK249.out (by decide))))
 rintro e w55 ⟨v270, rfl, ho0, hb⟩
 refine ⟨_, rfl, ?_⟩
 have HO271 := Aside0.mk (Kd.V_lower (Kd.V_mono (ok' := fun k_ => (w.heap.size ≤ k_) ∧ k_ ≠ gb247 ∧ k_ ≠ gb248 ∧ k_ ≠ gb249) ho0 (fun k_ hk_ => ⟨Or.elim hk_ (fun hs_ => ((Kd.R_types (Kd.R_types (Kd.R_types (HO267.out) BK247.out (by decide)) BK248.out (by decide)) BK249.out (by decide)).1 k_ hs_.symm).1.1.1.1) (fun hn_ => (Nat.le_trans (below_size (belt HB)) hn_)), Or.elim hk_ (fun hs_ => ((Kd.R_types (Kd.R_types (Kd.R_types (HO267.out) BK247.out (by decide)) BK248.out (by decide)) BK249.out (by decide)).1 k_ hs_.symm).1.1.2) (fun hn_ => (Kd.freshB (blkt BK247) k_ hn_)), Or.elim hk_ (fun hs_ => ((Kd.R_types (Kd.R_types (Kd.R_types (HO267.out) BK247.out (by decide)) BK248.out (by decide)) BK249.out (by decide)).1 k_ hs_.symm).1.2) (fun hn_ => (Kd.freshB (blkt BK248) k_ hn_)), Or.elim hk_ (fun hs_ => ((Kd.R_types (Kd.R_types (Kd.R_types (HO267.out) BK247.out (by decide)) BK248.out (by decide)) BK249.out (by decide)).1 k_ hs_.symm).2) (fun hn_ => (Kd.freshB (blkt BK249) k_ hn_))⟩)) (below_size (belt HB)))
 replace HO267 := rb HO267 hb
 replace BK247 := blkb BK247 hb
 replace BK248 := blkb BK248 hb
 replace BK249 := blkb BK249 hb
 replace HB := belb HB hb
 (try clear hb)
 (try clear hb2)
 (try clear hk)
 (try clear hi)
 (try clear ho0)
 obtain ⟨Ao57, co57, eo57⟩ := Kd.V_slice HO271.out
 (first | subst eo57 | (injection eo57 with f1_ f2_ f3_; have f4_ := f1_.symm; have f5_ := f3_.symm; clear f1_ f2_ f3_; subst f4_; subst f5_))
 refine hK.out _ _ ⟨bc BK248 0, bc BK248 1, bc BK247 0, bc BK247 1⟩ (fun hHeld => ?_)
 clear hK K
 refine norm_ (a' := ?_) ?_ ?_
 rotate_left
 ·show Act.put _ (some 34) _ = _
  simp only [Act.put, List.setIfInBounds_toArray, List.set_cons_zero, List.set_cons_succ, i64_w, i32_w]
  rfl
 refine one_ (i := 7) (N := none) #[true, true, true, true, true, true, true, true] rfl rfl (one_of HT_.out (by kernel_rfl)) (by decide) (fun K hK => ?_)
 have hs56 : w55.cell? ⟨gb249, 0, none⟩ = some (.bool false) := bc BK249 0
 have hfs56 := blk_frozen BK249.out 0
 have hns56_0 := NB247_249.out
 have hns56_1 := NB248_249.out
 have hms56_0 := NB249_247.out
 have hms56_1 := NB249_248.out
 have hs58 : w55.cell? ⟨gb249, 1, none⟩ = some (.slice none 0 0) := bc BK249 1
 have hfs58 := blk_frozen BK249.out 1
 have hns58_0 := NB247_249.out
 have hns58_1 := NB248_249.out
 have hms58_0 := NB249_247.out
 have hms58_1 := NB249_248.out
 refine skip_ (w1 := ?_) (by rfl) rfl ?_ ?_
 rotate_left
 ·go_simp
  rfl
 refine hK.out _ _ ⟨((cell_far (p := ⟨gb249, _, none⟩) NB248_249.out _).trans (((cell_far (p := ⟨gb249, _, none⟩) NB248_249.out _).trans (hHeld.1)))), ((cell_far (p := ⟨gb249, _, none⟩) NB248_249.out _).trans (((cell_far (p := ⟨gb249, _, none⟩) NB248_249.out _).trans (hHeld.2.1)))), ((cell_far (p := ⟨gb249, _, none⟩) NB247_249.out _).trans (((cell_far (p := ⟨gb249, _, none⟩) NB247_249.out _).trans (hHeld.2.2.1)))), ((cell_far (p := ⟨gb249, _, none⟩) NB247_249.out _).trans (((cell_far (p := ⟨gb249, _, none⟩) NB247_249.out _).trans (hHeld.2.2.2))))⟩ (fun hHeld => ?_)
 clear hK K
 refine done_ (done_of HT_.out (by kernel_rfl)) ?_
 try go_wp2
 refine bodyPost_ret (results_cell_row rfl _ _ gb249 51 #[.bool t268, .slice Ao57 t269.length co57] (0, 0) _ rfl (by (with_reducible repeat (first | refine blk_drewN ?_ _ | refine blk_drew ?_ | refine blk_alloc ?_ _)); refine blk_put (cs := #[.bool t268, .slice none 0 0]) ?_ 1 _ rfl; (with_reducible repeat (first | refine blk_drewN ?_ _ | refine blk_drew ?_ | refine blk_alloc ?_ _)); refine blk_put (cs := #[.bool false, .slice none 0 0]) ?_ 0 _ rfl; exact blkt BK249) Tryz.underlying51 rfl (by kernel_rfl)) rfl ?_
 exact ⟨_, by first | rfl | (simp [errW_none, errW_some] <;> rfl) | (simp [*, errW_none, errW_some] <;> rfl), by (with_reducible repeat (first | apply Kd.V_alloc | apply Kd.V_drewN | apply Kd.V_drew)); exact Kd.V_mono (Kd.V_far (p := ⟨gb249, 1, none⟩) (Kd.V_far (p := ⟨gb249, 0, none⟩) (Kd.V_mono HO271.out (fun k_ hk => (⟨hk, hk.2.2.2⟩ : _ ∧ k_ ≠ gb249))) (fun _ hk => hk.2) (.bool t268)) (fun _ hk => hk.2) (.slice Ao57 t269.length co57)) (fun _ hk => hk.1.1), belt HB⟩


/-! ### turnstoneref01_U: function 62 -/
def turnstoneref01_U.l0 : Nat → Int → Bool → List Int → Option (Bool × List Int)
 | 0, _, _, _ => none
 | k + 1, x0, x274000, x274001 => if x0 > 0 then (if x274001.length < 17592186044416 then (turnstoneref01_U.l0 k (IntKind.u64.wrap (Int.tdiv x0 10000)) x274000 (x274001 ++ [wrap64 (Int.tmod x0 10000)])) else (none)) else (some (x274000, x274001))
def turnstoneref01_U.f (k : Nat) (a0 : Int) : Option (Bool × List Int) := turnstoneref01_U.l0 k a0 false ([] : List Int)
theorem turnstoneref01_U.mono_l : ∀ k, (∀ y0 y1 y2, LeO (turnstoneref01_U.l0 k y0 y1 y2) (turnstoneref01_U.l0 (k + 1) y0 y1 y2))
 | 0 => fun _ _ _ r h => by simp [turnstoneref01_U.l0] at h
 | k + 1 => by
  have ih0 := turnstoneref01_U.mono_l k
  ·intro y0 y1 y2
   unfold turnstoneref01_U.l0
   repeat' first
   | (with_reducible exact ih0 _ _ _)
   | (with_reducible exact LeO.refl _)
   | (with_reducible exact LeO.none _)
   | (with_reducible refine LeO.ite ?_ ?_)
   | (with_reducible refine LeO.bind ?_ (fun _ => ?_))
   | exact ih0 _ _ _
   | exact LeO.none _
   | refine LeO.ite ?_ ?_
   | refine LeO.bind ?_ (fun _ => ?_)
theorem turnstoneref01_U.mono : ∀ a0 k, LeO (turnstoneref01_U.f k a0) (turnstoneref01_U.f (k + 1) a0) := by
 intro a0 k
 have ih0 := turnstoneref01_U.mono_l k
 unfold turnstoneref01_U.f
 repeat' first
   | (with_reducible exact ih0 _ _ _)
   | (with_reducible exact LeO.refl _)
   | (with_reducible exact LeO.none _)
   | (with_reducible refine LeO.ite ?_ ?_)
   | (with_reducible refine LeO.bind ?_ (fun _ => ?_))
   | exact ih0 _ _ _
   | exact LeO.none _
   | refine LeO.ite ?_ ?_
   | refine LeO.bind ?_ (fun _ => ?_)
set_option maxHeartbeats 8000000 in
set_option maxRecDepth 100000 in
theorem turnstoneref01_U.calls (k : Nat) (a0 : Int) (r1 : Bool) (r2 : List Int) (w : World) (h : turnstoneref01_U.f k a0 = some (r1, r2)) :
  Calls Tryz.prog 62 #[.int .u64 a0] w fun e w' => ∃ v1_ : Value, e = .returned (.agg #[.bool r1, v1_]) ∧ Kd.R (Kd.int .i64) 3 w' w.heap.size (fun _ => True) v1_ r2 ∧ Below w.heap.size w w' := by
 have hu51 := Tryz.underlying51
 have HB := Aside0.mk (Below.refl w.heap.size w)
 have H : (turnstoneref01_U.l0 k a0 false ([] : List Int)) = some (r1, r2) := h
 clear h
 have H' := Aside0.mk H
 clear H
 go_enter Tryz.func62, Tryz.ntmps62
 go_wp2_with (first | ((with_reducible refine gate_dst (N := 2) rfl ?_); refine box_event ?hg (N := 2) ?hd (cs := #[.bool false, .slice none 0 0]) (t := 51) ?hr ?_; (case hd => rfl); (case hg => rfl); (case hr => first | (go_simp; done) | (go_simp; rfl)); intro gb272 hg w2 hbox hb; have BK272 := Aside0.mk (hbox); have GW272 := bels HB hg; have GE272 := bels HB hg; replace HB := belb HB hb; clear hb hbox hg) | ((with_reducible refine gate_dst (N := 3) rfl ?_); refine box_event ?hg (N := 3) ?hd (cs := #[.bool false, .slice none 0 0]) (t := 51) ?hr ?_; (case hd => rfl); (case hg => rfl); (case hr => first | (go_simp; done) | (go_simp; rfl)); intro gb273 hg w3 hbox hb; have BK273 := Aside0.mk (hbox); have GW273 := bels HB hg; have GE273 := bels HB hg; have NB272_273 := blkl BK272 hg; have NB273_272 := blkg BK272 hg; replace BK272 := blkb BK272 hb; replace HB := belb HB hb; clear hb hbox hg))
 (try simp only [Act.put, List.setIfInBounds_toArray, List.set_cons_zero, List.set_cons_succ])
 go_loopg [0] k (fun kq v0 w' => ∃ (x0_1 : Int) (x274001_1 : List Int) (u274001 : Value), v0 = .int .u64 x0_1 ∧ Aside0 (turnstoneref01_U.l0 kq x0_1 false x274001_1 = some (r1, r2)) ∧ Aside0 (kq ≤ k) ∧ Aside0 (Kd.R (Kd.int .i64) 3 w' w.heap.size (fun _ => True) u274001 x274001_1) ∧ Aside0 (w'.heap[gb272]? = some (.cells #[.bool false, (.slice none 0 0)] 51 (0, 0))) ∧ Aside0 (w'.heap[gb273]? = some (.cells #[.bool false, u274001] 51 (0, 0))) ∧ Aside0 (Below w.heap.size w w'))
 case atStart => exact ⟨(a0), (([] : List Int)), (.slice none 0 0), (by first | rfl | (simp; done) | (simp [*]; done)), H', ⟨Nat.le_refl _⟩, ⟨by first | exact Kd.R_nil _ _ _ _ _ | exact Kd.N_nil _ _ _ _ _ | exact Kd.V_nil _ _ _ _ _ | exact Kd.Q_nil _ _ _ _ _ | exact Kd.S_nil _ _ _ _ _⟩, ⟨blkt BK272⟩, ⟨blkt BK273⟩, ⟨belt HB⟩⟩
 case round =>
  clear H'
  try clear p2
  obtain ⟨x0_1, x274001_1, u274001, rfl, HA, HK1, HO_274001, BK272, BK273, HB⟩ := hrel
  cases gk with
  | zero => exact absurd HA.out (by simp [turnstoneref01_U.l0])
  | succ k1 =>
   have H := HA.out
   clear HA
   simp only [turnstoneref01_U.l0] at H
   by_cases c4 : x0_1 > 0
   ·rw [if_pos c4] at H
    have c4b0 : decide (0 < x0_1) = true := decide_eq_true c4
    clear c4
    by_cases c5 : x274001_1.length < 17592186044416
    ·rw [if_pos c5] at H
     have LMc5 := Aside0.mk c5
     clear c5
     obtain ⟨y274, hy274⟩ : ∃ y_ : List Int, y_ = (x274001_1 ++ [wrap64 (Int.tmod x0_1 10000)]) := ⟨_, rfl⟩
     replace H : (turnstoneref01_U.l0 k1 (IntKind.u64.wrap (Int.tdiv x0_1 10000)) false y274) = some (r1, r2) := by first | (rw [hy274]; with_reducible exact H) | (have H2_ := (Option.bind_some _ _).symm.trans H; rw [hy274]; with_reducible exact H2_) | (have H2_ := (Option.bind_some _ _).symm.trans H; with_reducible exact H2_) | with_reducible exact H | (rw [hy274]; exact H) | exact H
     have Ny274 := Aside0.mk hy274
     clear hy274
     have H' := Aside0.mk H
     clear H
     have hnb6 := NB273_272.out
     have hnc6 := NB272_273.out
     have hcz7_0 : wr.cell? ⟨gb273, 0, none⟩ = some (.bool false) := bc BK273 0
     have hcz7_1 : wr.cell? ⟨gb273, 1, none⟩ = some (u274001) := bc BK273 1
     have hfz7_0 := blk_frozen BK273.out 0
     have hfz7_1 := blk_frozen BK273.out 1
     go_wp2_with (first | ((with_reducible refine gate_builtin (b := .append) (xs := #[.tmp 7, .tmp 11]) rfl ?_); at_builtin; refine Kd.R_append (Kd.int .i64) (w0 := w) w.heap.size rfl (.tmp 7) (.tmp 11) 49 3 (.int .i64 0) 8 rfl Tryz.underlying49 info3 rfl (by decide) (by omega) u274001 x274001_1 (wrap64 (Int.tmod x0_1 10000)) [.int .i64 (wrap64 (Int.tmod x0_1 10000))] (fun _ => True) (fun _ => False) rfl rfl ?aP (fun _ hk => hk.elim) ?aF ?aO ?aB ?aS ?aL ?_; (case aP => exact rfl); (case aB => exact (belt HB)); (case aF => exact (fun _ _ => trivial)); (case aO => exact (rt HO_274001)); (case aS => exact (below_size (belt HB))); (case aL => have := LMc5.out; omega); intro v275 w8 ho hb hg hat; rw [← Ny274.out] at ho; replace BK272 := Aside0.mk (blk_grown (blkt BK272) hg (Kd.R_ne HO_274001.out BK272.out (by decide))); replace BK273 := Aside0.mk (blk_grown (blkt BK273) hg (Kd.R_ne HO_274001.out BK273.out (by decide))); replace HB := Aside0.mk (hb); have HO276 := Aside0.mk (ho); clear HO_274001; clear ho hb hg hat; obtain ⟨Ao9, co9, eo9⟩ := Kd.R_slice HO276.out; subst eo9; have hcz10_0 : w8.cell? ⟨gb273, 0, none⟩ = some (.bool false) := bc BK273 0; have hcz10_1 : w8.cell? ⟨gb273, 1, none⟩ = some (u274001) := bc BK273 1; have hfz10_0 := blk_frozen BK273.out 0; have hfz10_1 := blk_frozen BK273.out 1))
     go_roundg k1
     case measure => have := HK1.out; omega
     case rel => exact ⟨(IntKind.u64.wrap (Int.tdiv x0_1 10000)), (y274), (.slice Ao9 y274.length co9), (by first | rfl | (simp; done) | (simp [*]; done)), H', ⟨by have := HK1.out; omega⟩, ⟨by (with_reducible repeat (first | apply Kd.R_alloc | apply Kd.R_drewN | apply Kd.R_drew)); exact Kd.R_mono (Kd.R_far (p := ⟨gb273, 1, none⟩) (Kd.R_types HO276.out BK273.out (by decide)) (fun _ hk => hk.2) (.slice Ao9 y274.length co9)) (fun _ hk => trivial)⟩, ⟨by (with_reducible repeat (first | refine blk_drewN ?_ _ | refine blk_drew ?_ | refine blk_alloc ?_ _)); refine blk_far ?_ NB272_273.out _; exact blkt BK272⟩, ⟨by (with_reducible repeat (first | refine blk_drewN ?_ _ | refine blk_drew ?_ | refine blk_alloc ?_ _)); refine blk_put (cs := #[.bool false, u274001]) ?_ 1 _ rfl; exact blkt BK273⟩, ⟨belt HB⟩⟩
    rw [if_neg c5] at H
    exact absurd H (by simp)
   rw [if_neg c4] at H
   have c4b0 : decide (0 < x0_1) = false := decide_eq_false c4
   clear c4
   simp only [Option.some.injEq, Prod.mk.injEq] at H
   obtain ⟨rfl, rfl⟩ := H
   have hnb11 := NB273_272.out
   have hnc11 := NB272_273.out
   have hcz12_0 : wr.cell? ⟨gb273, 0, none⟩ = some (.bool false) := bc BK273 0
   have hcz12_1 : wr.cell? ⟨gb273, 1, none⟩ = some (u274001) := bc BK273 1
   have hfz12_0 := blk_frozen BK273.out 0
   have hfz12_1 := blk_frozen BK273.out 1
   have hcz13_0 : wr.cell? ⟨gb272, 0, none⟩ = some (.bool false) := bc BK272 0
   have hcz13_1 : wr.cell? ⟨gb272, 1, none⟩ = some (.slice none 0 0) := bc BK272 1
   have hfz13_0 := blk_frozen BK272.out 0
   have hfz13_1 := blk_frozen BK272.out 1
   obtain ⟨Ao14, co14, eo14⟩ := Kd.R_slice HO_274001.out
   subst eo14
   go_wp2
   refine bodyPost_ret (results_cell_row rfl _ _ gb272 51 #[.bool false, .slice Ao14 x274001_1.length co14] (0, 0) _ rfl (by (with_reducible repeat (first | refine blk_drewN ?_ _ | refine blk_drew ?_ | refine blk_alloc ?_ _)); refine blk_put (cs := #[.bool false, .slice none 0 0]) ?_ 1 _ rfl; (with_reducible repeat (first | refine blk_drewN ?_ _ | refine blk_drew ?_ | refine blk_alloc ?_ _)); refine blk_put (cs := #[.bool false, .slice none 0 0]) ?_ 0 _ rfl; exact blkt BK272) Tryz.underlying51 rfl (by kernel_rfl)) rfl ?_
   exact ⟨_, by first | rfl | (simp [errW_none, errW_some] <;> rfl) | (simp [*, errW_none, errW_some] <;> rfl), by (with_reducible repeat (first | apply Kd.R_alloc | apply Kd.R_drewN | apply Kd.R_drew)); exact Kd.R_mono (Kd.R_far (p := ⟨gb272, 1, none⟩) (Kd.R_far (p := ⟨gb272, 0, none⟩) (Kd.R_types HO_274001.out BK272.out (by decide)) (fun _ hk => hk.2) (.bool false)) (fun _ hk => hk.2) (.slice Ao14 x274001_1.length co14)) (fun _ hk => trivial), belt HB⟩


/-! ### turnstoneref01_N: function 37 -/
def turnstoneref01_N.f (k : Nat) (a0 : Int) : Option (Bool × List Int) := if a0 ≥ 0 then ((turnstoneref01_U.f k (IntKind.u64.wrap (a0))).bind fun bt278 => (some (bt278.1, bt278.2))) else ((turnstoneref01_U.f k (IntKind.u64.wrap ((IntKind.u64.wrap (wrap64 (-(wrap64 (a0 + 1))))) + 1))).bind fun bt282 => (some (true, bt282.2)))
theorem turnstoneref01_N.mono : ∀ a0 k, LeO (turnstoneref01_N.f k a0) (turnstoneref01_N.f (k + 1) a0) := by
 intro a0 k
 unfold turnstoneref01_N.f
 repeat' first
   | (with_reducible exact turnstoneref01_U.mono _ _)
   | (with_reducible exact LeO.refl _)
   | (with_reducible exact LeO.none _)
   | (with_reducible refine LeO.ite ?_ ?_)
   | (with_reducible refine LeO.bind ?_ (fun _ => ?_))
   | exact turnstoneref01_U.mono _ _
   | exact LeO.none _
   | refine LeO.ite ?_ ?_
   | refine LeO.bind ?_ (fun _ => ?_)
set_option maxHeartbeats 8000000 in
set_option maxRecDepth 100000 in
theorem turnstoneref01_N.calls (k : Nat) (a0 : Int) (r1 : Bool) (r2 : List Int) (w : World) (h : turnstoneref01_N.f k a0 = some (r1, r2)) :
  Calls Tryz.prog 37 #[.int .i64 a0] w fun e w' => ∃ v1_ : Value, e = .returned (.agg #[.bool r1, v1_]) ∧ Kd.R (Kd.int .i64) 3 w' w.heap.size (fun _ => True) v1_ r2 ∧ Below w.heap.size w w' := by
 have hu51 := Tryz.underlying51
 have HB := Aside0.mk (Below.refl w.heap.size w)
 have H : (if a0 ≥ 0 then ((turnstoneref01_U.f k (IntKind.u64.wrap (a0))).bind fun bt278 => (some (bt278.1, bt278.2))) else ((turnstoneref01_U.f k (IntKind.u64.wrap ((IntKind.u64.wrap (wrap64 (-(wrap64 (a0 + 1))))) + 1))).bind fun bt282 => (some (true, bt282.2)))) = some (r1, r2) := h
 clear h
 by_cases c2 : a0 ≥ 0
 ·rw [if_pos c2] at H
  have c2b0 : decide (0 ≤ a0) = true := decide_eq_true c2
  clear c2
  replace H := Option.bind_eq_some_iff.mp H
  obtain ⟨⟨t278, t279⟩, A30, H⟩ := H
  replace H : (some (t278, t279)) = some (r1, r2) := H
  have A3 := Aside0.mk A30
  clear A30
  simp only [Option.some.injEq, Prod.mk.injEq] at H
  obtain ⟨rfl, rfl⟩ := H
  go_enter Tryz.func37, Tryz.ntmps37
  go_wp2_with (first | ((with_reducible refine gate_dst (N := 2) rfl ?_); refine box_event ?hg (N := 2) ?hd (cs := #[.bool false, .slice none 0 0]) (t := 51) ?hr ?_; (case hd => rfl); (case hg => rfl); (case hr => first | (go_simp; done) | (go_simp; rfl)); intro gb277 hg w4 hbox hb; have BK277 := Aside0.mk (hbox); have GW277 := bels HB hg; have GE277 := bels HB hg; replace HB := belb HB hb; clear hb hbox hg) | ((with_reducible refine gate_callee (f := 62) rfl ?_); refine goesL_ (some 8) rfl rfl Tryz.func62 (by kernel_rfl) rfl #[.int .u64 (IntKind.u64.wrap (a0))] rfl argt ?_; (with_reducible refine (turnstoneref01_U.calls k (IntKind.u64.wrap (a0)) t278 t279 _ A3.out).mono ?_); rintro e w5 ⟨v280, rfl, ho0, hb⟩; refine ⟨_, rfl, ?_⟩; have HO281 := Aside0.mk (Kd.R_lower ho0 (below_size (belt HB))); replace BK277 := blkb BK277 hb; replace HB := belb HB hb; (try clear hb); (try clear hb2); (try clear hk); (try clear hi); (try clear ho0); have hcz6_0 : w5.cell? ⟨gb277, 0, none⟩ = some (.bool false) := bc BK277 0; have hcz6_1 : w5.cell? ⟨gb277, 1, none⟩ = some (.slice none 0 0) := bc BK277 1; have hfz6_0 := blk_frozen BK277.out 0; have hfz6_1 := blk_frozen BK277.out 1; obtain ⟨Ao7, co7, eo7⟩ := Kd.R_slice HO281.out; subst eo7))
  refine bodyPost_ret (results_cell_row rfl _ _ gb277 51 #[.bool t278, .slice Ao7 t279.length co7] (0, 0) _ rfl (by (with_reducible repeat (first | refine blk_drewN ?_ _ | refine blk_drew ?_ | refine blk_alloc ?_ _)); refine blk_put (cs := #[.bool t278, .slice none 0 0]) ?_ 1 _ rfl; (with_reducible repeat (first | refine blk_drewN ?_ _ | refine blk_drew ?_ | refine blk_alloc ?_ _)); refine blk_put (cs := #[.bool false, .slice none 0 0]) ?_ 0 _ rfl; exact blkt BK277) Tryz.underlying51 rfl (by kernel_rfl)) rfl ?_
  exact ⟨_, by first | rfl | (simp [errW_none, errW_some] <;> rfl) | (simp [*, errW_none, errW_some] <;> rfl), by (with_reducible repeat (first | apply Kd.R_alloc | apply Kd.R_drewN | apply Kd.R_drew)); exact Kd.R_mono (Kd.R_far (p := ⟨gb277, 1, none⟩) (Kd.R_far (p := ⟨gb277, 0, none⟩) (Kd.R_types HO281.out BK277.out (by decide)) (fun _ hk => hk.2) (.bool t278)) (fun _ hk => hk.2) (.slice Ao7 t279.length co7)) (fun _ hk => trivial), belt HB⟩
 rw [if_neg c2] at H
 have c2b0 : decide (0 ≤ a0) = false := decide_eq_false c2
 clear c2
 replace H := Option.bind_eq_some_iff.mp H
 obtain ⟨⟨t282, t283⟩, A80, H⟩ := H
 replace H : (some (true, t283)) = some (r1, r2) := H
 have A8 := Aside0.mk A80
 clear A80
 simp only [Option.some.injEq, Prod.mk.injEq] at H
 obtain ⟨rfl, rfl⟩ := H
 go_enter Tryz.func37, Tryz.ntmps37
 go_wp2_with (first | ((with_reducible refine gate_dst (N := 2) rfl ?_); refine box_event ?hg (N := 2) ?hd (cs := #[.bool false, .slice none 0 0]) (t := 51) ?hr ?_; (case hd => rfl); (case hg => rfl); (case hr => first | (go_simp; done) | (go_simp; rfl)); intro gb277 hg w9 hbox hb; have BK277 := Aside0.mk (hbox); have GW277 := bels HB hg; have GE277 := bels HB hg; replace HB := belb HB hb; clear hb hbox hg) | ((with_reducible refine gate_callee (f := 62) rfl ?_); refine goesL_ (some 14) rfl rfl Tryz.func62 (by kernel_rfl) rfl #[.int .u64 (IntKind.u64.wrap ((IntKind.u64.wrap (wrap64 (-(wrap64 (a0 + 1))))) + 1))] rfl argt ?_; (with_reducible refine (turnstoneref01_U.calls k (IntKind.u64.wrap ((IntKind.u64.wrap (wrap64 (-(wrap64 (a0 + 1))))) + 1)) t282 t283 _ A8.out).mono ?_); rintro e w10 ⟨v284, rfl, ho0, hb⟩; refine ⟨_, rfl, ?_⟩; have HO285 := Aside0.mk (Kd.R_lower ho0 (below_size (belt HB))); replace BK277 := blkb BK277 hb; replace HB := belb HB hb; (try clear hb); (try clear hb2); (try clear hk); (try clear hi); (try clear ho0)) | ((with_reducible refine gate_dst (N := 3) rfl ?_); refine box_event ?hg (N := 3) ?hd (cs := #[.bool false, .slice none 0 0]) (t := 51) ?hr ?_; (case hd => rfl); (case hg => rfl); (case hr => first | (go_simp; done) | (go_simp; rfl)); intro gb286 hg w11 hbox hb; replace HO285 := rb HO285 hb; have BK286 := Aside0.mk (hbox); have GW286 := bels HB hg; have GE286 := bels HB hg; have NB277_286 := blkl BK277 hg; have NB286_277 := blkg BK277 hg; replace BK277 := blkb BK277 hb; replace HB := belb HB hb; clear hb hbox hg; have hnb12 := NB286_277.out; have hnc12 := NB277_286.out; have hcz13_0 : w11.cell? ⟨gb286, 0, none⟩ = some (.bool false) := bc BK286 0; have hcz13_1 : w11.cell? ⟨gb286, 1, none⟩ = some (.slice none 0 0) := bc BK286 1; have hfz13_0 := blk_frozen BK286.out 0; have hfz13_1 := blk_frozen BK286.out 1; obtain ⟨Ao14, co14, eo14⟩ := Kd.R_slice HO285.out; subst eo14; have hcz15_0 : w11.cell? ⟨gb277, 0, none⟩ = some (.bool false) := bc BK277 0; have hcz15_1 : w11.cell? ⟨gb277, 1, none⟩ = some (.slice none 0 0) := bc BK277 1; have hfz15_0 := blk_frozen BK277.out 0; have hfz15_1 := blk_frozen BK277.out 1))
 refine bodyPost_ret (results_cell_row rfl _ _ gb277 51 #[.bool true, .slice Ao14 t283.length co14] (0, 0) _ rfl (by (with_reducible repeat (first | refine blk_drewN ?_ _ | refine blk_drew ?_ | refine blk_alloc ?_ _)); refine blk_put (cs := #[.bool true, .slice none 0 0]) ?_ 1 _ rfl; (with_reducible repeat (first | refine blk_drewN ?_ _ | refine blk_drew ?_ | refine blk_alloc ?_ _)); refine blk_put (cs := #[.bool false, .slice none 0 0]) ?_ 0 _ rfl; (with_reducible repeat (first | refine blk_drewN ?_ _ | refine blk_drew ?_ | refine blk_alloc ?_ _)); refine blk_far ?_ NB277_286.out _; (with_reducible repeat (first | refine blk_drewN ?_ _ | refine blk_drew ?_ | refine blk_alloc ?_ _)); refine blk_far ?_ NB277_286.out _; (with_reducible repeat (first | refine blk_drewN ?_ _ | refine blk_drew ?_ | refine blk_alloc ?_ _)); refine blk_far ?_ NB277_286.out _; exact blkt BK277) Tryz.underlying51 rfl (by kernel_rfl)) rfl ?_
 exact ⟨_, by first | rfl | (simp [errW_none, errW_some] <;> rfl) | (simp [*, errW_none, errW_some] <;> rfl), by (with_reducible repeat (first | apply Kd.R_alloc | apply Kd.R_drewN | apply Kd.R_drew)); exact Kd.R_mono (Kd.R_far (p := ⟨gb277, 1, none⟩) (Kd.R_far (p := ⟨gb277, 0, none⟩) (Kd.R_far (p := ⟨gb286, 0, none⟩) (Kd.R_far (p := ⟨gb286, 1, none⟩) (Kd.R_far (p := ⟨gb286, 0, none⟩) (Kd.R_types (Kd.R_types HO285.out BK286.out (by decide)) BK277.out (by decide)) (fun _ hk => hk.1.2) (.bool t282)) (fun _ hk => hk.1.2) (.slice Ao14 t283.length co14)) (fun _ hk => hk.1.2) (.bool true)) (fun _ hk => hk.2) (.bool true)) (fun _ hk => hk.2) (.slice Ao14 t283.length co14)) (fun _ hk => trivial), belt HB⟩


/-! ### turnstoneref01_Mul: function 61 -/
mutual
def turnstoneref01_Mul.l0 : Nat → List Int → List Int → Int → Int → Bool → List Int → Bool → List Int → Option (Bool × List Int)
 | 0, _, _, _, _, _, _, _, _ => none
 | k + 1, x5, x21, x22, x23, x288000, x288001, x289000, x289001 => if x23 < x22 then (if 0 ≤ x23 then (if x23 < (x21.length : Int) then (turnstoneref01_Mul.l1 k x5 x23 (rd x21 x23) 0 0 x21 x22 x23 x288000 x288001 x289000 x289001) else (none)) else (none)) else ((turnstoneref01_trim.f k (x288000 != x289000) x5).bind fun bt293 => (some (bt293.1, bt293.2)))
def turnstoneref01_Mul.l1 : Nat → List Int → Int → Int → Int → Int → List Int → Int → Int → Bool → List Int → Bool → List Int → Option (Bool × List Int)
 | 0, _, _, _, _, _, _, _, _, _, _, _, _ => none
 | k + 1, x5, x6, x7, x8, x9, x21, x22, x23, x288000, x288001, x289000, x289001 => if x9 < (x289001.length : Int) then (if 0 ≤ (wrap64 (x6 + x9)) then (if (wrap64 (x6 + x9)) < (x5.length : Int) then ((turnstoneref01_digit.f x289000 x289001 x9).bind fun t299 => (turnstoneref01_Mul.l1 k (x5.set ((wrap64 (x6 + x9)) : Int).toNat (Int.tmod (wrap64 ((wrap64 ((rd x5 (wrap64 (x6 + x9))) + (wrap64 (x7 * t299)))) + x8)) 10000)) x6 x7 (wrap64 (Int.tdiv (wrap64 ((wrap64 ((rd x5 (wrap64 (x6 + x9))) + (wrap64 (x7 * t299)))) + x8)) 10000)) (wrap64 (x9 + 1)) x21 x22 x23 x288000 x288001 x289000 x289001)) else (none)) else (none)) else (if x8 > 0 then (if 0 ≤ (wrap64 (x6 + x9)) then (if (wrap64 (x6 + x9)) < (x5.length : Int) then ((turnstoneref01_digit.f x289000 x289001 x9).bind fun t302 => (turnstoneref01_Mul.l1 k (x5.set ((wrap64 (x6 + x9)) : Int).toNat (Int.tmod (wrap64 ((wrap64 ((rd x5 (wrap64 (x6 + x9))) + (wrap64 (x7 * t302)))) + x8)) 10000)) x6 x7 (wrap64 (Int.tdiv (wrap64 ((wrap64 ((rd x5 (wrap64 (x6 + x9))) + (wrap64 (x7 * t302)))) + x8)) 10000)) (wrap64 (x9 + 1)) x21 x22 x23 x288000 x288001 x289000 x289001)) else (none)) else (none)) else (turnstoneref01_Mul.l0 k x5 x21 x22 (wrap64 (x23 + 1)) x288000 x288001 x289000 x289001))
end
def turnstoneref01_Mul.f (k : Nat) (a0_0 : Bool) (l0_1 : List Int) (a1_0 : Bool) (l1_1 : List Int) : Option (Bool × List Int) := if 0 ≤ (wrap64 ((wrap64 ((l0_1.length : Int) + (l1_1.length : Int))) + 1)) then (if (wrap64 ((wrap64 ((l0_1.length : Int) + (l1_1.length : Int))) + 1) : Int).toNat ≤ 35184372088832 then (turnstoneref01_Mul.l0 k (List.replicate (wrap64 ((wrap64 ((l0_1.length : Int) + (l1_1.length : Int))) + 1) : Int).toNat 0) l0_1 (l0_1.length : Int) 0 a0_0 l0_1 a1_0 l1_1) else (none)) else (none)
theorem turnstoneref01_Mul.mono_l : ∀ k, (∀ y0 y1 y2 y3 y4 y5 y6 y7, LeO (turnstoneref01_Mul.l0 k y0 y1 y2 y3 y4 y5 y6 y7) (turnstoneref01_Mul.l0 (k + 1) y0 y1 y2 y3 y4 y5 y6 y7)) ∧ (∀ y0 y1 y2 y3 y4 y5 y6 y7 y8 y9 y10 y11, LeO (turnstoneref01_Mul.l1 k y0 y1 y2 y3 y4 y5 y6 y7 y8 y9 y10 y11) (turnstoneref01_Mul.l1 (k + 1) y0 y1 y2 y3 y4 y5 y6 y7 y8 y9 y10 y11))
 | 0 => ⟨fun _ _ _ _ _ _ _ _ r h => by simp [turnstoneref01_Mul.l0] at h, fun _ _ _ _ _ _ _ _ _ _ _ _ r h => by simp [turnstoneref01_Mul.l1] at h⟩
 | k + 1 => by
  obtain ⟨ih0, ih1⟩ := turnstoneref01_Mul.mono_l k
  refine ⟨?_, ?_⟩
  ·intro y0 y1 y2 y3 y4 y5 y6 y7
   unfold turnstoneref01_Mul.l0
   repeat' first
   | (with_reducible exact ih0 _ _ _ _ _ _ _ _)
   | (with_reducible exact ih1 _ _ _ _ _ _ _ _ _ _ _ _)
   | (with_reducible exact turnstoneref01_trim.mono _ _ _)
   | (with_reducible exact LeO.refl _)
   | (with_reducible exact LeO.none _)
   | (with_reducible refine LeO.ite ?_ ?_)
   | (with_reducible refine LeO.bind ?_ (fun _ => ?_))
   | exact ih0 _ _ _ _ _ _ _ _
   | exact ih1 _ _ _ _ _ _ _ _ _ _ _ _
   | exact turnstoneref01_trim.mono _ _ _
   | exact LeO.none _
   | refine LeO.ite ?_ ?_
   | refine LeO.bind ?_ (fun _ => ?_)
  intro y0 y1 y2 y3 y4 y5 y6 y7 y8 y9 y10 y11
  unfold turnstoneref01_Mul.l1
  repeat' first
  | (with_reducible exact ih0 _ _ _ _ _ _ _ _)
  | (with_reducible exact ih1 _ _ _ _ _ _ _ _ _ _ _ _)
  | (with_reducible exact turnstoneref01_trim.mono _ _ _)
  | (with_reducible exact LeO.refl _)
  | (with_reducible exact LeO.none _)
  | (with_reducible refine LeO.ite ?_ ?_)
  | (with_reducible refine LeO.bind ?_ (fun _ => ?_))
  | exact ih0 _ _ _ _ _ _ _ _
  | exact ih1 _ _ _ _ _ _ _ _ _ _ _ _
  | exact turnstoneref01_trim.mono _ _ _
  | exact LeO.none _
  | refine LeO.ite ?_ ?_
  | refine LeO.bind ?_ (fun _ => ?_)
theorem turnstoneref01_Mul.mono : ∀ a0 a1 a2 a3 k, LeO (turnstoneref01_Mul.f k a0 a1 a2 a3) (turnstoneref01_Mul.f (k + 1) a0 a1 a2 a3) := by
 intro a0 a1 a2 a3 k
 obtain ⟨ih0, ih1⟩ := turnstoneref01_Mul.mono_l k
 unfold turnstoneref01_Mul.f
 repeat' first
   | (with_reducible exact ih0 _ _ _ _ _ _ _ _)
   | (with_reducible exact ih1 _ _ _ _ _ _ _ _ _ _ _ _)
   | (with_reducible exact turnstoneref01_trim.mono _ _ _)
   | (with_reducible exact LeO.refl _)
   | (with_reducible exact LeO.none _)
   | (with_reducible refine LeO.ite ?_ ?_)
   | (with_reducible refine LeO.bind ?_ (fun _ => ?_))
   | exact ih0 _ _ _ _ _ _ _ _
   | exact ih1 _ _ _ _ _ _ _ _ _ _ _ _
   | exact turnstoneref01_trim.mono _ _ _
   | exact LeO.none _
   | refine LeO.ite ?_ ?_
   | refine LeO.bind ?_ (fun _ => ?_)
def turnstoneref01_Mul.T9 : Bool × List (List Nat × List Nat) := (true, [([], []), ([], []), ([], []), ([1, 2], [1, 2]), ([0, 3], [0, 3]), ([4], [4]), ([], []), ([], []), ([], []), ([7, 8], [7, 8]), ([6, 9], [6, 9]), ([5, 10], [5, 10]), ([], []), ([11, 12], [11, 12]), ([13, 9, 0, 1, 2, 3, 4, 5, 6, 7, 8, 9, 10, 11, 12, 13], [13])])
def turnstoneref01_Mul.B9 : List Nat := [0, 0, 0, 6, 15, 31, 0, 0, 0, 384, 960, 2047, 0, 8191, 16383]
theorem turnstoneref01_Mul.tab9 : rtab .any (opsOf Tryz.f61 9) = turnstoneref01_Mul.T9 := by kernel_rfl
theorem turnstoneref01_Mul.bits9 : waitsOk turnstoneref01_Mul.T9.2 turnstoneref01_Mul.B9 = true := by kernel_rfl
set_option maxHeartbeats 8000000 in
set_option maxRecDepth 100000 in
theorem turnstoneref01_Mul.calls (k : Nat) (a0_0 : Bool) (A0_1 : Option Addr) (c0_1 : Nat) (l0_1 : List Int) (a1_0 : Bool) (A1_1 : Option Addr) (c1_1 : Nat) (l1_1 : List Int) (r1 : Bool) (r2 : List Int) (w : World) (hr0_1 : Kd.C (Kd.int .i64) w A0_1 l0_1.length l0_1) (hc0_1 : l0_1.length ≤ c0_1) (hr1_1 : Kd.C (Kd.int .i64) w A1_1 l1_1.length l1_1) (hc1_1 : l1_1.length ≤ c1_1) (h : turnstoneref01_Mul.f k a0_0 l0_1 a1_0 l1_1 = some (r1, r2)) :
  Calls Tryz.prog 61 #[.agg #[.bool a0_0, .slice A0_1 l0_1.length c0_1], .agg #[.bool a1_0, .slice A1_1 l1_1.length c1_1]] w fun e w' => ∃ v1_ : Value, e = .returned (.agg #[.bool r1, v1_]) ∧ Kd.V (Kd.int .i64) 3 w' w.heap.size (fun k_ => (w.heap.size ≤ k_)) v1_ r2 ∧ Below w.heap.size w w' := by
 have hu51 := Tryz.underlying51
 have HR0_1 := Aside0.mk hr0_1
 have HC0_1 := Aside0.mk hc0_1
 clear hr0_1 hc0_1
 have HR1_1 := Aside0.mk hr1_1
 have HC1_1 := Aside0.mk hc1_1
 clear hr1_1 hc1_1
 have HB := Aside0.mk (Below.refl w.heap.size w)
 have H : (if 0 ≤ (wrap64 ((wrap64 ((l0_1.length : Int) + (l1_1.length : Int))) + 1)) then (if (wrap64 ((wrap64 ((l0_1.length : Int) + (l1_1.length : Int))) + 1) : Int).toNat ≤ 35184372088832 then (turnstoneref01_Mul.l0 k (List.replicate (wrap64 ((wrap64 ((l0_1.length : Int) + (l1_1.length : Int))) + 1) : Int).toNat 0) l0_1 (l0_1.length : Int) 0 a0_0 l0_1 a1_0 l1_1) else (none)) else (none)) = some (r1, r2) := h
 clear h
 obtain ⟨ji3, hji3⟩ : ∃ j_ : Int, (wrap64 ((wrap64 ((l0_1.length : Int) + (l1_1.length : Int))) + 1)) = j_ := ⟨_, rfl⟩
 replace H : (if 0 ≤ (ji3) then (if (ji3 : Int).toNat ≤ 35184372088832 then (turnstoneref01_Mul.l0 k (List.replicate (ji3 : Int).toNat 0) l0_1 (l0_1.length : Int) 0 a0_0 l0_1 a1_0 l1_1) else (none)) else (none)) = some (r1, r2) := by first | (rw [hji3] at H; exact H) | (simp only [hji3] at H ⊢; exact H)
 have hji3w : (IntKind.i64.wrap ((wrap64 ((l0_1.length : Int) + (l1_1.length : Int))) + 1)) = ji3 := (i64_w _).trans hji3
 by_cases c4 : 0 ≤ (ji3)
 ·rw [if_pos c4] at H
  have c4b0 := eq_true c4
  have c4b1 : decide (0 ≤ (ji3)) = true := decide_eq_true c4
  clear c4
  by_cases c5 : (ji3 : Int).toNat ≤ 35184372088832
  ·rw [if_pos c5] at H
   have c5b0 := eq_true c5
   have c5b1 : decide ((ji3 : Int).toNat ≤ 35184372088832) = true := decide_eq_true c5
   clear c5
   obtain ⟨y290, hy290⟩ : ∃ y_ : List Int, y_ = (List.replicate (ji3 : Int).toNat 0) := ⟨_, rfl⟩
   replace H : (turnstoneref01_Mul.l0 k y290 l0_1 (l0_1.length : Int) 0 a0_0 l0_1 a1_0 l1_1) = some (r1, r2) := by first | (rw [hy290]; with_reducible exact H) | (have H2_ := (Option.bind_some _ _).symm.trans H; rw [hy290]; with_reducible exact H2_) | (have H2_ := (Option.bind_some _ _).symm.trans H; with_reducible exact H2_) | with_reducible exact H | (rw [hy290]; exact H) | exact H
   have Ny290 := Aside0.mk hy290
   clear hy290
   have H' := Aside0.mk H
   clear H
   go_enter Tryz.func61, Tryz.ntmps61
   go_wp2_with (first | ((with_reducible refine gate_dst (N := 2) rfl ?_); refine box_event ?hg (N := 2) ?hd (cs := #[.bool a0_0, .slice A0_1 l0_1.length c0_1]) (t := 51) ?hr ?_; (case hd => rfl); (case hg => rfl); (case hr => first | (go_simp; done) | (go_simp; rfl)); intro gb287 hg w6 hbox hb; have BK287 := Aside0.mk (hbox); have GW287 := bels HB hg; have GE287 := bels HB hg; replace HB := belb HB hb; clear hb hbox hg) | ((with_reducible refine gate_dst (N := 3) rfl ?_); refine box_event ?hg (N := 3) ?hd (cs := #[.bool a1_0, .slice A1_1 l1_1.length c1_1]) (t := 51) ?hr ?_; (case hd => rfl); (case hg => rfl); (case hr => first | (go_simp; done) | (go_simp; rfl)); intro gb288 hg w7 hbox hb; have BK288 := Aside0.mk (hbox); have GW288 := bels HB hg; have GE288 := bels HB hg; have NB287_288 := blkl BK287 hg; have NB288_287 := blkg BK287 hg; replace BK287 := blkb BK287 hb; replace HB := belb HB hb; clear hb hbox hg) | ((with_reducible refine gate_dst (N := 4) rfl ?_); refine box_event ?hg (N := 4) ?hd (cs := #[.bool false, .slice none 0 0]) (t := 51) ?hr ?_; (case hd => rfl); (case hg => rfl); (case hr => first | (go_simp; done) | (go_simp; rfl)); intro gb289 hg w8 hbox hb; have BK289 := Aside0.mk (hbox); have GW289 := bels HB hg; have GE289 := bels HB hg; have NB287_289 := blkl BK287 hg; have NB289_287 := blkg BK287 hg; have NB288_289 := blkl BK288 hg; have NB289_288 := blkg BK288 hg; replace BK287 := blkb BK287 hb; replace BK288 := blkb BK288 hb; replace HB := belb HB hb; clear hb hbox hg; have hnb9 := NB287_288.out; have hnc9 := NB288_287.out; have hnb10 := NB287_289.out; have hnc10 := NB289_287.out; have hcz11_0 : w8.cell? ⟨gb287, 0, none⟩ = some (.bool a0_0) := bc BK287 0; have hcz11_1 : w8.cell? ⟨gb287, 1, none⟩ = some (.slice A0_1 l0_1.length c0_1) := bc BK287 1; have hfz11_0 := blk_frozen BK287.out 0; have hfz11_1 := blk_frozen BK287.out 1; have hnb12 := NB288_289.out; have hnc12 := NB289_288.out; have hcz13_0 : w8.cell? ⟨gb288, 0, none⟩ = some (.bool a1_0) := bc BK288 0; have hcz13_1 : w8.cell? ⟨gb288, 1, none⟩ = some (.slice A1_1 l1_1.length c1_1) := bc BK288 1; have hfz13_0 := blk_frozen BK288.out 0; have hfz13_1 := blk_frozen BK288.out 1) | ((with_reducible refine gate_dst (N := 19) rfl ?_); refine Kd.R_make (Kd.int .i64) _ 3 rfl (N := 19) rfl 49 _ _ rfl ji3 rfl rfl Tryz.underlying49 (.int .i64 0) 8 info3 rfl (by decide) (by omega) 0 (ok := fun _ => True) (okp := fun _ => True) rfl (fun _ hk => hk) trivial (of_decide_eq_true (by first | (with_reducible assumption) | assumption)) (Nat.le_trans (Nat.mul_le_mul_right _ (of_decide_eq_true (by first | (with_reducible assumption) | assumption) : ji3.toNat ≤ 35184372088832)) (by omega)) (Below.refl _ _) (Nat.le_refl _) ?_; intro v291 w14 ho15 hb hg_ hnew_; clear hg_ hnew_; (first | rw [← Ny290.out] at ho15 | (simp only [Int.reduceToNat] at ho15; rw [← Ny290.out] at ho15)); have HO292 := Aside0.mk (Kd.R_lower (Kd.R_newM (M := fun k_ => (w.heap.size ≤ k_)) ho15 (below_size (belt HB)) (fun k_ h_ => h_)) (below_size (belt HB))); replace BK287 := blkb BK287 hb; replace BK288 := blkb BK288 hb; replace BK289 := blkb BK289 hb; replace HB := belb HB hb; clear hb ho15; have hcz16_0 : w14.cell? ⟨gb287, 0, none⟩ = some (.bool a0_0) := bc BK287 0; have hcz16_1 : w14.cell? ⟨gb287, 1, none⟩ = some (.slice A0_1 l0_1.length c0_1) := bc BK287 1; have hfz16_0 := blk_frozen BK287.out 0; have hfz16_1 := blk_frozen BK287.out 1))
   (try simp only [Act.put, List.setIfInBounds_toArray, List.set_cons_zero, List.set_cons_succ])
   go_loopg [23] k (fun kq v23 w' => ∃ (x5_1 : List Int) (x23_1 : Int), v23 = .int .i64 x23_1 ∧ Aside0 (turnstoneref01_Mul.l0 kq x5_1 l0_1 (l0_1.length : Int) x23_1 a0_0 l0_1 a1_0 l1_1 = some (r1, r2)) ∧ Aside0 (kq ≤ k) ∧ Aside0 (Kd.R (Kd.int .i64) 3 w' w.heap.size (fun k_ => (w.heap.size ≤ k_)) v291 x5_1) ∧ Aside0 (w'.heap[gb287]? = some (.cells #[.bool a0_0, (.slice A0_1 l0_1.length c0_1)] 51 (0, 0))) ∧ Aside0 (w'.heap[gb288]? = some (.cells #[.bool a1_0, (.slice A1_1 l1_1.length c1_1)] 51 (0, 0))) ∧ Aside0 (w'.heap[gb289]? = some (.cells #[.bool false, (.slice none 0 0)] 51 (0, 0))) ∧ Aside0 (Below w.heap.size w w'))
   case atStart => exact ⟨(y290), (0), (by first | rfl | (simp; done) | (simp [*]; done)), H', ⟨Nat.le_refl _⟩, ⟨by (with_reducible repeat (first | apply Kd.R_alloc | apply Kd.R_drewN | apply Kd.R_drew)); exact Kd.R_mono HO292.out (fun _ hk => hk.1)⟩, ⟨blkt BK287⟩, ⟨blkt BK288⟩, ⟨blkt BK289⟩, ⟨belt HB⟩⟩
   case round =>
    clear H'
    try clear c1
    try clear p2
    try clear c4
    try clear c4b0
    try clear c4b1
    try clear c5
    try clear c5b0
    try clear c5b1
    try clear c6
    try clear p6
    try clear c9
    try clear c10
    try clear c12
    try clear hcz11_0
    try clear hcz11_1
    try clear hcz13_0
    try clear hcz13_1
    try clear hcz16_0
    try clear hcz16_1
    try clear hfz11_0
    try clear hfz11_1
    try clear hfz13_0
    try clear hfz13_1
    try clear hfz16_0
    try clear hfz16_1
    obtain ⟨x5_1, x23_1, rfl, HA, HK1, HO_5, BK287, BK288, BK289, HB⟩ := hrel
    cases gk with
    | zero => exact absurd HA.out (by simp [turnstoneref01_Mul.l0])
    | succ k1 =>
     have H := HA.out
     clear HA
     simp only [turnstoneref01_Mul.l0] at H
     by_cases c17 : x23_1 < (l0_1.length : Int)
     ·rw [if_pos c17] at H
      have c17b0 : decide (x23_1 < (l0_1.length : Int)) = true := decide_eq_true c17
      clear c17
      by_cases c18 : 0 ≤ x23_1
      ·rw [if_pos c18] at H
       have c18b0 : decide (0 ≤ x23_1) = true := decide_eq_true c18
       clear c18
       by_cases c19 : x23_1 < (l0_1.length : Int)
       ·rw [if_pos c19] at H
        have c19b0 : decide (x23_1 < (l0_1.length : Int)) = true := decide_eq_true c19
        clear c19
        have H' := Aside0.mk H
        clear H
        have p297 : 0 ≤ (x23_1 : Int) := of_decide_eq_true (by first | (with_reducible assumption) | assumption)
        have q297 : x23_1 < (l0_1.length : Int) := of_decide_eq_true (by first | (with_reducible assumption) | assumption)
        obtain ⟨ad297, e297, hx297_0⟩ := Kd.at_int HR0_1.out x23_1 p297 q297
        cases e297
        replace hx297_0 := (HB.out.cell (World.block_lt_of_cell? w _ hx297_0)).trans hx297_0
        replace p297 := eq_true p297
        replace q297 := eq_true q297
        go_wp2
        (try simp only [Act.put, List.setIfInBounds_toArray, List.set_cons_zero, List.set_cons_succ])
        go_loopg [8, 9] k1 (fun kq v8 v9 w' => ∃ (x5_2 : List Int) (x8_2 : Int) (x9_2 : Int), v8 = .int .i64 x8_2 ∧ v9 = .int .i64 x9_2 ∧ Aside0 (turnstoneref01_Mul.l1 kq x5_2 x23_1 (rd l0_1 x23_1) x8_2 x9_2 l0_1 (l0_1.length : Int) x23_1 a0_0 l0_1 a1_0 l1_1 = some (r1, r2)) ∧ Aside0 (kq ≤ k1) ∧ Aside0 (Kd.R (Kd.int .i64) 3 w' w.heap.size (fun k_ => (w.heap.size ≤ k_)) v291 x5_2) ∧ Aside0 (w'.heap[gb287]? = some (.cells #[.bool a0_0, (.slice (some ad297) l0_1.length c0_1)] 51 (0, 0))) ∧ Aside0 (w'.heap[gb288]? = some (.cells #[.bool a1_0, (.slice A1_1 l1_1.length c1_1)] 51 (0, 0))) ∧ Aside0 (w'.heap[gb289]? = some (.cells #[.bool false, (.slice none 0 0)] 51 (0, 0))) ∧ Aside0 (Below w.heap.size w w'))
        case atStart => exact ⟨(x5_1), (0), (0), (by first | rfl | (simp; done) | (simp [*]; done)), (by first | rfl | (simp; done) | (simp [*]; done)), H', ⟨Nat.le_refl _⟩, ⟨by (with_reducible repeat (first | apply Kd.R_alloc | apply Kd.R_drewN | apply Kd.R_drew)); exact HO_5.out⟩, ⟨blkt BK287⟩, ⟨blkt BK288⟩, ⟨blkt BK289⟩, ⟨belt HB⟩⟩
        case round =>
         clear H'
         try clear c1
         try clear p2
         try clear q2
         try clear hx2
         try clear c4
         try clear c4b0
         try clear c4b1
         try clear c5
         try clear c5b0
         try clear c5b1
         try clear c6
         try clear p6
         try clear c9
         try clear c10
         try clear c12
         try clear c17
         try clear c17b0
         try clear c18
         try clear c18b0
         try clear c19
         try clear c19b0
         try clear hcz11_0
         try clear hcz11_1
         try clear hcz13_0
         try clear hcz13_1
         try clear hcz16_0
         try clear hcz16_1
         try clear hfz11_0
         try clear hfz11_1
         try clear hfz13_0
         try clear hfz13_1
         try clear hfz16_0
         try clear hfz16_1
         try clear hx297_0
         try clear p2
         try clear p297
         try clear p6
         try clear q297
         obtain ⟨x5_2, x8_2, x9_2, rfl, rfl, HA, HK2, HO_5, BK287, BK288, BK289, HB⟩ := hrel
         cases gk with
         | zero => exact absurd HA.out (by simp [turnstoneref01_Mul.l1])
         | succ k2 =>
          have H := HA.out
          clear HA
          simp only [turnstoneref01_Mul.l1] at H
          by_cases c20 : x9_2 < (l1_1.length : Int)
          ·rw [if_pos c20] at H
           have c20b0 : decide (x9_2 < (l1_1.length : Int)) = true := decide_eq_true c20
           clear c20
           obtain ⟨ji21, hji21⟩ : ∃ j_ : Int, (wrap64 (x23_1 + x9_2)) = j_ := ⟨_, rfl⟩
           replace H : (if 0 ≤ (ji21) then (if (ji21) < (x5_2.length : Int) then ((turnstoneref01_digit.f a1_0 l1_1 x9_2).bind fun t299 => (turnstoneref01_Mul.l1 k2 (x5_2.set ((ji21) : Int).toNat (Int.tmod (wrap64 ((wrap64 ((rd x5_2 (ji21)) + (wrap64 ((rd l0_1 x23_1) * t299)))) + x8_2)) 10000)) x23_1 (rd l0_1 x23_1) (wrap64 (Int.tdiv (wrap64 ((wrap64 ((rd x5_2 (ji21)) + (wrap64 ((rd l0_1 x23_1) * t299)))) + x8_2)) 10000)) (wrap64 (x9_2 + 1)) l0_1 (l0_1.length : Int) x23_1 a0_0 l0_1 a1_0 l1_1)) else (none)) else (none)) = some (r1, r2) := by first | (rw [hji21] at H; exact H) | (simp only [hji21] at H ⊢; exact H)
           have hji21w : (IntKind.i64.wrap (x23_1 + x9_2)) = ji21 := (i64_w _).trans hji21
           by_cases c22 : 0 ≤ (ji21)
           ·rw [if_pos c22] at H
            have c22b0 : decide (0 ≤ (ji21)) = true := decide_eq_true c22
            clear c22
            by_cases c23 : (ji21) < (x5_2.length : Int)
            ·rw [if_pos c23] at H
             have c23b0 : decide ((ji21) < (x5_2.length : Int)) = true := decide_eq_true c23
             clear c23
             replace H := Option.bind_eq_some_iff.mp H
             obtain ⟨t299, A240, H⟩ := H
             replace H : (turnstoneref01_Mul.l1 k2 (x5_2.set ((ji21) : Int).toNat (Int.tmod (wrap64 ((wrap64 ((rd x5_2 (ji21)) + (wrap64 ((rd l0_1 x23_1) * t299)))) + x8_2)) 10000)) x23_1 (rd l0_1 x23_1) (wrap64 (Int.tdiv (wrap64 ((wrap64 ((rd x5_2 (ji21)) + (wrap64 ((rd l0_1 x23_1) * t299)))) + x8_2)) 10000)) (wrap64 (x9_2 + 1)) l0_1 (l0_1.length : Int) x23_1 a0_0 l0_1 a1_0 l1_1) = some (r1, r2) := H
             have A24 := Aside0.mk A240
             clear A240
             obtain ⟨y300, hy300⟩ : ∃ y_ : List Int, y_ = (x5_2.set ((ji21) : Int).toNat (Int.tmod (wrap64 ((wrap64 ((rd x5_2 (ji21)) + (wrap64 ((rd l0_1 x23_1) * t299)))) + x8_2)) 10000)) := ⟨_, rfl⟩
             replace H : (turnstoneref01_Mul.l1 k2 y300 x23_1 (rd l0_1 x23_1) (wrap64 (Int.tdiv (wrap64 ((wrap64 ((rd x5_2 (ji21)) + (wrap64 ((rd l0_1 x23_1) * t299)))) + x8_2)) 10000)) (wrap64 (x9_2 + 1)) l0_1 (l0_1.length : Int) x23_1 a0_0 l0_1 a1_0 l1_1) = some (r1, r2) := by first | (rw [hy300]; with_reducible exact H) | (have H2_ := (Option.bind_some _ _).symm.trans H; rw [hy300]; with_reducible exact H2_) | (have H2_ := (Option.bind_some _ _).symm.trans H; with_reducible exact H2_) | with_reducible exact H | (rw [hy300]; exact H) | exact H
             have Ny300 := Aside0.mk hy300
             clear hy300
             have H' := Aside0.mk H
             clear H
             have hnb26 := NB288_287.out
             have hnc26 := NB287_288.out
             have hnb27 := NB288_289.out
             have hnc27 := NB289_288.out
             have hcz28_0 : wr.cell? ⟨gb288, 0, none⟩ = some (.bool a1_0) := bc BK288 0
             have hcz28_1 : wr.cell? ⟨gb288, 1, none⟩ = some (.slice A1_1 l1_1.length c1_1) := bc BK288 1
             have hfz28_0 := blk_frozen BK288.out 0
             have hfz28_1 := blk_frozen BK288.out 1
             try go_wp2
             replace HO_5 := Aside0.mk (Kd.R_drew HO_5.out)
             replace BK287 := Aside0.mk (blk_drew BK287.out)
             replace BK288 := Aside0.mk (blk_drew BK288.out)
             replace BK289 := Aside0.mk (blk_drew BK289.out)
             replace HB := Aside0.mk (below_drew1 HB.out)
             obtain ⟨Ao30, co30, eo30⟩ := Kd.R_slice HO_5.out
             (first | subst eo30 | (injection eo30 with f1_ f2_ f3_; have f4_ := f1_.symm; have f5_ := f3_.symm; clear f1_ f2_ f3_; subst f4_; subst f5_))
             have p298 : 0 ≤ ((ji21) : Int) := of_decide_eq_true (by first | (with_reducible assumption) | assumption)
             have q298 : (ji21) < (x5_2.length : Int) := of_decide_eq_true (by first | (with_reducible assumption) | assumption)
             obtain ⟨ad298, e298, hx298_0⟩ := Kd.at_int (Kd.R_reads' HO_5.out).2.2 (ji21) p298 q298
             cases e298
             replace p298 := eq_true p298
             replace q298 := eq_true q298
             refine start_ (n := 15) (S := fun w' => w'.cell? ⟨gb288, 0, none⟩ = some (.bool a1_0) ∧ w'.cell? ⟨gb288, 1, none⟩ = some (.slice A1_1 l1_1.length c1_1) ∧ w'.cell? (ad298.add ((ji21)).toNat) = some (.int .i64 (rd x5_2 (ji21)))) (ds := []) #[false, false, false, false, false, false, false, false, false, false, false, false, false, false, false] (by kernel_rfl) rfl rfl ⟨bc BK288 0, bc BK288 1, hx298_0⟩ (fun hHeld => ?_); refine with_tabW turnstoneref01_Mul.tab9 turnstoneref01_Mul.bits9 (fun HT_ HW_ => ?_)
             generalize wr.drew = w29 at HO_5 BK287 BK288 BK289 HB hx298_0 hHeld ⊢
             refine pure_ (i := 0) (N := some 39) (v := ?_) (a' := ?_) #[true, false, false, false, false, false, false, false, false, false, false, false, false, false, false] rfl rfl (any_of HT_.out (by kernel_rfl)) (fun _ _ _ h => h) (Or.inl ⟨by rfl, ?_⟩) ?_ ?_
             rotate_left
             ·intro w'
              go_simp
              with_reducible rfl
             rotate_left
             ·simp only [Act.put, List.setIfInBounds_toArray, List.set_cons_zero, List.set_cons_succ, i64_w, i32_w]
              rfl
             refine pure_ (i := 1) (N := some 40) (v := ?_) (a' := ?_) #[true, true, false, false, false, false, false, false, false, false, false, false, false, false, false] rfl rfl (any_of HT_.out (by kernel_rfl)) (fun _ _ _ h => h) (Or.inl ⟨by rfl, ?_⟩) ?_ ?_
             rotate_left
             ·intro w'
              go_simp
              with_reducible rfl
             rotate_left
             ·simp only [Act.put, List.setIfInBounds_toArray, List.set_cons_zero, List.set_cons_succ, i64_w, i32_w]
              rfl
             refine pure_ (i := 2) (N := some 41) (v := ?_) (a' := ?_) #[true, true, true, false, false, false, false, false, false, false, false, false, false, false, false] rfl rfl (any_of HT_.out (by kernel_rfl)) (fun _ _ _ h => h) (Or.inl ⟨by rfl, ?_⟩) ?_ ?_
             rotate_left
             ·intro w'
              go_simp
              with_reducible rfl
             rotate_left
             ·simp only [Act.put, List.setIfInBounds_toArray, List.set_cons_zero, List.set_cons_succ, i64_w, i32_w]
              rfl
             refine pure_ (i := 3) (N := some 42) (v := ?_) (a' := ?_) #[true, true, true, true, false, false, false, false, false, false, false, false, false, false, false] rfl rfl (any_of HT_.out (by kernel_rfl)) (fun _ _ _ h => h) (Or.inl ⟨by rfl, ?_⟩) ?_ ?_
             rotate_left
             ·intro w'
              go_simp
              with_reducible rfl
             rotate_left
             ·simp only [Act.put, List.setIfInBounds_toArray, List.set_cons_zero, List.set_cons_succ, i64_w, i32_w]
              rfl
             refine pure_ (i := 4) (N := some 43) (v := ?_) (a' := ?_) #[true, true, true, true, true, false, false, false, false, false, false, false, false, false, false] rfl rfl (any_of HT_.out (by kernel_rfl)) (fun _ _ _ h => h) (Or.inl ⟨by rfl, ?_⟩) ?_ ?_
             rotate_left
             ·intro w'
              go_simp
              with_reducible rfl
             rotate_left
             ·simp only [Act.put, List.setIfInBounds_toArray, List.set_cons_zero, List.set_cons_succ, i64_w, i32_w]
              rfl
             refine pure_ (i := 6) (N := some 45) (v := ?_) (a' := ?_) #[true, true, true, true, true, false, true, false, false, false, false, false, false, false, false] rfl rfl (any_of HT_.out (by kernel_rfl)) (fun _ _ _ h => h) (Or.inl ⟨by rfl, ?_⟩) ?_ ?_
             rotate_left
             ·intro w'
              go_simp
              with_reducible rfl
             rotate_left
             ·simp only [Act.put, List.setIfInBounds_toArray, List.set_cons_zero, List.set_cons_succ, i64_w, i32_w]
              rfl
             refine pure_ (i := 8) (N := some 47) (v := ?_) (a' := ?_) #[true, true, true, true, true, false, true, false, true, false, false, false, false, false, false] rfl rfl (any_of HT_.out (by kernel_rfl)) (fun _ _ _ h => h) (Or.inl ⟨by rfl, ?_⟩) ?_ ?_
             rotate_left
             ·intro w'
              go_simp
              with_reducible rfl
             rotate_left
             ·simp only [Act.put, List.setIfInBounds_toArray, List.set_cons_zero, List.set_cons_succ, i64_w, i32_w]
              rfl
             refine pure_ (i := 12) (N := some 51) (v := ?_) (a' := ?_) #[true, true, true, true, true, false, true, false, true, false, false, false, true, false, false] rfl rfl (any_of HT_.out (by kernel_rfl)) (fun _ _ _ h => h) (Or.inl ⟨by rfl, ?_⟩) ?_ ?_
             rotate_left
             ·intro w'
              go_simp
              with_reducible rfl
             rotate_left
             ·simp only [Act.put, List.setIfInBounds_toArray, List.set_cons_zero, List.set_cons_succ, i64_w, i32_w]
              rfl
             refine take_ (i := 5) (N := some 44) (v := ?_) (a' := ?_) #[true, true, true, true, true, true, true, false, true, false, false, false, true, false, false] rfl rfl (take_ofW HT_.out HW_.out (by kernel_rfl)) (fun _ _ _ h => h) (Or.inl ⟨by rfl, ?_⟩) hHeld ?_ ?_
             rotate_left
             ·rintro w' ⟨s0, s1, s2⟩
              go_simp
              with_reducible rfl
             rotate_left
             ·simp only [Act.put, List.setIfInBounds_toArray, List.set_cons_zero, List.set_cons_succ, i64_w, i32_w]
              rfl
             refine take_ (i := 7) (N := some 46) (v := ?_) (a' := ?_) #[true, true, true, true, true, true, true, true, true, false, false, false, true, false, false] rfl rfl (take_ofW HT_.out HW_.out (by kernel_rfl)) (fun _ _ _ h => h) (Or.inl ⟨by rfl, ?_⟩) hHeld ?_ ?_
             rotate_left
             ·rintro w' ⟨s0, s1, s2⟩
              go_simp
              with_reducible rfl
             rotate_left
             ·simp only [Act.put, List.setIfInBounds_toArray, List.set_cons_zero, List.set_cons_succ, i64_w, i32_w]
              rfl
             refine one_ (i := 9) (N := some 48) #[true, true, true, true, true, true, true, true, true, true, false, false, true, false, false] rfl rfl (one_of HT_.out (by kernel_rfl)) (by decide) (fun K hK => ?_)
             refine goes_ Tryz.func86 (by kernel_rfl) rfl #[.agg #[.bool a1_0, .slice A1_1 l1_1.length c1_1], .int .i64 x9_2] (by rfl) rfl rfl argt ?_
             with_reducible refine (turnstoneref01_digit.calls a1_0 _ _ l1_1 x9_2 t299 _ ?side1 ?side2 A24.out).mono ?_
             (case side1 => exact (ct (Kd.C_below HR1_1.out HB.out)))
             (case side2 => exact HC1_1.out)
             rintro e w31 ⟨rfl, hb⟩
             have HS2_ := (hb.cell (World.block_lt_of_cell? _ _ (hHeld.2.2))).trans (hHeld.2.2)
             refine ⟨_, rfl, ?_⟩
             replace HO_5 := rb HO_5 hb
             replace BK287 := blkb BK287 hb
             replace BK288 := blkb BK288 hb
             replace BK289 := blkb BK289 hb
             replace HB := belb HB hb
             (try clear hb)
             (try clear hb2)
             (try clear hk)
             (try clear hi)
             refine hK.out _ _ ⟨bc BK288 0, bc BK288 1, HS2_⟩ (fun hHeld => ?_)
             clear hK K
             refine norm_ (a' := ?_) ?_ ?_
             rotate_left
             ·show Act.put _ (some 48) _ = _
              simp only [Act.put, List.setIfInBounds_toArray, List.set_cons_zero, List.set_cons_succ, i64_w, i32_w]
              rfl
             refine pure_ (i := 10) (N := some 49) (v := ?_) (a' := ?_) #[true, true, true, true, true, true, true, true, true, true, true, false, true, false, false] rfl rfl (any_of HT_.out (by kernel_rfl)) (fun _ _ _ h => h) (Or.inl ⟨by rfl, ?_⟩) ?_ ?_
             rotate_left
             ·intro w'
              go_simp
              with_reducible rfl
             rotate_left
             ·simp only [Act.put, List.setIfInBounds_toArray, List.set_cons_zero, List.set_cons_succ, i64_w, i32_w]
              rfl
             refine pure_ (i := 11) (N := some 50) (v := ?_) (a' := ?_) #[true, true, true, true, true, true, true, true, true, true, true, true, true, false, false] rfl rfl (any_of HT_.out (by kernel_rfl)) (fun _ _ _ h => h) (Or.inl ⟨by rfl, ?_⟩) ?_ ?_
             rotate_left
             ·intro w'
              go_simp
              with_reducible rfl
             rotate_left
             ·simp only [Act.put, List.setIfInBounds_toArray, List.set_cons_zero, List.set_cons_succ, i64_w, i32_w]
              rfl
             refine pure_ (i := 13) (N := some 52) (v := ?_) (a' := ?_) #[true, true, true, true, true, true, true, true, true, true, true, true, true, true, false] rfl rfl (any_of HT_.out (by kernel_rfl)) (fun _ _ _ h => h) (Or.inl ⟨by rfl, ?_⟩) ?_ ?_
             rotate_left
             ·intro w'
              go_simp
              with_reducible rfl
             rotate_left
             ·simp only [Act.put, List.setIfInBounds_toArray, List.set_cons_zero, List.set_cons_succ, i64_w, i32_w]
              rfl
             refine pure_ (i := 14) (N := some 10) (v := ?_) (a' := ?_) #[true, true, true, true, true, true, true, true, true, true, true, true, true, true, true] rfl rfl (any_of HT_.out (by kernel_rfl)) (fun _ _ _ h => h) (Or.inl ⟨by rfl, ?_⟩) ?_ ?_
             rotate_left
             ·intro w'
              go_simp
              with_reducible rfl
             rotate_left
             ·simp only [Act.put, List.setIfInBounds_toArray, List.set_cons_zero, List.set_cons_succ, i64_w, i32_w]
              rfl
             refine done_ (done_of HT_.out (by kernel_rfl)) ?_
             have p25 : 0 ≤ ((ji21) : Int) := of_decide_eq_true (by first | (with_reducible assumption) | assumption)
             have q25 : ((ji21) : Int) < ((x5_2.length : Int) : Int) := of_decide_eq_true (by first | (with_reducible assumption) | assumption)
             obtain ⟨go25, co25, eo25, gb25, gl25, cl25, HG25⟩ := Kd.R_form HO_5.out (by omega)
             (first | cases eo25 | (injection eo25 with ea_ en_ ec_; (first | subst ea_ | (injection ea_ with ea_; subst ea_)); subst ec_; clear en_))
             have GB25 := Aside0.mk gb25
             have GG25 := Aside0.mk HG25
             clear gb25 gl25 HG25
             (first | simp only [add_plain] at hx298_0 | skip)
             obtain ⟨hx25_0, hf25_0⟩ := Kd.R_celln 0 HO_5.out ((ji21) : Int) p25 q25
             replace p25 := eq_true p25
             replace q25 := eq_true q25
             obtain ⟨hy32_, hz32_⟩ := Kd.R_celln 0 HO_5.out ((ji21) : Int) (of_decide_eq_true (by first | (with_reducible assumption) | assumption)) (of_decide_eq_true (by first | (with_reducible assumption) | assumption))
             have HP32 := Kd.R_putg HO_5.out ((ji21) : Int) (Int.tmod (wrap64 ((wrap64 ((rd x5_2 (ji21)) + (wrap64 ((rd l0_1 x23_1) * t299)))) + x8_2)) 10000)
             try go_wp2_with (first | ((with_reducible refine gate_store (t := 3) (p := 59) rfl ?_); refine store_event (t := 3) (p := 59) (v := ?vo_w33) (w1 := (w31.setCell ⟨go25, ((ji21) : Int).toNat, none⟩ (.int .i64 (Int.tmod (wrap64 ((wrap64 ((rd x5_2 (ji21)) + (wrap64 ((rd l0_1 x23_1) * t299)))) + x8_2)) 10000)))) ?hg ?ho ?hn ?hr ?_; (case ho => rfl); (case hg => rfl); (case hn => rfl); (case hr => first | (go_simp; done) | (go_simp; rfl)); intro w33 hw; have hg : w31.grownBy w33 (some go25) := (by rw [hw]; exact HP32.2); have hp_ : Kd.R (Kd.int .i64) 3 w33 w.heap.size (fun k_ => (w.heap.size ≤ k_)) (.slice (some ⟨go25, 0, none⟩) x5_2.length co30) y300 := (by rw [hw, Ny300.out]; exact HP32.1); clear HP32; replace BK287 := Aside0.mk (blk_grown (blkt BK287) hg (Kd.R_ne HO_5.out BK287.out (by decide))); replace BK288 := Aside0.mk (blk_grown (blkt BK288) hg (Kd.R_ne HO_5.out BK288.out (by decide))); replace BK289 := Aside0.mk (blk_grown (blkt BK289) hg (Kd.R_ne HO_5.out BK289.out (by decide))); replace HB := Aside0.mk ((by rw [hw]; exact below_set (HB.out) GB25.out : Below w.heap.size w w33)); replace HO_5 := Aside0.mk (hp_); clear hg hw hp_))
             go_roundg k2
             case measure => have := HK1.out; have := HK2.out; omega
             case rel => exact ⟨(y300), (wrap64 (Int.tdiv (wrap64 ((wrap64 ((rd x5_2 (ji21)) + (wrap64 ((rd l0_1 x23_1) * t299)))) + x8_2)) 10000)), (wrap64 (x9_2 + 1)), (by first | rfl | (simp; done) | (simp only [← hji21]; first | rfl | (simp; done) | (simp [mn, mx]; done)) | (simp [*]; done)), (by first | rfl | (simp; done) | (simp [*]; done)), H', ⟨by have := HK1.out; have := HK2.out; omega⟩, ⟨by (with_reducible repeat (first | apply Kd.R_alloc | apply Kd.R_drewN | apply Kd.R_drew)); exact HO_5.out⟩, ⟨blkt BK287⟩, ⟨blkt BK288⟩, ⟨blkt BK289⟩, ⟨belt HB⟩⟩
            rw [if_neg c23] at H
            exact absurd H (by simp)
           rw [if_neg c22] at H
           exact absurd H (by simp)
          rw [if_neg c20] at H
          have c20b0 : decide (x9_2 < (l1_1.length : Int)) = false := decide_eq_false c20
          clear c20
          by_cases c34 : x8_2 > 0
          ·rw [if_pos c34] at H
           have c34b0 : decide (0 < x8_2) = true := decide_eq_true c34
           clear c34
           obtain ⟨ji35, hji35⟩ : ∃ j_ : Int, (wrap64 (x23_1 + x9_2)) = j_ := ⟨_, rfl⟩
           replace H : (if 0 ≤ (ji35) then (if (ji35) < (x5_2.length : Int) then ((turnstoneref01_digit.f a1_0 l1_1 x9_2).bind fun t302 => (turnstoneref01_Mul.l1 k2 (x5_2.set ((ji35) : Int).toNat (Int.tmod (wrap64 ((wrap64 ((rd x5_2 (ji35)) + (wrap64 ((rd l0_1 x23_1) * t302)))) + x8_2)) 10000)) x23_1 (rd l0_1 x23_1) (wrap64 (Int.tdiv (wrap64 ((wrap64 ((rd x5_2 (ji35)) + (wrap64 ((rd l0_1 x23_1) * t302)))) + x8_2)) 10000)) (wrap64 (x9_2 + 1)) l0_1 (l0_1.length : Int) x23_1 a0_0 l0_1 a1_0 l1_1)) else (none)) else (none)) = some (r1, r2) := by first | (rw [hji35] at H; exact H) | (simp only [hji35] at H ⊢; exact H)
           have hji35w : (IntKind.i64.wrap (x23_1 + x9_2)) = ji35 := (i64_w _).trans hji35
           by_cases c36 : 0 ≤ (ji35)
           ·rw [if_pos c36] at H
            have c36b0 : decide (0 ≤ (ji35)) = true := decide_eq_true c36
            clear c36
            by_cases c37 : (ji35) < (x5_2.length : Int)
            ·rw [if_pos c37] at H
             have c37b0 : decide ((ji35) < (x5_2.length : Int)) = true := decide_eq_true c37
             clear c37
             replace H := Option.bind_eq_some_iff.mp H
             obtain ⟨t302, A380, H⟩ := H
             replace H : (turnstoneref01_Mul.l1 k2 (x5_2.set ((ji35) : Int).toNat (Int.tmod (wrap64 ((wrap64 ((rd x5_2 (ji35)) + (wrap64 ((rd l0_1 x23_1) * t302)))) + x8_2)) 10000)) x23_1 (rd l0_1 x23_1) (wrap64 (Int.tdiv (wrap64 ((wrap64 ((rd x5_2 (ji35)) + (wrap64 ((rd l0_1 x23_1) * t302)))) + x8_2)) 10000)) (wrap64 (x9_2 + 1)) l0_1 (l0_1.length : Int) x23_1 a0_0 l0_1 a1_0 l1_1) = some (r1, r2) := H
             have A38 := Aside0.mk A380
             clear A380
             obtain ⟨y303, hy303⟩ : ∃ y_ : List Int, y_ = (x5_2.set ((ji35) : Int).toNat (Int.tmod (wrap64 ((wrap64 ((rd x5_2 (ji35)) + (wrap64 ((rd l0_1 x23_1) * t302)))) + x8_2)) 10000)) := ⟨_, rfl⟩
             replace H : (turnstoneref01_Mul.l1 k2 y303 x23_1 (rd l0_1 x23_1) (wrap64 (Int.tdiv (wrap64 ((wrap64 ((rd x5_2 (ji35)) + (wrap64 ((rd l0_1 x23_1) * t302)))) + x8_2)) 10000)) (wrap64 (x9_2 + 1)) l0_1 (l0_1.length : Int) x23_1 a0_0 l0_1 a1_0 l1_1) = some (r1, r2) := by first | (rw [hy303]; with_reducible exact H) | (have H2_ := (Option.bind_some _ _).symm.trans H; rw [hy303]; with_reducible exact H2_) | (have H2_ := (Option.bind_some _ _).symm.trans H; with_reducible exact H2_) | with_reducible exact H | (rw [hy303]; exact H) | exact H
             have Ny303 := Aside0.mk hy303
             clear hy303
             have H' := Aside0.mk H
             clear H
             have hnb40 := NB288_287.out
             have hnc40 := NB287_288.out
             have hnb41 := NB288_289.out
             have hnc41 := NB289_288.out
             have hcz42_0 : wr.cell? ⟨gb288, 0, none⟩ = some (.bool a1_0) := bc BK288 0
             have hcz42_1 : wr.cell? ⟨gb288, 1, none⟩ = some (.slice A1_1 l1_1.length c1_1) := bc BK288 1
             have hfz42_0 := blk_frozen BK288.out 0
             have hfz42_1 := blk_frozen BK288.out 1
             try go_wp2
             replace HO_5 := Aside0.mk (Kd.R_drew HO_5.out)
             replace BK287 := Aside0.mk (blk_drew BK287.out)
             replace BK288 := Aside0.mk (blk_drew BK288.out)
             replace BK289 := Aside0.mk (blk_drew BK289.out)
             replace HB := Aside0.mk (below_drew1 HB.out)
             obtain ⟨Ao44, co44, eo44⟩ := Kd.R_slice HO_5.out
             (first | subst eo44 | (injection eo44 with f1_ f2_ f3_; have f4_ := f1_.symm; have f5_ := f3_.symm; clear f1_ f2_ f3_; subst f4_; subst f5_))
             have p301 : 0 ≤ ((ji35) : Int) := of_decide_eq_true (by first | (with_reducible assumption) | assumption)
             have q301 : (ji35) < (x5_2.length : Int) := of_decide_eq_true (by first | (with_reducible assumption) | assumption)
             obtain ⟨ad301, e301, hx301_0⟩ := Kd.at_int (Kd.R_reads' HO_5.out).2.2 (ji35) p301 q301
             cases e301
             replace p301 := eq_true p301
             replace q301 := eq_true q301
             refine start_ (n := 15) (S := fun w' => w'.cell? ⟨gb288, 0, none⟩ = some (.bool a1_0) ∧ w'.cell? ⟨gb288, 1, none⟩ = some (.slice A1_1 l1_1.length c1_1) ∧ w'.cell? (ad301.add ((ji35)).toNat) = some (.int .i64 (rd x5_2 (ji35)))) (ds := []) #[false, false, false, false, false, false, false, false, false, false, false, false, false, false, false] (by kernel_rfl) rfl rfl ⟨bc BK288 0, bc BK288 1, hx301_0⟩ (fun hHeld => ?_); refine with_tabW turnstoneref01_Mul.tab9 turnstoneref01_Mul.bits9 (fun HT_ HW_ => ?_)
             generalize wr.drew = w43 at HO_5 BK287 BK288 BK289 HB hx301_0 hHeld ⊢
             refine pure_ (i := 0) (N := some 39) (v := ?_) (a' := ?_) #[true, false, false, false, false, false, false, false, false, false, false, false, false, false, false] rfl rfl (any_of HT_.out (by kernel_rfl)) (fun _ _ _ h => h) (Or.inl ⟨by rfl, ?_⟩) ?_ ?_
             rotate_left
             ·intro w'
              go_simp
              with_reducible rfl
             rotate_left
             ·simp only [Act.put, List.setIfInBounds_toArray, List.set_cons_zero, List.set_cons_succ, i64_w, i32_w]
              rfl
             refine pure_ (i := 1) (N := some 40) (v := ?_) (a' := ?_) #[true, true, false, false, false, false, false, false, false, false, false, false, false, false, false] rfl rfl (any_of HT_.out (by kernel_rfl)) (fun _ _ _ h => h) (Or.inl ⟨by rfl, ?_⟩) ?_ ?_
             rotate_left
             ·intro w'
              go_simp
              with_reducible rfl
             rotate_left
             ·simp only [Act.put, List.setIfInBounds_toArray, List.set_cons_zero, List.set_cons_succ, i64_w, i32_w]
              rfl
             refine pure_ (i := 2) (N := some 41) (v := ?_) (a' := ?_) #[true, true, true, false, false, false, false, false, false, false, false, false, false, false, false] rfl rfl (any_of HT_.out (by kernel_rfl)) (fun _ _ _ h => h) (Or.inl ⟨by rfl, ?_⟩) ?_ ?_
             rotate_left
             ·intro w'
              go_simp
              with_reducible rfl
             rotate_left
             ·simp only [Act.put, List.setIfInBounds_toArray, List.set_cons_zero, List.set_cons_succ, i64_w, i32_w]
              rfl
             refine pure_ (i := 3) (N := some 42) (v := ?_) (a' := ?_) #[true, true, true, true, false, false, false, false, false, false, false, false, false, false, false] rfl rfl (any_of HT_.out (by kernel_rfl)) (fun _ _ _ h => h) (Or.inl ⟨by rfl, ?_⟩) ?_ ?_
             rotate_left
             ·intro w'
              go_simp
              with_reducible rfl
             rotate_left
             ·simp only [Act.put, List.setIfInBounds_toArray, List.set_cons_zero, List.set_cons_succ, i64_w, i32_w]
              rfl
             refine pure_ (i := 4) (N := some 43) (v := ?_) (a' := ?_) #[true, true, true, true, true, false, false, false, false, false, false, false, false, false, false] rfl rfl (any_of HT_.out (by kernel_rfl)) (fun _ _ _ h => h) (Or.inl ⟨by rfl, ?_⟩) ?_ ?_
             rotate_left
             ·intro w'
              go_simp
              with_reducible rfl
             rotate_left
             ·simp only [Act.put, List.setIfInBounds_toArray, List.set_cons_zero, List.set_cons_succ, i64_w, i32_w]
              rfl
             refine pure_ (i := 6) (N := some 45) (v := ?_) (a' := ?_) #[true, true, true, true, true, false, true, false, false, false, false, false, false, false, false] rfl rfl (any_of HT_.out (by kernel_rfl)) (fun _ _ _ h => h) (Or.inl ⟨by rfl, ?_⟩) ?_ ?_
             rotate_left
             ·intro w'
              go_simp
              with_reducible rfl
             rotate_left
             ·simp only [Act.put, List.setIfInBounds_toArray, List.set_cons_zero, List.set_cons_succ, i64_w, i32_w]
              rfl
             refine pure_ (i := 8) (N := some 47) (v := ?_) (a' := ?_) #[true, true, true, true, true, false, true, false, true, false, false, false, false, false, false] rfl rfl (any_of HT_.out (by kernel_rfl)) (fun _ _ _ h => h) (Or.inl ⟨by rfl, ?_⟩) ?_ ?_
             rotate_left
             ·intro w'
              go_simp
              with_reducible rfl
             rotate_left
             ·simp only [Act.put, List.setIfInBounds_toArray, List.set_cons_zero, List.set_cons_succ, i64_w, i32_w]
              rfl
             refine pure_ (i := 12) (N := some 51) (v := ?_) (a' := ?_) #[true, true, true, true, true, false, true, false, true, false, false, false, true, false, false] rfl rfl (any_of HT_.out (by kernel_rfl)) (fun _ _ _ h => h) (Or.inl ⟨by rfl, ?_⟩) ?_ ?_
             rotate_left
             ·intro w'
              go_simp
              with_reducible rfl
             rotate_left
             ·simp only [Act.put, List.setIfInBounds_toArray, List.set_cons_zero, List.set_cons_succ, i64_w, i32_w]
              rfl
             refine take_ (i := 5) (N := some 44) (v := ?_) (a' := ?_) #[true, true, true, true, true, true, true, false, true, false, false, false, true, false, false] rfl rfl (take_ofW HT_.out HW_.out (by kernel_rfl)) (fun _ _ _ h => h) (Or.inl ⟨by rfl, ?_⟩) hHeld ?_ ?_
             rotate_left
             ·rintro w' ⟨s0, s1, s2⟩
              go_simp
              with_reducible rfl
             rotate_left
             ·simp only [Act.put, List.setIfInBounds_toArray, List.set_cons_zero, List.set_cons_succ, i64_w, i32_w]
              rfl
             refine take_ (i := 7) (N := some 46) (v := ?_) (a' := ?_) #[true, true, true, true, true, true, true, true, true, false, false, false, true, false, false] rfl rfl (take_ofW HT_.out HW_.out (by kernel_rfl)) (fun _ _ _ h => h) (Or.inl ⟨by rfl, ?_⟩) hHeld ?_ ?_
             rotate_left
             ·rintro w' ⟨s0, s1, s2⟩
              go_simp
              with_reducible rfl
             rotate_left
             ·simp only [Act.put, List.setIfInBounds_toArray, List.set_cons_zero, List.set_cons_succ, i64_w, i32_w]
              rfl
             refine one_ (i := 9) (N := some 48) #[true, true, true, true, true, true, true, true, true, true, false, false, true, false, false] rfl rfl (one_of HT_.out (by kernel_rfl)) (by decide) (fun K hK => ?_)
             refine goes_ Tryz.func86 (by kernel_rfl) rfl #[.agg #[.bool a1_0, .slice A1_1 l1_1.length c1_1], .int .i64 x9_2] (by rfl) rfl rfl argt ?_
             with_reducible refine (turnstoneref01_digit.calls a1_0 _ _ l1_1 x9_2 t302 _ ?side1 ?side2 A38.out).mono ?_
             (case side1 => exact (ct (Kd.C_below HR1_1.out HB.out)))
             (case side2 => exact HC1_1.out)
             rintro e w45 ⟨rfl, hb⟩
             have HS2_ := (hb.cell (World.block_lt_of_cell? _ _ (hHeld.2.2))).trans (hHeld.2.2)
             refine ⟨_, rfl, ?_⟩
             replace HO_5 := rb HO_5 hb
             replace BK287 := blkb BK287 hb
             replace BK288 := blkb BK288 hb
             replace BK289 := blkb BK289 hb
             replace HB := belb HB hb
             (try clear hb)
             (try clear hb2)
             (try clear hk)
             (try clear hi)
             refine hK.out _ _ ⟨bc BK288 0, bc BK288 1, HS2_⟩ (fun hHeld => ?_)
             clear hK K
             refine norm_ (a' := ?_) ?_ ?_
             rotate_left
             ·show Act.put _ (some 48) _ = _
              simp only [Act.put, List.setIfInBounds_toArray, List.set_cons_zero, List.set_cons_succ, i64_w, i32_w]
              rfl
             refine pure_ (i := 10) (N := some 49) (v := ?_) (a' := ?_) #[true, true, true, true, true, true, true, true, true, true, true, false, true, false, false] rfl rfl (any_of HT_.out (by kernel_rfl)) (fun _ _ _ h => h) (Or.inl ⟨by rfl, ?_⟩) ?_ ?_
             rotate_left
             ·intro w'
              go_simp
              with_reducible rfl
             rotate_left
             ·simp only [Act.put, List.setIfInBounds_toArray, List.set_cons_zero, List.set_cons_succ, i64_w, i32_w]
              rfl
             refine pure_ (i := 11) (N := some 50) (v := ?_) (a' := ?_) #[true, true, true, true, true, true, true, true, true, true, true, true, true, false, false] rfl rfl (any_of HT_.out (by kernel_rfl)) (fun _ _ _ h => h) (Or.inl ⟨by rfl, ?_⟩) ?_ ?_
             rotate_left
             ·intro w'
              go_simp
              with_reducible rfl
             rotate_left
             ·simp only [Act.put, List.setIfInBounds_toArray, List.set_cons_zero, List.set_cons_succ, i64_w, i32_w]
              rfl
             refine pure_ (i := 13) (N := some 52) (v := ?_) (a' := ?_) #[true, true, true, true, true, true, true, true, true, true, true, true, true, true, false] rfl rfl (any_of HT_.out (by kernel_rfl)) (fun _ _ _ h => h) (Or.inl ⟨by rfl, ?_⟩) ?_ ?_
             rotate_left
             ·intro w'
              go_simp
              with_reducible rfl
             rotate_left
             ·simp only [Act.put, List.setIfInBounds_toArray, List.set_cons_zero, List.set_cons_succ, i64_w, i32_w]
              rfl
             refine pure_ (i := 14) (N := some 10) (v := ?_) (a' := ?_) #[true, true, true, true, true, true, true, true, true, true, true, true, true, true, true] rfl rfl (any_of HT_.out (by kernel_rfl)) (fun _ _ _ h => h) (Or.inl ⟨by rfl, ?_⟩) ?_ ?_
             rotate_left
             ·intro w'
              go_simp
              with_reducible rfl
             rotate_left
             ·simp only [Act.put, List.setIfInBounds_toArray, List.set_cons_zero, List.set_cons_succ, i64_w, i32_w]
              rfl
             refine done_ (done_of HT_.out (by kernel_rfl)) ?_
             have p39 : 0 ≤ ((ji35) : Int) := of_decide_eq_true (by first | (with_reducible assumption) | assumption)
             have q39 : ((ji35) : Int) < ((x5_2.length : Int) : Int) := of_decide_eq_true (by first | (with_reducible assumption) | assumption)
             obtain ⟨go39, co39, eo39, gb39, gl39, cl39, HG39⟩ := Kd.R_form HO_5.out (by omega)
             (first | cases eo39 | (injection eo39 with ea_ en_ ec_; (first | subst ea_ | (injection ea_ with ea_; subst ea_)); subst ec_; clear en_))
             have GB39 := Aside0.mk gb39
             have GG39 := Aside0.mk HG39
             clear gb39 gl39 HG39
             (first | simp only [add_plain] at hx301_0 | skip)
             obtain ⟨hx39_0, hf39_0⟩ := Kd.R_celln 0 HO_5.out ((ji35) : Int) p39 q39
             replace p39 := eq_true p39
             replace q39 := eq_true q39
             obtain ⟨hy46_, hz46_⟩ := Kd.R_celln 0 HO_5.out ((ji35) : Int) (of_decide_eq_true (by first | (with_reducible assumption) | assumption)) (of_decide_eq_true (by first | (with_reducible assumption) | assumption))
             have HP46 := Kd.R_putg HO_5.out ((ji35) : Int) (Int.tmod (wrap64 ((wrap64 ((rd x5_2 (ji35)) + (wrap64 ((rd l0_1 x23_1) * t302)))) + x8_2)) 10000)
             try go_wp2_with (first | ((with_reducible refine gate_store (t := 3) (p := 59) rfl ?_); refine store_event (t := 3) (p := 59) (v := ?vo_w47) (w1 := (w45.setCell ⟨go39, ((ji35) : Int).toNat, none⟩ (.int .i64 (Int.tmod (wrap64 ((wrap64 ((rd x5_2 (ji35)) + (wrap64 ((rd l0_1 x23_1) * t302)))) + x8_2)) 10000)))) ?hg ?ho ?hn ?hr ?_; (case ho => rfl); (case hg => rfl); (case hn => rfl); (case hr => first | (go_simp; done) | (go_simp; rfl)); intro w47 hw; have hg : w45.grownBy w47 (some go39) := (by rw [hw]; exact HP46.2); have hp_ : Kd.R (Kd.int .i64) 3 w47 w.heap.size (fun k_ => (w.heap.size ≤ k_)) (.slice (some ⟨go39, 0, none⟩) x5_2.length co44) y303 := (by rw [hw, Ny303.out]; exact HP46.1); clear HP46; replace BK287 := Aside0.mk (blk_grown (blkt BK287) hg (Kd.R_ne HO_5.out BK287.out (by decide))); replace BK288 := Aside0.mk (blk_grown (blkt BK288) hg (Kd.R_ne HO_5.out BK288.out (by decide))); replace BK289 := Aside0.mk (blk_grown (blkt BK289) hg (Kd.R_ne HO_5.out BK289.out (by decide))); replace HB := Aside0.mk ((by rw [hw]; exact below_set (HB.out) GB39.out : Below w.heap.size w w47)); replace HO_5 := Aside0.mk (hp_); clear hg hw hp_))
             go_roundg k2
             case measure => have := HK1.out; have := HK2.out; omega
             case rel => exact ⟨(y303), (wrap64 (Int.tdiv (wrap64 ((wrap64 ((rd x5_2 (ji35)) + (wrap64 ((rd l0_1 x23_1) * t302)))) + x8_2)) 10000)), (wrap64 (x9_2 + 1)), (by first | rfl | (simp; done) | (simp only [← hji35]; first | rfl | (simp; done) | (simp [mn, mx]; done)) | (simp [*]; done)), (by first | rfl | (simp; done) | (simp [*]; done)), H', ⟨by have := HK1.out; have := HK2.out; omega⟩, ⟨by (with_reducible repeat (first | apply Kd.R_alloc | apply Kd.R_drewN | apply Kd.R_drew)); exact HO_5.out⟩, ⟨blkt BK287⟩, ⟨blkt BK288⟩, ⟨blkt BK289⟩, ⟨belt HB⟩⟩
            rw [if_neg c37] at H
            exact absurd H (by simp)
           rw [if_neg c36] at H
           exact absurd H (by simp)
          rw [if_neg c34] at H
          have c34b0 : decide (0 < x8_2) = false := decide_eq_false c34
          clear c34
          have H' := Aside0.mk H
          clear H
          have hnb48 := NB288_287.out
          have hnc48 := NB287_288.out
          have hnb49 := NB288_289.out
          have hnc49 := NB289_288.out
          have hcz50_0 : wr.cell? ⟨gb288, 0, none⟩ = some (.bool a1_0) := bc BK288 0
          have hcz50_1 : wr.cell? ⟨gb288, 1, none⟩ = some (.slice A1_1 l1_1.length c1_1) := bc BK288 1
          have hfz50_0 := blk_frozen BK288.out 0
          have hfz50_1 := blk_frozen BK288.out 1
          go_wp2
          go_roundg k2
          case measure => have := HK1.out; have := HK2.out; omega
          case rel => exact ⟨(x5_2), (wrap64 (x23_1 + 1)), (by first | rfl | (simp; done) | (simp [*]; done)), H', ⟨by have := HK1.out; have := HK2.out; omega⟩, ⟨by (with_reducible repeat (first | apply Kd.R_alloc | apply Kd.R_drewN | apply Kd.R_drew)); exact HO_5.out⟩, ⟨blkt BK287⟩, ⟨blkt BK288⟩, ⟨blkt BK289⟩, ⟨belt HB⟩⟩
       rw [if_neg c19] at H
       exact absurd H (by simp)
      rw [if_neg c18] at H
      exact absurd H (by simp)
     rw [if_neg c17] at H
     have c17b0 : decide (x23_1 < (l0_1.length : Int)) = false := decide_eq_false c17
     clear c17
     replace H := Option.bind_eq_some_iff.mp H
     obtain ⟨⟨t293, t294⟩, A510, H⟩ := H
     replace H : (some (t293, t294)) = some (r1, r2) := H
     have A51 := Aside0.mk A510
     clear A510
     simp only [Option.some.injEq, Prod.mk.injEq] at H
     obtain ⟨rfl, rfl⟩ := H
     have hnb52 := NB287_288.out
     have hnc52 := NB288_287.out
     have hnb53 := NB287_289.out
     have hnc53 := NB289_287.out
     have hcz54_0 : wr.cell? ⟨gb287, 0, none⟩ = some (.bool a0_0) := bc BK287 0
     have hcz54_1 : wr.cell? ⟨gb287, 1, none⟩ = some (.slice A0_1 l0_1.length c0_1) := bc BK287 1
     have hfz54_0 := blk_frozen BK287.out 0
     have hfz54_1 := blk_frozen BK287.out 1
     have hnb55 := NB288_289.out
     have hnc55 := NB289_288.out
     have hcz56_0 : wr.cell? ⟨gb288, 0, none⟩ = some (.bool a1_0) := bc BK288 0
     have hcz56_1 : wr.cell? ⟨gb288, 1, none⟩ = some (.slice A1_1 l1_1.length c1_1) := bc BK288 1
     have hfz56_0 := blk_frozen BK288.out 0
     have hfz56_1 := blk_frozen BK288.out 1
     obtain ⟨Ao57, co57, eo57⟩ := Kd.R_slice HO_5.out
     subst eo57
     go_wp2_with (first | ((with_reducible refine gate_callee (f := 67) rfl ?_); refine goesL_ (some 70) rfl rfl Tryz.func67 (by kernel_rfl) rfl #[.agg #[.bool (a0_0 != a1_0), .slice Ao57 x5_1.length co57]] rfl argt ?_; (with_reducible refine (turnstoneref01_trim.calls k1 (a0_0 != a1_0) (fun k_ => some k_ = (.slice Ao57 x5_1.length co57 : Value).ownBlock) _ _ x5_1 t293 t294 _ ?side1 A51.out).mono ?_); (case side1 => exact Kd.R_V (Kd.R_tight rfl (Kd.R_types (Kd.R_types (Kd.R_types (HO_5.out) BK287.out (by decide)) BK288.out (by decide)) BK289.out (by decide)))); rintro e w58 ⟨v295, rfl, ho0, hb⟩; refine ⟨_, rfl, ?_⟩; have HO296 := Aside0.mk (Kd.V_lower (Kd.V_mono (ok' := fun k_ => (w.heap.size ≤ k_) ∧ k_ ≠ gb287 ∧ k_ ≠ gb288 ∧ k_ ≠ gb289) ho0 (fun k_ hk_ => ⟨Or.elim hk_ (fun hs_ => ((Kd.R_types (Kd.R_types (Kd.R_types (HO_5.out) BK287.out (by decide)) BK288.out (by decide)) BK289.out (by decide)).1 k_ hs_.symm).1.1.1) (fun hn_ => (Nat.le_trans (below_size (belt HB)) hn_)), Or.elim hk_ (fun hs_ => ((Kd.R_types (Kd.R_types (Kd.R_types (HO_5.out) BK287.out (by decide)) BK288.out (by decide)) BK289.out (by decide)).1 k_ hs_.symm).1.1.2) (fun hn_ => (Kd.freshB (blkt BK287) k_ hn_)), Or.elim hk_ (fun hs_ => ((Kd.R_types (Kd.R_types (Kd.R_types (HO_5.out) BK287.out (by decide)) BK288.out (by decide)) BK289.out (by decide)).1 k_ hs_.symm).1.2) (fun hn_ => (Kd.freshB (blkt BK288) k_ hn_)), Or.elim hk_ (fun hs_ => ((Kd.R_types (Kd.R_types (Kd.R_types (HO_5.out) BK287.out (by decide)) BK288.out (by decide)) BK289.out (by decide)).1 k_ hs_.symm).2) (fun hn_ => (Kd.freshB (blkt BK289) k_ hn_))⟩)) (below_size (belt HB))); replace HO_5 := rb HO_5 hb; replace BK287 := blkb BK287 hb; replace BK288 := blkb BK288 hb; replace BK289 := blkb BK289 hb; replace HB := belb HB hb; (try clear hb); (try clear hb2); (try clear hk); (try clear hi); (try clear ho0); have hcz59_0 : w58.cell? ⟨gb289, 0, none⟩ = some (.bool false) := bc BK289 0; have hcz59_1 : w58.cell? ⟨gb289, 1, none⟩ = some (.slice none 0 0) := bc BK289 1; have hfz59_0 := blk_frozen BK289.out 0; have hfz59_1 := blk_frozen BK289.out 1; obtain ⟨Ao60, co60, eo60⟩ := Kd.V_slice HO296.out; subst eo60))
     refine bodyPost_ret (results_cell_row rfl _ _ gb289 51 #[.bool t293, .slice Ao60 t294.length co60] (0, 0) _ rfl (by (with_reducible repeat (first | refine blk_drewN ?_ _ | refine blk_drew ?_ | refine blk_alloc ?_ _)); refine blk_put (cs := #[.bool t293, .slice none 0 0]) ?_ 1 _ rfl; (with_reducible repeat (first | refine blk_drewN ?_ _ | refine blk_drew ?_ | refine blk_alloc ?_ _)); refine blk_put (cs := #[.bool false, .slice none 0 0]) ?_ 0 _ rfl; exact blkt BK289) Tryz.underlying51 rfl (by kernel_rfl)) rfl ?_
     exact ⟨_, by first | rfl | (simp [errW_none, errW_some] <;> rfl) | (simp only [← hji3]; first | rfl | (simp [errW_none, errW_some] <;> rfl)) | (simp [*, errW_none, errW_some] <;> rfl), by (with_reducible repeat (first | apply Kd.V_alloc | apply Kd.V_drewN | apply Kd.V_drew)); exact Kd.V_mono (Kd.V_far (p := ⟨gb289, 1, none⟩) (Kd.V_far (p := ⟨gb289, 0, none⟩) (Kd.V_mono HO296.out (fun k_ hk => (⟨hk, hk.2.2.2⟩ : _ ∧ k_ ≠ gb289))) (fun _ hk => hk.2) (.bool t293)) (fun _ hk => hk.2) (.slice Ao60 t294.length co60)) (fun _ hk => hk.1.1), belt HB⟩
  rw [if_neg c5] at H
  exact absurd H (by simp)
 rw [if_neg c4] at H
 exact absurd H (by simp)


/-! ### turnstoneref01_Wide: function 71 -/
def turnstoneref01_Wide.f (k : Nat) (a0 : Int) (a1 : Int) : Option (Bool × List Int) := (turnstoneref01_U.f k 4294967296).bind fun bt305 => ((turnstoneref01_U.f k 4294967296).bind fun bt309 => ((turnstoneref01_Mul.f k bt305.1 bt305.2 bt309.1 bt309.2).bind fun bt313 => ((turnstoneref01_N.f k a0).bind fun bt318 => ((turnstoneref01_Mul.f k bt318.1 bt318.2 bt313.1 bt313.2).bind fun bt322 => ((turnstoneref01_U.f k a1).bind fun bt326 => ((turnstoneref01_Add.f k bt322.1 bt322.2 bt326.1 bt326.2).bind fun bt330 => (some (bt330.1, bt330.2))))))))
theorem turnstoneref01_Wide.mono : ∀ a0 a1 k, LeO (turnstoneref01_Wide.f k a0 a1) (turnstoneref01_Wide.f (k + 1) a0 a1) := by
 intro a0 a1 k
 unfold turnstoneref01_Wide.f
 repeat' first
   | (with_reducible exact turnstoneref01_Add.mono _ _ _ _ _)
   | (with_reducible exact turnstoneref01_Mul.mono _ _ _ _ _)
   | (with_reducible exact turnstoneref01_N.mono _ _)
   | (with_reducible exact turnstoneref01_U.mono _ _)
   | (with_reducible exact LeO.refl _)
   | (with_reducible exact LeO.none _)
   | (with_reducible refine LeO.ite ?_ ?_)
   | (with_reducible refine LeO.bind ?_ (fun _ => ?_))
   | exact turnstoneref01_Add.mono _ _ _ _ _
   | exact turnstoneref01_Mul.mono _ _ _ _ _
   | exact turnstoneref01_N.mono _ _
   | exact turnstoneref01_U.mono _ _
   | exact LeO.none _
   | refine LeO.ite ?_ ?_
   | refine LeO.bind ?_ (fun _ => ?_)
def turnstoneref01_Wide.T2 : Bool × List (List Nat × List Nat) := (true, [([], []), ([0], [0]), ([], []), ([1, 2, 1], [1, 2]), ([], []), ([4, 3], [4]), ([3, 5, 5], [3, 5]), ([6, 6, 0, 1, 2, 3, 4, 5, 6], [6])])
def turnstoneref01_Wide.B2 : List Nat := [0, 1, 0, 7, 0, 31, 63, 127]
theorem turnstoneref01_Wide.tab2 : rtab .any (opsOf Tryz.f71 2) = turnstoneref01_Wide.T2 := by kernel_rfl
theorem turnstoneref01_Wide.bits2 : waitsOk turnstoneref01_Wide.T2.2 turnstoneref01_Wide.B2 = true := by kernel_rfl
set_option maxHeartbeats 8000000 in
set_option maxRecDepth 100000 in
theorem turnstoneref01_Wide.calls (k : Nat) (a0 : Int) (a1 : Int) (r1 : Bool) (r2 : List Int) (w : World) (h : turnstoneref01_Wide.f k a0 a1 = some (r1, r2)) :
  Calls Tryz.prog 71 #[.int .i64 a0, .int .u64 a1] w fun e w' => ∃ v1_ : Value, e = .returned (.agg #[.bool r1, v1_]) ∧ Kd.V (Kd.int .i64) 3 w' w.heap.size (fun k_ => (w.heap.size ≤ k_)) v1_ r2 ∧ Below w.heap.size w w' := by
 have hu51 := Tryz.underlying51
 have HB := Aside0.mk (Below.refl w.heap.size w)
 have H : ((turnstoneref01_U.f k 4294967296).bind fun bt305 => ((turnstoneref01_U.f k 4294967296).bind fun bt309 => ((turnstoneref01_Mul.f k bt305.1 bt305.2 bt309.1 bt309.2).bind fun bt313 => ((turnstoneref01_N.f k a0).bind fun bt318 => ((turnstoneref01_Mul.f k bt318.1 bt318.2 bt313.1 bt313.2).bind fun bt322 => ((turnstoneref01_U.f k a1).bind fun bt326 => ((turnstoneref01_Add.f k bt322.1 bt322.2 bt326.1 bt326.2).bind fun bt330 => (some (bt330.1, bt330.2))))))))) = some (r1, r2) := h
 clear h
 replace H := Option.bind_eq_some_iff.mp H
 obtain ⟨⟨t305, t306⟩, A30, H⟩ := H
 replace H : ((turnstoneref01_U.f k 4294967296).bind fun bt309 => ((turnstoneref01_Mul.f k t305 t306 bt309.1 bt309.2).bind fun bt313 => ((turnstoneref01_N.f k a0).bind fun bt318 => ((turnstoneref01_Mul.f k bt318.1 bt318.2 bt313.1 bt313.2).bind fun bt322 => ((turnstoneref01_U.f k a1).bind fun bt326 => ((turnstoneref01_Add.f k bt322.1 bt322.2 bt326.1 bt326.2).bind fun bt330 => (some (bt330.1, bt330.2)))))))) = some (r1, r2) := H
 have A3 := Aside0.mk A30
 clear A30
 replace H := Option.bind_eq_some_iff.mp H
 obtain ⟨⟨t309, t310⟩, A40, H⟩ := H
 replace H : ((turnstoneref01_Mul.f k t305 t306 t309 t310).bind fun bt313 => ((turnstoneref01_N.f k a0).bind fun bt318 => ((turnstoneref01_Mul.f k bt318.1 bt318.2 bt313.1 bt313.2).bind fun bt322 => ((turnstoneref01_U.f k a1).bind fun bt326 => ((turnstoneref01_Add.f k bt322.1 bt322.2 bt326.1 bt326.2).bind fun bt330 => (some (bt330.1, bt330.2))))))) = some (r1, r2) := H
 have A4 := Aside0.mk A40
 clear A40
 replace H := Option.bind_eq_some_iff.mp H
 obtain ⟨⟨t313, t314⟩, A50, H⟩ := H
 replace H : ((turnstoneref01_N.f k a0).bind fun bt318 => ((turnstoneref01_Mul.f k bt318.1 bt318.2 t313 t314).bind fun bt322 => ((turnstoneref01_U.f k a1).bind fun bt326 => ((turnstoneref01_Add.f k bt322.1 bt322.2 bt326.1 bt326.2).bind fun bt330 => (some (bt330.1, bt330.2)))))) = some (r1, r2) := H
 have A5 := Aside0.mk A50
 clear A50
 replace H := Option.bind_eq_some_iff.mp H
 obtain ⟨⟨t318, t319⟩, A60, H⟩ := H
 replace H : ((turnstoneref01_Mul.f k t318 t319 t313 t314).bind fun bt322 => ((turnstoneref01_U.f k a1).bind fun bt326 => ((turnstoneref01_Add.f k bt322.1 bt322.2 bt326.1 bt326.2).bind fun bt330 => (some (bt330.1, bt330.2))))) = some (r1, r2) := H
 have A6 := Aside0.mk A60
 clear A60
 replace H := Option.bind_eq_some_iff.mp H
 obtain ⟨⟨t322, t323⟩, A70, H⟩ := H
 replace H : ((turnstoneref01_U.f k a1).bind fun bt326 => ((turnstoneref01_Add.f k t322 t323 bt326.1 bt326.2).bind fun bt330 => (some (bt330.1, bt330.2)))) = some (r1, r2) := H
 have A7 := Aside0.mk A70
 clear A70
 replace H := Option.bind_eq_some_iff.mp H
 obtain ⟨⟨t326, t327⟩, A80, H⟩ := H
 replace H : ((turnstoneref01_Add.f k t322 t323 t326 t327).bind fun bt330 => (some (bt330.1, bt330.2))) = some (r1, r2) := H
 have A8 := Aside0.mk A80
 clear A80
 replace H := Option.bind_eq_some_iff.mp H
 obtain ⟨⟨t330, t331⟩, A90, H⟩ := H
 replace H : (some (t330, t331)) = some (r1, r2) := H
 have A9 := Aside0.mk A90
 clear A90
 simp only [Option.some.injEq, Prod.mk.injEq] at H
 obtain ⟨rfl, rfl⟩ := H
 go_enter Tryz.func71, Tryz.ntmps71
 try go_wp2_with (first | ((with_reducible refine gate_dst (N := 4) rfl ?_); refine box_event ?hg (N := 4) ?hd (cs := #[.bool false, .slice none 0 0]) (t := 51) ?hr ?_; (case hd => rfl); (case hg => rfl); (case hr => first | (go_simp; done) | (go_simp; rfl)); intro gb304 hg w10 hbox hb; have BK304 := Aside0.mk (hbox); have GW304 := bels HB hg; have GE304 := bels HB hg; replace HB := belb HB hb; clear hb hbox hg) | ((with_reducible refine gate_callee (f := 62) rfl ?_); refine goesL_ (some 6) rfl rfl Tryz.func62 (by kernel_rfl) rfl #[.int .u64 4294967296] rfl argt ?_; (with_reducible refine (turnstoneref01_U.calls k 4294967296 t305 t306 _ A3.out).mono ?_); rintro e w11 ⟨v307, rfl, ho0, hb⟩; refine ⟨_, rfl, ?_⟩; have HO308 := Aside0.mk (Kd.R_lower (Kd.R_newM (M := fun k_ => (w.heap.size ≤ k_)) ho0 (below_size (belt HB)) (fun k_ h_ => h_)) (below_size (belt HB))); replace BK304 := blkb BK304 hb; replace HB := belb HB hb; (try clear hb); (try clear hb2); (try clear hk); (try clear hi); (try clear ho0)) | ((with_reducible refine gate_callee (f := 62) rfl ?_); refine goesL_ (some 7) rfl rfl Tryz.func62 (by kernel_rfl) rfl #[.int .u64 4294967296] rfl argt ?_; (with_reducible refine (turnstoneref01_U.calls k 4294967296 t309 t310 _ A4.out).mono ?_); rintro e w12 ⟨v311, rfl, ho0, hb⟩; refine ⟨_, rfl, ?_⟩; have HO312 := Aside0.mk (Kd.R_lower (Kd.R_new' (Kd.R_newM (M := fun k_ => (w.heap.size ≤ k_)) ho0 (below_size (belt HB)) (fun k_ h_ => h_)) (Kd.R_lt (rt HO308))) (below_size (belt HB))); replace BK304 := blkb BK304 hb; replace HO308 := Aside0.mk (Kd.R_elder' (rt HO308) (Kd.R_base ho0) hb); replace HB := belb HB hb; (try clear hb); (try clear hb2); (try clear hk); (try clear hi); (try clear ho0); obtain ⟨Ao13, co13, eo13⟩ := Kd.R_slice HO308.out; subst eo13; obtain ⟨Ao14, co14, eo14⟩ := Kd.R_slice HO312.out; subst eo14) | ((with_reducible refine gate_callee (f := 61) rfl ?_); refine goesL_ (some 8) rfl rfl Tryz.func61 (by kernel_rfl) rfl #[.agg #[.bool t305, .slice Ao13 t306.length co13], .agg #[.bool t309, .slice Ao14 t310.length co14]] rfl argt ?_; (with_reducible refine (turnstoneref01_Mul.calls k t305 _ _ t306 t309 _ _ t310 t313 t314 _ ?side1 ?side2 ?side3 ?side4 A5.out).mono ?_); (case side1 => repeat (first | exact (Kd.R_reads' HO308.out).2.2 | (with_reducible refine Kd.C_alloc ?_ _) | (with_reducible refine Kd.C_drewN ?_ _) | (with_reducible refine Kd.C_drew ?_))); (case side2 => exact (Kd.R_reads' HO308.out).2.1); (case side3 => repeat (first | exact (Kd.R_reads' HO312.out).2.2 | (with_reducible refine Kd.C_alloc ?_ _) | (with_reducible refine Kd.C_drewN ?_ _) | (with_reducible refine Kd.C_drew ?_))); (case side4 => exact (Kd.R_reads' HO312.out).2.1); rintro e w15 ⟨v315, rfl, ho0, hb⟩; refine ⟨_, rfl, ?_⟩; have HO316 := Aside0.mk (Kd.V_lower (Kd.V_mono (ok' := fun k_ => (w.heap.size ≤ k_) ∧ some k_ ≠ (.slice Ao13 t306.length co13 : Value).ownBlock ∧ some k_ ≠ (.slice Ao14 t310.length co14 : Value).ownBlock ∧ k_ ≠ gb304) ho0 (fun k_ hk_ => ⟨(Nat.le_trans (below_size (belt HB)) hk_), (Kd.fresh' (Kd.R_lt (rt HO308)) k_ hk_), (Kd.fresh' (Kd.R_lt (rt HO312)) k_ hk_), (Kd.freshB (blkt BK304) k_ hk_)⟩)) (below_size (belt HB))); replace HO308 := rb HO308 hb; replace HO312 := rb HO312 hb; replace BK304 := blkb BK304 hb; replace HB := belb HB hb; (try clear hb); (try clear hb2); (try clear hk); (try clear hi); (try clear ho0)) | ((with_reducible refine gate_dst (N := 5) rfl ?_); refine box_event ?hg (N := 5) ?hd (cs := #[.bool false, .slice none 0 0]) (t := 51) ?hr ?_; (case hd => rfl); (case hg => rfl); (case hr => first | (go_simp; done) | (go_simp; rfl)); intro gb317 hg w16 hbox hb; replace HO308 := rb HO308 hb; replace HO312 := rb HO312 hb; replace HO316 := Aside0.mk (Kd.V_below (Kd.V_elderB (vt HO316) gb317 (Nat.le_of_eq hg.symm)) hb); have BK317 := Aside0.mk (hbox); have GW317 := bels HB hg; have GE317 := bels HB hg; have NB304_317 := blkl BK304 hg; have NB317_304 := blkg BK304 hg; replace BK304 := blkb BK304 hb; replace HB := belb HB hb; clear hb hbox hg; have hnb17 := NB317_304.out; have hnc17 := NB304_317.out; have hcz18_0 : w16.cell? ⟨gb317, 0, none⟩ = some (.bool false) := bc BK317 0; have hcz18_1 : w16.cell? ⟨gb317, 1, none⟩ = some (.slice none 0 0) := bc BK317 1; have hfz18_0 := blk_frozen BK317.out 0; have hfz18_1 := blk_frozen BK317.out 1; obtain ⟨Ao19, co19, eo19⟩ := Kd.V_slice HO316.out; subst eo19))
 have n0_ : Aside0 (Kd.R (Kd.int .i64) 3 ((w16.setCell ⟨gb317, 0, none⟩ (.bool t313)).setCell ⟨gb317, 1, none⟩ (.slice Ao19 t314.length co19)) w.heap.size (fun k_ => (w.heap.size ≤ k_) ∧ some k_ ≠ (.slice Ao14 t310.length co14 : Value).ownBlock) (.slice Ao13 t306.length co13) t306) := ⟨by (with_reducible repeat (first | apply Kd.R_alloc | apply Kd.R_drewN | apply Kd.R_drew)); exact Kd.R_mono (Kd.R_far (p := ⟨gb317, 1, none⟩) (Kd.R_far (p := ⟨gb317, 0, none⟩) (Kd.R_types HO308.out BK317.out (by decide)) (fun _ hk => hk.2) (.bool t313)) (fun _ hk => hk.2) (.slice Ao19 t314.length co19)) (fun _ hk => ⟨hk.1.1.1, hk.1.2⟩)⟩
 have n1_ : Aside0 (Kd.R (Kd.int .i64) 3 ((w16.setCell ⟨gb317, 0, none⟩ (.bool t313)).setCell ⟨gb317, 1, none⟩ (.slice Ao19 t314.length co19)) w.heap.size (fun k_ => (w.heap.size ≤ k_) ∧ some k_ ≠ (.slice Ao13 t306.length co13 : Value).ownBlock) (.slice Ao14 t310.length co14) t310) := ⟨by (with_reducible repeat (first | apply Kd.R_alloc | apply Kd.R_drewN | apply Kd.R_drew)); exact Kd.R_mono (Kd.R_far (p := ⟨gb317, 1, none⟩) (Kd.R_far (p := ⟨gb317, 0, none⟩) (Kd.R_types HO312.out BK317.out (by decide)) (fun _ hk => hk.2) (.bool t313)) (fun _ hk => hk.2) (.slice Ao19 t314.length co19)) (fun _ hk => ⟨hk.1.1.1, hk.1.2⟩)⟩
 have n2_ : Aside0 (Kd.V (Kd.int .i64) 3 ((w16.setCell ⟨gb317, 0, none⟩ (.bool t313)).setCell ⟨gb317, 1, none⟩ (.slice Ao19 t314.length co19)) w.heap.size (fun k_ => (w.heap.size ≤ k_) ∧ some k_ ≠ (.slice Ao13 t306.length co13 : Value).ownBlock ∧ some k_ ≠ (.slice Ao14 t310.length co14 : Value).ownBlock ∧ k_ ≠ gb304 ∧ k_ ≠ gb317) (.slice Ao19 t314.length co19) t314) := ⟨by (with_reducible repeat (first | apply Kd.V_alloc | apply Kd.V_drewN | apply Kd.V_drew)); exact Kd.V_mono (Kd.V_far (p := ⟨gb317, 1, none⟩) (Kd.V_far (p := ⟨gb317, 0, none⟩) (Kd.V_mono HO316.out (fun k_ hk => (⟨hk, hk.2⟩ : _ ∧ k_ ≠ gb317))) (fun _ hk => hk.2) (.bool t313)) (fun _ hk => hk.2) (.slice Ao19 t314.length co19)) (fun _ hk => ⟨hk.1.1.1, ⟨hk.1.1.2.1, ⟨hk.1.1.2.2.1, ⟨hk.1.1.2.2.2, hk.1.2⟩⟩⟩⟩)⟩
 have n3_ : Aside0 (((w16.setCell ⟨gb317, 0, none⟩ (.bool t313)).setCell ⟨gb317, 1, none⟩ (.slice Ao19 t314.length co19)).heap[gb304]? = some (.cells #[.bool false, .slice none 0 0] 51 (0, 0))) := ⟨by (with_reducible repeat (first | refine blk_drewN ?_ _ | refine blk_drew ?_ | refine blk_alloc ?_ _)); refine blk_far ?_ NB304_317.out _; (with_reducible repeat (first | refine blk_drewN ?_ _ | refine blk_drew ?_ | refine blk_alloc ?_ _)); refine blk_far ?_ NB304_317.out _; exact blkt BK304⟩
 have n4_ : Aside0 (((w16.setCell ⟨gb317, 0, none⟩ (.bool t313)).setCell ⟨gb317, 1, none⟩ (.slice Ao19 t314.length co19)).heap[gb317]? = some (.cells #[.bool t313, .slice Ao19 t314.length co19] 51 (0, 0))) := ⟨by (with_reducible repeat (first | refine blk_drewN ?_ _ | refine blk_drew ?_ | refine blk_alloc ?_ _)); refine blk_put (cs := #[.bool t313, .slice none 0 0]) ?_ 1 _ rfl; (with_reducible repeat (first | refine blk_drewN ?_ _ | refine blk_drew ?_ | refine blk_alloc ?_ _)); refine blk_put (cs := #[.bool false, .slice none 0 0]) ?_ 0 _ rfl; exact blkt BK317⟩
 have n5_ : Aside0 (Below w.heap.size w ((w16.setCell ⟨gb317, 0, none⟩ (.bool t313)).setCell ⟨gb317, 1, none⟩ (.slice Ao19 t314.length co19))) := ⟨belt HB⟩
 (try clear HO308)
 (try clear HO312)
 (try clear HO316)
 (try clear BK304)
 (try clear BK317)
 (try clear HB)
 generalize ((w16.setCell ⟨gb317, 0, none⟩ (.bool t313)).setCell ⟨gb317, 1, none⟩ (.slice Ao19 t314.length co19)) = w20 at n0_ n1_ n2_ n3_ n4_ n5_ ⊢
 have HO308 := n0_
 have HO312 := n1_
 have HO316 := n2_
 have BK304 := n3_
 have BK317 := n4_
 have HB := n5_
 clear n0_ n1_ n2_ n3_ n4_ n5_
 replace HO308 := Aside0.mk (Kd.R_drew HO308.out)
 replace HO312 := Aside0.mk (Kd.R_drew HO312.out)
 replace HO316 := Aside0.mk (Kd.V_drew HO316.out)
 replace BK304 := Aside0.mk (blk_drew BK304.out)
 replace BK317 := Aside0.mk (blk_drew BK317.out)
 replace HB := Aside0.mk (below_drew1 HB.out)
 refine start_ (n := 8) (S := fun w' => w'.cell? ⟨gb317, 0, none⟩ = some (.bool t313) ∧ w'.cell? ⟨gb317, 1, none⟩ = some (.slice Ao19 t314.length co19)) (ds := []) #[false, false, false, false, false, false, false, false] (by kernel_rfl) rfl rfl ⟨bc BK317 0, bc BK317 1⟩ (fun hHeld => ?_); refine with_tabW turnstoneref01_Wide.tab2 turnstoneref01_Wide.bits2 (fun HT_ HW_ => ?_)
 generalize w20.drew = w21 at HO308 HO312 HO316 BK304 BK317 HB hHeld ⊢
 refine pure_ (i := 0) (N := some 9) (v := ?_) (a' := ?_) #[true, false, false, false, false, false, false, false] rfl rfl (any_of HT_.out (by kernel_rfl)) (fun _ _ _ h => h) (Or.inl ⟨by rfl, ?_⟩) ?_ ?_
 rotate_left
 ·intro w'
  go_simp
  with_reducible rfl
 rotate_left
 ·simp only [Act.put, List.setIfInBounds_toArray, List.set_cons_zero, List.set_cons_succ, i64_w, i32_w]
  rfl
 refine pure_ (i := 4) (N := some 13) (v := ?_) (a' := ?_) #[true, false, false, false, true, false, false, false] rfl rfl (any_of HT_.out (by kernel_rfl)) (fun _ _ _ h => h) (Or.inl ⟨by rfl, ?_⟩) ?_ ?_
 rotate_left
 ·intro w'
  go_simp
  with_reducible rfl
 rotate_left
 ·simp only [Act.put, List.setIfInBounds_toArray, List.set_cons_zero, List.set_cons_succ, i64_w, i32_w]
  rfl
 refine take_ (i := 2) (N := some 11) (v := ?_) (a' := ?_) #[true, false, true, false, true, false, false, false] rfl rfl (take_ofW HT_.out HW_.out (by kernel_rfl)) (fun _ _ _ h => h) (Or.inl ⟨by rfl, ?_⟩) hHeld ?_ ?_
 rotate_left
 ·rintro w' ⟨s0, s1⟩
  go_simp
  with_reducible rfl
 rotate_left
 ·simp only [Act.put, List.setIfInBounds_toArray, List.set_cons_zero, List.set_cons_succ, i64_w, i32_w]
  rfl
 refine one_ (i := 1) (N := some 10) #[true, true, true, false, true, false, false, false] rfl rfl (one_of HT_.out (by kernel_rfl)) (by decide) (fun K hK => ?_)
 refine goes_ Tryz.func37 (by kernel_rfl) rfl #[.int .i64 a0] (by rfl) rfl rfl argt ?_
 with_reducible refine (turnstoneref01_N.calls k a0 t318 t319 _ A6.out).mono ?_
 rintro e w22 ⟨v320, rfl, ho0, hb⟩
 refine ⟨_, rfl, ?_⟩
 replace HO316 := Aside0.mk (Kd.V_elder' (vt HO316) (Kd.R_base ho0) hb)
 have HO321 := Aside0.mk (Kd.R_lower (Kd.R_new' (Kd.R_new' (Kd.R_newM (M := fun k_ => (w.heap.size ≤ k_)) ho0 (below_size (belt HB)) (fun k_ h_ => h_)) (Kd.R_lt (rt HO308))) (Kd.R_lt (rt HO312))) (below_size (belt HB)))
 replace BK304 := blkb BK304 hb
 replace BK317 := blkb BK317 hb
 replace HO308 := Aside0.mk (Kd.R_elder' (rt HO308) (Kd.R_base ho0) hb)
 replace HO312 := Aside0.mk (Kd.R_elder' (rt HO312) (Kd.R_base ho0) hb)
 replace HB := belb HB hb
 (try clear hb)
 (try clear hb2)
 (try clear hk)
 (try clear hi)
 (try clear ho0)
 obtain ⟨Ao23, co23, eo23⟩ := Kd.R_slice HO321.out
 (first | subst eo23 | (injection eo23 with f1_ f2_ f3_; have f4_ := f1_.symm; have f5_ := f3_.symm; clear f1_ f2_ f3_; subst f4_; subst f5_))
 refine hK.out _ _ ⟨bc BK317 0, bc BK317 1⟩ (fun hHeld => ?_)
 clear hK K
 refine norm_ (a' := ?_) ?_ ?_
 rotate_left
 ·show Act.put _ (some 10) _ = _
  simp only [Act.put, List.setIfInBounds_toArray, List.set_cons_zero, List.set_cons_succ, i64_w, i32_w]
  rfl
 refine one_ (i := 3) (N := some 12) #[true, true, true, true, true, false, false, false] rfl rfl (one_of HT_.out (by kernel_rfl)) (by decide) (fun K hK => ?_)
 refine goes_ Tryz.func61 (by kernel_rfl) rfl #[.agg #[.bool t318, .slice Ao23 t319.length co23], .agg #[.bool t313, .slice Ao19 t314.length co19]] (by rfl) rfl rfl argt ?_
 with_reducible refine (turnstoneref01_Mul.calls k t318 _ _ t319 t313 _ _ t314 t322 t323 _ ?side1 ?side2 ?side3 ?side4 A7.out).mono ?_
 (case side1 => repeat (first | exact (Kd.R_reads' HO321.out).2.2 | (with_reducible refine Kd.C_alloc ?_ _) | (with_reducible refine Kd.C_drewN ?_ _) | (with_reducible refine Kd.C_drew ?_)))
 (case side2 => exact (Kd.R_reads' HO321.out).2.1)
 (case side3 => repeat (first | exact (Kd.V_reads' HO316.out).2.2 | (with_reducible refine Kd.C_alloc ?_ _) | (with_reducible refine Kd.C_drewN ?_ _) | (with_reducible refine Kd.C_drew ?_)))
 (case side4 => exact (Kd.V_reads' HO316.out).2.1)
 rintro e w24 ⟨v324, rfl, ho0, hb⟩
 refine ⟨_, rfl, ?_⟩
 replace HO316 := vb HO316 hb
 have HO325 := Aside0.mk (Kd.V_lower (Kd.V_mono (ok' := fun k_ => (w.heap.size ≤ k_) ∧ some k_ ≠ (.slice Ao13 t306.length co13 : Value).ownBlock ∧ some k_ ≠ (.slice Ao14 t310.length co14 : Value).ownBlock ∧ some k_ ≠ (.slice Ao23 t319.length co23 : Value).ownBlock ∧ k_ ≠ gb304 ∧ k_ ≠ gb317) ho0 (fun k_ hk_ => ⟨(Nat.le_trans (below_size (belt HB)) hk_), (Kd.fresh' (Kd.R_lt (rt HO308)) k_ hk_), (Kd.fresh' (Kd.R_lt (rt HO312)) k_ hk_), (Kd.fresh' (Kd.R_lt (rt HO321)) k_ hk_), (Kd.freshB (blkt BK304) k_ hk_), (Kd.freshB (blkt BK317) k_ hk_)⟩)) (below_size (belt HB)))
 replace HO308 := rb HO308 hb
 replace HO312 := rb HO312 hb
 replace HO321 := rb HO321 hb
 replace BK304 := blkb BK304 hb
 replace BK317 := blkb BK317 hb
 replace HB := belb HB hb
 (try clear hb)
 (try clear hb2)
 (try clear hk)
 (try clear hi)
 (try clear ho0)
 refine hK.out _ _ ⟨bc BK317 0, bc BK317 1⟩ (fun hHeld => ?_)
 clear hK K
 refine norm_ (a' := ?_) ?_ ?_
 rotate_left
 ·show Act.put _ (some 12) _ = _
  simp only [Act.put, List.setIfInBounds_toArray, List.set_cons_zero, List.set_cons_succ, i64_w, i32_w]
  rfl
 refine one_ (i := 5) (N := some 14) #[true, true, true, true, true, true, false, false] rfl rfl (one_of HT_.out (by kernel_rfl)) (by decide) (fun K hK => ?_)
 refine goes_ Tryz.func62 (by kernel_rfl) rfl #[.int .u64 a1] (by rfl) rfl rfl argt ?_
 with_reducible refine (turnstoneref01_U.calls k a1 t326 t327 _ A8.out).mono ?_
 rintro e w25 ⟨v328, rfl, ho0, hb⟩
 refine ⟨_, rfl, ?_⟩
 replace HO316 := Aside0.mk (Kd.V_elder' (vt HO316) (Kd.R_base ho0) hb)
 replace HO325 := Aside0.mk (Kd.V_elder' (vt HO325) (Kd.R_base ho0) hb)
 have HO329 := Aside0.mk (Kd.R_lower (Kd.R_new' (Kd.R_new' (Kd.R_new' (Kd.R_newM (M := fun k_ => (w.heap.size ≤ k_)) ho0 (below_size (belt HB)) (fun k_ h_ => h_)) (Kd.R_lt (rt HO308))) (Kd.R_lt (rt HO312))) (Kd.R_lt (rt HO321))) (below_size (belt HB)))
 replace BK304 := blkb BK304 hb
 replace BK317 := blkb BK317 hb
 replace HO308 := Aside0.mk (Kd.R_elder' (rt HO308) (Kd.R_base ho0) hb)
 replace HO312 := Aside0.mk (Kd.R_elder' (rt HO312) (Kd.R_base ho0) hb)
 replace HO321 := Aside0.mk (Kd.R_elder' (rt HO321) (Kd.R_base ho0) hb)
 replace HB := belb HB hb
 (try clear hb)
 (try clear hb2)
 (try clear hk)
 (try clear hi)
 (try clear ho0)
 obtain ⟨Ao26, co26, eo26⟩ := Kd.V_slice HO325.out
 (first | subst eo26 | (injection eo26 with f1_ f2_ f3_; have f4_ := f1_.symm; have f5_ := f3_.symm; clear f1_ f2_ f3_; subst f4_; subst f5_))
 obtain ⟨Ao27, co27, eo27⟩ := Kd.R_slice HO329.out
 (first | subst eo27 | (injection eo27 with f1_ f2_ f3_; have f4_ := f1_.symm; have f5_ := f3_.symm; clear f1_ f2_ f3_; subst f4_; subst f5_))
 refine hK.out _ _ ⟨bc BK317 0, bc BK317 1⟩ (fun hHeld => ?_)
 clear hK K
 refine norm_ (a' := ?_) ?_ ?_
 rotate_left
 ·show Act.put _ (some 14) _ = _
  simp only [Act.put, List.setIfInBounds_toArray, List.set_cons_zero, List.set_cons_succ, i64_w, i32_w]
  rfl
 refine one_ (i := 6) (N := some 15) #[true, true, true, true, true, true, true, false] rfl rfl (one_of HT_.out (by kernel_rfl)) (by decide) (fun K hK => ?_)
 refine goes_ Tryz.func34 (by kernel_rfl) rfl #[.agg #[.bool t322, .slice Ao26 t323.length co26], .agg #[.bool t326, .slice Ao27 t327.length co27]] (by rfl) rfl rfl argt ?_
 with_reducible refine (turnstoneref01_Add.calls k t322 _ _ t323 t326 _ _ t327 t330 t331 _ ?side1 ?side2 ?side3 ?side4 A9.out).mono ?_
 (case side1 => repeat (first | exact (Kd.V_reads' HO325.out).2.2 | (with_reducible refine Kd.C_alloc ?_ _) | (with_reducible refine Kd.C_drewN ?_ _) | (with_reducible refine Kd.C_drew ?_)))
 (case side2 => exact (Kd.V_reads' HO325.out).2.1)
 (case side3 => repeat (first | exact (Kd.R_reads' HO329.out).2.2 | (with_reducible refine Kd.C_alloc ?_ _) | (with_reducible refine Kd.C_drewN ?_ _) | (with_reducible refine Kd.C_drew ?_)))
 (case side4 => exact (Kd.R_reads' HO329.out).2.1)
 rintro e w28 ⟨v332, rfl, ho0, hb⟩
 refine ⟨_, rfl, ?_⟩
 replace HO316 := vb HO316 hb
 replace HO325 := vb HO325 hb
 have HO333 := Aside0.mk (Kd.V_lower (Kd.V_mono (ok' := fun k_ => (w.heap.size ≤ k_) ∧ some k_ ≠ (.slice Ao13 t306.length co13 : Value).ownBlock ∧ some k_ ≠ (.slice Ao14 t310.length co14 : Value).ownBlock ∧ some k_ ≠ (.slice Ao23 t319.length co23 : Value).ownBlock ∧ some k_ ≠ (.slice Ao27 t327.length co27 : Value).ownBlock ∧ k_ ≠ gb304 ∧ k_ ≠ gb317) ho0 (fun k_ hk_ => ⟨(Nat.le_trans (below_size (belt HB)) hk_), (Kd.fresh' (Kd.R_lt (rt HO308)) k_ hk_), (Kd.fresh' (Kd.R_lt (rt HO312)) k_ hk_), (Kd.fresh' (Kd.R_lt (rt HO321)) k_ hk_), (Kd.fresh' (Kd.R_lt (rt HO329)) k_ hk_), (Kd.freshB (blkt BK304) k_ hk_), (Kd.freshB (blkt BK317) k_ hk_)⟩)) (below_size (belt HB)))
 replace HO308 := rb HO308 hb
 replace HO312 := rb HO312 hb
 replace HO321 := rb HO321 hb
 replace HO329 := rb HO329 hb
 replace BK304 := blkb BK304 hb
 replace BK317 := blkb BK317 hb
 replace HB := belb HB hb
 (try clear hb)
 (try clear hb2)
 (try clear hk)
 (try clear hi)
 (try clear ho0)
 obtain ⟨Ao30, co30, eo30⟩ := Kd.V_slice HO333.out
 (first | subst eo30 | (injection eo30 with f1_ f2_ f3_; have f4_ := f1_.symm; have f5_ := f3_.symm; clear f1_ f2_ f3_; subst f4_; subst f5_))
 refine hK.out _ _ ⟨bc BK317 0, bc BK317 1⟩ (fun hHeld => ?_)
 clear hK K
 refine norm_ (a' := ?_) ?_ ?_
 rotate_left
 ·show Act.put _ (some 15) _ = _
  simp only [Act.put, List.setIfInBounds_toArray, List.set_cons_zero, List.set_cons_succ, i64_w, i32_w]
  rfl
 refine one_ (i := 7) (N := none) #[true, true, true, true, true, true, true, true] rfl rfl (one_of HT_.out (by kernel_rfl)) (by decide) (fun K hK => ?_)
 have hs29 : w28.cell? ⟨gb304, 0, none⟩ = some (.bool false) := bc BK304 0
 have hfs29 := blk_frozen BK304.out 0
 have hns29_1 := NB317_304.out
 have hms29_1 := NB304_317.out
 have hs31 : w28.cell? ⟨gb304, 1, none⟩ = some (.slice none 0 0) := bc BK304 1
 have hfs31 := blk_frozen BK304.out 1
 have hns31_1 := NB317_304.out
 have hms31_1 := NB304_317.out
 refine skip_ (w1 := ?_) (by rfl) rfl ?_ ?_
 rotate_left
 ·go_simp
  rfl
 refine hK.out _ _ ⟨((cell_far (p := ⟨gb304, _, none⟩) NB317_304.out _).trans (((cell_far (p := ⟨gb304, _, none⟩) NB317_304.out _).trans (hHeld.1)))), ((cell_far (p := ⟨gb304, _, none⟩) NB317_304.out _).trans (((cell_far (p := ⟨gb304, _, none⟩) NB317_304.out _).trans (hHeld.2))))⟩ (fun hHeld => ?_)
 clear hK K
 refine done_ (done_of HT_.out (by kernel_rfl)) ?_
 try go_wp2
 refine bodyPost_ret (results_cell_row rfl _ _ gb304 51 #[.bool t330, .slice Ao30 t331.length co30] (0, 0) _ rfl (by (with_reducible repeat (first | refine blk_drewN ?_ _ | refine blk_drew ?_ | refine blk_alloc ?_ _)); refine blk_put (cs := #[.bool t330, .slice none 0 0]) ?_ 1 _ rfl; (with_reducible repeat (first | refine blk_drewN ?_ _ | refine blk_drew ?_ | refine blk_alloc ?_ _)); refine blk_put (cs := #[.bool false, .slice none 0 0]) ?_ 0 _ rfl; exact blkt BK304) Tryz.underlying51 rfl (by kernel_rfl)) rfl ?_
 exact ⟨_, by first | rfl | (simp [errW_none, errW_some] <;> rfl) | (simp [*, errW_none, errW_some] <;> rfl), by (with_reducible repeat (first | apply Kd.V_alloc | apply Kd.V_drewN | apply Kd.V_drew)); exact Kd.V_mono (Kd.V_far (p := ⟨gb304, 1, none⟩) (Kd.V_far (p := ⟨gb304, 0, none⟩) (Kd.V_mono HO333.out (fun k_ hk => (⟨hk, hk.2.2.2.2.2.1⟩ : _ ∧ k_ ≠ gb304))) (fun _ hk => hk.2) (.bool t330)) (fun _ hk => hk.2) (.slice Ao30 t331.length co30)) (fun _ hk => hk.1.1), belt HB⟩


/-! ### turnstonelaw01_Of: function 35 -/
def turnstonelaw01_Of.f (k : Nat) (a0_0 : Int) (a0_1 : Int) : Option (Bool × List Int) := (turnstoneref01_Wide.f k a0_0 a0_1).bind fun bt336 => (some (bt336.1, bt336.2))
theorem turnstonelaw01_Of.mono : ∀ a0 a1 k, LeO (turnstonelaw01_Of.f k a0 a1) (turnstonelaw01_Of.f (k + 1) a0 a1) := by
 intro a0 a1 k
 unfold turnstonelaw01_Of.f
 repeat' first
   | (with_reducible exact turnstoneref01_Wide.mono _ _ _)
   | (with_reducible exact LeO.refl _)
   | (with_reducible exact LeO.none _)
   | (with_reducible refine LeO.ite ?_ ?_)
   | (with_reducible refine LeO.bind ?_ (fun _ => ?_))
   | exact turnstoneref01_Wide.mono _ _ _
   | exact LeO.none _
   | refine LeO.ite ?_ ?_
   | refine LeO.bind ?_ (fun _ => ?_)
set_option maxHeartbeats 8000000 in
set_option maxRecDepth 100000 in
theorem turnstonelaw01_Of.calls (k : Nat) (a0_0 : Int) (a0_1 : Int) (r1 : Bool) (r2 : List Int) (w : World) (h : turnstonelaw01_Of.f k a0_0 a0_1 = some (r1, r2)) :
  Calls Tryz.prog 35 #[.agg #[.int .i64 a0_0, .int .u64 a0_1]] w fun e w' => ∃ v1_ : Value, e = .returned (.agg #[.bool r1, v1_]) ∧ Kd.V (Kd.int .i64) 3 w' w.heap.size (fun k_ => (w.heap.size ≤ k_)) v1_ r2 ∧ Below w.heap.size w w' := by
 have hu31 := Tryz.underlying31
 have hu51 := Tryz.underlying51
 have HB := Aside0.mk (Below.refl w.heap.size w)
 have H : ((turnstoneref01_Wide.f k a0_0 a0_1).bind fun bt336 => (some (bt336.1, bt336.2))) = some (r1, r2) := h
 clear h
 replace H := Option.bind_eq_some_iff.mp H
 obtain ⟨⟨t336, t337⟩, A20, H⟩ := H
 replace H : (some (t336, t337)) = some (r1, r2) := H
 have A2 := Aside0.mk A20
 clear A20
 simp only [Option.some.injEq, Prod.mk.injEq] at H
 obtain ⟨rfl, rfl⟩ := H
 go_enter Tryz.func35, Tryz.ntmps35
 go_wp2_with (first | ((with_reducible refine gate_dst (N := 1) rfl ?_); refine box_event ?hg (N := 1) ?hd (cs := #[.int .i64 a0_0, .int .u64 a0_1]) (t := 31) ?hr ?_; (case hd => rfl); (case hg => rfl); (case hr => first | (go_simp; done) | (go_simp; rfl)); intro gb334 hg w3 hbox hb; have BK334 := Aside0.mk (hbox); have GW334 := bels HB hg; have GE334 := bels HB hg; replace HB := belb HB hb; clear hb hbox hg) | ((with_reducible refine gate_dst (N := 2) rfl ?_); refine box_event ?hg (N := 2) ?hd (cs := #[.bool false, .slice none 0 0]) (t := 51) ?hr ?_; (case hd => rfl); (case hg => rfl); (case hr => first | (go_simp; done) | (go_simp; rfl)); intro gb335 hg w4 hbox hb; have BK335 := Aside0.mk (hbox); have GW335 := bels HB hg; have GE335 := bels HB hg; have NB334_335 := blkl BK334 hg; have NB335_334 := blkg BK334 hg; replace BK334 := blkb BK334 hb; replace HB := belb HB hb; clear hb hbox hg; have hnb5 := NB334_335.out; have hnc5 := NB335_334.out; have hcz6_0 : w4.cell? ⟨gb334, 0, none⟩ = some (.int .i64 a0_0) := bc BK334 0; have hcz6_1 : w4.cell? ⟨gb334, 1, none⟩ = some (.int .u64 a0_1) := bc BK334 1; have hfz6_0 := blk_frozen BK334.out 0; have hfz6_1 := blk_frozen BK334.out 1) | ((with_reducible refine gate_callee (f := 71) rfl ?_); refine goesL_ (some 7) rfl rfl Tryz.func71 (by kernel_rfl) rfl #[.int .i64 a0_0, .int .u64 a0_1] rfl argt ?_; (with_reducible refine (turnstoneref01_Wide.calls k a0_0 a0_1 t336 t337 _ A2.out).mono ?_); rintro e w7 ⟨v338, rfl, ho0, hb⟩; refine ⟨_, rfl, ?_⟩; have HO339 := Aside0.mk (Kd.V_lower (Kd.V_mono (ok' := fun k_ => (w.heap.size ≤ k_) ∧ k_ ≠ gb334 ∧ k_ ≠ gb335) ho0 (fun k_ hk_ => ⟨(Nat.le_trans (below_size (belt HB)) hk_), (Kd.freshB (blkt BK334) k_ hk_), (Kd.freshB (blkt BK335) k_ hk_)⟩)) (below_size (belt HB))); replace BK334 := blkb BK334 hb; replace BK335 := blkb BK335 hb; replace HB := belb HB hb; (try clear hb); (try clear hb2); (try clear hk); (try clear hi); (try clear ho0); have hcz8_0 : w7.cell? ⟨gb335, 0, none⟩ = some (.bool false) := bc BK335 0; have hcz8_1 : w7.cell? ⟨gb335, 1, none⟩ = some (.slice none 0 0) := bc BK335 1; have hfz8_0 := blk_frozen BK335.out 0; have hfz8_1 := blk_frozen BK335.out 1; obtain ⟨Ao9, co9, eo9⟩ := Kd.V_slice HO339.out; subst eo9))
 refine bodyPost_ret (results_cell_row rfl _ _ gb335 51 #[.bool t336, .slice Ao9 t337.length co9] (0, 0) _ rfl (by (with_reducible repeat (first | refine blk_drewN ?_ _ | refine blk_drew ?_ | refine blk_alloc ?_ _)); refine blk_put (cs := #[.bool t336, .slice none 0 0]) ?_ 1 _ rfl; (with_reducible repeat (first | refine blk_drewN ?_ _ | refine blk_drew ?_ | refine blk_alloc ?_ _)); refine blk_put (cs := #[.bool false, .slice none 0 0]) ?_ 0 _ rfl; exact blkt BK335) Tryz.underlying51 rfl (by kernel_rfl)) rfl ?_
 exact ⟨_, by first | rfl | (simp [errW_none, errW_some] <;> rfl) | (simp [*, errW_none, errW_some] <;> rfl), by (with_reducible repeat (first | apply Kd.V_alloc | apply Kd.V_drewN | apply Kd.V_drew)); exact Kd.V_mono (Kd.V_far (p := ⟨gb335, 1, none⟩) (Kd.V_far (p := ⟨gb335, 0, none⟩) (Kd.V_mono HO339.out (fun k_ hk => (⟨hk, hk.2.2⟩ : _ ∧ k_ ≠ gb335))) (fun _ hk => hk.2) (.bool t336)) (fun _ hk => hk.2) (.slice Ao9 t337.length co9)) (fun _ hk => hk.1.1), belt HB⟩

end Go.Proofs.YtccokfebebmaeaaGreatDoor.Print
