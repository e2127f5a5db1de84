/- What each Go function that is named below answers, as a Lean function, and that its walk comes to just that: for whatever arguments that function gives an answer for. Written by a program of this session (wip/mkpr.py, pr.sh). -/
import Derived.Test.YtdfpkjdhndfcbaaPrint1000
namespace Go.Proofs.Ytdfpkjdhndfcbaa.Print
open Go.RowKit Go.Proofs.YtdfpkjdhndfcbaaW.PrintWords Go.Proofs.YtdfpkjdhndfcbaaW.PrintLast Go.Proofs.YtdfpkjdhndfcbaaW.PrintMore
attribute [local go_sem] max2_int min2_int max_two min_two max_three min_three max_four min_four   -- for this text's walks alone
open Go.Proofs.Ytdfpkjdhndfcbaa.Bits Go.Proofs.Ytdfpkjdhndfcbaa.Short
attribute [local go_sem] add64_run0 sub64_run0 add64_run sub64_run
set_option linter.unusedVariables false
set_option linter.unusedSimpArgs false

/-! ### turnstoneref01_Sign: function 29 -/
def turnstoneref01_Sign.f (a0_0 : Bool) (l0_1 : List Int) : Option (Int) := if (l0_1.length : Int) = 0 then (some 0) else (if a0_0 = true then (some (-1)) else (some 1))
set_option maxHeartbeats 8000000 in
set_option maxRecDepth 100000 in
theorem turnstoneref01_Sign.calls (a0_0 : Bool) (A0_1 : Option Addr) (c0_1 : Nat) (l0_1 : List Int) (r : Int) (w : World) (hr0_1 : Kd.C (Kd.int .i64) w A0_1 l0_1.length l0_1) (hc0_1 : l0_1.length ≤ c0_1) (h : turnstoneref01_Sign.f a0_0 l0_1 = some r) :
  Calls Try.prog 29 #[.agg #[.bool a0_0, .slice A0_1 l0_1.length c0_1]] w fun e w' => e = .returned (.int .i64 r) ∧ Below w.heap.size w w' := by
 have hu49 := Try.underlying49
 have HR0_1 := Aside0.mk hr0_1
 have HC0_1 := Aside0.mk hc0_1
 clear hr0_1 hc0_1
 have HB := Aside0.mk (Below.refl w.heap.size w)
 have H : (if (l0_1.length : Int) = 0 then (some 0) else (if a0_0 = true then (some (-1)) else (some 1))) = some r := h
 clear h
 by_cases c2 : (l0_1.length : Int) = 0
 ·rw [if_pos c2] at H
  have c2b0 : ((l0_1.length : Int) == 0) = true := beq_iff_eq.mpr c2
  have c2b1 : ((l0_1.length : Int) != 0) = false := bne_eq_false_iff_eq.mpr c2
  clear c2
  obtain rfl := Option.some.inj H
  go_enter Try.func29, Try.ntmps29
  go_wp2_with (first | ((with_reducible refine gate_dst (N := 1) rfl ?_); refine box_event ?hg (N := 1) ?hd (cs := #[.bool a0_0, .slice A0_1 l0_1.length c0_1]) (t := 49) ?hr ?_; (case hd => rfl); (case hg => rfl); (case hr => first | (go_simp; done) | (go_simp; rfl)); intro gb171 hg w3 hbox hb; have BK171 := Aside0.mk (hbox); have GW171 := bels HB hg; have GE171 := bels HB hg; replace HB := belb HB hb; clear hb hbox hg; have hcz4_0 : w3.cell? ⟨gb171, 0, none⟩ = some (.bool a0_0) := bc BK171 0; have hcz4_1 : w3.cell? ⟨gb171, 1, none⟩ = some (.slice A0_1 l0_1.length c0_1) := bc BK171 1; have hfz4_0 := blk_frozen BK171.out 0; have hfz4_1 := blk_frozen BK171.out 1))
  go_ret
  exact ⟨by first | rfl | (simp [errW_none, errW_some] <;> rfl) | (simp [*, errW_none, errW_some] <;> rfl), belt HB⟩
 rw [if_neg c2] at H
 have c2b0 : ((l0_1.length : Int) == 0) = false := beq_eq_false_iff_ne.mpr c2
 have c2b1 : ((l0_1.length : Int) != 0) = true := bne_iff_ne.mpr c2
 have c2b2 : ¬ (l0_1 = []) := fun h_ => c2 (by rw [h_]; rfl)
 by_cases c5 : a0_0 = true
 ·subst c5
  have H1 : (some (-1)) = some r := by rw [if_pos rfl] at H; exact H
  clear H
  have H := H1
  clear H1
  obtain rfl := Option.some.inj H
  go_enter Try.func29, Try.ntmps29
  go_wp2_with (first | ((with_reducible refine gate_dst (N := 1) rfl ?_); refine box_event ?hg (N := 1) ?hd (cs := #[.bool true, .slice A0_1 l0_1.length c0_1]) (t := 49) ?hr ?_; (case hd => rfl); (case hg => rfl); (case hr => first | (go_simp; done) | (go_simp; rfl)); intro gb171 hg w6 hbox hb; have BK171 := Aside0.mk (hbox); have GW171 := bels HB hg; have GE171 := bels HB hg; replace HB := belb HB hb; clear hb hbox hg; have hcz7_0 : w6.cell? ⟨gb171, 0, none⟩ = some (.bool true) := bc BK171 0; have hcz7_1 : w6.cell? ⟨gb171, 1, none⟩ = some (.slice A0_1 l0_1.length c0_1) := bc BK171 1; have hfz7_0 := blk_frozen BK171.out 0; have hfz7_1 := blk_frozen BK171.out 1))
  go_ret
  exact ⟨by first | rfl | (simp [errW_none, errW_some] <;> rfl) | (simp [*, errW_none, errW_some] <;> rfl), belt HB⟩
 replace c5 := Bool.eq_false_iff.mpr c5
 subst c5
 have H1 : (some 1) = some r := by rw [if_neg (show ¬ (false = true) by decide)] at H; exact H
 clear H
 have H := H1
 clear H1
 obtain rfl := Option.some.inj H
 go_enter Try.func29, Try.ntmps29
 go_wp2_with (first | ((with_reducible refine gate_dst (N := 1) rfl ?_); refine box_event ?hg (N := 1) ?hd (cs := #[.bool false, .slice A0_1 l0_1.length c0_1]) (t := 49) ?hr ?_; (case hd => rfl); (case hg => rfl); (case hr => first | (go_simp; done) | (go_simp; rfl)); intro gb171 hg w8 hbox hb; have BK171 := Aside0.mk (hbox); have GW171 := bels HB hg; have GE171 := bels HB hg; replace HB := belb HB hb; clear hb hbox hg; have hcz9_0 : w8.cell? ⟨gb171, 0, none⟩ = some (.bool false) := bc BK171 0; have hcz9_1 : w8.cell? ⟨gb171, 1, none⟩ = some (.slice A0_1 l0_1.length c0_1) := bc BK171 1; have hfz9_0 := blk_frozen BK171.out 0; have hfz9_1 := blk_frozen BK171.out 1))
 go_ret
 exact ⟨by first | rfl | (simp [errW_none, errW_some] <;> rfl) | (simp [*, errW_none, errW_some] <;> rfl), belt HB⟩


/-! ### turnstoneref01_trim: function 49 -/
def turnstoneref01_trim.l0 : Nat → Bool → List Int → Option (Bool × List Int)
 | 0, _, _ => none
 | k + 1, x173000, x173001 => if (x173001.length : Int) > 0 then (if 0 ≤ (wrap64 ((x173001.length : Int) - 1)) then (if (wrap64 ((x173001.length : Int) - 1)) < (x173001.length : Int) then (if (rd x173001 (wrap64 ((x173001.length : Int) - 1))) = 0 then (if (wrap64 ((x173001.length : Int) - 1)) ≤ (x173001.length : Int) then (turnstoneref01_trim.l0 k x173000 (x173001.take ((wrap64 ((x173001.length : Int) - 1)) : Int).toNat)) else (none)) else (if (x173001.length : Int) = 0 then (some (false, ([] : List Int))) else (some (x173000, x173001)))) else (none)) else (none)) else (if (x173001.length : Int) = 0 then (some (false, ([] : List Int))) else (some (x173000, x173001)))
def turnstoneref01_trim.f (k : Nat) (a0_0 : Bool) (l0_1 : List Int) : Option (Bool × List Int) := turnstoneref01_trim.l0 k a0_0 l0_1
theorem turnstoneref01_trim.mono_l : ∀ k, (∀ y0 y1, LeO (turnstoneref01_trim.l0 k y0 y1) (turnstoneref01_trim.l0 (k + 1) y0 y1))
 | 0 => fun _ _ r h => by simp [turnstoneref01_trim.l0] at h
 | k + 1 => by
  have ih0 := turnstoneref01_trim.mono_l k
  ·intro y0 y1
   unfold turnstoneref01_trim.l0
   repeat' first
   | (with_reducible exact ih0 _ _)
   | (with_reducible exact LeO.refl _)
   | (with_reducible exact LeO.none _)
   | (with_reducible refine LeO.ite ?_ ?_)
   | (with_reducible refine LeO.bind ?_ (fun _ => ?_))
   | exact ih0 _ _
   | exact LeO.none _
   | refine LeO.ite ?_ ?_
   | refine LeO.bind ?_ (fun _ => ?_)
theorem turnstoneref01_trim.mono : ∀ a0 a1 k, LeO (turnstoneref01_trim.f k a0 a1) (turnstoneref01_trim.f (k + 1) a0 a1) := by
 intro a0 a1 k
 have ih0 := turnstoneref01_trim.mono_l k
 unfold turnstoneref01_trim.f
 repeat' first
   | (with_reducible exact ih0 _ _)
   | (with_reducible exact LeO.refl _)
   | (with_reducible exact LeO.none _)
   | (with_reducible refine LeO.ite ?_ ?_)
   | (with_reducible refine LeO.bind ?_ (fun _ => ?_))
   | exact ih0 _ _
   | exact LeO.none _
   | refine LeO.ite ?_ ?_
   | refine LeO.bind ?_ (fun _ => ?_)
set_option maxHeartbeats 8000000 in
set_option maxRecDepth 100000 in
theorem turnstoneref01_trim.calls (k : Nat) (a0_0 : Bool) (P0_1_ : Nat → Prop) (A0_1 : Option Addr) (c0_1 : Nat) (l0_1 : List Int) (r1 : Bool) (r2 : List Int) (w : World) (hs0_1 : Kd.V (Kd.int .i64) 3 w w.heap.size (fun k_ => P0_1_ k_) (.slice A0_1 l0_1.length c0_1) l0_1) (h : turnstoneref01_trim.f k a0_0 l0_1 = some (r1, r2)) :
  Calls Try.prog 49 #[.agg #[.bool a0_0, .slice A0_1 l0_1.length c0_1]] w fun e w' => ∃ v1_ : Value, e = .returned (.agg #[.bool r1, v1_]) ∧ Kd.V (Kd.int .i64) 3 w' w.heap.size (fun k_ => (P0_1_ k_ ∨ w.heap.size ≤ k_)) v1_ r2 ∧ Below w.heap.size w w' := by
 have hu49 := Try.underlying49
 have HO0_1 := Aside0.mk (show Kd.V (Kd.int .i64) 3 w w.heap.size (fun k_ => (P0_1_ k_ ∨ w.heap.size ≤ k_)) (.slice A0_1 l0_1.length c0_1) l0_1 from Kd.V_mono hs0_1 (fun k_ hk => .inl hk))
 have HB := Aside0.mk (Below.refl w.heap.size w)
 have H : (turnstoneref01_trim.l0 k a0_0 l0_1) = some (r1, r2) := h
 clear h
 have H' := Aside0.mk H
 clear H
 go_enter Try.func49, Try.ntmps49
 go_wp2_with (first | ((with_reducible refine gate_dst (N := 1) rfl ?_); (try (refine gate_guard (by rfl) ?_; dsimp only)); refine box_event ?hg (N := 1) ?hd (cs := #[.bool a0_0, .slice A0_1 l0_1.length c0_1]) (t := 49) ?hr ?_; (case hd => rfl); (case hg => rfl); (case hr => first | (go_simp; done) | (go_simp; rfl)); intro gb172 hg w2 hbox hb; replace HO0_1 := Aside0.mk (Kd.V_below (Kd.V_elderB (vt HO0_1) gb172 (Nat.le_of_eq hg.symm)) hb); have BK172 := Aside0.mk (hbox); have GW172 := bels HB hg; have GE172 := bels HB hg; replace HB := belb HB hb; clear hb hbox hg) | ((with_reducible refine gate_dst (N := 2) rfl ?_); (try (refine gate_guard (by rfl) ?_; dsimp only)); refine box_event ?hg (N := 2) ?hd (cs := #[.bool false, .slice none 0 0]) (t := 49) ?hr ?_; (case hd => rfl); (case hg => rfl); (case hr => first | (go_simp; done) | (go_simp; rfl)); intro gb173 hg w3 hbox hb; replace HO0_1 := Aside0.mk (Kd.V_below (Kd.V_elderB (vt HO0_1) gb173 (Nat.le_of_eq hg.symm)) hb); have BK173 := Aside0.mk (hbox); have GW173 := bels HB hg; have GE173 := bels HB hg; have NB172_173 := blkl BK172 hg; have NB173_172 := blkg BK172 hg; replace BK172 := blkb BK172 hb; replace HB := belb HB hb; clear hb hbox hg))
 (try simp only [Act.put, List.setIfInBounds_toArray, List.set_cons_zero, List.set_cons_succ])
 go_loopg [] k (fun kq w' => ∃ (x173001_1 : List Int) (u173001 : Value), Aside0 (turnstoneref01_trim.l0 kq a0_0 x173001_1 = some (r1, r2)) ∧ Aside0 (kq ≤ k) ∧ Aside0 (Kd.V (Kd.int .i64) 3 w' w.heap.size (fun k_ => (P0_1_ k_ ∨ w.heap.size ≤ k_) ∧ k_ ≠ gb172 ∧ k_ ≠ gb173) u173001 x173001_1) ∧ Aside0 (w'.heap[gb172]? = some (.cells #[.bool a0_0, u173001] 49 (0, 0))) ∧ Aside0 (w'.heap[gb173]? = some (.cells #[.bool false, (.slice none 0 0)] 49 (0, 0))) ∧ Aside0 (Below w.heap.size w w'))
 case atStart => exact ⟨(l0_1), (.slice A0_1 l0_1.length c0_1), H', ⟨Nat.le_refl _⟩, ⟨by (with_reducible repeat (first | apply Kd.V_alloc | apply Kd.V_drewN | apply Kd.V_drew)); exact Kd.V_mono HO0_1.out (fun _ hk => ⟨hk.1.1, ⟨hk.1.2, hk.2⟩⟩)⟩, ⟨blkt BK172⟩, ⟨blkt BK173⟩, ⟨belt HB⟩⟩
 case round =>
  clear H'
  try clear p2
  obtain ⟨x173001_1, u173001, HA, HK1, HO_173001, BK172, BK173, HB⟩ := hrel
  cases gk with
  | zero => exact absurd HA.out (by simp [turnstoneref01_trim.l0])
  | succ k1 =>
   have H := HA.out
   clear HA
   simp only [turnstoneref01_trim.l0] at H
   by_cases c4 : (x173001_1.length : Int) > 0
   ·rw [if_pos c4] at H
    have c4b0 : decide (0 < (x173001_1.length : Int)) = true := decide_eq_true c4
    have c4b1 : decide (0 < x173001_1.length) = true := decide_eq_true (by omega)
    clear c4
    obtain ⟨ji5, hji5⟩ : ∃ j_ : Int, (wrap64 ((x173001_1.length : Int) - 1)) = j_ := ⟨_, rfl⟩
    replace H : (if 0 ≤ (ji5) then (if (ji5) < (x173001_1.length : Int) then (if (rd x173001_1 (ji5)) = 0 then (if (ji5) ≤ (x173001_1.length : Int) then (turnstoneref01_trim.l0 k1 a0_0 (x173001_1.take ((ji5) : Int).toNat)) else (none)) else (if (x173001_1.length : Int) = 0 then (some (false, ([] : List Int))) else (some (a0_0, x173001_1)))) else (none)) else (none)) = some (r1, r2) := by first | (rw [hji5] at H; exact H) | (simp only [hji5] at H ⊢; exact H)
    have hji5w : (IntKind.i64.wrap ((x173001_1.length : Int) - 1)) = ji5 := (i64_w _).trans hji5
    by_cases c6 : 0 ≤ (ji5)
    ·rw [if_pos c6] at H
     have c6b0 : decide (0 ≤ (ji5)) = true := decide_eq_true c6
     clear c6
     by_cases c7 : (ji5) < (x173001_1.length : Int)
     ·rw [if_pos c7] at H
      have c7b0 : decide ((ji5) < (x173001_1.length : Int)) = true := decide_eq_true c7
      clear c7
      by_cases c8 : (rd x173001_1 (ji5)) = 0
      ·rw [if_pos c8] at H
       have c8b0 : ((rd x173001_1 (ji5)) == 0) = true := beq_iff_eq.mpr c8
       have c8b1 : ((rd x173001_1 (ji5)) != 0) = false := bne_eq_false_iff_eq.mpr c8
       clear c8
       have c9b0 := eq_true (of_decide_eq_true (by first | (with_reducible assumption) | assumption) : 0 ≤ (ji5))
       by_cases c10 : (ji5) ≤ (x173001_1.length : Int)
       ·rw [if_pos c10] at H
        have c10b0 := eq_true c10
        have c10b1 : decide ((ji5) ≤ (x173001_1.length : Int)) = true := decide_eq_true c10
        clear c10
        obtain ⟨y175, hy175⟩ : ∃ y_ : List Int, y_ = (x173001_1.take ((ji5) : Int).toNat) := ⟨_, rfl⟩
        replace H : (turnstoneref01_trim.l0 k1 a0_0 y175) = some (r1, r2) := by first | (rw [hy175]; with_reducible exact H) | (have H2_ := (Option.bind_some _ _).symm.trans H; rw [hy175]; with_reducible exact H2_) | (have H2_ := (Option.bind_some _ _).symm.trans H; with_reducible exact H2_) | with_reducible exact H | (rw [hy175]; exact H) | exact H
        have Ny175 := Aside0.mk hy175
        clear hy175
        have H' := Aside0.mk H
        clear H
        have hnb11 := NB172_173.out
        have hnc11 := NB173_172.out
        have hcz12_0 : wr.cell? ⟨gb172, 0, none⟩ = some (.bool a0_0) := bc BK172 0
        have hcz12_1 : wr.cell? ⟨gb172, 1, none⟩ = some (u173001) := bc BK172 1
        have hfz12_0 := blk_frozen BK172.out 0
        have hfz12_1 := blk_frozen BK172.out 1
        obtain ⟨Ao13, co13, eo13⟩ := Kd.V_slice HO_173001.out
        subst eo13
        have p174 : 0 ≤ ((ji5) : Int) := of_decide_eq_true (by first | (with_reducible assumption) | assumption)
        have q174 : (ji5) < (x173001_1.length : Int) := of_decide_eq_true (by first | (with_reducible assumption) | assumption)
        obtain ⟨ad174, e174, hx174_0⟩ := Kd.at_int (Kd.V_reads' HO_173001.out).2.2 (ji5) p174 q174
        cases e174
        replace p174 := eq_true p174
        replace q174 := eq_true q174
        have q14 : ((ji5) : Int) ≤ ((x173001_1.length : Int) : Int) := of_decide_eq_true (by first | (with_reducible assumption) | assumption)
        obtain ⟨i014, hi014, _, hsz14, _⟩ := info_parts info3
        have hroom14 : x173001_1.length ≤ co13 := (Kd.V_reads' HO_173001.out).2.1
        have hC14 : Kd.F (Kd.int .i64) _ _ (some ad174) x173001_1.length x173001_1 := (Kd.V_at (base := w.heap.size) HO_173001.out).2.2
        have hcut14 := cut_to (P := Try.prog) 47 3 .i64 Try.underlying47 hi014 (some ad174) x173001_1.length co13 (ji5) (of_decide_eq_true (by first | (with_reducible assumption) | assumption)) q14 hroom14
        have hr14 := Kd.F_take (m := ((ji5) : Int).toNat) hC14 (by omega)
        have hy14 : y175.length = ((ji5) : Int).toNat := (by rw [Ny175.out, List.length_take]; omega)
        rw [← Ny175.out] at hr14
        rw [← hy14] at hcut14
        have HO179 := Aside0.mk (show Kd.V (Kd.int .i64) 3 _ w.heap.size _ (.slice (some ad174) y175.length co13) y175 from Kd.V_mk (by omega) hr14)
        have HC179 := Aside0.mk (show y175.length ≤ co13 from by omega)
        clear hr14 hC14 hroom14 hi014 hsz14
        have KY14 := Aside0.mk hy14
        clear hy14
        replace q14 := eq_true q14
        go_wp2
        go_roundg k1
        case measure => have := HK1.out; omega
        case rel => exact ⟨(y175), (.slice (some ad174) y175.length co13), H', ⟨by have := HK1.out; omega⟩, ⟨by (with_reducible repeat (first | apply Kd.V_alloc | apply Kd.V_drewN | apply Kd.V_drew)); exact Kd.V_mono (Kd.V_far (p := ⟨gb172, 1, none⟩) (Kd.V_mono HO179.out (fun k_ hk => (⟨hk, hk.2.1⟩ : _ ∧ k_ ≠ gb172))) (fun _ hk => hk.2) (.slice (some ad174) y175.length co13)) (fun _ hk => ⟨hk.1.1, ⟨hk.1.2.1, hk.1.2.2⟩⟩)⟩, ⟨by (with_reducible repeat (first | refine blk_drewN ?_ _ | refine blk_drew ?_ | refine blk_alloc ?_ _)); refine blk_put (cs := #[.bool a0_0, .slice (some ad174) x173001_1.length co13]) ?_ 1 _ rfl; exact blkt BK172⟩, ⟨by (with_reducible repeat (first | refine blk_drewN ?_ _ | refine blk_drew ?_ | refine blk_alloc ?_ _)); refine blk_far ?_ NB173_172.out _; exact blkt BK173⟩, ⟨belt HB⟩⟩
       rw [if_neg c10] at H
       exact absurd H (by simp)
      rw [if_neg c8] at H
      have c8b0 : ((rd x173001_1 (ji5)) == 0) = false := beq_eq_false_iff_ne.mpr c8
      have c8b1 : ((rd x173001_1 (ji5)) != 0) = true := bne_iff_ne.mpr c8
      by_cases c15 : (x173001_1.length : Int) = 0
      ·rw [if_pos c15] at H
       have c15b0 : ((x173001_1.length : Int) == 0) = true := beq_iff_eq.mpr c15
       have c15b1 : ((x173001_1.length : Int) != 0) = false := bne_eq_false_iff_eq.mpr c15
       clear c15
       simp only [Option.some.injEq, Prod.mk.injEq] at H
       obtain ⟨rfl, rfl⟩ := H
       have hnb16 := NB172_173.out
       have hnc16 := NB173_172.out
       have hcz17_0 : wr.cell? ⟨gb172, 0, none⟩ = some (.bool a0_0) := bc BK172 0
       have hcz17_1 : wr.cell? ⟨gb172, 1, none⟩ = some (u173001) := bc BK172 1
       have hfz17_0 := blk_frozen BK172.out 0
       have hfz17_1 := blk_frozen BK172.out 1
       obtain ⟨Ao18, co18, eo18⟩ := Kd.V_slice HO_173001.out
       subst eo18
       have p174 : 0 ≤ ((ji5) : Int) := of_decide_eq_true (by first | (with_reducible assumption) | assumption)
       have q174 : (ji5) < (x173001_1.length : Int) := of_decide_eq_true (by first | (with_reducible assumption) | assumption)
       obtain ⟨ad174, e174, hx174_0⟩ := Kd.at_int (Kd.V_reads' HO_173001.out).2.2 (ji5) p174 q174
       cases e174
       replace p174 := eq_true p174
       replace q174 := eq_true q174
       have hcz19_0 : wr.cell? ⟨gb173, 0, none⟩ = some (.bool false) := bc BK173 0
       have hcz19_1 : wr.cell? ⟨gb173, 1, none⟩ = some (.slice none 0 0) := bc BK173 1
       have hfz19_0 := blk_frozen BK173.out 0
       have hfz19_1 := blk_frozen BK173.out 1
       go_wp2
       refine bodyPost_ret (results_cell_row rfl _ _ gb173 49 #[.bool false, .slice none 0 0] (0, 0) _ rfl (by (with_reducible repeat (first | refine blk_drewN ?_ _ | refine blk_drew ?_ | refine blk_alloc ?_ _)); refine blk_put (cs := #[.bool false, .slice none 0 0]) ?_ 1 _ rfl; (with_reducible repeat (first | refine blk_drewN ?_ _ | refine blk_drew ?_ | refine blk_alloc ?_ _)); refine blk_put (cs := #[.bool false, .slice none 0 0]) ?_ 0 _ rfl; exact blkt BK173) Try.underlying49 rfl (by kernel_rfl)) rfl ?_
       exact ⟨_, by first | rfl | (simp [errW_none, errW_some] <;> rfl) | (simp only [← hji5]; first | rfl | (simp [errW_none, errW_some] <;> rfl)) | (simp [*, errW_none, errW_some] <;> rfl), Kd.V_nil _ _ _ _ _, belt HB⟩
      rw [if_neg c15] at H
      have c15b0 : ((x173001_1.length : Int) == 0) = false := beq_eq_false_iff_ne.mpr c15
      have c15b1 : ((x173001_1.length : Int) != 0) = true := bne_iff_ne.mpr c15
      have c15b2 : ¬ (x173001_1 = []) := fun h_ => c15 (by rw [h_]; rfl)
      simp only [Option.some.injEq, Prod.mk.injEq] at H
      obtain ⟨rfl, rfl⟩ := H
      have hnb20 := NB172_173.out
      have hnc20 := NB173_172.out
      have hcz21_0 : wr.cell? ⟨gb172, 0, none⟩ = some (.bool a0_0) := bc BK172 0
      have hcz21_1 : wr.cell? ⟨gb172, 1, none⟩ = some (u173001) := bc BK172 1
      have hfz21_0 := blk_frozen BK172.out 0
      have hfz21_1 := blk_frozen BK172.out 1
      obtain ⟨Ao22, co22, eo22⟩ := Kd.V_slice HO_173001.out
      subst eo22
      have p174 : 0 ≤ ((ji5) : Int) := of_decide_eq_true (by first | (with_reducible assumption) | assumption)
      have q174 : (ji5) < (x173001_1.length : Int) := of_decide_eq_true (by first | (with_reducible assumption) | assumption)
      obtain ⟨ad174, e174, hx174_0⟩ := Kd.at_int (Kd.V_reads' HO_173001.out).2.2 (ji5) p174 q174
      cases e174
      replace p174 := eq_true p174
      replace q174 := eq_true q174
      have hcz23_0 : wr.cell? ⟨gb173, 0, none⟩ = some (.bool false) := bc BK173 0
      have hcz23_1 : wr.cell? ⟨gb173, 1, none⟩ = some (.slice none 0 0) := bc BK173 1
      have hfz23_0 := blk_frozen BK173.out 0
      have hfz23_1 := blk_frozen BK173.out 1
      go_wp2
      refine bodyPost_ret (results_cell_row rfl _ _ gb173 49 #[.bool a0_0, .slice (some ad174) x173001_1.length co22] (0, 0) _ rfl (by (with_reducible repeat (first | refine blk_drewN ?_ _ | refine blk_drew ?_ | refine blk_alloc ?_ _)); refine blk_put (cs := #[.bool a0_0, .slice none 0 0]) ?_ 1 _ rfl; (with_reducible repeat (first | refine blk_drewN ?_ _ | refine blk_drew ?_ | refine blk_alloc ?_ _)); refine blk_put (cs := #[.bool false, .slice none 0 0]) ?_ 0 _ rfl; exact blkt BK173) Try.underlying49 rfl (by kernel_rfl)) rfl ?_
      exact ⟨_, by first | rfl | (simp [errW_none, errW_some] <;> rfl) | (simp only [← hji5]; first | rfl | (simp [errW_none, errW_some] <;> rfl)) | (simp [*, errW_none, errW_some] <;> rfl), by (with_reducible repeat (first | apply Kd.V_alloc | apply Kd.V_drewN | apply Kd.V_drew)); exact Kd.V_mono (Kd.V_far (p := ⟨gb173, 1, none⟩) (Kd.V_far (p := ⟨gb173, 0, none⟩) (Kd.V_mono HO_173001.out (fun k_ hk => (⟨hk, hk.2.2⟩ : _ ∧ k_ ≠ gb173))) (fun _ hk => hk.2) (.bool a0_0)) (fun _ hk => hk.2) (.slice (some ad174) x173001_1.length co22)) (fun _ hk => hk.1.1), belt HB⟩
     rw [if_neg c7] at H
     exact absurd H (by simp)
    rw [if_neg c6] at H
    exact absurd H (by simp)
   rw [if_neg c4] at H
   have c4b0 : decide (0 < (x173001_1.length : Int)) = false := decide_eq_false c4
   have c4b1 : decide (0 < x173001_1.length) = false := decide_eq_false (by omega)
   clear c4
   by_cases c24 : (x173001_1.length : Int) = 0
   ·rw [if_pos c24] at H
    have c24b0 : ((x173001_1.length : Int) == 0) = true := beq_iff_eq.mpr c24
    have c24b1 : ((x173001_1.length : Int) != 0) = false := bne_eq_false_iff_eq.mpr c24
    clear c24
    simp only [Option.some.injEq, Prod.mk.injEq] at H
    obtain ⟨rfl, rfl⟩ := H
    have hnb25 := NB172_173.out
    have hnc25 := NB173_172.out
    have hcz26_0 : wr.cell? ⟨gb172, 0, none⟩ = some (.bool a0_0) := bc BK172 0
    have hcz26_1 : wr.cell? ⟨gb172, 1, none⟩ = some (u173001) := bc BK172 1
    have hfz26_0 := blk_frozen BK172.out 0
    have hfz26_1 := blk_frozen BK172.out 1
    obtain ⟨Ao27, co27, eo27⟩ := Kd.V_slice HO_173001.out
    subst eo27
    have hcz28_0 : wr.cell? ⟨gb173, 0, none⟩ = some (.bool false) := bc BK173 0
    have hcz28_1 : wr.cell? ⟨gb173, 1, none⟩ = some (.slice none 0 0) := bc BK173 1
    have hfz28_0 := blk_frozen BK173.out 0
    have hfz28_1 := blk_frozen BK173.out 1
    go_wp2
    refine bodyPost_ret (results_cell_row rfl _ _ gb173 49 #[.bool false, .slice none 0 0] (0, 0) _ rfl (by (with_reducible repeat (first | refine blk_drewN ?_ _ | refine blk_drew ?_ | refine blk_alloc ?_ _)); refine blk_put (cs := #[.bool false, .slice none 0 0]) ?_ 1 _ rfl; (with_reducible repeat (first | refine blk_drewN ?_ _ | refine blk_drew ?_ | refine blk_alloc ?_ _)); refine blk_put (cs := #[.bool false, .slice none 0 0]) ?_ 0 _ rfl; exact blkt BK173) Try.underlying49 rfl (by kernel_rfl)) rfl ?_
    exact ⟨_, by first | rfl | (simp [errW_none, errW_some] <;> rfl) | (simp [*, errW_none, errW_some] <;> rfl), Kd.V_nil _ _ _ _ _, belt HB⟩
   rw [if_neg c24] at H
   have c24b0 : ((x173001_1.length : Int) == 0) = false := beq_eq_false_iff_ne.mpr c24
   have c24b1 : ((x173001_1.length : Int) != 0) = true := bne_iff_ne.mpr c24
   have c24b2 : ¬ (x173001_1 = []) := fun h_ => c24 (by rw [h_]; rfl)
   simp only [Option.some.injEq, Prod.mk.injEq] at H
   obtain ⟨rfl, rfl⟩ := H
   have hnb29 := NB172_173.out
   have hnc29 := NB173_172.out
   have hcz30_0 : wr.cell? ⟨gb172, 0, none⟩ = some (.bool a0_0) := bc BK172 0
   have hcz30_1 : wr.cell? ⟨gb172, 1, none⟩ = some (u173001) := bc BK172 1
   have hfz30_0 := blk_frozen BK172.out 0
   have hfz30_1 := blk_frozen BK172.out 1
   obtain ⟨Ao31, co31, eo31⟩ := Kd.V_slice HO_173001.out
   subst eo31
   have hcz32_0 : wr.cell? ⟨gb173, 0, none⟩ = some (.bool false) := bc BK173 0
   have hcz32_1 : wr.cell? ⟨gb173, 1, none⟩ = some (.slice none 0 0) := bc BK173 1
   have hfz32_0 := blk_frozen BK173.out 0
   have hfz32_1 := blk_frozen BK173.out 1
   go_wp2
   refine bodyPost_ret (results_cell_row rfl _ _ gb173 49 #[.bool a0_0, .slice Ao31 x173001_1.length co31] (0, 0) _ rfl (by (with_reducible repeat (first | refine blk_drewN ?_ _ | refine blk_drew ?_ | refine blk_alloc ?_ _)); refine blk_put (cs := #[.bool a0_0, .slice none 0 0]) ?_ 1 _ rfl; (with_reducible repeat (first | refine blk_drewN ?_ _ | refine blk_drew ?_ | refine blk_alloc ?_ _)); refine blk_put (cs := #[.bool false, .slice none 0 0]) ?_ 0 _ rfl; exact blkt BK173) Try.underlying49 rfl (by kernel_rfl)) rfl ?_
   exact ⟨_, by first | rfl | (simp [errW_none, errW_some] <;> rfl) | (simp [*, errW_none, errW_some] <;> rfl), by (with_reducible repeat (first | apply Kd.V_alloc | apply Kd.V_drewN | apply Kd.V_drew)); exact Kd.V_mono (Kd.V_far (p := ⟨gb173, 1, none⟩) (Kd.V_far (p := ⟨gb173, 0, none⟩) (Kd.V_mono HO_173001.out (fun k_ hk => (⟨hk, hk.2.2⟩ : _ ∧ k_ ≠ gb173))) (fun _ hk => hk.2) (.bool a0_0)) (fun _ hk => hk.2) (.slice Ao31 x173001_1.length co31)) (fun _ hk => hk.1.1), belt HB⟩


/-! ### turnstoneref01_Neg: function 40 -/
def turnstoneref01_Neg.f (k : Nat) (a0_0 : Bool) (l0_1 : List Int) : Option (Bool × List Int) := (turnstoneref01_trim.f k (!a0_0) l0_1).bind fun bt182 => (some (bt182.1, bt182.2))
theorem turnstoneref01_Neg.mono : ∀ a0 a1 k, LeO (turnstoneref01_Neg.f k a0 a1) (turnstoneref01_Neg.f (k + 1) a0 a1) := by
 intro a0 a1 k
 unfold turnstoneref01_Neg.f
 repeat' first
   | (with_reducible exact turnstoneref01_trim.mono _ _ _)
   | (with_reducible exact LeO.refl _)
   | (with_reducible exact LeO.none _)
   | (with_reducible refine LeO.ite ?_ ?_)
   | (with_reducible refine LeO.bind ?_ (fun _ => ?_))
   | exact turnstoneref01_trim.mono _ _ _
   | exact LeO.none _
   | refine LeO.ite ?_ ?_
   | refine LeO.bind ?_ (fun _ => ?_)
set_option maxHeartbeats 8000000 in
set_option maxRecDepth 100000 in
theorem turnstoneref01_Neg.calls (k : Nat) (a0_0 : Bool) (P0_1_ : Nat → Prop) (A0_1 : Option Addr) (c0_1 : Nat) (l0_1 : List Int) (r1 : Bool) (r2 : List Int) (w : World) (hs0_1 : Kd.V (Kd.int .i64) 3 w w.heap.size (fun k_ => P0_1_ k_) (.slice A0_1 l0_1.length c0_1) l0_1) (h : turnstoneref01_Neg.f k a0_0 l0_1 = some (r1, r2)) :
  Calls Try.prog 40 #[.agg #[.bool a0_0, .slice A0_1 l0_1.length c0_1]] w fun e w' => ∃ v1_ : Value, e = .returned (.agg #[.bool r1, v1_]) ∧ Kd.V (Kd.int .i64) 3 w' w.heap.size (fun k_ => (P0_1_ k_ ∨ w.heap.size ≤ k_)) v1_ r2 ∧ Below w.heap.size w w' := by
 have hu49 := Try.underlying49
 have HO0_1 := Aside0.mk (show Kd.V (Kd.int .i64) 3 w w.heap.size (fun k_ => (P0_1_ k_ ∨ w.heap.size ≤ k_)) (.slice A0_1 l0_1.length c0_1) l0_1 from Kd.V_mono hs0_1 (fun k_ hk => .inl hk))
 have HB := Aside0.mk (Below.refl w.heap.size w)
 have H : ((turnstoneref01_trim.f k (!a0_0) l0_1).bind fun bt182 => (some (bt182.1, bt182.2))) = some (r1, r2) := h
 clear h
 replace H := Option.bind_eq_some_iff.mp H
 obtain ⟨⟨t182, t183⟩, A20, H⟩ := H
 replace H : (some (t182, t183)) = some (r1, r2) := H
 have A2 := Aside0.mk A20
 clear A20
 simp only [Option.some.injEq, Prod.mk.injEq] at H
 obtain ⟨rfl, rfl⟩ := H
 go_enter Try.func40, Try.ntmps40
 go_wp2_with (first | ((with_reducible refine gate_dst (N := 1) rfl ?_); refine box_event ?hg (N := 1) ?hd (cs := #[.bool a0_0, .slice A0_1 l0_1.length c0_1]) (t := 49) ?hr ?_; (case hd => rfl); (case hg => rfl); (case hr => first | (go_simp; done) | (go_simp; rfl)); intro gb180 hg w3 hbox hb; replace HO0_1 := Aside0.mk (Kd.V_below (Kd.V_elderB (vt HO0_1) gb180 (Nat.le_of_eq hg.symm)) hb); have BK180 := Aside0.mk (hbox); have GW180 := bels HB hg; have GE180 := bels HB hg; replace HB := belb HB hb; clear hb hbox hg) | ((with_reducible refine gate_dst (N := 2) rfl ?_); refine box_event ?hg (N := 2) ?hd (cs := #[.bool false, .slice none 0 0]) (t := 49) ?hr ?_; (case hd => rfl); (case hg => rfl); (case hr => first | (go_simp; done) | (go_simp; rfl)); intro gb181 hg w4 hbox hb; replace HO0_1 := Aside0.mk (Kd.V_below (Kd.V_elderB (vt HO0_1) gb181 (Nat.le_of_eq hg.symm)) hb); have BK181 := Aside0.mk (hbox); have GW181 := bels HB hg; have GE181 := bels HB hg; have NB180_181 := blkl BK180 hg; have NB181_180 := blkg BK180 hg; replace BK180 := blkb BK180 hb; replace HB := belb HB hb; clear hb hbox hg; have hnb5 := NB180_181.out; have hnc5 := NB181_180.out; have hcz6_0 : w4.cell? ⟨gb180, 0, none⟩ = some (.bool a0_0) := bc BK180 0; have hcz6_1 : w4.cell? ⟨gb180, 1, none⟩ = some (.slice A0_1 l0_1.length c0_1) := bc BK180 1; have hfz6_0 := blk_frozen BK180.out 0; have hfz6_1 := blk_frozen BK180.out 1) | ((with_reducible refine gate_callee (f := 49) rfl ?_); refine goesL_ (some 9) rfl rfl Try.func49 (by kernel_rfl) rfl #[.agg #[.bool (!a0_0), .slice A0_1 l0_1.length c0_1]] rfl argt ?_; (with_reducible refine (turnstoneref01_trim.calls k (!a0_0) (fun k_ => (((P0_1_ k_ ∨ w.heap.size ≤ k_) ∧ k_ ≠ gb180) ∧ k_ ≠ gb181)) _ _ l0_1 t182 t183 _ ?side1 A2.out).mono ?_); (case side1 => exact HO0_1.out); rintro e w7 ⟨v184, rfl, ho0, hb⟩; refine ⟨_, rfl, ?_⟩; replace HO0_1 := vb HO0_1 hb; have HO185 := Aside0.mk (Kd.V_lower (Kd.V_mono (ok' := fun k_ => (P0_1_ k_ ∨ w.heap.size ≤ k_) ∧ k_ ≠ gb180 ∧ k_ ≠ gb181) ho0 (fun k_ hk_ => ⟨Or.elim hk_ (fun hs_ => hs_.1.1) (fun hn_ => (.inr (Nat.le_trans (below_size (belt HB)) hn_))), Or.elim hk_ (fun hs_ => hs_.1.2) (fun hn_ => (Kd.freshB (blkt BK180) k_ hn_)), Or.elim hk_ (fun hs_ => hs_.2) (fun hn_ => (Kd.freshB (blkt BK181) k_ hn_))⟩)) (below_size (belt HB))); replace BK180 := blkb BK180 hb; replace BK181 := blkb BK181 hb; replace HB := belb HB hb; (try clear hb); (try clear hb2); (try clear hk); (try clear hi); (try clear ho0); have hcz8_0 : w7.cell? ⟨gb181, 0, none⟩ = some (.bool false) := bc BK181 0; have hcz8_1 : w7.cell? ⟨gb181, 1, none⟩ = some (.slice none 0 0) := bc BK181 1; have hfz8_0 := blk_frozen BK181.out 0; have hfz8_1 := blk_frozen BK181.out 1; obtain ⟨Ao9, co9, eo9⟩ := Kd.V_slice HO185.out; subst eo9))
 refine bodyPost_ret (results_cell_row rfl _ _ gb181 49 #[.bool t182, .slice Ao9 t183.length co9] (0, 0) _ rfl (by (with_reducible repeat (first | refine blk_drewN ?_ _ | refine blk_drew ?_ | refine blk_alloc ?_ _)); refine blk_put (cs := #[.bool t182, .slice none 0 0]) ?_ 1 _ rfl; (with_reducible repeat (first | refine blk_drewN ?_ _ | refine blk_drew ?_ | refine blk_alloc ?_ _)); refine blk_put (cs := #[.bool false, .slice none 0 0]) ?_ 0 _ rfl; exact blkt BK181) Try.underlying49 rfl (by kernel_rfl)) rfl ?_
 exact ⟨_, by first | rfl | (simp [errW_none, errW_some] <;> rfl) | (simp [*, errW_none, errW_some] <;> rfl), by (with_reducible repeat (first | apply Kd.V_alloc | apply Kd.V_drewN | apply Kd.V_drew)); exact Kd.V_mono (Kd.V_far (p := ⟨gb181, 1, none⟩) (Kd.V_far (p := ⟨gb181, 0, none⟩) (Kd.V_mono HO185.out (fun k_ hk => (⟨hk, hk.2.2⟩ : _ ∧ k_ ≠ gb181))) (fun _ hk => hk.2) (.bool t182)) (fun _ hk => hk.2) (.slice Ao9 t183.length co9)) (fun _ hk => hk.1.1), belt HB⟩


/-! ### turnstoneref01_digit: function 53 -/
def turnstoneref01_digit.f (a0_0 : Bool) (l0_1 : List Int) (a1 : Int) : Option (Int) := if a1 < (l0_1.length : Int) then (if 0 ≤ a1 then (some (rd l0_1 a1)) else (none)) else (some 0)
set_option maxHeartbeats 8000000 in
set_option maxRecDepth 100000 in
theorem turnstoneref01_digit.calls (a0_0 : Bool) (A0_1 : Option Addr) (c0_1 : Nat) (l0_1 : List Int) (a1 : Int) (r : Int) (w : World) (hr0_1 : Kd.C (Kd.int .i64) w A0_1 l0_1.length l0_1) (hc0_1 : l0_1.length ≤ c0_1) (h : turnstoneref01_digit.f a0_0 l0_1 a1 = some r) :
  Calls Try.prog 53 #[.agg #[.bool a0_0, .slice A0_1 l0_1.length c0_1], .int .i64 a1] w fun e w' => e = .returned (.int .i64 r) ∧ Below w.heap.size w w' := by
 have hu49 := Try.underlying49
 have HR0_1 := Aside0.mk hr0_1
 have HC0_1 := Aside0.mk hc0_1
 clear hr0_1 hc0_1
 have HB := Aside0.mk (Below.refl w.heap.size w)
 have H : (if a1 < (l0_1.length : Int) then (if 0 ≤ a1 then (some (rd l0_1 a1)) else (none)) else (some 0)) = some r := h
 clear h
 by_cases c3 : a1 < (l0_1.length : Int)
 ·rw [if_pos c3] at H
  have c3b0 : decide (a1 < (l0_1.length : Int)) = true := decide_eq_true c3
  clear c3
  by_cases c4 : 0 ≤ a1
  ·rw [if_pos c4] at H
   have c4b0 : decide (0 ≤ a1) = true := decide_eq_true c4
   clear c4
   obtain rfl := Option.some.inj H
   go_enter Try.func53, Try.ntmps53
   go_wp2_with (first | ((with_reducible refine gate_dst (N := 2) rfl ?_); refine box_event ?hg (N := 2) ?hd (cs := #[.bool a0_0, .slice A0_1 l0_1.length c0_1]) (t := 49) ?hr ?_; (case hd => rfl); (case hg => rfl); (case hr => first | (go_simp; done) | (go_simp; rfl)); intro gb186 hg w5 hbox hb; have BK186 := Aside0.mk (hbox); have GW186 := bels HB hg; have GE186 := bels HB hg; replace HB := belb HB hb; clear hb hbox hg; have hcz6_0 : w5.cell? ⟨gb186, 0, none⟩ = some (.bool a0_0) := bc BK186 0; have hcz6_1 : w5.cell? ⟨gb186, 1, none⟩ = some (.slice A0_1 l0_1.length c0_1) := bc BK186 1; have hfz6_0 := blk_frozen BK186.out 0; have hfz6_1 := blk_frozen BK186.out 1; have p187 : 0 ≤ (a1 : Int) := of_decide_eq_true (by first | (with_reducible assumption) | assumption); have q187 : a1 < (l0_1.length : Int) := of_decide_eq_true (by first | (with_reducible assumption) | assumption); obtain ⟨ad187, e187, hx187_0⟩ := Kd.at_int HR0_1.out a1 p187 q187; cases e187; replace hx187_0 := (HB.out.cell (World.block_lt_of_cell? w _ hx187_0)).trans hx187_0; replace p187 := eq_true p187; replace q187 := eq_true q187))
   go_ret
   exact ⟨by first | rfl | (simp [errW_none, errW_some] <;> rfl) | (simp [*, errW_none, errW_some] <;> rfl), belt HB⟩
  rw [if_neg c4] at H
  exact absurd H (by simp)
 rw [if_neg c3] at H
 have c3b0 : decide (a1 < (l0_1.length : Int)) = false := decide_eq_false c3
 clear c3
 obtain rfl := Option.some.inj H
 go_enter Try.func53, Try.ntmps53
 go_wp2_with (first | ((with_reducible refine gate_dst (N := 2) rfl ?_); refine box_event ?hg (N := 2) ?hd (cs := #[.bool a0_0, .slice A0_1 l0_1.length c0_1]) (t := 49) ?hr ?_; (case hd => rfl); (case hg => rfl); (case hr => first | (go_simp; done) | (go_simp; rfl)); intro gb186 hg w7 hbox hb; have BK186 := Aside0.mk (hbox); have GW186 := bels HB hg; have GE186 := bels HB hg; replace HB := belb HB hb; clear hb hbox hg; have hcz8_0 : w7.cell? ⟨gb186, 0, none⟩ = some (.bool a0_0) := bc BK186 0; have hcz8_1 : w7.cell? ⟨gb186, 1, none⟩ = some (.slice A0_1 l0_1.length c0_1) := bc BK186 1; have hfz8_0 := blk_frozen BK186.out 0; have hfz8_1 := blk_frozen BK186.out 1))
 go_ret
 exact ⟨by first | rfl | (simp [errW_none, errW_some] <;> rfl) | (simp [*, errW_none, errW_some] <;> rfl), belt HB⟩


/-! ### turnstoneref01_plus: function 50 -/
mutual
def turnstoneref01_plus.l0 : Nat → List Int → Int → Int → Bool → List Int → Bool → List Int → Option (List Int)
 | 0, _, _, _, _, _, _, _ => none
 | k + 1, x5, x6, x7, x189000, x189001, x190000, x190001 => if x7 < (x189001.length : Int) then (turnstoneref01_plus.j1 k x5 x6 x7 true x189000 x189001 x190000 x190001) else (if x7 < (x190001.length : Int) then (turnstoneref01_plus.j1 k x5 x6 x7 true x189000 x189001 x190000 x190001) else (turnstoneref01_plus.j1 k x5 x6 x7 (decide (x6 > 0)) x189000 x189001 x190000 x190001))
def turnstoneref01_plus.j1 : Nat → List Int → Int → Int → Bool → Bool → List Int → Bool → List Int → Option (List Int)
 | 0, _, _, _, _, _, _, _, _ => none
 | k + 1, x5, x6, x7, x24, x189000, x189001, x190000, x190001 => if x24 = true then ((turnstoneref01_digit.f x189000 x189001 x7).bind fun t190 => ((turnstoneref01_digit.f x190000 x190001 x7).bind fun t191 => (if x5.length < 17592186044416 then (turnstoneref01_plus.l0 k (x5 ++ [Int.tmod (wrap64 ((wrap64 (t190 + t191)) + x6)) 10000]) (wrap64 (Int.tdiv (wrap64 ((wrap64 (t190 + t191)) + x6)) 10000)) (wrap64 (x7 + 1)) x189000 x189001 x190000 x190001) else (none)))) else (some x5)
end
def turnstoneref01_plus.f (k : Nat) (a0_0 : Bool) (l0_1 : List Int) (a1_0 : Bool) (l1_1 : List Int) : Option (List Int) := turnstoneref01_plus.l0 k ([] : List Int) 0 0 a0_0 l0_1 a1_0 l1_1
theorem turnstoneref01_plus.mono_l : ∀ k, (∀ y0 y1 y2 y3 y4 y5 y6, LeO (turnstoneref01_plus.l0 k y0 y1 y2 y3 y4 y5 y6) (turnstoneref01_plus.l0 (k + 1) y0 y1 y2 y3 y4 y5 y6)) ∧ (∀ y0 y1 y2 y3 y4 y5 y6 y7, LeO (turnstoneref01_plus.j1 k y0 y1 y2 y3 y4 y5 y6 y7) (turnstoneref01_plus.j1 (k + 1) y0 y1 y2 y3 y4 y5 y6 y7))
 | 0 => ⟨fun _ _ _ _ _ _ _ r h => by simp [turnstoneref01_plus.l0] at h, fun _ _ _ _ _ _ _ _ r h => by simp [turnstoneref01_plus.j1] at h⟩
 | k + 1 => by
  obtain ⟨ih0, ih1⟩ := turnstoneref01_plus.mono_l k
  refine ⟨?_, ?_⟩
  ·intro y0 y1 y2 y3 y4 y5 y6
   unfold turnstoneref01_plus.l0
   repeat' first
   | (with_reducible exact ih0 _ _ _ _ _ _ _)
   | (with_reducible exact ih1 _ _ _ _ _ _ _ _)
   | (with_reducible exact LeO.refl _)
   | (with_reducible exact LeO.none _)
   | (with_reducible refine LeO.ite ?_ ?_)
   | (with_reducible refine LeO.bind ?_ (fun _ => ?_))
   | exact ih0 _ _ _ _ _ _ _
   | exact ih1 _ _ _ _ _ _ _ _
   | exact LeO.none _
   | refine LeO.ite ?_ ?_
   | refine LeO.bind ?_ (fun _ => ?_)
  intro y0 y1 y2 y3 y4 y5 y6 y7
  unfold turnstoneref01_plus.j1
  repeat' first
  | (with_reducible exact ih0 _ _ _ _ _ _ _)
  | (with_reducible exact ih1 _ _ _ _ _ _ _ _)
  | (with_reducible exact LeO.refl _)
  | (with_reducible exact LeO.none _)
  | (with_reducible refine LeO.ite ?_ ?_)
  | (with_reducible refine LeO.bind ?_ (fun _ => ?_))
  | exact ih0 _ _ _ _ _ _ _
  | exact ih1 _ _ _ _ _ _ _ _
  | exact LeO.none _
  | refine LeO.ite ?_ ?_
  | refine LeO.bind ?_ (fun _ => ?_)
theorem turnstoneref01_plus.mono : ∀ a0 a1 a2 a3 k, LeO (turnstoneref01_plus.f k a0 a1 a2 a3) (turnstoneref01_plus.f (k + 1) a0 a1 a2 a3) := by
 intro a0 a1 a2 a3 k
 obtain ⟨ih0, ih1⟩ := turnstoneref01_plus.mono_l k
 unfold turnstoneref01_plus.f
 repeat' first
   | (with_reducible exact ih0 _ _ _ _ _ _ _)
   | (with_reducible exact ih1 _ _ _ _ _ _ _ _)
   | (with_reducible exact LeO.refl _)
   | (with_reducible exact LeO.none _)
   | (with_reducible refine LeO.ite ?_ ?_)
   | (with_reducible refine LeO.bind ?_ (fun _ => ?_))
   | exact ih0 _ _ _ _ _ _ _
   | exact ih1 _ _ _ _ _ _ _ _
   | exact LeO.none _
   | refine LeO.ite ?_ ?_
   | refine LeO.bind ?_ (fun _ => ?_)
def turnstoneref01_plus.T6 : Bool × List (List Nat × List Nat) := (true, [([], []), ([], []), ([0, 1], [0, 1]), ([], []), ([], []), ([3, 4, 2], [3, 4]), ([2, 5], [2, 5]), ([], []), ([6, 7], [6, 7]), ([8, 5, 0, 1, 2, 3, 4, 5, 6, 7, 8], [8])])
def turnstoneref01_plus.B6 : List Nat := [0, 0, 3, 0, 0, 31, 63, 0, 255, 511]
theorem turnstoneref01_plus.tab6 : rtab .any (opsOf Try.f50 6) = turnstoneref01_plus.T6 := by kernel_rfl
theorem turnstoneref01_plus.bits6 : waitsOk turnstoneref01_plus.T6.2 turnstoneref01_plus.B6 = true := by kernel_rfl
set_option maxHeartbeats 8000000 in
set_option maxRecDepth 100000 in
theorem turnstoneref01_plus.calls (k : Nat) (a0_0 : Bool) (A0_1 : Option Addr) (c0_1 : Nat) (l0_1 : List Int) (a1_0 : Bool) (A1_1 : Option Addr) (c1_1 : Nat) (l1_1 : List Int) (r : List Int) (w : World) (hr0_1 : Kd.C (Kd.int .i64) w A0_1 l0_1.length l0_1) (hc0_1 : l0_1.length ≤ c0_1) (hr1_1 : Kd.C (Kd.int .i64) w A1_1 l1_1.length l1_1) (hc1_1 : l1_1.length ≤ c1_1) (h : turnstoneref01_plus.f k a0_0 l0_1 a1_0 l1_1 = some r) :
  Calls Try.prog 50 #[.agg #[.bool a0_0, .slice A0_1 l0_1.length c0_1], .agg #[.bool a1_0, .slice A1_1 l1_1.length c1_1]] w fun e w' => ∃ v0_ : Value, e = .returned (v0_) ∧ Kd.R (Kd.int .i64) 3 w' w.heap.size (fun _ => True) v0_ r ∧ Below w.heap.size w w' := by
 have hu49 := Try.underlying49
 have HR0_1 := Aside0.mk hr0_1
 have HC0_1 := Aside0.mk hc0_1
 clear hr0_1 hc0_1
 have HR1_1 := Aside0.mk hr1_1
 have HC1_1 := Aside0.mk hc1_1
 clear hr1_1 hc1_1
 have HB := Aside0.mk (Below.refl w.heap.size w)
 have H : (turnstoneref01_plus.l0 k ([] : List Int) 0 0 a0_0 l0_1 a1_0 l1_1) = some r := h
 clear h
 have H' := Aside0.mk H
 clear H
 go_enter Try.func50, Try.ntmps50
 go_wp2_with (first | ((with_reducible refine gate_dst (N := 2) rfl ?_); (try (refine gate_guard (by rfl) ?_; dsimp only)); refine box_event ?hg (N := 2) ?hd (cs := #[.bool a0_0, .slice A0_1 l0_1.length c0_1]) (t := 49) ?hr ?_; (case hd => rfl); (case hg => rfl); (case hr => first | (go_simp; done) | (go_simp; rfl)); intro gb188 hg w3 hbox hb; have BK188 := Aside0.mk (hbox); have GW188 := bels HB hg; have GE188 := bels HB hg; replace HB := belb HB hb; clear hb hbox hg) | ((with_reducible refine gate_dst (N := 3) rfl ?_); (try (refine gate_guard (by rfl) ?_; dsimp only)); refine box_event ?hg (N := 3) ?hd (cs := #[.bool a1_0, .slice A1_1 l1_1.length c1_1]) (t := 49) ?hr ?_; (case hd => rfl); (case hg => rfl); (case hr => first | (go_simp; done) | (go_simp; rfl)); intro gb189 hg w4 hbox hb; have BK189 := Aside0.mk (hbox); have GW189 := bels HB hg; have GE189 := bels HB hg; have NB188_189 := blkl BK188 hg; have NB189_188 := blkg BK188 hg; replace BK188 := blkb BK188 hb; replace HB := belb HB hb; clear hb hbox hg))
 (try simp only [Act.put, List.setIfInBounds_toArray, List.set_cons_zero, List.set_cons_succ])
 go_loopg [5, 6, 7] k (fun kq v5 v6 v7 w' => ∃ (x5_1 : List Int) (x6_1 : Int) (x7_1 : Int), v6 = .int .i64 x6_1 ∧ v7 = .int .i64 x7_1 ∧ Aside0 (turnstoneref01_plus.l0 kq x5_1 x6_1 x7_1 a0_0 l0_1 a1_0 l1_1 = some r) ∧ Aside0 (kq ≤ k) ∧ Aside0 (Kd.R (Kd.int .i64) 3 w' w.heap.size (fun _ => True) v5 x5_1) ∧ Aside0 (w'.heap[gb188]? = some (.cells #[.bool a0_0, (.slice A0_1 l0_1.length c0_1)] 49 (0, 0))) ∧ Aside0 (w'.heap[gb189]? = some (.cells #[.bool a1_0, (.slice A1_1 l1_1.length c1_1)] 49 (0, 0))) ∧ Aside0 (Below w.heap.size w w'))
 case atStart => exact ⟨(([] : List Int)), (0), (0), (by first | rfl | (simp; done) | (simp [*]; done)), (by first | rfl | (simp; done) | (simp [*]; done)), H', ⟨Nat.le_refl _⟩, ⟨by first | exact Kd.R_nil _ _ _ _ _ | exact Kd.N_nil _ _ _ _ _ | exact Kd.V_nil _ _ _ _ _ | exact Kd.Q_nil _ _ _ _ _ | exact Kd.S_nil _ _ _ _ _⟩, ⟨blkt BK188⟩, ⟨blkt BK189⟩, ⟨belt HB⟩⟩
 case round =>
  clear H'
  try clear c1
  try clear p2
  obtain ⟨x5_1, x6_1, x7_1, rfl, rfl, HA, HK1, HO_5, BK188, BK189, HB⟩ := hrel
  cases gk with
  | zero => exact absurd HA.out (by simp [turnstoneref01_plus.l0])
  | succ k1 =>
   have H := HA.out
   clear HA
   simp only [turnstoneref01_plus.l0] at H
   have HC5 := Aside0.mk H
   clear H
   go_upto_region 4 with (fail)
   go_cut [24] (fun v24 wc => ∃ (kq : Nat) (x24_4 : Bool), v24 = .bool x24_4 ∧ Aside0 (turnstoneref01_plus.j1 kq x5_1 x6_1 x7_1 x24_4 a0_0 l0_1 a1_0 l1_1 = some r) ∧ Aside0 (kq ≤ k1) ∧ Aside0 (Kd.R (Kd.int .i64) 3 wc w.heap.size (fun _ => True) u5 x5_1) ∧ Aside0 (wc.heap[gb188]? = some (.cells #[.bool a0_0, (.slice A0_1 l0_1.length c0_1)] 49 (0, 0))) ∧ Aside0 (wc.heap[gb189]? = some (.cells #[.bool a1_0, (.slice A1_1 l1_1.length c1_1)] 49 (0, 0))) ∧ Aside0 (Below w.heap.size w wc))
   case first =>
    have H := HC5.out
    clear HC5
    by_cases c6 : x7_1 < (l0_1.length : Int)
    ·rw [if_pos c6] at H
     have c6b0 : decide (x7_1 < (l0_1.length : Int)) = true := decide_eq_true c6
     clear c6
     (first | rw [c6b0] | (simp only [i64_w, i32_w]; rw [c6b0]) | skip)
     have H' := Aside0.mk H
     clear H
     have hnb7 := NB188_189.out
     have hnc7 := NB189_188.out
     have hcz8_0 : wr.cell? ⟨gb188, 0, none⟩ = some (.bool a0_0) := bc BK188 0
     have hcz8_1 : wr.cell? ⟨gb188, 1, none⟩ = some (.slice A0_1 l0_1.length c0_1) := bc BK188 1
     have hfz8_0 := blk_frozen BK188.out 0
     have hfz8_1 := blk_frozen BK188.out 1
     go_wp2
     go_meet
     case rel => exact ⟨_, (true), (by first | rfl | (simp; done) | (simp [*]; done)), H', ⟨by have := HK1.out; first | omega | exact Nat.le_refl _⟩, ⟨by (with_reducible repeat (first | apply Kd.R_alloc | apply Kd.R_drewN | apply Kd.R_drew)); exact HO_5.out⟩, ⟨blkt BK188⟩, ⟨blkt BK189⟩, ⟨belt HB⟩⟩
    rw [if_neg c6] at H
    have c6b0 : decide (x7_1 < (l0_1.length : Int)) = false := decide_eq_false c6
    clear c6
    (first | rw [c6b0] | (simp only [i64_w, i32_w]; rw [c6b0]) | skip)
    by_cases c9 : x7_1 < (l1_1.length : Int)
    ·rw [if_pos c9] at H
     have c9b0 : decide (x7_1 < (l1_1.length : Int)) = true := decide_eq_true c9
     clear c9
     have H' := Aside0.mk H
     clear H
     have hnb10 := NB188_189.out
     have hnc10 := NB189_188.out
     have hcz11_0 : wr.cell? ⟨gb188, 0, none⟩ = some (.bool a0_0) := bc BK188 0
     have hcz11_1 : wr.cell? ⟨gb188, 1, none⟩ = some (.slice A0_1 l0_1.length c0_1) := bc BK188 1
     have hfz11_0 := blk_frozen BK188.out 0
     have hfz11_1 := blk_frozen BK188.out 1
     have hcz12_0 : wr.cell? ⟨gb189, 0, none⟩ = some (.bool a1_0) := bc BK189 0
     have hcz12_1 : wr.cell? ⟨gb189, 1, none⟩ = some (.slice A1_1 l1_1.length c1_1) := bc BK189 1
     have hfz12_0 := blk_frozen BK189.out 0
     have hfz12_1 := blk_frozen BK189.out 1
     go_wp2
     go_meet
     case rel => exact ⟨_, (true), (by first | rfl | (simp; done) | (simp [*]; done)), H', ⟨by have := HK1.out; first | omega | exact Nat.le_refl _⟩, ⟨by (with_reducible repeat (first | apply Kd.R_alloc | apply Kd.R_drewN | apply Kd.R_drew)); exact HO_5.out⟩, ⟨blkt BK188⟩, ⟨blkt BK189⟩, ⟨belt HB⟩⟩
    rw [if_neg c9] at H
    have c9b0 : decide (x7_1 < (l1_1.length : Int)) = false := decide_eq_false c9
    clear c9
    have H' := Aside0.mk H
    clear H
    have hnb13 := NB188_189.out
    have hnc13 := NB189_188.out
    have hcz14_0 : wr.cell? ⟨gb188, 0, none⟩ = some (.bool a0_0) := bc BK188 0
    have hcz14_1 : wr.cell? ⟨gb188, 1, none⟩ = some (.slice A0_1 l0_1.length c0_1) := bc BK188 1
    have hfz14_0 := blk_frozen BK188.out 0
    have hfz14_1 := blk_frozen BK188.out 1
    have hcz15_0 : wr.cell? ⟨gb189, 0, none⟩ = some (.bool a1_0) := bc BK189 0
    have hcz15_1 : wr.cell? ⟨gb189, 1, none⟩ = some (.slice A1_1 l1_1.length c1_1) := bc BK189 1
    have hfz15_0 := blk_frozen BK189.out 0
    have hfz15_1 := blk_frozen BK189.out 1
    go_wp2
    go_meet
    case rel => exact ⟨_, (decide (x6_1 > 0)), (by first | rfl | (simp; done) | (simp [*]; done)), H', ⟨by have := HK1.out; first | omega | exact Nat.le_refl _⟩, ⟨by (with_reducible repeat (first | apply Kd.R_alloc | apply Kd.R_drewN | apply Kd.R_drew)); exact HO_5.out⟩, ⟨blkt BK188⟩, ⟨blkt BK189⟩, ⟨belt HB⟩⟩
   case rest =>
    clear HC5
    try clear c1
    try clear p2
    try clear c5
    try clear c6
    try clear c6b0
    try clear c7
    try clear c9
    try clear c9b0
    try clear c10
    try clear c13
    try clear hcz11_0
    try clear hcz11_1
    try clear hcz12_0
    try clear hcz12_1
    try clear hcz14_0
    try clear hcz14_1
    try clear hcz15_0
    try clear hcz15_1
    try clear hcz8_0
    try clear hcz8_1
    try clear hfz11_0
    try clear hfz11_1
    try clear hfz12_0
    try clear hfz12_1
    try clear hfz14_0
    try clear hfz14_1
    try clear hfz15_0
    try clear hfz15_1
    try clear hfz8_0
    try clear hfz8_1
    try clear p2
    obtain ⟨kq, x24_4, rfl, HA, HJ4, HO_5, BK188, BK189, HB⟩ := hcut
    cases kq with
    | zero => exact absurd HA.out (by simp [turnstoneref01_plus.j1])
    | succ kj4 =>
     have H := HA.out
     clear HA
     simp only [turnstoneref01_plus.j1] at H
     by_cases c16 : x24_4 = true
     ·subst c16
      have H1 : ((turnstoneref01_digit.f a0_0 l0_1 x7_1).bind fun t190 => ((turnstoneref01_digit.f a1_0 l1_1 x7_1).bind fun t191 => (if x5_1.length < 17592186044416 then (turnstoneref01_plus.l0 kj4 (x5_1 ++ [Int.tmod (wrap64 ((wrap64 (t190 + t191)) + x6_1)) 10000]) (wrap64 (Int.tdiv (wrap64 ((wrap64 (t190 + t191)) + x6_1)) 10000)) (wrap64 (x7_1 + 1)) a0_0 l0_1 a1_0 l1_1) else (none)))) = some r := by rw [if_pos rfl] at H; exact H
      clear H
      have H := H1
      clear H1
      replace H := Option.bind_eq_some_iff.mp H
      obtain ⟨t190, A170, H⟩ := H
      replace H : ((turnstoneref01_digit.f a1_0 l1_1 x7_1).bind fun t191 => (if x5_1.length < 17592186044416 then (turnstoneref01_plus.l0 kj4 (x5_1 ++ [Int.tmod (wrap64 ((wrap64 (t190 + t191)) + x6_1)) 10000]) (wrap64 (Int.tdiv (wrap64 ((wrap64 (t190 + t191)) + x6_1)) 10000)) (wrap64 (x7_1 + 1)) a0_0 l0_1 a1_0 l1_1) else (none))) = some r := H
      have A17 := Aside0.mk A170
      clear A170
      replace H := Option.bind_eq_some_iff.mp H
      obtain ⟨t191, A180, H⟩ := H
      replace H : (if x5_1.length < 17592186044416 then (turnstoneref01_plus.l0 kj4 (x5_1 ++ [Int.tmod (wrap64 ((wrap64 (t190 + t191)) + x6_1)) 10000]) (wrap64 (Int.tdiv (wrap64 ((wrap64 (t190 + t191)) + x6_1)) 10000)) (wrap64 (x7_1 + 1)) a0_0 l0_1 a1_0 l1_1) else (none)) = some r := H
      have A18 := Aside0.mk A180
      clear A180
      by_cases c19 : x5_1.length < 17592186044416
      ·rw [if_pos c19] at H
       have LMc19 := Aside0.mk c19
       clear c19
       obtain ⟨y192, hy192⟩ : ∃ y_ : List Int, y_ = (x5_1 ++ [Int.tmod (wrap64 ((wrap64 (t190 + t191)) + x6_1)) 10000]) := ⟨_, rfl⟩
       replace H : (turnstoneref01_plus.l0 kj4 y192 (wrap64 (Int.tdiv (wrap64 ((wrap64 (t190 + t191)) + x6_1)) 10000)) (wrap64 (x7_1 + 1)) a0_0 l0_1 a1_0 l1_1) = some r := by first | (rw [hy192]; with_reducible exact H) | (have H2_ := (Option.bind_some _ _).symm.trans H; rw [hy192]; with_reducible exact H2_) | (have H2_ := (Option.bind_some _ _).symm.trans H; with_reducible exact H2_) | with_reducible exact H | (rw [hy192]; exact H) | exact H
       have Ny192 := Aside0.mk hy192
       clear hy192
       have H' := Aside0.mk H
       clear H
       try go_wp2
       replace HO_5 := Aside0.mk (Kd.R_drew HO_5.out)
       replace BK188 := Aside0.mk (blk_drew BK188.out)
       replace BK189 := Aside0.mk (blk_drew BK189.out)
       replace HB := Aside0.mk (below_drew1 HB.out)
       refine start_ (n := 10) (S := fun w' => w'.cell? ⟨gb188, 0, none⟩ = some (.bool a0_0) ∧ w'.cell? ⟨gb188, 1, none⟩ = some (.slice A0_1 l0_1.length c0_1) ∧ w'.cell? ⟨gb189, 0, none⟩ = some (.bool a1_0) ∧ w'.cell? ⟨gb189, 1, none⟩ = some (.slice A1_1 l1_1.length c1_1)) (ds := []) #[false, false, false, false, false, false, false, false, false, false] (by kernel_rfl) rfl rfl ⟨bc BK188 0, bc BK188 1, bc BK189 0, bc BK189 1⟩ (fun hHeld => ?_); refine with_tabW turnstoneref01_plus.tab6 turnstoneref01_plus.bits6 (fun HT_ HW_ => ?_)
       generalize wc.drew = w20 at HO_5 BK188 BK189 HB hHeld ⊢
       refine pure_ (i := 1) (N := some 28) (v := ?_) (a' := ?_) #[false, true, false, false, false, false, false, false, false, false] rfl rfl (any_of HT_.out (by kernel_rfl)) (fun _ _ _ h => h) (Or.inl ⟨by rfl, ?_⟩) ?_ ?_
       rotate_left
       ·intro w'
        go_simp
        with_reducible rfl
       rotate_left
       ·simp only [Act.put, List.setIfInBounds_toArray, List.set_cons_zero, List.set_cons_succ, i64_w, i32_w]
        rfl
       refine pure_ (i := 4) (N := some 31) (v := ?_) (a' := ?_) #[false, true, false, false, true, false, false, false, false, false] rfl rfl (any_of HT_.out (by kernel_rfl)) (fun _ _ _ h => h) (Or.inl ⟨by rfl, ?_⟩) ?_ ?_
       rotate_left
       ·intro w'
        go_simp
        with_reducible rfl
       rotate_left
       ·simp only [Act.put, List.setIfInBounds_toArray, List.set_cons_zero, List.set_cons_succ, i64_w, i32_w]
        rfl
       refine pure_ (i := 7) (N := some 34) (v := ?_) (a' := ?_) #[false, true, false, false, true, false, false, true, false, false] rfl rfl (any_of HT_.out (by kernel_rfl)) (fun _ _ _ h => h) (Or.inl ⟨by rfl, ?_⟩) ?_ ?_
       rotate_left
       ·intro w'
        go_simp
        with_reducible rfl
       rotate_left
       ·simp only [Act.put, List.setIfInBounds_toArray, List.set_cons_zero, List.set_cons_succ, i64_w, i32_w]
        rfl
       refine take_ (i := 0) (N := some 27) (v := ?_) (a' := ?_) #[true, true, false, false, true, false, false, true, false, false] rfl rfl (take_ofW HT_.out HW_.out (by kernel_rfl)) (fun _ _ _ h => h) (Or.inl ⟨by rfl, ?_⟩) hHeld ?_ ?_
       rotate_left
       ·rintro w' ⟨s0, s1, s2, s3⟩
        go_simp
        with_reducible rfl
       rotate_left
       ·simp only [Act.put, List.setIfInBounds_toArray, List.set_cons_zero, List.set_cons_succ, i64_w, i32_w]
        rfl
       refine take_ (i := 3) (N := some 30) (v := ?_) (a' := ?_) #[true, true, false, true, true, false, false, true, false, false] rfl rfl (take_ofW HT_.out HW_.out (by kernel_rfl)) (fun _ _ _ h => h) (Or.inl ⟨by rfl, ?_⟩) hHeld ?_ ?_
       rotate_left
       ·rintro w' ⟨s0, s1, s2, s3⟩
        go_simp
        with_reducible rfl
       rotate_left
       ·simp only [Act.put, List.setIfInBounds_toArray, List.set_cons_zero, List.set_cons_succ, i64_w, i32_w]
        rfl
       refine one_ (i := 2) (N := some 29) #[true, true, true, true, true, false, false, true, false, false] rfl rfl (one_of HT_.out (by kernel_rfl)) (by decide) (fun K hK => ?_)
       refine goes_ Try.func53 (by kernel_rfl) rfl #[.agg #[.bool a0_0, .slice A0_1 l0_1.length c0_1], .int .i64 x7_1] (by rfl) rfl rfl argt ?_
       with_reducible refine (turnstoneref01_digit.calls a0_0 _ _ l0_1 x7_1 t190 _ ?side1 ?side2 A17.out).mono ?_
       (case side1 => exact (ct (Kd.C_below HR0_1.out HB.out)))
       (case side2 => exact HC0_1.out)
       rintro e w21 ⟨rfl, hb⟩
       refine ⟨_, rfl, ?_⟩
       replace HO_5 := rb HO_5 hb
       replace BK188 := blkb BK188 hb
       replace BK189 := blkb BK189 hb
       replace HB := belb HB hb
       (try clear hb)
       (try clear hb2)
       (try clear hk)
       (try clear hi)
       refine hK.out _ _ ⟨bc BK188 0, bc BK188 1, bc BK189 0, bc BK189 1⟩ (fun hHeld => ?_)
       clear hK K
       refine norm_ (a' := ?_) ?_ ?_
       rotate_left
       ·show Act.put _ (some 29) _ = _
        simp only [Act.put, List.setIfInBounds_toArray, List.set_cons_zero, List.set_cons_succ, i64_w, i32_w]
        rfl
       refine one_ (i := 5) (N := some 32) #[true, true, true, true, true, true, false, true, false, false] rfl rfl (one_of HT_.out (by kernel_rfl)) (by decide) (fun K hK => ?_)
       refine goes_ Try.func53 (by kernel_rfl) rfl #[.agg #[.bool a1_0, .slice A1_1 l1_1.length c1_1], .int .i64 x7_1] (by rfl) rfl rfl argt ?_
       with_reducible refine (turnstoneref01_digit.calls a1_0 _ _ l1_1 x7_1 t191 _ ?side1 ?side2 A18.out).mono ?_
       (case side1 => exact (ct (Kd.C_below HR1_1.out HB.out)))
       (case side2 => exact HC1_1.out)
       rintro e w22 ⟨rfl, hb⟩
       refine ⟨_, rfl, ?_⟩
       replace HO_5 := rb HO_5 hb
       replace BK188 := blkb BK188 hb
       replace BK189 := blkb BK189 hb
       replace HB := belb HB hb
       (try clear hb)
       (try clear hb2)
       (try clear hk)
       (try clear hi)
       refine hK.out _ _ ⟨bc BK188 0, bc BK188 1, bc BK189 0, bc BK189 1⟩ (fun hHeld => ?_)
       clear hK K
       refine norm_ (a' := ?_) ?_ ?_
       rotate_left
       ·show Act.put _ (some 32) _ = _
        simp only [Act.put, List.setIfInBounds_toArray, List.set_cons_zero, List.set_cons_succ, i64_w, i32_w]
        rfl
       refine pure_ (i := 6) (N := some 33) (v := ?_) (a' := ?_) #[true, true, true, true, true, true, true, true, false, false] rfl rfl (any_of HT_.out (by kernel_rfl)) (fun _ _ _ h => h) (Or.inl ⟨by rfl, ?_⟩) ?_ ?_
       rotate_left
       ·intro w'
        go_simp
        with_reducible rfl
       rotate_left
       ·simp only [Act.put, List.setIfInBounds_toArray, List.set_cons_zero, List.set_cons_succ, i64_w, i32_w]
        rfl
       refine pure_ (i := 8) (N := some 35) (v := ?_) (a' := ?_) #[true, true, true, true, true, true, true, true, true, false] rfl rfl (any_of HT_.out (by kernel_rfl)) (fun _ _ _ h => h) (Or.inl ⟨by rfl, ?_⟩) ?_ ?_
       rotate_left
       ·intro w'
        go_simp
        with_reducible rfl
       rotate_left
       ·simp only [Act.put, List.setIfInBounds_toArray, List.set_cons_zero, List.set_cons_succ, i64_w, i32_w]
        rfl
       refine pure_ (i := 9) (N := some 8) (v := ?_) (a' := ?_) #[true, true, true, true, true, true, true, true, true, true] rfl rfl (any_of HT_.out (by kernel_rfl)) (fun _ _ _ h => h) (Or.inl ⟨by rfl, ?_⟩) ?_ ?_
       rotate_left
       ·intro w'
        go_simp
        with_reducible rfl
       rotate_left
       ·simp only [Act.put, List.setIfInBounds_toArray, List.set_cons_zero, List.set_cons_succ, i64_w, i32_w]
        rfl
       refine done_ (done_of HT_.out (by kernel_rfl)) ?_
       try go_wp2_with (first | ((with_reducible refine gate_builtin (b := .append) (xs := #[.tmp 36, .tmp 39]) rfl ?_); (try (refine gate_guard (by rfl) ?_; dsimp only)); at_builtin; refine Kd.R_append (Kd.int .i64) (w0 := w) w.heap.size rfl (.tmp 36) (.tmp 39) 47 3 (.int .i64 0) 8 rfl Try.underlying47 info3 rfl (by decide) (by omega) u5 x5_1 (Int.tmod (wrap64 ((wrap64 (t190 + t191)) + x6_1)) 10000) [.int .i64 (Int.tmod (wrap64 ((wrap64 (t190 + t191)) + x6_1)) 10000)] (fun _ => True) (fun _ => False) rfl rfl ?aP (fun _ hk => hk.elim) ?aF ?aO ?aB ?aS ?aL ?_; (case aP => exact rfl); (case aB => exact (belt HB)); (case aF => exact (fun _ _ => trivial)); (case aO => exact (rt HO_5)); (case aS => exact (below_size (belt HB))); (case aL => have := LMc19.out; omega); intro v193 w23 ho hb hg hat; rw [← Ny192.out] at ho; replace BK188 := Aside0.mk (blk_grown (blkt BK188) hg (Kd.R_ne HO_5.out BK188.out (by decide))); replace BK189 := Aside0.mk (blk_grown (blkt BK189) hg (Kd.R_ne HO_5.out BK189.out (by decide))); replace HB := Aside0.mk (hb); have HO194 := Aside0.mk (ho); clear HO_5; clear ho hb hg hat))
       go_roundg kj4
       case measure => have := HK1.out; have := HJ4.out; omega
       case rel => exact ⟨(y192), (wrap64 (Int.tdiv (wrap64 ((wrap64 (t190 + t191)) + x6_1)) 10000)), (wrap64 (x7_1 + 1)), (by first | rfl | (simp; done) | (simp [*]; done)), (by first | rfl | (simp; done) | (simp [*]; done)), H', ⟨by have := HK1.out; have := HJ4.out; omega⟩, ⟨by (with_reducible repeat (first | apply Kd.R_alloc | apply Kd.R_drewN | apply Kd.R_drew)); exact HO194.out⟩, ⟨blkt BK188⟩, ⟨blkt BK189⟩, ⟨belt HB⟩⟩
      rw [if_neg c19] at H
      exact absurd H (by simp)
     replace c16 := Bool.eq_false_iff.mpr c16
     subst c16
     have H1 : (some x5_1) = some r := by rw [if_neg (show ¬ (false = true) by decide)] at H; exact H
     clear H
     have H := H1
     clear H1
     obtain rfl := Option.some.inj H
     go_wp2
     go_ret
     exact ⟨_, by first | rfl | (simp [errW_none, errW_some] <;> rfl) | (simp [*, errW_none, errW_some] <;> rfl), by (with_reducible repeat (first | apply Kd.R_alloc | apply Kd.R_drewN | apply Kd.R_drew)); exact HO_5.out, belt HB⟩


/-! ### turnstoneref01_larger: function 51 -/
def turnstoneref01_larger.l0 : Nat → Int → Bool → List Int → Bool → List Int → Option (Int)
 | 0, _, _, _, _, _ => none
 | k + 1, x5, x196000, x196001, x197000, x197001 => if x5 ≥ 0 then ((turnstoneref01_digit.f x196000 x196001 x5).bind fun t197 => ((turnstoneref01_digit.f x197000 x197001 x5).bind fun t198 => (if t197 < t198 then (some (-1)) else ((turnstoneref01_digit.f x196000 x196001 x5).bind fun t199 => ((turnstoneref01_digit.f x197000 x197001 x5).bind fun t200 => (if t199 > t200 then (some 1) else (turnstoneref01_larger.l0 k (wrap64 (x5 - 1)) x196000 x196001 x197000 x197001))))))) else (some 0)
def turnstoneref01_larger.f (k : Nat) (a0_0 : Bool) (l0_1 : List Int) (a1_0 : Bool) (l1_1 : List Int) : Option (Int) := turnstoneref01_larger.l0 k (wrap64 ((mx (l0_1.length : Int) (l1_1.length : Int)) - 1)) a0_0 l0_1 a1_0 l1_1
theorem turnstoneref01_larger.mono_l : ∀ k, (∀ y0 y1 y2 y3 y4, LeO (turnstoneref01_larger.l0 k y0 y1 y2 y3 y4) (turnstoneref01_larger.l0 (k + 1) y0 y1 y2 y3 y4))
 | 0 => fun _ _ _ _ _ r h => by simp [turnstoneref01_larger.l0] at h
 | k + 1 => by
  have ih0 := turnstoneref01_larger.mono_l k
  ·intro y0 y1 y2 y3 y4
   unfold turnstoneref01_larger.l0
   repeat' first
   | (with_reducible exact ih0 _ _ _ _ _)
   | (with_reducible exact LeO.refl _)
   | (with_reducible exact LeO.none _)
   | (with_reducible refine LeO.ite ?_ ?_)
   | (with_reducible refine LeO.bind ?_ (fun _ => ?_))
   | exact ih0 _ _ _ _ _
   | exact LeO.none _
   | refine LeO.ite ?_ ?_
   | refine LeO.bind ?_ (fun _ => ?_)
theorem turnstoneref01_larger.mono : ∀ a0 a1 a2 a3 k, LeO (turnstoneref01_larger.f k a0 a1 a2 a3) (turnstoneref01_larger.f (k + 1) a0 a1 a2 a3) := by
 intro a0 a1 a2 a3 k
 have ih0 := turnstoneref01_larger.mono_l k
 unfold turnstoneref01_larger.f
 repeat' first
   | (with_reducible exact ih0 _ _ _ _ _)
   | (with_reducible exact LeO.refl _)
   | (with_reducible exact LeO.none _)
   | (with_reducible refine LeO.ite ?_ ?_)
   | (with_reducible refine LeO.bind ?_ (fun _ => ?_))
   | exact ih0 _ _ _ _ _
   | exact LeO.none _
   | refine LeO.ite ?_ ?_
   | refine LeO.bind ?_ (fun _ => ?_)
set_option maxHeartbeats 8000000 in
set_option maxRecDepth 100000 in
theorem turnstoneref01_larger.calls (k : Nat) (a0_0 : Bool) (A0_1 : Option Addr) (c0_1 : Nat) (l0_1 : List Int) (a1_0 : Bool) (A1_1 : Option Addr) (c1_1 : Nat) (l1_1 : List Int) (r : Int) (w : World) (hr0_1 : Kd.C (Kd.int .i64) w A0_1 l0_1.length l0_1) (hc0_1 : l0_1.length ≤ c0_1) (hr1_1 : Kd.C (Kd.int .i64) w A1_1 l1_1.length l1_1) (hc1_1 : l1_1.length ≤ c1_1) (h : turnstoneref01_larger.f k a0_0 l0_1 a1_0 l1_1 = some r) :
  Calls Try.prog 51 #[.agg #[.bool a0_0, .slice A0_1 l0_1.length c0_1], .agg #[.bool a1_0, .slice A1_1 l1_1.length c1_1]] w fun e w' => e = .returned (.int .i64 r) ∧ Below w.heap.size w w' := by
 have hu49 := Try.underlying49
 have HR0_1 := Aside0.mk hr0_1
 have HC0_1 := Aside0.mk hc0_1
 clear hr0_1 hc0_1
 have HR1_1 := Aside0.mk hr1_1
 have HC1_1 := Aside0.mk hc1_1
 clear hr1_1 hc1_1
 have HB := Aside0.mk (Below.refl w.heap.size w)
 have H : (turnstoneref01_larger.l0 k (wrap64 ((mx (l0_1.length : Int) (l1_1.length : Int)) - 1)) a0_0 l0_1 a1_0 l1_1) = some r := h
 clear h
 obtain ⟨ji3, hji3⟩ : ∃ j_ : Int, (mx (l0_1.length : Int) (l1_1.length : Int)) = j_ := ⟨_, rfl⟩
 replace H : (turnstoneref01_larger.l0 k (wrap64 ((ji3) - 1)) a0_0 l0_1 a1_0 l1_1) = some r := by first | (rw [hji3] at H; exact H) | (simp only [hji3] at H ⊢; exact H)
 (try (have hji3l : 0 ≤ ji3 := by (rw [← hji3]; unfold mx; (repeat' split) <;> omega)))
 (try (have hji3m : 0 ≤ ji3 := by omega))
 have hji3_ : (if (l0_1.length : Int) < (l1_1.length : Int) then (l1_1.length : Int) else (l0_1.length : Int)) = ji3 := hji3
 have hji3n : (if l0_1.length < l1_1.length then (l1_1.length : Int) else (l0_1.length : Int)) = ji3 := by (rw [← hji3_]; simp only [Int.ofNat_lt])
 have H' := Aside0.mk H
 clear H
 go_enter Try.func51, Try.ntmps51
 go_wp2_with (first | ((with_reducible refine gate_dst (N := 2) rfl ?_); refine box_event ?hg (N := 2) ?hd (cs := #[.bool a0_0, .slice A0_1 l0_1.length c0_1]) (t := 49) ?hr ?_; (case hd => rfl); (case hg => rfl); (case hr => first | (go_simp; done) | (go_simp; rfl)); intro gb195 hg w4 hbox hb; have BK195 := Aside0.mk (hbox); have GW195 := bels HB hg; have GE195 := bels HB hg; replace HB := belb HB hb; clear hb hbox hg) | ((with_reducible refine gate_dst (N := 3) rfl ?_); refine box_event ?hg (N := 3) ?hd (cs := #[.bool a1_0, .slice A1_1 l1_1.length c1_1]) (t := 49) ?hr ?_; (case hd => rfl); (case hg => rfl); (case hr => first | (go_simp; done) | (go_simp; rfl)); intro gb196 hg w5 hbox hb; have BK196 := Aside0.mk (hbox); have GW196 := bels HB hg; have GE196 := bels HB hg; have NB195_196 := blkl BK195 hg; have NB196_195 := blkg BK195 hg; replace BK195 := blkb BK195 hb; replace HB := belb HB hb; clear hb hbox hg; have hnb6 := NB195_196.out; have hnc6 := NB196_195.out; have hcz7_0 : w5.cell? ⟨gb195, 0, none⟩ = some (.bool a0_0) := bc BK195 0; have hcz7_1 : w5.cell? ⟨gb195, 1, none⟩ = some (.slice A0_1 l0_1.length c0_1) := bc BK195 1; have hfz7_0 := blk_frozen BK195.out 0; have hfz7_1 := blk_frozen BK195.out 1; have hcz8_0 : w5.cell? ⟨gb196, 0, none⟩ = some (.bool a1_0) := bc BK196 0; have hcz8_1 : w5.cell? ⟨gb196, 1, none⟩ = some (.slice A1_1 l1_1.length c1_1) := bc BK196 1; have hfz8_0 := blk_frozen BK196.out 0; have hfz8_1 := blk_frozen BK196.out 1))
 (try simp only [Act.put, List.setIfInBounds_toArray, List.set_cons_zero, List.set_cons_succ])
 go_loopg [5] k (fun kq v5 w' => ∃ (x5_1 : Int), v5 = .int .i64 x5_1 ∧ Aside0 (turnstoneref01_larger.l0 kq x5_1 a0_0 l0_1 a1_0 l1_1 = some r) ∧ Aside0 (kq ≤ k) ∧ Aside0 (w'.heap[gb195]? = some (.cells #[.bool a0_0, (.slice A0_1 l0_1.length c0_1)] 49 (0, 0))) ∧ Aside0 (w'.heap[gb196]? = some (.cells #[.bool a1_0, (.slice A1_1 l1_1.length c1_1)] 49 (0, 0))) ∧ Aside0 (Below w.heap.size w w'))
 case atStart => exact ⟨(wrap64 ((ji3) - 1)), (by first | rfl | (simp; done) | (simp only [← hji3]; first | rfl | (simp; done) | (simp [mn, mx]; done)) | (simp [*]; done)), H', ⟨Nat.le_refl _⟩, ⟨blkt BK195⟩, ⟨blkt BK196⟩, ⟨belt HB⟩⟩
 case round =>
  clear H'
  try clear c1
  try clear p2
  try clear c5
  try clear c6
  try clear p6
  try clear hcz7_0
  try clear hcz7_1
  try clear hcz8_0
  try clear hcz8_1
  try clear hfz7_0
  try clear hfz7_1
  try clear hfz8_0
  try clear hfz8_1
  obtain ⟨x5_1, rfl, HA, HK1, BK195, BK196, HB⟩ := hrel
  cases gk with
  | zero => exact absurd HA.out (by simp [turnstoneref01_larger.l0])
  | succ k1 =>
   have H := HA.out
   clear HA
   simp only [turnstoneref01_larger.l0] at H
   by_cases c9 : x5_1 ≥ 0
   ·rw [if_pos c9] at H
    have c9b0 : decide (0 ≤ x5_1) = true := decide_eq_true c9
    clear c9
    replace H := Option.bind_eq_some_iff.mp H
    obtain ⟨t197, A100, H⟩ := H
    replace H : ((turnstoneref01_digit.f a1_0 l1_1 x5_1).bind fun t198 => (if t197 < t198 then (some (-1)) else ((turnstoneref01_digit.f a0_0 l0_1 x5_1).bind fun t199 => ((turnstoneref01_digit.f a1_0 l1_1 x5_1).bind fun t200 => (if t199 > t200 then (some 1) else (turnstoneref01_larger.l0 k1 (wrap64 (x5_1 - 1)) a0_0 l0_1 a1_0 l1_1)))))) = some r := H
    have A10 := Aside0.mk A100
    clear A100
    replace H := Option.bind_eq_some_iff.mp H
    obtain ⟨t198, A110, H⟩ := H
    replace H : (if t197 < t198 then (some (-1)) else ((turnstoneref01_digit.f a0_0 l0_1 x5_1).bind fun t199 => ((turnstoneref01_digit.f a1_0 l1_1 x5_1).bind fun t200 => (if t199 > t200 then (some 1) else (turnstoneref01_larger.l0 k1 (wrap64 (x5_1 - 1)) a0_0 l0_1 a1_0 l1_1))))) = some r := H
    have A11 := Aside0.mk A110
    clear A110
    by_cases c12 : t197 < t198
    ·rw [if_pos c12] at H
     have c12b0 : decide (t197 < t198) = true := decide_eq_true c12
     clear c12
     obtain rfl := Option.some.inj H
     try go_wp2
     replace BK195 := Aside0.mk (blk_drew BK195.out)
     replace BK196 := Aside0.mk (blk_drew BK196.out)
     replace HB := Aside0.mk (below_drew1 HB.out)
     refine start_ (n := 7) (S := fun w' => w'.cell? ⟨gb195, 0, none⟩ = some (.bool a0_0) ∧ w'.cell? ⟨gb195, 1, none⟩ = some (.slice A0_1 l0_1.length c0_1) ∧ w'.cell? ⟨gb196, 0, none⟩ = some (.bool a1_0) ∧ w'.cell? ⟨gb196, 1, none⟩ = some (.slice A1_1 l1_1.length c1_1)) (ds := []) #[false, false, false, false, false, false, false] (by kernel_rfl) rfl rfl ⟨bc BK195 0, bc BK195 1, bc BK196 0, bc BK196 1⟩ (fun hHeld => ?_)
     generalize wr.drew = w13 at BK195 BK196 HB hHeld ⊢
     refine pure_ (i := 1) (N := some 19) (v := ?_) (a' := ?_) #[false, true, false, false, false, false, false] rfl rfl (by kernel_rfl) (fun _ _ _ h => h) (Or.inl ⟨by rfl, ?_⟩) ?_ ?_
     rotate_left
     ·intro w'
      go_simp
      with_reducible rfl
     rotate_left
     ·simp only [Act.put, List.setIfInBounds_toArray, List.set_cons_zero, List.set_cons_succ, i64_w, i32_w]
      rfl
     refine pure_ (i := 4) (N := some 22) (v := ?_) (a' := ?_) #[false, true, false, false, true, false, false] rfl rfl (by kernel_rfl) (fun _ _ _ h => h) (Or.inl ⟨by rfl, ?_⟩) ?_ ?_
     rotate_left
     ·intro w'
      go_simp
      with_reducible rfl
     rotate_left
     ·simp only [Act.put, List.setIfInBounds_toArray, List.set_cons_zero, List.set_cons_succ, i64_w, i32_w]
      rfl
     refine take_ (i := 0) (N := some 18) (v := ?_) (a' := ?_) #[true, true, false, false, true, false, false] rfl rfl (by kernel_rfl) (fun _ _ _ h => h) (Or.inl ⟨by rfl, ?_⟩) hHeld ?_ ?_
     rotate_left
     ·rintro w' ⟨s0, s1, s2, s3⟩
      go_simp
      with_reducible rfl
     rotate_left
     ·simp only [Act.put, List.setIfInBounds_toArray, List.set_cons_zero, List.set_cons_succ, i64_w, i32_w]
      rfl
     refine take_ (i := 3) (N := some 21) (v := ?_) (a' := ?_) #[true, true, false, true, true, false, false] rfl rfl (by kernel_rfl) (fun _ _ _ h => h) (Or.inl ⟨by rfl, ?_⟩) hHeld ?_ ?_
     rotate_left
     ·rintro w' ⟨s0, s1, s2, s3⟩
      go_simp
      with_reducible rfl
     rotate_left
     ·simp only [Act.put, List.setIfInBounds_toArray, List.set_cons_zero, List.set_cons_succ, i64_w, i32_w]
      rfl
     refine one_ (i := 2) (N := some 20) #[true, true, true, true, true, false, false] rfl rfl (by kernel_rfl) (by decide) (fun K hK => ?_)
     refine goes_ Try.func53 (by kernel_rfl) rfl #[.agg #[.bool a0_0, .slice A0_1 l0_1.length c0_1], .int .i64 x5_1] (by rfl) rfl rfl argt ?_
     with_reducible refine (turnstoneref01_digit.calls a0_0 _ _ l0_1 x5_1 t197 _ ?side1 ?side2 A10.out).mono ?_
     (case side1 => exact (ct (Kd.C_below HR0_1.out HB.out)))
     (case side2 => exact HC0_1.out)
     rintro e w14 ⟨rfl, hb⟩
     refine ⟨_, rfl, ?_⟩
     replace BK195 := blkb BK195 hb
     replace BK196 := blkb BK196 hb
     replace HB := belb HB hb
     (try clear hb)
     (try clear hb2)
     (try clear hk)
     (try clear hi)
     refine hK.out _ _ ⟨bc BK195 0, bc BK195 1, bc BK196 0, bc BK196 1⟩ (fun hHeld => ?_)
     clear hK K
     refine norm_ (a' := ?_) ?_ ?_
     rotate_left
     ·show Act.put _ (some 20) _ = _
      simp only [Act.put, List.setIfInBounds_toArray, List.set_cons_zero, List.set_cons_succ, i64_w, i32_w]
      rfl
     refine one_ (i := 5) (N := some 23) #[true, true, true, true, true, true, false] rfl rfl (by kernel_rfl) (by decide) (fun K hK => ?_)
     refine goes_ Try.func53 (by kernel_rfl) rfl #[.agg #[.bool a1_0, .slice A1_1 l1_1.length c1_1], .int .i64 x5_1] (by rfl) rfl rfl argt ?_
     with_reducible refine (turnstoneref01_digit.calls a1_0 _ _ l1_1 x5_1 t198 _ ?side1 ?side2 A11.out).mono ?_
     (case side1 => exact (ct (Kd.C_below HR1_1.out HB.out)))
     (case side2 => exact HC1_1.out)
     rintro e w15 ⟨rfl, hb⟩
     refine ⟨_, rfl, ?_⟩
     replace BK195 := blkb BK195 hb
     replace BK196 := blkb BK196 hb
     replace HB := belb HB hb
     (try clear hb)
     (try clear hb2)
     (try clear hk)
     (try clear hi)
     refine hK.out _ _ ⟨bc BK195 0, bc BK195 1, bc BK196 0, bc BK196 1⟩ (fun hHeld => ?_)
     clear hK K
     refine norm_ (a' := ?_) ?_ ?_
     rotate_left
     ·show Act.put _ (some 23) _ = _
      simp only [Act.put, List.setIfInBounds_toArray, List.set_cons_zero, List.set_cons_succ, i64_w, i32_w]
      rfl
     refine pure_ (i := 6) (N := some 24) (v := ?_) (a' := ?_) #[true, true, true, true, true, true, true] rfl rfl (by kernel_rfl) (fun _ _ _ h => h) (Or.inl ⟨by rfl, ?_⟩) ?_ ?_
     rotate_left
     ·intro w'
      go_simp
      with_reducible rfl
     rotate_left
     ·simp only [Act.put, List.setIfInBounds_toArray, List.set_cons_zero, List.set_cons_succ, i64_w, i32_w]
      rfl
     refine done_ (by kernel_rfl) ?_
     try go_wp2
     go_ret
     exact ⟨by first | rfl | (simp [errW_none, errW_some] <;> rfl) | (simp only [← hji3]; first | rfl | (simp [errW_none, errW_some] <;> rfl)) | (simp [*, errW_none, errW_some] <;> rfl), belt HB⟩
    rw [if_neg c12] at H
    have c12b0 : decide (t197 < t198) = false := decide_eq_false c12
    clear c12
    replace H := Option.bind_eq_some_iff.mp H
    obtain ⟨t199, A160, H⟩ := H
    replace H : ((turnstoneref01_digit.f a1_0 l1_1 x5_1).bind fun t200 => (if t199 > t200 then (some 1) else (turnstoneref01_larger.l0 k1 (wrap64 (x5_1 - 1)) a0_0 l0_1 a1_0 l1_1))) = some r := H
    have A16 := Aside0.mk A160
    clear A160
    replace H := Option.bind_eq_some_iff.mp H
    obtain ⟨t200, A170, H⟩ := H
    replace H : (if t199 > t200 then (some 1) else (turnstoneref01_larger.l0 k1 (wrap64 (x5_1 - 1)) a0_0 l0_1 a1_0 l1_1)) = some r := H
    have A17 := Aside0.mk A170
    clear A170
    by_cases c18 : t199 > t200
    ·rw [if_pos c18] at H
     have c18b0 : decide (t200 < t199) = true := decide_eq_true c18
     clear c18
     obtain rfl := Option.some.inj H
     try go_wp2
     replace BK195 := Aside0.mk (blk_drew BK195.out)
     replace BK196 := Aside0.mk (blk_drew BK196.out)
     replace HB := Aside0.mk (below_drew1 HB.out)
     refine start_ (n := 7) (S := fun w' => w'.cell? ⟨gb195, 0, none⟩ = some (.bool a0_0) ∧ w'.cell? ⟨gb195, 1, none⟩ = some (.slice A0_1 l0_1.length c0_1) ∧ w'.cell? ⟨gb196, 0, none⟩ = some (.bool a1_0) ∧ w'.cell? ⟨gb196, 1, none⟩ = some (.slice A1_1 l1_1.length c1_1)) (ds := []) #[false, false, false, false, false, false, false] (by kernel_rfl) rfl rfl ⟨bc BK195 0, bc BK195 1, bc BK196 0, bc BK196 1⟩ (fun hHeld => ?_)
     generalize wr.drew = w19 at BK195 BK196 HB hHeld ⊢
     refine pure_ (i := 1) (N := some 19) (v := ?_) (a' := ?_) #[false, true, false, false, false, false, false] rfl rfl (by kernel_rfl) (fun _ _ _ h => h) (Or.inl ⟨by rfl, ?_⟩) ?_ ?_
     rotate_left
     ·intro w'
      go_simp
      with_reducible rfl
     rotate_left
     ·simp only [Act.put, List.setIfInBounds_toArray, List.set_cons_zero, List.set_cons_succ, i64_w, i32_w]
      rfl
     refine pure_ (i := 4) (N := some 22) (v := ?_) (a' := ?_) #[false, true, false, false, true, false, false] rfl rfl (by kernel_rfl) (fun _ _ _ h => h) (Or.inl ⟨by rfl, ?_⟩) ?_ ?_
     rotate_left
     ·intro w'
      go_simp
      with_reducible rfl
     rotate_left
     ·simp only [Act.put, List.setIfInBounds_toArray, List.set_cons_zero, List.set_cons_succ, i64_w, i32_w]
      rfl
     refine take_ (i := 0) (N := some 18) (v := ?_) (a' := ?_) #[true, true, false, false, true, false, false] rfl rfl (by kernel_rfl) (fun _ _ _ h => h) (Or.inl ⟨by rfl, ?_⟩) hHeld ?_ ?_
     rotate_left
     ·rintro w' ⟨s0, s1, s2, s3⟩
      go_simp
      with_reducible rfl
     rotate_left
     ·simp only [Act.put, List.setIfInBounds_toArray, List.set_cons_zero, List.set_cons_succ, i64_w, i32_w]
      rfl
     refine take_ (i := 3) (N := some 21) (v := ?_) (a' := ?_) #[true, true, false, true, true, false, false] rfl rfl (by kernel_rfl) (fun _ _ _ h => h) (Or.inl ⟨by rfl, ?_⟩) hHeld ?_ ?_
     rotate_left
     ·rintro w' ⟨s0, s1, s2, s3⟩
      go_simp
      with_reducible rfl
     rotate_left
     ·simp only [Act.put, List.setIfInBounds_toArray, List.set_cons_zero, List.set_cons_succ, i64_w, i32_w]
      rfl
     refine one_ (i := 2) (N := some 20) #[true, true, true, true, true, false, false] rfl rfl (by kernel_rfl) (by decide) (fun K hK => ?_)
     refine goes_ Try.func53 (by kernel_rfl) rfl #[.agg #[.bool a0_0, .slice A0_1 l0_1.length c0_1], .int .i64 x5_1] (by rfl) rfl rfl argt ?_
     with_reducible refine (turnstoneref01_digit.calls a0_0 _ _ l0_1 x5_1 t197 _ ?side1 ?side2 A10.out).mono ?_
     (case side1 => exact (ct (Kd.C_below HR0_1.out HB.out)))
     (case side2 => exact HC0_1.out)
     rintro e w20 ⟨rfl, hb⟩
     refine ⟨_, rfl, ?_⟩
     replace BK195 := blkb BK195 hb
     replace BK196 := blkb BK196 hb
     replace HB := belb HB hb
     (try clear hb)
     (try clear hb2)
     (try clear hk)
     (try clear hi)
     refine hK.out _ _ ⟨bc BK195 0, bc BK195 1, bc BK196 0, bc BK196 1⟩ (fun hHeld => ?_)
     clear hK K
     refine norm_ (a' := ?_) ?_ ?_
     rotate_left
     ·show Act.put _ (some 20) _ = _
      simp only [Act.put, List.setIfInBounds_toArray, List.set_cons_zero, List.set_cons_succ, i64_w, i32_w]
      rfl
     refine one_ (i := 5) (N := some 23) #[true, true, true, true, true, true, false] rfl rfl (by kernel_rfl) (by decide) (fun K hK => ?_)
     refine goes_ Try.func53 (by kernel_rfl) rfl #[.agg #[.bool a1_0, .slice A1_1 l1_1.length c1_1], .int .i64 x5_1] (by rfl) rfl rfl argt ?_
     with_reducible refine (turnstoneref01_digit.calls a1_0 _ _ l1_1 x5_1 t198 _ ?side1 ?side2 A11.out).mono ?_
     (case side1 => exact (ct (Kd.C_below HR1_1.out HB.out)))
     (case side2 => exact HC1_1.out)
     rintro e w21 ⟨rfl, hb⟩
     refine ⟨_, rfl, ?_⟩
     replace BK195 := blkb BK195 hb
     replace BK196 := blkb BK196 hb
     replace HB := belb HB hb
     (try clear hb)
     (try clear hb2)
     (try clear hk)
     (try clear hi)
     refine hK.out _ _ ⟨bc BK195 0, bc BK195 1, bc BK196 0, bc BK196 1⟩ (fun hHeld => ?_)
     clear hK K
     refine norm_ (a' := ?_) ?_ ?_
     rotate_left
     ·show Act.put _ (some 23) _ = _
      simp only [Act.put, List.setIfInBounds_toArray, List.set_cons_zero, List.set_cons_succ, i64_w, i32_w]
      rfl
     refine pure_ (i := 6) (N := some 24) (v := ?_) (a' := ?_) #[true, true, true, true, true, true, true] rfl rfl (by kernel_rfl) (fun _ _ _ h => h) (Or.inl ⟨by rfl, ?_⟩) ?_ ?_
     rotate_left
     ·intro w'
      go_simp
      with_reducible rfl
     rotate_left
     ·simp only [Act.put, List.setIfInBounds_toArray, List.set_cons_zero, List.set_cons_succ, i64_w, i32_w]
      rfl
     refine done_ (by kernel_rfl) ?_
     try go_wp2
     replace BK195 := Aside0.mk (blk_drew BK195.out)
     replace BK196 := Aside0.mk (blk_drew BK196.out)
     replace HB := Aside0.mk (below_drew1 HB.out)
     refine start_ (n := 7) (S := fun w' => w'.cell? ⟨gb195, 0, none⟩ = some (.bool a0_0) ∧ w'.cell? ⟨gb195, 1, none⟩ = some (.slice A0_1 l0_1.length c0_1) ∧ w'.cell? ⟨gb196, 0, none⟩ = some (.bool a1_0) ∧ w'.cell? ⟨gb196, 1, none⟩ = some (.slice A1_1 l1_1.length c1_1)) (ds := []) #[false, false, false, false, false, false, false] (by kernel_rfl) rfl rfl ⟨bc BK195 0, bc BK195 1, bc BK196 0, bc BK196 1⟩ (fun hHeld => ?_)
     generalize w21.drew = w22 at BK195 BK196 HB hHeld ⊢
     refine pure_ (i := 1) (N := some 26) (v := ?_) (a' := ?_) #[false, true, false, false, false, false, false] rfl rfl (by kernel_rfl) (fun _ _ _ h => h) (Or.inl ⟨by rfl, ?_⟩) ?_ ?_
     rotate_left
     ·intro w'
      go_simp
      with_reducible rfl
     rotate_left
     ·simp only [Act.put, List.setIfInBounds_toArray, List.set_cons_zero, List.set_cons_succ, i64_w, i32_w]
      rfl
     refine pure_ (i := 4) (N := some 29) (v := ?_) (a' := ?_) #[false, true, false, false, true, false, false] rfl rfl (by kernel_rfl) (fun _ _ _ h => h) (Or.inl ⟨by rfl, ?_⟩) ?_ ?_
     rotate_left
     ·intro w'
      go_simp
      with_reducible rfl
     rotate_left
     ·simp only [Act.put, List.setIfInBounds_toArray, List.set_cons_zero, List.set_cons_succ, i64_w, i32_w]
      rfl
     refine take_ (i := 0) (N := some 25) (v := ?_) (a' := ?_) #[true, true, false, false, true, false, false] rfl rfl (by kernel_rfl) (fun _ _ _ h => h) (Or.inl ⟨by rfl, ?_⟩) hHeld ?_ ?_
     rotate_left
     ·rintro w' ⟨s0, s1, s2, s3⟩
      go_simp
      with_reducible rfl
     rotate_left
     ·simp only [Act.put, List.setIfInBounds_toArray, List.set_cons_zero, List.set_cons_succ, i64_w, i32_w]
      rfl
     refine take_ (i := 3) (N := some 28) (v := ?_) (a' := ?_) #[true, true, false, true, true, false, false] rfl rfl (by kernel_rfl) (fun _ _ _ h => h) (Or.inl ⟨by rfl, ?_⟩) hHeld ?_ ?_
     rotate_left
     ·rintro w' ⟨s0, s1, s2, s3⟩
      go_simp
      with_reducible rfl
     rotate_left
     ·simp only [Act.put, List.setIfInBounds_toArray, List.set_cons_zero, List.set_cons_succ, i64_w, i32_w]
      rfl
     refine one_ (i := 2) (N := some 27) #[true, true, true, true, true, false, false] rfl rfl (by kernel_rfl) (by decide) (fun K hK => ?_)
     refine goes_ Try.func53 (by kernel_rfl) rfl #[.agg #[.bool a0_0, .slice A0_1 l0_1.length c0_1], .int .i64 x5_1] (by rfl) rfl rfl argt ?_
     with_reducible refine (turnstoneref01_digit.calls a0_0 _ _ l0_1 x5_1 t199 _ ?side1 ?side2 A16.out).mono ?_
     (case side1 => exact (ct (Kd.C_below HR0_1.out HB.out)))
     (case side2 => exact HC0_1.out)
     rintro e w23 ⟨rfl, hb⟩
     refine ⟨_, rfl, ?_⟩
     replace BK195 := blkb BK195 hb
     replace BK196 := blkb BK196 hb
     replace HB := belb HB hb
     (try clear hb)
     (try clear hb2)
     (try clear hk)
     (try clear hi)
     refine hK.out _ _ ⟨bc BK195 0, bc BK195 1, bc BK196 0, bc BK196 1⟩ (fun hHeld => ?_)
     clear hK K
     refine norm_ (a' := ?_) ?_ ?_
     rotate_left
     ·show Act.put _ (some 27) _ = _
      simp only [Act.put, List.setIfInBounds_toArray, List.set_cons_zero, List.set_cons_succ, i64_w, i32_w]
      rfl
     refine one_ (i := 5) (N := some 30) #[true, true, true, true, true, true, false] rfl rfl (by kernel_rfl) (by decide) (fun K hK => ?_)
     refine goes_ Try.func53 (by kernel_rfl) rfl #[.agg #[.bool a1_0, .slice A1_1 l1_1.length c1_1], .int .i64 x5_1] (by rfl) rfl rfl argt ?_
     with_reducible refine (turnstoneref01_digit.calls a1_0 _ _ l1_1 x5_1 t200 _ ?side1 ?side2 A17.out).mono ?_
     (case side1 => exact (ct (Kd.C_below HR1_1.out HB.out)))
     (case side2 => exact HC1_1.out)
     rintro e w24 ⟨rfl, hb⟩
     refine ⟨_, rfl, ?_⟩
     replace BK195 := blkb BK195 hb
     replace BK196 := blkb BK196 hb
     replace HB := belb HB hb
     (try clear hb)
     (try clear hb2)
     (try clear hk)
     (try clear hi)
     refine hK.out _ _ ⟨bc BK195 0, bc BK195 1, bc BK196 0, bc BK196 1⟩ (fun hHeld => ?_)
     clear hK K
     refine norm_ (a' := ?_) ?_ ?_
     rotate_left
     ·show Act.put _ (some 30) _ = _
      simp only [Act.put, List.setIfInBounds_toArray, List.set_cons_zero, List.set_cons_succ, i64_w, i32_w]
      rfl
     refine pure_ (i := 6) (N := some 31) (v := ?_) (a' := ?_) #[true, true, true, true, true, true, true] rfl rfl (by kernel_rfl) (fun _ _ _ h => h) (Or.inl ⟨by rfl, ?_⟩) ?_ ?_
     rotate_left
     ·intro w'
      go_simp
      with_reducible rfl
     rotate_left
     ·simp only [Act.put, List.setIfInBounds_toArray, List.set_cons_zero, List.set_cons_succ, i64_w, i32_w]
      rfl
     refine done_ (by kernel_rfl) ?_
     try go_wp2
     go_ret
     exact ⟨by first | rfl | (simp [errW_none, errW_some] <;> rfl) | (simp only [← hji3]; first | rfl | (simp [errW_none, errW_some] <;> rfl)) | (simp [*, errW_none, errW_some] <;> rfl), belt HB⟩
    rw [if_neg c18] at H
    have c18b0 : decide (t200 < t199) = false := decide_eq_false c18
    clear c18
    have H' := Aside0.mk H
    clear H
    try go_wp2
    replace BK195 := Aside0.mk (blk_drew BK195.out)
    replace BK196 := Aside0.mk (blk_drew BK196.out)
    replace HB := Aside0.mk (below_drew1 HB.out)
    refine start_ (n := 7) (S := fun w' => w'.cell? ⟨gb195, 0, none⟩ = some (.bool a0_0) ∧ w'.cell? ⟨gb195, 1, none⟩ = some (.slice A0_1 l0_1.length c0_1) ∧ w'.cell? ⟨gb196, 0, none⟩ = some (.bool a1_0) ∧ w'.cell? ⟨gb196, 1, none⟩ = some (.slice A1_1 l1_1.length c1_1)) (ds := []) #[false, false, false, false, false, false, false] (by kernel_rfl) rfl rfl ⟨bc BK195 0, bc BK195 1, bc BK196 0, bc BK196 1⟩ (fun hHeld => ?_)
    generalize wr.drew = w25 at BK195 BK196 HB hHeld ⊢
    refine pure_ (i := 1) (N := some 19) (v := ?_) (a' := ?_) #[false, true, false, false, false, false, false] rfl rfl (by kernel_rfl) (fun _ _ _ h => h) (Or.inl ⟨by rfl, ?_⟩) ?_ ?_
    rotate_left
    ·intro w'
     go_simp
     with_reducible rfl
    rotate_left
    ·simp only [Act.put, List.setIfInBounds_toArray, List.set_cons_zero, List.set_cons_succ, i64_w, i32_w]
     rfl
    refine pure_ (i := 4) (N := some 22) (v := ?_) (a' := ?_) #[false, true, false, false, true, false, false] rfl rfl (by kernel_rfl) (fun _ _ _ h => h) (Or.inl ⟨by rfl, ?_⟩) ?_ ?_
    rotate_left
    ·intro w'
     go_simp
     with_reducible rfl
    rotate_left
    ·simp only [Act.put, List.setIfInBounds_toArray, List.set_cons_zero, List.set_cons_succ, i64_w, i32_w]
     rfl
    refine take_ (i := 0) (N := some 18) (v := ?_) (a' := ?_) #[true, true, false, false, true, false, false] rfl rfl (by kernel_rfl) (fun _ _ _ h => h) (Or.inl ⟨by rfl, ?_⟩) hHeld ?_ ?_
    rotate_left
    ·rintro w' ⟨s0, s1, s2, s3⟩
     go_simp
     with_reducible rfl
    rotate_left
    ·simp only [Act.put, List.setIfInBounds_toArray, List.set_cons_zero, List.set_cons_succ, i64_w, i32_w]
     rfl
    refine take_ (i := 3) (N := some 21) (v := ?_) (a' := ?_) #[true, true, false, true, true, false, false] rfl rfl (by kernel_rfl) (fun _ _ _ h => h) (Or.inl ⟨by rfl, ?_⟩) hHeld ?_ ?_
    rotate_left
    ·rintro w' ⟨s0, s1, s2, s3⟩
     go_simp
     with_reducible rfl
    rotate_left
    ·simp only [Act.put, List.setIfInBounds_toArray, List.set_cons_zero, List.set_cons_succ, i64_w, i32_w]
     rfl
    refine one_ (i := 2) (N := some 20) #[true, true, true, true, true, false, false] rfl rfl (by kernel_rfl) (by decide) (fun K hK => ?_)
    refine goes_ Try.func53 (by kernel_rfl) rfl #[.agg #[.bool a0_0, .slice A0_1 l0_1.length c0_1], .int .i64 x5_1] (by rfl) rfl rfl argt ?_
    with_reducible refine (turnstoneref01_digit.calls a0_0 _ _ l0_1 x5_1 t197 _ ?side1 ?side2 A10.out).mono ?_
    (case side1 => exact (ct (Kd.C_below HR0_1.out HB.out)))
    (case side2 => exact HC0_1.out)
    rintro e w26 ⟨rfl, hb⟩
    refine ⟨_, rfl, ?_⟩
    replace BK195 := blkb BK195 hb
    replace BK196 := blkb BK196 hb
    replace HB := belb HB hb
    (try clear hb)
    (try clear hb2)
    (try clear hk)
    (try clear hi)
    refine hK.out _ _ ⟨bc BK195 0, bc BK195 1, bc BK196 0, bc BK196 1⟩ (fun hHeld => ?_)
    clear hK K
    refine norm_ (a' := ?_) ?_ ?_
    rotate_left
    ·show Act.put _ (some 20) _ = _
     simp only [Act.put, List.setIfInBounds_toArray, List.set_cons_zero, List.set_cons_succ, i64_w, i32_w]
     rfl
    refine one_ (i := 5) (N := some 23) #[true, true, true, true, true, true, false] rfl rfl (by kernel_rfl) (by decide) (fun K hK => ?_)
    refine goes_ Try.func53 (by kernel_rfl) rfl #[.agg #[.bool a1_0, .slice A1_1 l1_1.length c1_1], .int .i64 x5_1] (by rfl) rfl rfl argt ?_
    with_reducible refine (turnstoneref01_digit.calls a1_0 _ _ l1_1 x5_1 t198 _ ?side1 ?side2 A11.out).mono ?_
    (case side1 => exact (ct (Kd.C_below HR1_1.out HB.out)))
    (case side2 => exact HC1_1.out)
    rintro e w27 ⟨rfl, hb⟩
    refine ⟨_, rfl, ?_⟩
    replace BK195 := blkb BK195 hb
    replace BK196 := blkb BK196 hb
    replace HB := belb HB hb
    (try clear hb)
    (try clear hb2)
    (try clear hk)
    (try clear hi)
    refine hK.out _ _ ⟨bc BK195 0, bc BK195 1, bc BK196 0, bc BK196 1⟩ (fun hHeld => ?_)
    clear hK K
    refine norm_ (a' := ?_) ?_ ?_
    rotate_left
    ·show Act.put _ (some 23) _ = _
     simp only [Act.put, List.setIfInBounds_toArray, List.set_cons_zero, List.set_cons_succ, i64_w, i32_w]
     rfl
    refine pure_ (i := 6) (N := some 24) (v := ?_) (a' := ?_) #[true, true, true, true, true, true, true] rfl rfl (by kernel_rfl) (fun _ _ _ h => h) (Or.inl ⟨by rfl, ?_⟩) ?_ ?_
    rotate_left
    ·intro w'
     go_simp
     with_reducible rfl
    rotate_left
    ·simp only [Act.put, List.setIfInBounds_toArray, List.set_cons_zero, List.set_cons_succ, i64_w, i32_w]
     rfl
    refine done_ (by kernel_rfl) ?_
    try go_wp2
    replace BK195 := Aside0.mk (blk_drew BK195.out)
    replace BK196 := Aside0.mk (blk_drew BK196.out)
    replace HB := Aside0.mk (below_drew1 HB.out)
    refine start_ (n := 7) (S := fun w' => w'.cell? ⟨gb195, 0, none⟩ = some (.bool a0_0) ∧ w'.cell? ⟨gb195, 1, none⟩ = some (.slice A0_1 l0_1.length c0_1) ∧ w'.cell? ⟨gb196, 0, none⟩ = some (.bool a1_0) ∧ w'.cell? ⟨gb196, 1, none⟩ = some (.slice A1_1 l1_1.length c1_1)) (ds := []) #[false, false, false, false, false, false, false] (by kernel_rfl) rfl rfl ⟨bc BK195 0, bc BK195 1, bc BK196 0, bc BK196 1⟩ (fun hHeld => ?_)
    generalize w27.drew = w28 at BK195 BK196 HB hHeld ⊢
    refine pure_ (i := 1) (N := some 26) (v := ?_) (a' := ?_) #[false, true, false, false, false, false, false] rfl rfl (by kernel_rfl) (fun _ _ _ h => h) (Or.inl ⟨by rfl, ?_⟩) ?_ ?_
    rotate_left
    ·intro w'
     go_simp
     with_reducible rfl
    rotate_left
    ·simp only [Act.put, List.setIfInBounds_toArray, List.set_cons_zero, List.set_cons_succ, i64_w, i32_w]
     rfl
    refine pure_ (i := 4) (N := some 29) (v := ?_) (a' := ?_) #[false, true, false, false, true, false, false] rfl rfl (by kernel_rfl) (fun _ _ _ h => h) (Or.inl ⟨by rfl, ?_⟩) ?_ ?_
    rotate_left
    ·intro w'
     go_simp
     with_reducible rfl
    rotate_left
    ·simp only [Act.put, List.setIfInBounds_toArray, List.set_cons_zero, List.set_cons_succ, i64_w, i32_w]
     rfl
    refine take_ (i := 0) (N := some 25) (v := ?_) (a' := ?_) #[true, true, false, false, true, false, false] rfl rfl (by kernel_rfl) (fun _ _ _ h => h) (Or.inl ⟨by rfl, ?_⟩) hHeld ?_ ?_
    rotate_left
    ·rintro w' ⟨s0, s1, s2, s3⟩
     go_simp
     with_reducible rfl
    rotate_left
    ·simp only [Act.put, List.setIfInBounds_toArray, List.set_cons_zero, List.set_cons_succ, i64_w, i32_w]
     rfl
    refine take_ (i := 3) (N := some 28) (v := ?_) (a' := ?_) #[true, true, false, true, true, false, false] rfl rfl (by kernel_rfl) (fun _ _ _ h => h) (Or.inl ⟨by rfl, ?_⟩) hHeld ?_ ?_
    rotate_left
    ·rintro w' ⟨s0, s1, s2, s3⟩
     go_simp
     with_reducible rfl
    rotate_left
    ·simp only [Act.put, List.setIfInBounds_toArray, List.set_cons_zero, List.set_cons_succ, i64_w, i32_w]
     rfl
    refine one_ (i := 2) (N := some 27) #[true, true, true, true, true, false, false] rfl rfl (by kernel_rfl) (by decide) (fun K hK => ?_)
    refine goes_ Try.func53 (by kernel_rfl) rfl #[.agg #[.bool a0_0, .slice A0_1 l0_1.length c0_1], .int .i64 x5_1] (by rfl) rfl rfl argt ?_
    with_reducible refine (turnstoneref01_digit.calls a0_0 _ _ l0_1 x5_1 t199 _ ?side1 ?side2 A16.out).mono ?_
    (case side1 => exact (ct (Kd.C_below HR0_1.out HB.out)))
    (case side2 => exact HC0_1.out)
    rintro e w29 ⟨rfl, hb⟩
    refine ⟨_, rfl, ?_⟩
    replace BK195 := blkb BK195 hb
    replace BK196 := blkb BK196 hb
    replace HB := belb HB hb
    (try clear hb)
    (try clear hb2)
    (try clear hk)
    (try clear hi)
    refine hK.out _ _ ⟨bc BK195 0, bc BK195 1, bc BK196 0, bc BK196 1⟩ (fun hHeld => ?_)
    clear hK K
    refine norm_ (a' := ?_) ?_ ?_
    rotate_left
    ·show Act.put _ (some 27) _ = _
     simp only [Act.put, List.setIfInBounds_toArray, List.set_cons_zero, List.set_cons_succ, i64_w, i32_w]
     rfl
    refine one_ (i := 5) (N := some 30) #[true, true, true, true, true, true, false] rfl rfl (by kernel_rfl) (by decide) (fun K hK => ?_)
    refine goes_ Try.func53 (by kernel_rfl) rfl #[.agg #[.bool a1_0, .slice A1_1 l1_1.length c1_1], .int .i64 x5_1] (by rfl) rfl rfl argt ?_
    with_reducible refine (turnstoneref01_digit.calls a1_0 _ _ l1_1 x5_1 t200 _ ?side1 ?side2 A17.out).mono ?_
    (case side1 => exact (ct (Kd.C_below HR1_1.out HB.out)))
    (case side2 => exact HC1_1.out)
    rintro e w30 ⟨rfl, hb⟩
    refine ⟨_, rfl, ?_⟩
    replace BK195 := blkb BK195 hb
    replace BK196 := blkb BK196 hb
    replace HB := belb HB hb
    (try clear hb)
    (try clear hb2)
    (try clear hk)
    (try clear hi)
    refine hK.out _ _ ⟨bc BK195 0, bc BK195 1, bc BK196 0, bc BK196 1⟩ (fun hHeld => ?_)
    clear hK K
    refine norm_ (a' := ?_) ?_ ?_
    rotate_left
    ·show Act.put _ (some 30) _ = _
     simp only [Act.put, List.setIfInBounds_toArray, List.set_cons_zero, List.set_cons_succ, i64_w, i32_w]
     rfl
    refine pure_ (i := 6) (N := some 31) (v := ?_) (a' := ?_) #[true, true, true, true, true, true, true] rfl rfl (by kernel_rfl) (fun _ _ _ h => h) (Or.inl ⟨by rfl, ?_⟩) ?_ ?_
    rotate_left
    ·intro w'
     go_simp
     with_reducible rfl
    rotate_left
    ·simp only [Act.put, List.setIfInBounds_toArray, List.set_cons_zero, List.set_cons_succ, i64_w, i32_w]
     rfl
    refine done_ (by kernel_rfl) ?_
    try go_wp2
    go_roundg k1
    case measure => have := HK1.out; omega
    case rel => exact ⟨(wrap64 (x5_1 - 1)), (by first | rfl | (simp; done) | (simp [*]; done)), H', ⟨by have := HK1.out; omega⟩, ⟨blkt BK195⟩, ⟨blkt BK196⟩, ⟨belt HB⟩⟩
   rw [if_neg c9] at H
   have c9b0 : decide (0 ≤ x5_1) = false := decide_eq_false c9
   clear c9
   obtain rfl := Option.some.inj H
   go_wp2
   go_ret
   exact ⟨by first | rfl | (simp [errW_none, errW_some] <;> rfl) | (simp only [← hji3]; first | rfl | (simp [errW_none, errW_some] <;> rfl)) | (simp [*, errW_none, errW_some] <;> rfl), belt HB⟩


/-! ### turnstoneref01_minus: function 52 -/
def turnstoneref01_minus.l0 : Nat → List Int → Int → Int → Bool → List Int → Bool → List Int → Option (List Int)
 | 0, _, _, _, _, _, _, _ => none
 | k + 1, x5, x6, x7, x202000, x202001, x203000, x203001 => if x7 < (x202001.length : Int) then (if 0 ≤ x7 then ((turnstoneref01_digit.f x203000 x203001 x7).bind fun t204 => (if (wrap64 ((wrap64 ((rd x202001 x7) - t204)) - x6)) < 0 then (if x5.length < 17592186044416 then (turnstoneref01_minus.l0 k (x5 ++ [wrap64 ((wrap64 ((wrap64 ((rd x202001 x7) - t204)) - x6)) + 10000)]) 1 (wrap64 (x7 + 1)) x202000 x202001 x203000 x203001) else (none)) else (if x5.length < 17592186044416 then (turnstoneref01_minus.l0 k (x5 ++ [wrap64 ((wrap64 ((rd x202001 x7) - t204)) - x6)]) 0 (wrap64 (x7 + 1)) x202000 x202001 x203000 x203001) else (none)))) else (none)) else (some x5)
def turnstoneref01_minus.f (k : Nat) (a0_0 : Bool) (l0_1 : List Int) (a1_0 : Bool) (l1_1 : List Int) : Option (List Int) := turnstoneref01_minus.l0 k ([] : List Int) 0 0 a0_0 l0_1 a1_0 l1_1
theorem turnstoneref01_minus.mono_l : ∀ k, (∀ y0 y1 y2 y3 y4 y5 y6, LeO (turnstoneref01_minus.l0 k y0 y1 y2 y3 y4 y5 y6) (turnstoneref01_minus.l0 (k + 1) y0 y1 y2 y3 y4 y5 y6))
 | 0 => fun _ _ _ _ _ _ _ r h => by simp [turnstoneref01_minus.l0] at h
 | k + 1 => by
  have ih0 := turnstoneref01_minus.mono_l k
  ·intro y0 y1 y2 y3 y4 y5 y6
   unfold turnstoneref01_minus.l0
   repeat' first
   | (with_reducible exact ih0 _ _ _ _ _ _ _)
   | (with_reducible exact LeO.refl _)
   | (with_reducible exact LeO.none _)
   | (with_reducible refine LeO.ite ?_ ?_)
   | (with_reducible refine LeO.bind ?_ (fun _ => ?_))
   | exact ih0 _ _ _ _ _ _ _
   | exact LeO.none _
   | refine LeO.ite ?_ ?_
   | refine LeO.bind ?_ (fun _ => ?_)
theorem turnstoneref01_minus.mono : ∀ a0 a1 a2 a3 k, LeO (turnstoneref01_minus.f k a0 a1 a2 a3) (turnstoneref01_minus.f (k + 1) a0 a1 a2 a3) := by
 intro a0 a1 a2 a3 k
 have ih0 := turnstoneref01_minus.mono_l k
 unfold turnstoneref01_minus.f
 repeat' first
   | (with_reducible exact ih0 _ _ _ _ _ _ _)
   | (with_reducible exact LeO.refl _)
   | (with_reducible exact LeO.none _)
   | (with_reducible refine LeO.ite ?_ ?_)
   | (with_reducible refine LeO.bind ?_ (fun _ => ?_))
   | exact ih0 _ _ _ _ _ _ _
   | exact LeO.none _
   | refine LeO.ite ?_ ?_
   | refine LeO.bind ?_ (fun _ => ?_)
def turnstoneref01_minus.T6 : Bool × List (List Nat × List Nat) := (true, [([], []), ([0], [0]), ([], []), ([1, 2], [1, 2]), ([3], [3]), ([], []), ([], []), ([5, 6], [5, 6]), ([4, 7], [4, 7]), ([], []), ([8, 9], [8, 9]), ([10, 7, 0, 1, 2, 3, 4, 5, 6, 7, 8, 9, 10], [10])])
def turnstoneref01_minus.B6 : List Nat := [0, 1, 0, 7, 15, 0, 0, 96, 255, 0, 1023, 2047]
theorem turnstoneref01_minus.tab6 : rtab .any (opsOf Try.f52 6) = turnstoneref01_minus.T6 := by kernel_rfl
theorem turnstoneref01_minus.bits6 : waitsOk turnstoneref01_minus.T6.2 turnstoneref01_minus.B6 = true := by kernel_rfl
set_option maxHeartbeats 8000000 in
set_option maxRecDepth 100000 in
theorem turnstoneref01_minus.calls (k : Nat) (a0_0 : Bool) (A0_1 : Option Addr) (c0_1 : Nat) (l0_1 : List Int) (a1_0 : Bool) (A1_1 : Option Addr) (c1_1 : Nat) (l1_1 : List Int) (r : List Int) (w : World) (hr0_1 : Kd.C (Kd.int .i64) w A0_1 l0_1.length l0_1) (hc0_1 : l0_1.length ≤ c0_1) (hr1_1 : Kd.C (Kd.int .i64) w A1_1 l1_1.length l1_1) (hc1_1 : l1_1.length ≤ c1_1) (h : turnstoneref01_minus.f k a0_0 l0_1 a1_0 l1_1 = some r) :
  Calls Try.prog 52 #[.agg #[.bool a0_0, .slice A0_1 l0_1.length c0_1], .agg #[.bool a1_0, .slice A1_1 l1_1.length c1_1]] w fun e w' => ∃ v0_ : Value, e = .returned (v0_) ∧ Kd.R (Kd.int .i64) 3 w' w.heap.size (fun _ => True) v0_ r ∧ Below w.heap.size w w' := by
 have hu49 := Try.underlying49
 have HR0_1 := Aside0.mk hr0_1
 have HC0_1 := Aside0.mk hc0_1
 clear hr0_1 hc0_1
 have HR1_1 := Aside0.mk hr1_1
 have HC1_1 := Aside0.mk hc1_1
 clear hr1_1 hc1_1
 have HB := Aside0.mk (Below.refl w.heap.size w)
 have H : (turnstoneref01_minus.l0 k ([] : List Int) 0 0 a0_0 l0_1 a1_0 l1_1) = some r := h
 clear h
 have H' := Aside0.mk H
 clear H
 go_enter Try.func52, Try.ntmps52
 go_wp2_with (first | ((with_reducible refine gate_dst (N := 2) rfl ?_); refine box_event ?hg (N := 2) ?hd (cs := #[.bool a0_0, .slice A0_1 l0_1.length c0_1]) (t := 49) ?hr ?_; (case hd => rfl); (case hg => rfl); (case hr => first | (go_simp; done) | (go_simp; rfl)); intro gb201 hg w3 hbox hb; have BK201 := Aside0.mk (hbox); have GW201 := bels HB hg; have GE201 := bels HB hg; replace HB := belb HB hb; clear hb hbox hg) | ((with_reducible refine gate_dst (N := 3) rfl ?_); refine box_event ?hg (N := 3) ?hd (cs := #[.bool a1_0, .slice A1_1 l1_1.length c1_1]) (t := 49) ?hr ?_; (case hd => rfl); (case hg => rfl); (case hr => first | (go_simp; done) | (go_simp; rfl)); intro gb202 hg w4 hbox hb; have BK202 := Aside0.mk (hbox); have GW202 := bels HB hg; have GE202 := bels HB hg; have NB201_202 := blkl BK201 hg; have NB202_201 := blkg BK201 hg; replace BK201 := blkb BK201 hb; replace HB := belb HB hb; clear hb hbox hg))
 (try simp only [Act.put, List.setIfInBounds_toArray, List.set_cons_zero, List.set_cons_succ])
 go_loopg [5, 6, 7] k (fun kq v5 v6 v7 w' => ∃ (x5_1 : List Int) (x6_1 : Int) (x7_1 : Int), v6 = .int .i64 x6_1 ∧ v7 = .int .i64 x7_1 ∧ Aside0 (turnstoneref01_minus.l0 kq x5_1 x6_1 x7_1 a0_0 l0_1 a1_0 l1_1 = some r) ∧ Aside0 (kq ≤ k) ∧ Aside0 (Kd.R (Kd.int .i64) 3 w' w.heap.size (fun _ => True) v5 x5_1) ∧ Aside0 (w'.heap[gb201]? = some (.cells #[.bool a0_0, (.slice A0_1 l0_1.length c0_1)] 49 (0, 0))) ∧ Aside0 (w'.heap[gb202]? = some (.cells #[.bool a1_0, (.slice A1_1 l1_1.length c1_1)] 49 (0, 0))) ∧ Aside0 (Below w.heap.size w w'))
 case atStart => exact ⟨(([] : List Int)), (0), (0), (by first | rfl | (simp; done) | (simp [*]; done)), (by first | rfl | (simp; done) | (simp [*]; done)), H', ⟨Nat.le_refl _⟩, ⟨by first | exact Kd.R_nil _ _ _ _ _ | exact Kd.N_nil _ _ _ _ _ | exact Kd.V_nil _ _ _ _ _ | exact Kd.Q_nil _ _ _ _ _ | exact Kd.S_nil _ _ _ _ _⟩, ⟨blkt BK201⟩, ⟨blkt BK202⟩, ⟨belt HB⟩⟩
 case round =>
  clear H'
  try clear c1
  try clear p2
  obtain ⟨x5_1, x6_1, x7_1, rfl, rfl, HA, HK1, HO_5, BK201, BK202, HB⟩ := hrel
  cases gk with
  | zero => exact absurd HA.out (by simp [turnstoneref01_minus.l0])
  | succ k1 =>
   have H := HA.out
   clear HA
   simp only [turnstoneref01_minus.l0] at H
   by_cases c5 : x7_1 < (l0_1.length : Int)
   ·rw [if_pos c5] at H
    have c5b0 : decide (x7_1 < (l0_1.length : Int)) = true := decide_eq_true c5
    clear c5
    by_cases c6 : 0 ≤ x7_1
    ·rw [if_pos c6] at H
     have c6b0 : decide (0 ≤ x7_1) = true := decide_eq_true c6
     clear c6
     replace H := Option.bind_eq_some_iff.mp H
     obtain ⟨t204, A70, H⟩ := H
     replace H : (if (wrap64 ((wrap64 ((rd l0_1 x7_1) - t204)) - x6_1)) < 0 then (if x5_1.length < 17592186044416 then (turnstoneref01_minus.l0 k1 (x5_1 ++ [wrap64 ((wrap64 ((wrap64 ((rd l0_1 x7_1) - t204)) - x6_1)) + 10000)]) 1 (wrap64 (x7_1 + 1)) a0_0 l0_1 a1_0 l1_1) else (none)) else (if x5_1.length < 17592186044416 then (turnstoneref01_minus.l0 k1 (x5_1 ++ [wrap64 ((wrap64 ((rd l0_1 x7_1) - t204)) - x6_1)]) 0 (wrap64 (x7_1 + 1)) a0_0 l0_1 a1_0 l1_1) else (none))) = some r := H
     have A7 := Aside0.mk A70
     clear A70
     by_cases c8 : (wrap64 ((wrap64 ((rd l0_1 x7_1) - t204)) - x6_1)) < 0
     ·rw [if_pos c8] at H
      have c8b0 : decide ((wrap64 ((wrap64 ((rd l0_1 x7_1) - t204)) - x6_1)) < 0) = true := decide_eq_true c8
      clear c8
      by_cases c9 : x5_1.length < 17592186044416
      ·rw [if_pos c9] at H
       have LMc9 := Aside0.mk c9
       clear c9
       obtain ⟨y205, hy205⟩ : ∃ y_ : List Int, y_ = (x5_1 ++ [wrap64 ((wrap64 ((wrap64 ((rd l0_1 x7_1) - t204)) - x6_1)) + 10000)]) := ⟨_, rfl⟩
       replace H : (turnstoneref01_minus.l0 k1 y205 1 (wrap64 (x7_1 + 1)) a0_0 l0_1 a1_0 l1_1) = some r := by first | (rw [hy205]; with_reducible exact H) | (have H2_ := (Option.bind_some _ _).symm.trans H; rw [hy205]; with_reducible exact H2_) | (have H2_ := (Option.bind_some _ _).symm.trans H; with_reducible exact H2_) | with_reducible exact H | (rw [hy205]; exact H) | exact H
       have Ny205 := Aside0.mk hy205
       clear hy205
       have H' := Aside0.mk H
       clear H
       have hnb10 := NB201_202.out
       have hnc10 := NB202_201.out
       have hcz11_0 : wr.cell? ⟨gb201, 0, none⟩ = some (.bool a0_0) := bc BK201 0
       have hcz11_1 : wr.cell? ⟨gb201, 1, none⟩ = some (.slice A0_1 l0_1.length c0_1) := bc BK201 1
       have hfz11_0 := blk_frozen BK201.out 0
       have hfz11_1 := blk_frozen BK201.out 1
       try go_wp2
       replace HO_5 := Aside0.mk (Kd.R_drew HO_5.out)
       replace BK201 := Aside0.mk (blk_drew BK201.out)
       replace BK202 := Aside0.mk (blk_drew BK202.out)
       replace HB := Aside0.mk (below_drew1 HB.out)
       have p203 : 0 ≤ (x7_1 : Int) := of_decide_eq_true (by first | (with_reducible assumption) | assumption)
       have q203 : x7_1 < (l0_1.length : Int) := of_decide_eq_true (by first | (with_reducible assumption) | assumption)
       obtain ⟨ad203, e203, hx203_0⟩ := Kd.at_int HR0_1.out x7_1 p203 q203
       have hw203_0 := hx203_0
       cases e203
       replace hx203_0 := (HB.out.cell (World.block_lt_of_cell? w _ hx203_0)).trans hx203_0
       replace p203 := eq_true p203
       replace q203 := eq_true q203
       refine start_ (n := 12) (S := fun w' => w'.cell? ⟨gb201, 0, none⟩ = some (.bool a0_0) ∧ w'.cell? ⟨gb201, 1, none⟩ = some (.slice (some ad203) l0_1.length c0_1) ∧ w'.cell? ⟨gb202, 0, none⟩ = some (.bool a1_0) ∧ w'.cell? ⟨gb202, 1, none⟩ = some (.slice A1_1 l1_1.length c1_1) ∧ w'.cell? (ad203.add (x7_1).toNat) = some (.int .i64 (rd l0_1 x7_1))) (ds := []) #[false, false, false, false, false, false, false, false, false, false, false, false] (by kernel_rfl) rfl rfl ⟨bc BK201 0, bc BK201 1, bc BK202 0, bc BK202 1, ((HB.out.cell (World.block_lt_of_cell? w _ hw203_0)).trans hw203_0)⟩ (fun hHeld => ?_); refine with_tabW turnstoneref01_minus.tab6 turnstoneref01_minus.bits6 (fun HT_ HW_ => ?_)
       generalize wr.drew = w12 at HO_5 BK201 BK202 HB hx203_0 hHeld ⊢
       refine pure_ (i := 0) (N := some 16) (v := ?_) (a' := ?_) #[true, false, false, false, false, false, false, false, false, false, false, false] rfl rfl (any_of HT_.out (by kernel_rfl)) (fun _ _ _ h => h) (Or.inl ⟨by rfl, ?_⟩) ?_ ?_
       rotate_left
       ·intro w'
        go_simp
        with_reducible rfl
       rotate_left
       ·simp only [Act.put, List.setIfInBounds_toArray, List.set_cons_zero, List.set_cons_succ, i64_w, i32_w]
        rfl
       refine pure_ (i := 2) (N := some 18) (v := ?_) (a' := ?_) #[true, false, true, false, false, false, false, false, false, false, false, false] rfl rfl (any_of HT_.out (by kernel_rfl)) (fun _ _ _ h => h) (Or.inl ⟨by rfl, ?_⟩) ?_ ?_
       rotate_left
       ·intro w'
        go_simp
        with_reducible rfl
       rotate_left
       ·simp only [Act.put, List.setIfInBounds_toArray, List.set_cons_zero, List.set_cons_succ, i64_w, i32_w]
        rfl
       refine pure_ (i := 6) (N := some 22) (v := ?_) (a' := ?_) #[true, false, true, false, false, false, true, false, false, false, false, false] rfl rfl (any_of HT_.out (by kernel_rfl)) (fun _ _ _ h => h) (Or.inl ⟨by rfl, ?_⟩) ?_ ?_
       rotate_left
       ·intro w'
        go_simp
        with_reducible rfl
       rotate_left
       ·simp only [Act.put, List.setIfInBounds_toArray, List.set_cons_zero, List.set_cons_succ, i64_w, i32_w]
        rfl
       refine pure_ (i := 9) (N := some 25) (v := ?_) (a' := ?_) #[true, false, true, false, false, false, true, false, false, true, false, false] rfl rfl (any_of HT_.out (by kernel_rfl)) (fun _ _ _ h => h) (Or.inl ⟨by rfl, ?_⟩) ?_ ?_
       rotate_left
       ·intro w'
        go_simp
        with_reducible rfl
       rotate_left
       ·simp only [Act.put, List.setIfInBounds_toArray, List.set_cons_zero, List.set_cons_succ, i64_w, i32_w]
        rfl
       refine take_ (i := 1) (N := some 17) (v := ?_) (a' := ?_) #[true, true, true, false, false, false, true, false, false, true, false, false] rfl rfl (take_ofW HT_.out HW_.out (by kernel_rfl)) (fun _ _ _ h => h) (Or.inl ⟨by rfl, ?_⟩) hHeld ?_ ?_
       rotate_left
       ·rintro w' ⟨s0, s1, s2, s3, s4⟩
        go_simp
        with_reducible rfl
       rotate_left
       ·simp only [Act.put, List.setIfInBounds_toArray, List.set_cons_zero, List.set_cons_succ, i64_w, i32_w]
        rfl
       refine pure_ (i := 3) (N := some 19) (v := ?_) (a' := ?_) #[true, true, true, true, false, false, true, false, false, true, false, false] rfl rfl (any_of HT_.out (by kernel_rfl)) (fun _ _ _ h => h) (Or.inl ⟨by rfl, ?_⟩) ?_ ?_
       rotate_left
       ·intro w'
        go_simp
        with_reducible rfl
       rotate_left
       ·simp only [Act.put, List.setIfInBounds_toArray, List.set_cons_zero, List.set_cons_succ, i64_w, i32_w]
        rfl
       refine take_ (i := 4) (N := some 20) (v := ?_) (a' := ?_) #[true, true, true, true, true, false, true, false, false, true, false, false] rfl rfl (take_ofW HT_.out HW_.out (by kernel_rfl)) (fun _ _ _ h => h) (Or.inl ⟨by rfl, ?_⟩) hHeld ?_ ?_
       rotate_left
       ·rintro w' ⟨s0, s1, s2, s3, s4⟩
        go_simp
        with_reducible rfl
       rotate_left
       ·simp only [Act.put, List.setIfInBounds_toArray, List.set_cons_zero, List.set_cons_succ, i64_w, i32_w]
        rfl
       refine take_ (i := 5) (N := some 21) (v := ?_) (a' := ?_) #[true, true, true, true, true, true, true, false, false, true, false, false] rfl rfl (take_ofW HT_.out HW_.out (by kernel_rfl)) (fun _ _ _ h => h) (Or.inl ⟨by rfl, ?_⟩) hHeld ?_ ?_
       rotate_left
       ·rintro w' ⟨s0, s1, s2, s3, s4⟩
        go_simp
        with_reducible rfl
       rotate_left
       ·simp only [Act.put, List.setIfInBounds_toArray, List.set_cons_zero, List.set_cons_succ, i64_w, i32_w]
        rfl
       refine one_ (i := 7) (N := some 23) #[true, true, true, true, true, true, true, true, false, true, false, false] rfl rfl (one_of HT_.out (by kernel_rfl)) (by decide) (fun K hK => ?_)
       refine goes_ Try.func53 (by kernel_rfl) rfl #[.agg #[.bool a1_0, .slice A1_1 l1_1.length c1_1], .int .i64 x7_1] (by rfl) rfl rfl argt ?_
       with_reducible refine (turnstoneref01_digit.calls a1_0 _ _ l1_1 x7_1 t204 _ ?side1 ?side2 A7.out).mono ?_
       (case side1 => exact (ct (Kd.C_below HR1_1.out HB.out)))
       (case side2 => exact HC1_1.out)
       rintro e w13 ⟨rfl, hb⟩
       refine ⟨_, rfl, ?_⟩
       replace HO_5 := rb HO_5 hb
       replace BK201 := blkb BK201 hb
       replace BK202 := blkb BK202 hb
       replace HB := belb HB hb
       (try clear hb)
       (try clear hb2)
       (try clear hk)
       (try clear hi)
       refine hK.out _ _ ⟨bc BK201 0, bc BK201 1, bc BK202 0, bc BK202 1, ((HB.out.cell (World.block_lt_of_cell? w _ hw203_0)).trans hw203_0)⟩ (fun hHeld => ?_)
       clear hK K
       refine norm_ (a' := ?_) ?_ ?_
       rotate_left
       ·show Act.put _ (some 23) _ = _
        simp only [Act.put, List.setIfInBounds_toArray, List.set_cons_zero, List.set_cons_succ, i64_w, i32_w]
        rfl
       refine pure_ (i := 8) (N := some 24) (v := ?_) (a' := ?_) #[true, true, true, true, true, true, true, true, true, true, false, false] rfl rfl (any_of HT_.out (by kernel_rfl)) (fun _ _ _ h => h) (Or.inl ⟨by rfl, ?_⟩) ?_ ?_
       rotate_left
       ·intro w'
        go_simp
        with_reducible rfl
       rotate_left
       ·simp only [Act.put, List.setIfInBounds_toArray, List.set_cons_zero, List.set_cons_succ, i64_w, i32_w]
        rfl
       refine pure_ (i := 10) (N := some 26) (v := ?_) (a' := ?_) #[true, true, true, true, true, true, true, true, true, true, true, false] rfl rfl (any_of HT_.out (by kernel_rfl)) (fun _ _ _ h => h) (Or.inl ⟨by rfl, ?_⟩) ?_ ?_
       rotate_left
       ·intro w'
        go_simp
        with_reducible rfl
       rotate_left
       ·simp only [Act.put, List.setIfInBounds_toArray, List.set_cons_zero, List.set_cons_succ, i64_w, i32_w]
        rfl
       refine pure_ (i := 11) (N := some 8) (v := ?_) (a' := ?_) #[true, true, true, true, true, true, true, true, true, true, true, true] rfl rfl (any_of HT_.out (by kernel_rfl)) (fun _ _ _ h => h) (Or.inl ⟨by rfl, ?_⟩) ?_ ?_
       rotate_left
       ·intro w'
        go_simp
        with_reducible rfl
       rotate_left
       ·simp only [Act.put, List.setIfInBounds_toArray, List.set_cons_zero, List.set_cons_succ, i64_w, i32_w]
        rfl
       refine done_ (done_of HT_.out (by kernel_rfl)) ?_
       try go_wp2_with (first | ((with_reducible refine gate_builtin (b := .append) (xs := #[.tmp 31, .tmp 33]) rfl ?_); at_builtin; refine Kd.R_append (Kd.int .i64) (w0 := w) w.heap.size rfl (.tmp 31) (.tmp 33) 47 3 (.int .i64 0) 8 rfl Try.underlying47 info3 rfl (by decide) (by omega) u5 x5_1 (wrap64 ((wrap64 ((wrap64 ((rd l0_1 x7_1) - t204)) - x6_1)) + 10000)) [.int .i64 (wrap64 ((wrap64 ((wrap64 ((rd l0_1 x7_1) - t204)) - x6_1)) + 10000))] (fun _ => True) (fun _ => False) rfl rfl ?aP (fun _ hk => hk.elim) ?aF ?aO ?aB ?aS ?aL ?_; (case aP => exact rfl); (case aB => exact (belt HB)); (case aF => exact (fun _ _ => trivial)); (case aO => exact (rt HO_5)); (case aS => exact (below_size (belt HB))); (case aL => have := LMc9.out; omega); intro v206 w14 ho hb hg hat; rw [← Ny205.out] at ho; replace BK201 := Aside0.mk (blk_grown (blkt BK201) hg (Kd.R_ne HO_5.out BK201.out (by decide))); replace BK202 := Aside0.mk (blk_grown (blkt BK202) hg (Kd.R_ne HO_5.out BK202.out (by decide))); replace HB := Aside0.mk (hb); have HO207 := Aside0.mk (ho); clear HO_5; clear ho hb hg hat))
       go_roundg k1
       case measure => have := HK1.out; omega
       case rel => exact ⟨(y205), (1), (wrap64 (x7_1 + 1)), (by first | rfl | (simp; done) | (simp [*]; done)), (by first | rfl | (simp; done) | (simp [*]; done)), H', ⟨by have := HK1.out; omega⟩, ⟨by (with_reducible repeat (first | apply Kd.R_alloc | apply Kd.R_drewN | apply Kd.R_drew)); exact HO207.out⟩, ⟨blkt BK201⟩, ⟨blkt BK202⟩, ⟨belt HB⟩⟩
      rw [if_neg c9] at H
      exact absurd H (by simp)
     rw [if_neg c8] at H
     have c8b0 : decide ((wrap64 ((wrap64 ((rd l0_1 x7_1) - t204)) - x6_1)) < 0) = false := decide_eq_false c8
     clear c8
     by_cases c15 : x5_1.length < 17592186044416
     ·rw [if_pos c15] at H
      have LMc15 := Aside0.mk c15
      clear c15
      obtain ⟨y208, hy208⟩ : ∃ y_ : List Int, y_ = (x5_1 ++ [wrap64 ((wrap64 ((rd l0_1 x7_1) - t204)) - x6_1)]) := ⟨_, rfl⟩
      replace H : (turnstoneref01_minus.l0 k1 y208 0 (wrap64 (x7_1 + 1)) a0_0 l0_1 a1_0 l1_1) = some r := by first | (rw [hy208]; with_reducible exact H) | (have H2_ := (Option.bind_some _ _).symm.trans H; rw [hy208]; with_reducible exact H2_) | (have H2_ := (Option.bind_some _ _).symm.trans H; with_reducible exact H2_) | with_reducible exact H | (rw [hy208]; exact H) | exact H
      have Ny208 := Aside0.mk hy208
      clear hy208
      have H' := Aside0.mk H
      clear H
      have hnb16 := NB201_202.out
      have hnc16 := NB202_201.out
      have hcz17_0 : wr.cell? ⟨gb201, 0, none⟩ = some (.bool a0_0) := bc BK201 0
      have hcz17_1 : wr.cell? ⟨gb201, 1, none⟩ = some (.slice A0_1 l0_1.length c0_1) := bc BK201 1
      have hfz17_0 := blk_frozen BK201.out 0
      have hfz17_1 := blk_frozen BK201.out 1
      try go_wp2
      replace HO_5 := Aside0.mk (Kd.R_drew HO_5.out)
      replace BK201 := Aside0.mk (blk_drew BK201.out)
      replace BK202 := Aside0.mk (blk_drew BK202.out)
      replace HB := Aside0.mk (below_drew1 HB.out)
      have p203 : 0 ≤ (x7_1 : Int) := of_decide_eq_true (by first | (with_reducible assumption) | assumption)
      have q203 : x7_1 < (l0_1.length : Int) := of_decide_eq_true (by first | (with_reducible assumption) | assumption)
      obtain ⟨ad203, e203, hx203_0⟩ := Kd.at_int HR0_1.out x7_1 p203 q203
      have hw203_0 := hx203_0
      cases e203
      replace hx203_0 := (HB.out.cell (World.block_lt_of_cell? w _ hx203_0)).trans hx203_0
      replace p203 := eq_true p203
      replace q203 := eq_true q203
      refine start_ (n := 12) (S := fun w' => w'.cell? ⟨gb201, 0, none⟩ = some (.bool a0_0) ∧ w'.cell? ⟨gb201, 1, none⟩ = some (.slice (some ad203) l0_1.length c0_1) ∧ w'.cell? ⟨gb202, 0, none⟩ = some (.bool a1_0) ∧ w'.cell? ⟨gb202, 1, none⟩ = some (.slice A1_1 l1_1.length c1_1) ∧ w'.cell? (ad203.add (x7_1).toNat) = some (.int .i64 (rd l0_1 x7_1))) (ds := []) #[false, false, false, false, false, false, false, false, false, false, false, false] (by kernel_rfl) rfl rfl ⟨bc BK201 0, bc BK201 1, bc BK202 0, bc BK202 1, ((HB.out.cell (World.block_lt_of_cell? w _ hw203_0)).trans hw203_0)⟩ (fun hHeld => ?_); refine with_tabW turnstoneref01_minus.tab6 turnstoneref01_minus.bits6 (fun HT_ HW_ => ?_)
      generalize wr.drew = w18 at HO_5 BK201 BK202 HB hx203_0 hHeld ⊢
      refine pure_ (i := 0) (N := some 16) (v := ?_) (a' := ?_) #[true, false, false, false, false, false, false, false, false, false, false, false] rfl rfl (any_of HT_.out (by kernel_rfl)) (fun _ _ _ h => h) (Or.inl ⟨by rfl, ?_⟩) ?_ ?_
      rotate_left
      ·intro w'
       go_simp
       with_reducible rfl
      rotate_left
      ·simp only [Act.put, List.setIfInBounds_toArray, List.set_cons_zero, List.set_cons_succ, i64_w, i32_w]
       rfl
      refine pure_ (i := 2) (N := some 18) (v := ?_) (a' := ?_) #[true, false, true, false, false, false, false, false, false, false, false, false] rfl rfl (any_of HT_.out (by kernel_rfl)) (fun _ _ _ h => h) (Or.inl ⟨by rfl, ?_⟩) ?_ ?_
      rotate_left
      ·intro w'
       go_simp
       with_reducible rfl
      rotate_left
      ·simp only [Act.put, List.setIfInBounds_toArray, List.set_cons_zero, List.set_cons_succ, i64_w, i32_w]
       rfl
      refine pure_ (i := 6) (N := some 22) (v := ?_) (a' := ?_) #[true, false, true, false, false, false, true, false, false, false, false, false] rfl rfl (any_of HT_.out (by kernel_rfl)) (fun _ _ _ h => h) (Or.inl ⟨by rfl, ?_⟩) ?_ ?_
      rotate_left
      ·intro w'
       go_simp
       with_reducible rfl
      rotate_left
      ·simp only [Act.put, List.setIfInBounds_toArray, List.set_cons_zero, List.set_cons_succ, i64_w, i32_w]
       rfl
      refine pure_ (i := 9) (N := some 25) (v := ?_) (a' := ?_) #[true, false, true, false, false, false, true, false, false, true, false, false] rfl rfl (any_of HT_.out (by kernel_rfl)) (fun _ _ _ h => h) (Or.inl ⟨by rfl, ?_⟩) ?_ ?_
      rotate_left
      ·intro w'
       go_simp
       with_reducible rfl
      rotate_left
      ·simp only [Act.put, List.setIfInBounds_toArray, List.set_cons_zero, List.set_cons_succ, i64_w, i32_w]
       rfl
      refine take_ (i := 1) (N := some 17) (v := ?_) (a' := ?_) #[true, true, true, false, false, false, true, false, false, true, false, false] rfl rfl (take_ofW HT_.out HW_.out (by kernel_rfl)) (fun _ _ _ h => h) (Or.inl ⟨by rfl, ?_⟩) hHeld ?_ ?_
      rotate_left
      ·rintro w' ⟨s0, s1, s2, s3, s4⟩
       go_simp
       with_reducible rfl
      rotate_left
      ·simp only [Act.put, List.setIfInBounds_toArray, List.set_cons_zero, List.set_cons_succ, i64_w, i32_w]
       rfl
      refine pure_ (i := 3) (N := some 19) (v := ?_) (a' := ?_) #[true, true, true, true, false, false, true, false, false, true, false, false] rfl rfl (any_of HT_.out (by kernel_rfl)) (fun _ _ _ h => h) (Or.inl ⟨by rfl, ?_⟩) ?_ ?_
      rotate_left
      ·intro w'
       go_simp
       with_reducible rfl
      rotate_left
      ·simp only [Act.put, List.setIfInBounds_toArray, List.set_cons_zero, List.set_cons_succ, i64_w, i32_w]
       rfl
      refine take_ (i := 4) (N := some 20) (v := ?_) (a' := ?_) #[true, true, true, true, true, false, true, false, false, true, false, false] rfl rfl (take_ofW HT_.out HW_.out (by kernel_rfl)) (fun _ _ _ h => h) (Or.inl ⟨by rfl, ?_⟩) hHeld ?_ ?_
      rotate_left
      ·rintro w' ⟨s0, s1, s2, s3, s4⟩
       go_simp
       with_reducible rfl
      rotate_left
      ·simp only [Act.put, List.setIfInBounds_toArray, List.set_cons_zero, List.set_cons_succ, i64_w, i32_w]
       rfl
      refine take_ (i := 5) (N := some 21) (v := ?_) (a' := ?_) #[true, true, true, true, true, true, true, false, false, true, false, false] rfl rfl (take_ofW HT_.out HW_.out (by kernel_rfl)) (fun _ _ _ h => h) (Or.inl ⟨by rfl, ?_⟩) hHeld ?_ ?_
      rotate_left
      ·rintro w' ⟨s0, s1, s2, s3, s4⟩
       go_simp
       with_reducible rfl
      rotate_left
      ·simp only [Act.put, List.setIfInBounds_toArray, List.set_cons_zero, List.set_cons_succ, i64_w, i32_w]
       rfl
      refine one_ (i := 7) (N := some 23) #[true, true, true, true, true, true, true, true, false, true, false, false] rfl rfl (one_of HT_.out (by kernel_rfl)) (by decide) (fun K hK => ?_)
      refine goes_ Try.func53 (by kernel_rfl) rfl #[.agg #[.bool a1_0, .slice A1_1 l1_1.length c1_1], .int .i64 x7_1] (by rfl) rfl rfl argt ?_
      with_reducible refine (turnstoneref01_digit.calls a1_0 _ _ l1_1 x7_1 t204 _ ?side1 ?side2 A7.out).mono ?_
      (case side1 => exact (ct (Kd.C_below HR1_1.out HB.out)))
      (case side2 => exact HC1_1.out)
      rintro e w19 ⟨rfl, hb⟩
      refine ⟨_, rfl, ?_⟩
      replace HO_5 := rb HO_5 hb
      replace BK201 := blkb BK201 hb
      replace BK202 := blkb BK202 hb
      replace HB := belb HB hb
      (try clear hb)
      (try clear hb2)
      (try clear hk)
      (try clear hi)
      refine hK.out _ _ ⟨bc BK201 0, bc BK201 1, bc BK202 0, bc BK202 1, ((HB.out.cell (World.block_lt_of_cell? w _ hw203_0)).trans hw203_0)⟩ (fun hHeld => ?_)
      clear hK K
      refine norm_ (a' := ?_) ?_ ?_
      rotate_left
      ·show Act.put _ (some 23) _ = _
       simp only [Act.put, List.setIfInBounds_toArray, List.set_cons_zero, List.set_cons_succ, i64_w, i32_w]
       rfl
      refine pure_ (i := 8) (N := some 24) (v := ?_) (a' := ?_) #[true, true, true, true, true, true, true, true, true, true, false, false] rfl rfl (any_of HT_.out (by kernel_rfl)) (fun _ _ _ h => h) (Or.inl ⟨by rfl, ?_⟩) ?_ ?_
      rotate_left
      ·intro w'
       go_simp
       with_reducible rfl
      rotate_left
      ·simp only [Act.put, List.setIfInBounds_toArray, List.set_cons_zero, List.set_cons_succ, i64_w, i32_w]
       rfl
      refine pure_ (i := 10) (N := some 26) (v := ?_) (a' := ?_) #[true, true, true, true, true, true, true, true, true, true, true, false] rfl rfl (any_of HT_.out (by kernel_rfl)) (fun _ _ _ h => h) (Or.inl ⟨by rfl, ?_⟩) ?_ ?_
      rotate_left
      ·intro w'
       go_simp
       with_reducible rfl
      rotate_left
      ·simp only [Act.put, List.setIfInBounds_toArray, List.set_cons_zero, List.set_cons_succ, i64_w, i32_w]
       rfl
      refine pure_ (i := 11) (N := some 8) (v := ?_) (a' := ?_) #[true, true, true, true, true, true, true, true, true, true, true, true] rfl rfl (any_of HT_.out (by kernel_rfl)) (fun _ _ _ h => h) (Or.inl ⟨by rfl, ?_⟩) ?_ ?_
      rotate_left
      ·intro w'
       go_simp
       with_reducible rfl
      rotate_left
      ·simp only [Act.put, List.setIfInBounds_toArray, List.set_cons_zero, List.set_cons_succ, i64_w, i32_w]
       rfl
      refine done_ (done_of HT_.out (by kernel_rfl)) ?_
      try go_wp2_with (first | ((with_reducible refine gate_builtin (b := .append) (xs := #[.tmp 31, .tmp 33]) rfl ?_); at_builtin; refine Kd.R_append (Kd.int .i64) (w0 := w) w.heap.size rfl (.tmp 31) (.tmp 33) 47 3 (.int .i64 0) 8 rfl Try.underlying47 info3 rfl (by decide) (by omega) u5 x5_1 (wrap64 ((wrap64 ((rd l0_1 x7_1) - t204)) - x6_1)) [.int .i64 (wrap64 ((wrap64 ((rd l0_1 x7_1) - t204)) - x6_1))] (fun _ => True) (fun _ => False) rfl rfl ?aP (fun _ hk => hk.elim) ?aF ?aO ?aB ?aS ?aL ?_; (case aP => exact rfl); (case aB => exact (belt HB)); (case aF => exact (fun _ _ => trivial)); (case aO => exact (rt HO_5)); (case aS => exact (below_size (belt HB))); (case aL => have := LMc15.out; omega); intro v209 w20 ho hb hg hat; rw [← Ny208.out] at ho; replace BK201 := Aside0.mk (blk_grown (blkt BK201) hg (Kd.R_ne HO_5.out BK201.out (by decide))); replace BK202 := Aside0.mk (blk_grown (blkt BK202) hg (Kd.R_ne HO_5.out BK202.out (by decide))); replace HB := Aside0.mk (hb); have HO210 := Aside0.mk (ho); clear HO_5; clear ho hb hg hat))
      go_roundg k1
      case measure => have := HK1.out; omega
      case rel => exact ⟨(y208), (0), (wrap64 (x7_1 + 1)), (by first | rfl | (simp; done) | (simp [*]; done)), (by first | rfl | (simp; done) | (simp [*]; done)), H', ⟨by have := HK1.out; omega⟩, ⟨by (with_reducible repeat (first | apply Kd.R_alloc | apply Kd.R_drewN | apply Kd.R_drew)); exact HO210.out⟩, ⟨blkt BK201⟩, ⟨blkt BK202⟩, ⟨belt HB⟩⟩
     rw [if_neg c15] at H
     exact absurd H (by simp)
    rw [if_neg c6] at H
    exact absurd H (by simp)
   rw [if_neg c5] at H
   have c5b0 : decide (x7_1 < (l0_1.length : Int)) = false := decide_eq_false c5
   clear c5
   obtain rfl := Option.some.inj H
   have hnb21 := NB201_202.out
   have hnc21 := NB202_201.out
   have hcz22_0 : wr.cell? ⟨gb201, 0, none⟩ = some (.bool a0_0) := bc BK201 0
   have hcz22_1 : wr.cell? ⟨gb201, 1, none⟩ = some (.slice A0_1 l0_1.length c0_1) := bc BK201 1
   have hfz22_0 := blk_frozen BK201.out 0
   have hfz22_1 := blk_frozen BK201.out 1
   go_wp2
   go_ret
   exact ⟨_, by first | rfl | (simp [errW_none, errW_some] <;> rfl) | (simp [*, errW_none, errW_some] <;> rfl), by (with_reducible repeat (first | apply Kd.R_alloc | apply Kd.R_drewN | apply Kd.R_drew)); exact HO_5.out, belt HB⟩


/-! ### turnstoneref01_Add: function 41 -/
def turnstoneref01_Add.f (k : Nat) (a0_0 : Bool) (l0_1 : List Int) (a1_0 : Bool) (l1_1 : List Int) : Option (Bool × List Int) := if (a0_0 == a1_0) = true then ((turnstoneref01_plus.f k a0_0 l0_1 a1_0 l1_1).bind fun t214 => ((turnstoneref01_trim.f k a0_0 t214).bind fun bt217 => (some (bt217.1, bt217.2)))) else ((turnstoneref01_larger.f k a0_0 l0_1 a1_0 l1_1).bind fun t221 => (if t221 ≥ 0 then ((turnstoneref01_minus.f k a0_0 l0_1 a1_0 l1_1).bind fun t222 => ((turnstoneref01_trim.f k a0_0 t222).bind fun bt225 => (some (bt225.1, bt225.2)))) else ((turnstoneref01_minus.f k a1_0 l1_1 a0_0 l0_1).bind fun t229 => ((turnstoneref01_trim.f k a1_0 t229).bind fun bt232 => (some (bt232.1, bt232.2))))))
theorem turnstoneref01_Add.mono : ∀ a0 a1 a2 a3 k, LeO (turnstoneref01_Add.f k a0 a1 a2 a3) (turnstoneref01_Add.f (k + 1) a0 a1 a2 a3) := by
 intro a0 a1 a2 a3 k
 unfold turnstoneref01_Add.f
 repeat' first
   | (with_reducible exact turnstoneref01_larger.mono _ _ _ _ _)
   | (with_reducible exact turnstoneref01_minus.mono _ _ _ _ _)
   | (with_reducible exact turnstoneref01_plus.mono _ _ _ _ _)
   | (with_reducible exact turnstoneref01_trim.mono _ _ _)
   | (with_reducible exact LeO.refl _)
   | (with_reducible exact LeO.none _)
   | (with_reducible refine LeO.ite ?_ ?_)
   | (with_reducible refine LeO.bind ?_ (fun _ => ?_))
   | exact turnstoneref01_larger.mono _ _ _ _ _
   | exact turnstoneref01_minus.mono _ _ _ _ _
   | exact turnstoneref01_plus.mono _ _ _ _ _
   | exact turnstoneref01_trim.mono _ _ _
   | exact LeO.none _
   | refine LeO.ite ?_ ?_
   | refine LeO.bind ?_ (fun _ => ?_)
def turnstoneref01_Add.T2 : Bool × List (List Nat × List Nat) := (true, [([], []), ([0], [0]), ([], []), ([], []), ([2, 3], [2, 3]), ([1, 4], [1, 4]), ([5, 4], [5]), ([6, 6, 0, 1, 2, 3, 4, 5, 6], [6])])
def turnstoneref01_Add.B2 : List Nat := [0, 1, 0, 0, 12, 31, 63, 127]
theorem turnstoneref01_Add.tab2 : rtab .any (opsOf Try.f41 2) = turnstoneref01_Add.T2 := by kernel_rfl
theorem turnstoneref01_Add.bits2 : waitsOk turnstoneref01_Add.T2.2 turnstoneref01_Add.B2 = true := by kernel_rfl
def turnstoneref01_Add.T4 : Bool × List (List Nat × List Nat) := (true, [([], []), ([0], [0]), ([], []), ([], []), ([2, 3], [2, 3]), ([1, 4], [1, 4]), ([5, 4], [5]), ([6, 6, 0, 1, 2, 3, 4, 5, 6], [6])])
def turnstoneref01_Add.B4 : List Nat := [0, 1, 0, 0, 12, 31, 63, 127]
theorem turnstoneref01_Add.tab4 : rtab .any (opsOf Try.f41 4) = turnstoneref01_Add.T4 := by kernel_rfl
theorem turnstoneref01_Add.bits4 : waitsOk turnstoneref01_Add.T4.2 turnstoneref01_Add.B4 = true := by kernel_rfl
def turnstoneref01_Add.T5 : Bool × List (List Nat × List Nat) := (true, [([], []), ([0], [0]), ([], []), ([], []), ([2, 3], [2, 3]), ([1, 4], [1, 4]), ([5, 4], [5]), ([6, 6, 0, 1, 2, 3, 4, 5, 6], [6])])
def turnstoneref01_Add.B5 : List Nat := [0, 1, 0, 0, 12, 31, 63, 127]
theorem turnstoneref01_Add.tab5 : rtab .any (opsOf Try.f41 5) = turnstoneref01_Add.T5 := by kernel_rfl
theorem turnstoneref01_Add.bits5 : waitsOk turnstoneref01_Add.T5.2 turnstoneref01_Add.B5 = true := by kernel_rfl
set_option maxHeartbeats 8000000 in
set_option maxRecDepth 100000 in
theorem turnstoneref01_Add.calls (k : Nat) (a0_0 : Bool) (A0_1 : Option Addr) (c0_1 : Nat) (l0_1 : List Int) (a1_0 : Bool) (A1_1 : Option Addr) (c1_1 : Nat) (l1_1 : List Int) (r1 : Bool) (r2 : List Int) (w : World) (hr0_1 : Kd.C (Kd.int .i64) w A0_1 l0_1.length l0_1) (hc0_1 : l0_1.length ≤ c0_1) (hr1_1 : Kd.C (Kd.int .i64) w A1_1 l1_1.length l1_1) (hc1_1 : l1_1.length ≤ c1_1) (h : turnstoneref01_Add.f k a0_0 l0_1 a1_0 l1_1 = some (r1, r2)) :
  Calls Try.prog 41 #[.agg #[.bool a0_0, .slice A0_1 l0_1.length c0_1], .agg #[.bool a1_0, .slice A1_1 l1_1.length c1_1]] w fun e w' => ∃ v1_ : Value, e = .returned (.agg #[.bool r1, v1_]) ∧ Kd.V (Kd.int .i64) 3 w' w.heap.size (fun k_ => (w.heap.size ≤ k_)) v1_ r2 ∧ Below w.heap.size w w' := by
 have hu49 := Try.underlying49
 have HR0_1 := Aside0.mk hr0_1
 have HC0_1 := Aside0.mk hc0_1
 clear hr0_1 hc0_1
 have HR1_1 := Aside0.mk hr1_1
 have HC1_1 := Aside0.mk hc1_1
 clear hr1_1 hc1_1
 have HB := Aside0.mk (Below.refl w.heap.size w)
 have H : (if (a0_0 == a1_0) = true then ((turnstoneref01_plus.f k a0_0 l0_1 a1_0 l1_1).bind fun t214 => ((turnstoneref01_trim.f k a0_0 t214).bind fun bt217 => (some (bt217.1, bt217.2)))) else ((turnstoneref01_larger.f k a0_0 l0_1 a1_0 l1_1).bind fun t221 => (if t221 ≥ 0 then ((turnstoneref01_minus.f k a0_0 l0_1 a1_0 l1_1).bind fun t222 => ((turnstoneref01_trim.f k a0_0 t222).bind fun bt225 => (some (bt225.1, bt225.2)))) else ((turnstoneref01_minus.f k a1_0 l1_1 a0_0 l0_1).bind fun t229 => ((turnstoneref01_trim.f k a1_0 t229).bind fun bt232 => (some (bt232.1, bt232.2))))))) = some (r1, r2) := h
 clear h
 by_cases c3 : (a0_0 == a1_0) = true
 ·rw [if_pos c3] at H
  have c3b0 : (a0_0 == a1_0) = true := c3
  (try (have c3b1 : decide (a0_0 = a1_0) = true := by simpa using c3))
  (try (have c3b2 : (a0_0 == a1_0) = true := by simpa using c3))
  clear c3
  replace H := Option.bind_eq_some_iff.mp H
  obtain ⟨t214, A40, H⟩ := H
  replace H : ((turnstoneref01_trim.f k a0_0 t214).bind fun bt217 => (some (bt217.1, bt217.2))) = some (r1, r2) := H
  have A4 := Aside0.mk A40
  clear A40
  replace H := Option.bind_eq_some_iff.mp H
  obtain ⟨⟨t217, t218⟩, A50, H⟩ := H
  replace H : (some (t217, t218)) = some (r1, r2) := H
  have A5 := Aside0.mk A50
  clear A50
  simp only [Option.some.injEq, Prod.mk.injEq] at H
  obtain ⟨rfl, rfl⟩ := H
  go_enter Try.func41, Try.ntmps41
  try go_wp2_with (first | ((with_reducible refine gate_dst (N := 2) rfl ?_); refine box_event ?hg (N := 2) ?hd (cs := #[.bool a0_0, .slice A0_1 l0_1.length c0_1]) (t := 49) ?hr ?_; (case hd => rfl); (case hg => rfl); (case hr => first | (go_simp; done) | (go_simp; rfl)); intro gb211 hg w6 hbox hb; have BK211 := Aside0.mk (hbox); have GW211 := bels HB hg; have GE211 := bels HB hg; replace HB := belb HB hb; clear hb hbox hg) | ((with_reducible refine gate_dst (N := 3) rfl ?_); refine box_event ?hg (N := 3) ?hd (cs := #[.bool a1_0, .slice A1_1 l1_1.length c1_1]) (t := 49) ?hr ?_; (case hd => rfl); (case hg => rfl); (case hr => first | (go_simp; done) | (go_simp; rfl)); intro gb212 hg w7 hbox hb; have BK212 := Aside0.mk (hbox); have GW212 := bels HB hg; have GE212 := bels HB hg; have NB211_212 := blkl BK211 hg; have NB212_211 := blkg BK211 hg; replace BK211 := blkb BK211 hb; replace HB := belb HB hb; clear hb hbox hg) | ((with_reducible refine gate_dst (N := 4) rfl ?_); refine box_event ?hg (N := 4) ?hd (cs := #[.bool false, .slice none 0 0]) (t := 49) ?hr ?_; (case hd => rfl); (case hg => rfl); (case hr => first | (go_simp; done) | (go_simp; rfl)); intro gb213 hg w8 hbox hb; have BK213 := Aside0.mk (hbox); have GW213 := bels HB hg; have GE213 := bels HB hg; have NB211_213 := blkl BK211 hg; have NB213_211 := blkg BK211 hg; have NB212_213 := blkl BK212 hg; have NB213_212 := blkg BK212 hg; replace BK211 := blkb BK211 hb; replace BK212 := blkb BK212 hb; replace HB := belb HB hb; clear hb hbox hg; have hnb9 := NB211_212.out; have hnc9 := NB212_211.out; have hnb10 := NB211_213.out; have hnc10 := NB213_211.out; have hcz11_0 : w8.cell? ⟨gb211, 0, none⟩ = some (.bool a0_0) := bc BK211 0; have hcz11_1 : w8.cell? ⟨gb211, 1, none⟩ = some (.slice A0_1 l0_1.length c0_1) := bc BK211 1; have hfz11_0 := blk_frozen BK211.out 0; have hfz11_1 := blk_frozen BK211.out 1; have hnb12 := NB212_213.out; have hnc12 := NB213_212.out; have hcz13_0 : w8.cell? ⟨gb212, 0, none⟩ = some (.bool a1_0) := bc BK212 0; have hcz13_1 : w8.cell? ⟨gb212, 1, none⟩ = some (.slice A1_1 l1_1.length c1_1) := bc BK212 1; have hfz13_0 := blk_frozen BK212.out 0; have hfz13_1 := blk_frozen BK212.out 1))
  replace BK211 := Aside0.mk (blk_drew BK211.out)
  replace BK212 := Aside0.mk (blk_drew BK212.out)
  replace BK213 := Aside0.mk (blk_drew BK213.out)
  replace HB := Aside0.mk (below_drew1 HB.out)
  refine start_ (n := 8) (S := fun w' => w'.cell? ⟨gb211, 0, none⟩ = some (.bool a0_0) ∧ w'.cell? ⟨gb211, 1, none⟩ = some (.slice A0_1 l0_1.length c0_1) ∧ w'.cell? ⟨gb212, 0, none⟩ = some (.bool a1_0) ∧ w'.cell? ⟨gb212, 1, none⟩ = some (.slice A1_1 l1_1.length c1_1)) (ds := []) #[false, false, false, false, false, false, false, false] (by kernel_rfl) rfl rfl ⟨bc BK211 0, bc BK211 1, bc BK212 0, bc BK212 1⟩ (fun hHeld => ?_); refine with_tabW turnstoneref01_Add.tab2 turnstoneref01_Add.bits2 (fun HT_ HW_ => ?_)
  generalize w8.drew = w14 at BK211 BK212 BK213 HB hHeld ⊢
  refine pure_ (i := 0) (N := some 10) (v := ?_) (a' := ?_) #[true, false, false, false, false, false, false, false] rfl rfl (any_of HT_.out (by kernel_rfl)) (fun _ _ _ h => h) (Or.inl ⟨by rfl, ?_⟩) ?_ ?_
  rotate_left
  ·intro w'
   go_simp
   with_reducible rfl
  rotate_left
  ·simp only [Act.put, List.setIfInBounds_toArray, List.set_cons_zero, List.set_cons_succ, i64_w, i32_w]
   rfl
  refine take_ (i := 1) (N := some 11) (v := ?_) (a' := ?_) #[true, true, false, false, false, false, false, false] rfl rfl (take_ofW HT_.out HW_.out (by kernel_rfl)) (fun _ _ _ h => h) (Or.inl ⟨by rfl, ?_⟩) hHeld ?_ ?_
  rotate_left
  ·rintro w' ⟨s0, s1, s2, s3⟩
   go_simp
   with_reducible rfl
  rotate_left
  ·simp only [Act.put, List.setIfInBounds_toArray, List.set_cons_zero, List.set_cons_succ, i64_w, i32_w]
   rfl
  refine take_ (i := 2) (N := some 12) (v := ?_) (a' := ?_) #[true, true, true, false, false, false, false, false] rfl rfl (take_ofW HT_.out HW_.out (by kernel_rfl)) (fun _ _ _ h => h) (Or.inl ⟨by rfl, ?_⟩) hHeld ?_ ?_
  rotate_left
  ·rintro w' ⟨s0, s1, s2, s3⟩
   go_simp
   with_reducible rfl
  rotate_left
  ·simp only [Act.put, List.setIfInBounds_toArray, List.set_cons_zero, List.set_cons_succ, i64_w, i32_w]
   rfl
  refine take_ (i := 3) (N := some 13) (v := ?_) (a' := ?_) #[true, true, true, true, false, false, false, false] rfl rfl (take_ofW HT_.out HW_.out (by kernel_rfl)) (fun _ _ _ h => h) (Or.inl ⟨by rfl, ?_⟩) hHeld ?_ ?_
  rotate_left
  ·rintro w' ⟨s0, s1, s2, s3⟩
   go_simp
   with_reducible rfl
  rotate_left
  ·simp only [Act.put, List.setIfInBounds_toArray, List.set_cons_zero, List.set_cons_succ, i64_w, i32_w]
   rfl
  refine one_ (i := 4) (N := some 14) #[true, true, true, true, true, false, false, false] rfl rfl (one_of HT_.out (by kernel_rfl)) (by decide) (fun K hK => ?_)
  refine goes_ Try.func50 (by kernel_rfl) rfl #[.agg #[.bool a0_0, .slice A0_1 l0_1.length c0_1], .agg #[.bool a1_0, .slice A1_1 l1_1.length c1_1]] (by rfl) rfl rfl argt ?_
  with_reducible refine (turnstoneref01_plus.calls k a0_0 _ _ l0_1 a1_0 _ _ l1_1 t214 _ ?side1 ?side2 ?side3 ?side4 A4.out).mono ?_
  (case side1 => exact (ct (Kd.C_below HR0_1.out HB.out)))
  (case side2 => exact HC0_1.out)
  (case side3 => exact (ct (Kd.C_below HR1_1.out HB.out)))
  (case side4 => exact HC1_1.out)
  rintro e w15 ⟨v215, rfl, ho0, hb⟩
  refine ⟨_, rfl, ?_⟩
  have HO216 := Aside0.mk (Kd.R_lower (Kd.R_newM (M := fun k_ => (w.heap.size ≤ k_)) ho0 (below_size (belt HB)) (fun k_ h_ => h_)) (below_size (belt HB)))
  replace BK211 := blkb BK211 hb
  replace BK212 := blkb BK212 hb
  replace BK213 := blkb BK213 hb
  replace HB := belb HB hb
  (try clear hb)
  (try clear hb2)
  (try clear hk)
  (try clear hi)
  (try clear ho0)
  obtain ⟨Ao16, co16, eo16⟩ := Kd.R_slice HO216.out
  (first | subst eo16 | (injection eo16 with f1_ f2_ f3_; have f4_ := f1_.symm; have f5_ := f3_.symm; clear f1_ f2_ f3_; subst f4_; subst f5_))
  refine hK.out _ _ ⟨bc BK211 0, bc BK211 1, bc BK212 0, bc BK212 1⟩ (fun hHeld => ?_)
  clear hK K
  refine norm_ (a' := ?_) ?_ ?_
  rotate_left
  ·show Act.put _ (some 14) _ = _
   simp only [Act.put, List.setIfInBounds_toArray, List.set_cons_zero, List.set_cons_succ, i64_w, i32_w]
   rfl
  refine pure_ (i := 5) (N := some 15) (v := ?_) (a' := ?_) #[true, true, true, true, true, true, false, false] rfl rfl (any_of HT_.out (by kernel_rfl)) (fun _ _ _ h => h) (Or.inl ⟨by rfl, ?_⟩) ?_ ?_
  rotate_left
  ·intro w'
   go_simp
   with_reducible rfl
  rotate_left
  ·simp only [Act.put, List.setIfInBounds_toArray, List.set_cons_zero, List.set_cons_succ, i64_w, i32_w]
   rfl
  refine one_ (i := 6) (N := some 16) #[true, true, true, true, true, true, true, false] rfl rfl (one_of HT_.out (by kernel_rfl)) (by decide) (fun K hK => ?_)
  refine goes_ Try.func49 (by kernel_rfl) rfl #[.agg #[.bool a0_0, .slice Ao16 t214.length co16]] (by rfl) rfl rfl argt ?_
  with_reducible refine (turnstoneref01_trim.calls k a0_0 (fun k_ => some k_ = (.slice Ao16 t214.length co16 : Value).ownBlock) _ _ t214 t217 t218 _ ?side1 A5.out).mono ?_
  (case side1 => exact Kd.R_V (Kd.R_tight rfl (Kd.R_types (Kd.R_types (Kd.R_types (HO216.out) BK211.out (by decide)) BK212.out (by decide)) BK213.out (by decide))))
  rintro e w17 ⟨v219, rfl, ho0, hb⟩
  refine ⟨_, rfl, ?_⟩
  have HO220 := Aside0.mk (Kd.V_lower (Kd.V_mono (ok' := fun k_ => (w.heap.size ≤ k_) ∧ k_ ≠ gb211 ∧ k_ ≠ gb212 ∧ k_ ≠ gb213) ho0 (fun k_ hk_ => ⟨Or.elim hk_ (fun hs_ => ((Kd.R_types (Kd.R_types (Kd.R_types (HO216.out) BK211.out (by decide)) BK212.out (by decide)) BK213.out (by decide)).1 k_ hs_.symm).1.1.1.1) (fun hn_ => (Nat.le_trans (below_size (belt HB)) hn_)), Or.elim hk_ (fun hs_ => ((Kd.R_types (Kd.R_types (Kd.R_types (HO216.out) BK211.out (by decide)) BK212.out (by decide)) BK213.out (by decide)).1 k_ hs_.symm).1.1.2) (fun hn_ => (Kd.freshB (blkt BK211) k_ hn_)), Or.elim hk_ (fun hs_ => ((Kd.R_types (Kd.R_types (Kd.R_types (HO216.out) BK211.out (by decide)) BK212.out (by decide)) BK213.out (by decide)).1 k_ hs_.symm).1.2) (fun hn_ => (Kd.freshB (blkt BK212) k_ hn_)), Or.elim hk_ (fun hs_ => ((Kd.R_types (Kd.R_types (Kd.R_types (HO216.out) BK211.out (by decide)) BK212.out (by decide)) BK213.out (by decide)).1 k_ hs_.symm).2) (fun hn_ => (Kd.freshB (blkt BK213) k_ hn_))⟩)) (below_size (belt HB)))
  replace HO216 := rb HO216 hb
  replace BK211 := blkb BK211 hb
  replace BK212 := blkb BK212 hb
  replace BK213 := blkb BK213 hb
  replace HB := belb HB hb
  (try clear hb)
  (try clear hb2)
  (try clear hk)
  (try clear hi)
  (try clear ho0)
  obtain ⟨Ao19, co19, eo19⟩ := Kd.V_slice HO220.out
  (first | subst eo19 | (injection eo19 with f1_ f2_ f3_; have f4_ := f1_.symm; have f5_ := f3_.symm; clear f1_ f2_ f3_; subst f4_; subst f5_))
  refine hK.out _ _ ⟨bc BK211 0, bc BK211 1, bc BK212 0, bc BK212 1⟩ (fun hHeld => ?_)
  clear hK K
  refine norm_ (a' := ?_) ?_ ?_
  rotate_left
  ·show Act.put _ (some 16) _ = _
   simp only [Act.put, List.setIfInBounds_toArray, List.set_cons_zero, List.set_cons_succ, i64_w, i32_w]
   rfl
  refine one_ (i := 7) (N := none) #[true, true, true, true, true, true, true, true] rfl rfl (one_of HT_.out (by kernel_rfl)) (by decide) (fun K hK => ?_)
  have hs18 : w17.cell? ⟨gb213, 0, none⟩ = some (.bool false) := bc BK213 0
  have hfs18 := blk_frozen BK213.out 0
  have hns18_0 := NB211_213.out
  have hns18_1 := NB212_213.out
  have hms18_0 := NB213_211.out
  have hms18_1 := NB213_212.out
  have hs20 : w17.cell? ⟨gb213, 1, none⟩ = some (.slice none 0 0) := bc BK213 1
  have hfs20 := blk_frozen BK213.out 1
  have hns20_0 := NB211_213.out
  have hns20_1 := NB212_213.out
  have hms20_0 := NB213_211.out
  have hms20_1 := NB213_212.out
  refine skip_ (w1 := ?_) (by rfl) rfl ?_ ?_
  rotate_left
  ·go_simp
   rfl
  refine hK.out _ _ ⟨((cell_far (p := ⟨gb213, _, none⟩) NB211_213.out _).trans (((cell_far (p := ⟨gb213, _, none⟩) NB211_213.out _).trans (hHeld.1)))), ((cell_far (p := ⟨gb213, _, none⟩) NB211_213.out _).trans (((cell_far (p := ⟨gb213, _, none⟩) NB211_213.out _).trans (hHeld.2.1)))), ((cell_far (p := ⟨gb213, _, none⟩) NB212_213.out _).trans (((cell_far (p := ⟨gb213, _, none⟩) NB212_213.out _).trans (hHeld.2.2.1)))), ((cell_far (p := ⟨gb213, _, none⟩) NB212_213.out _).trans (((cell_far (p := ⟨gb213, _, none⟩) NB212_213.out _).trans (hHeld.2.2.2))))⟩ (fun hHeld => ?_)
  clear hK K
  refine done_ (done_of HT_.out (by kernel_rfl)) ?_
  try go_wp2
  refine bodyPost_ret (results_cell_row rfl _ _ gb213 49 #[.bool t217, .slice Ao19 t218.length co19] (0, 0) _ rfl (by (with_reducible repeat (first | refine blk_drewN ?_ _ | refine blk_drew ?_ | refine blk_alloc ?_ _)); refine blk_put (cs := #[.bool t217, .slice none 0 0]) ?_ 1 _ rfl; (with_reducible repeat (first | refine blk_drewN ?_ _ | refine blk_drew ?_ | refine blk_alloc ?_ _)); refine blk_put (cs := #[.bool false, .slice none 0 0]) ?_ 0 _ rfl; exact blkt BK213) Try.underlying49 rfl (by kernel_rfl)) rfl ?_
  exact ⟨_, by first | rfl | (simp [errW_none, errW_some] <;> rfl) | (simp [*, errW_none, errW_some] <;> rfl), by (with_reducible repeat (first | apply Kd.V_alloc | apply Kd.V_drewN | apply Kd.V_drew)); exact Kd.V_mono (Kd.V_far (p := ⟨gb213, 1, none⟩) (Kd.V_far (p := ⟨gb213, 0, none⟩) (Kd.V_mono HO220.out (fun k_ hk => (⟨hk, hk.2.2.2⟩ : _ ∧ k_ ≠ gb213))) (fun _ hk => hk.2) (.bool t217)) (fun _ hk => hk.2) (.slice Ao19 t218.length co19)) (fun _ hk => hk.1.1), belt HB⟩
 rw [if_neg c3] at H
 have c3b0 : (a0_0 == a1_0) = false := by simpa using c3
 (try (have c3b1 : decide (a0_0 = a1_0) = false := by simpa using c3))
 (try (have c3b2 : (a0_0 == a1_0) = false := by simpa using c3))
 (try (have c3b3 : ¬ (a0_0 = a1_0) := by simpa using c3))
 clear c3
 replace H := Option.bind_eq_some_iff.mp H
 obtain ⟨t221, A210, H⟩ := H
 replace H : (if t221 ≥ 0 then ((turnstoneref01_minus.f k a0_0 l0_1 a1_0 l1_1).bind fun t222 => ((turnstoneref01_trim.f k a0_0 t222).bind fun bt225 => (some (bt225.1, bt225.2)))) else ((turnstoneref01_minus.f k a1_0 l1_1 a0_0 l0_1).bind fun t229 => ((turnstoneref01_trim.f k a1_0 t229).bind fun bt232 => (some (bt232.1, bt232.2))))) = some (r1, r2) := H
 have A21 := Aside0.mk A210
 clear A210
 by_cases c22 : t221 ≥ 0
 ·rw [if_pos c22] at H
  have c22b0 : decide (0 ≤ t221) = true := decide_eq_true c22
  clear c22
  replace H := Option.bind_eq_some_iff.mp H
  obtain ⟨t222, A230, H⟩ := H
  replace H : ((turnstoneref01_trim.f k a0_0 t222).bind fun bt225 => (some (bt225.1, bt225.2))) = some (r1, r2) := H
  have A23 := Aside0.mk A230
  clear A230
  replace H := Option.bind_eq_some_iff.mp H
  obtain ⟨⟨t225, t226⟩, A240, H⟩ := H
  replace H : (some (t225, t226)) = some (r1, r2) := H
  have A24 := Aside0.mk A240
  clear A240
  simp only [Option.some.injEq, Prod.mk.injEq] at H
  obtain ⟨rfl, rfl⟩ := H
  go_enter Try.func41, Try.ntmps41
  try go_wp2_with (first | ((with_reducible refine gate_dst (N := 2) rfl ?_); refine box_event ?hg (N := 2) ?hd (cs := #[.bool a0_0, .slice A0_1 l0_1.length c0_1]) (t := 49) ?hr ?_; (case hd => rfl); (case hg => rfl); (case hr => first | (go_simp; done) | (go_simp; rfl)); intro gb211 hg w25 hbox hb; have BK211 := Aside0.mk (hbox); have GW211 := bels HB hg; have GE211 := bels HB hg; replace HB := belb HB hb; clear hb hbox hg) | ((with_reducible refine gate_dst (N := 3) rfl ?_); refine box_event ?hg (N := 3) ?hd (cs := #[.bool a1_0, .slice A1_1 l1_1.length c1_1]) (t := 49) ?hr ?_; (case hd => rfl); (case hg => rfl); (case hr => first | (go_simp; done) | (go_simp; rfl)); intro gb212 hg w26 hbox hb; have BK212 := Aside0.mk (hbox); have GW212 := bels HB hg; have GE212 := bels HB hg; have NB211_212 := blkl BK211 hg; have NB212_211 := blkg BK211 hg; replace BK211 := blkb BK211 hb; replace HB := belb HB hb; clear hb hbox hg) | ((with_reducible refine gate_dst (N := 4) rfl ?_); refine box_event ?hg (N := 4) ?hd (cs := #[.bool false, .slice none 0 0]) (t := 49) ?hr ?_; (case hd => rfl); (case hg => rfl); (case hr => first | (go_simp; done) | (go_simp; rfl)); intro gb213 hg w27 hbox hb; have BK213 := Aside0.mk (hbox); have GW213 := bels HB hg; have GE213 := bels HB hg; have NB211_213 := blkl BK211 hg; have NB213_211 := blkg BK211 hg; have NB212_213 := blkl BK212 hg; have NB213_212 := blkg BK212 hg; replace BK211 := blkb BK211 hb; replace BK212 := blkb BK212 hb; replace HB := belb HB hb; clear hb hbox hg; have hnb28 := NB211_212.out; have hnc28 := NB212_211.out; have hnb29 := NB211_213.out; have hnc29 := NB213_211.out; have hcz30_0 : w27.cell? ⟨gb211, 0, none⟩ = some (.bool a0_0) := bc BK211 0; have hcz30_1 : w27.cell? ⟨gb211, 1, none⟩ = some (.slice A0_1 l0_1.length c0_1) := bc BK211 1; have hfz30_0 := blk_frozen BK211.out 0; have hfz30_1 := blk_frozen BK211.out 1; have hnb31 := NB212_213.out; have hnc31 := NB213_212.out; have hcz32_0 : w27.cell? ⟨gb212, 0, none⟩ = some (.bool a1_0) := bc BK212 0; have hcz32_1 : w27.cell? ⟨gb212, 1, none⟩ = some (.slice A1_1 l1_1.length c1_1) := bc BK212 1; have hfz32_0 := blk_frozen BK212.out 0; have hfz32_1 := blk_frozen BK212.out 1) | ((with_reducible refine gate_callee (f := 51) rfl ?_); refine goesL_ (some 19) rfl rfl Try.func51 (by kernel_rfl) rfl #[.agg #[.bool a0_0, .slice A0_1 l0_1.length c0_1], .agg #[.bool a1_0, .slice A1_1 l1_1.length c1_1]] rfl argt ?_; (with_reducible refine (turnstoneref01_larger.calls k a0_0 _ _ l0_1 a1_0 _ _ l1_1 t221 _ ?side1 ?side2 ?side3 ?side4 A21.out).mono ?_); (case side1 => exact (ct (Kd.C_below HR0_1.out HB.out))); (case side2 => exact HC0_1.out); (case side3 => exact (ct (Kd.C_below HR1_1.out HB.out))); (case side4 => exact HC1_1.out); rintro e w33 ⟨rfl, hb⟩; refine ⟨_, rfl, ?_⟩; replace BK211 := blkb BK211 hb; replace BK212 := blkb BK212 hb; replace BK213 := blkb BK213 hb; replace HB := belb HB hb; (try clear hb); (try clear hb2); (try clear hk); (try clear hi)))
  replace BK211 := Aside0.mk (blk_drew BK211.out)
  replace BK212 := Aside0.mk (blk_drew BK212.out)
  replace BK213 := Aside0.mk (blk_drew BK213.out)
  replace HB := Aside0.mk (below_drew1 HB.out)
  refine start_ (n := 8) (S := fun w' => w'.cell? ⟨gb211, 0, none⟩ = some (.bool a0_0) ∧ w'.cell? ⟨gb211, 1, none⟩ = some (.slice A0_1 l0_1.length c0_1) ∧ w'.cell? ⟨gb212, 0, none⟩ = some (.bool a1_0) ∧ w'.cell? ⟨gb212, 1, none⟩ = some (.slice A1_1 l1_1.length c1_1)) (ds := []) #[false, false, false, false, false, false, false, false] (by kernel_rfl) rfl rfl ⟨bc BK211 0, bc BK211 1, bc BK212 0, bc BK212 1⟩ (fun hHeld => ?_); refine with_tabW turnstoneref01_Add.tab4 turnstoneref01_Add.bits4 (fun HT_ HW_ => ?_)
  generalize w33.drew = w34 at BK211 BK212 BK213 HB hHeld ⊢
  refine pure_ (i := 0) (N := some 21) (v := ?_) (a' := ?_) #[true, false, false, false, false, false, false, false] rfl rfl (any_of HT_.out (by kernel_rfl)) (fun _ _ _ h => h) (Or.inl ⟨by rfl, ?_⟩) ?_ ?_
  rotate_left
  ·intro w'
   go_simp
   with_reducible rfl
  rotate_left
  ·simp only [Act.put, List.setIfInBounds_toArray, List.set_cons_zero, List.set_cons_succ, i64_w, i32_w]
   rfl
  refine take_ (i := 1) (N := some 22) (v := ?_) (a' := ?_) #[true, true, false, false, false, false, false, false] rfl rfl (take_ofW HT_.out HW_.out (by kernel_rfl)) (fun _ _ _ h => h) (Or.inl ⟨by rfl, ?_⟩) hHeld ?_ ?_
  rotate_left
  ·rintro w' ⟨s0, s1, s2, s3⟩
   go_simp
   with_reducible rfl
  rotate_left
  ·simp only [Act.put, List.setIfInBounds_toArray, List.set_cons_zero, List.set_cons_succ, i64_w, i32_w]
   rfl
  refine take_ (i := 2) (N := some 23) (v := ?_) (a' := ?_) #[true, true, true, false, false, false, false, false] rfl rfl (take_ofW HT_.out HW_.out (by kernel_rfl)) (fun _ _ _ h => h) (Or.inl ⟨by rfl, ?_⟩) hHeld ?_ ?_
  rotate_left
  ·rintro w' ⟨s0, s1, s2, s3⟩
   go_simp
   with_reducible rfl
  rotate_left
  ·simp only [Act.put, List.setIfInBounds_toArray, List.set_cons_zero, List.set_cons_succ, i64_w, i32_w]
   rfl
  refine take_ (i := 3) (N := some 24) (v := ?_) (a' := ?_) #[true, true, true, true, false, false, false, false] rfl rfl (take_ofW HT_.out HW_.out (by kernel_rfl)) (fun _ _ _ h => h) (Or.inl ⟨by rfl, ?_⟩) hHeld ?_ ?_
  rotate_left
  ·rintro w' ⟨s0, s1, s2, s3⟩
   go_simp
   with_reducible rfl
  rotate_left
  ·simp only [Act.put, List.setIfInBounds_toArray, List.set_cons_zero, List.set_cons_succ, i64_w, i32_w]
   rfl
  refine one_ (i := 4) (N := some 25) #[true, true, true, true, true, false, false, false] rfl rfl (one_of HT_.out (by kernel_rfl)) (by decide) (fun K hK => ?_)
  refine goes_ Try.func52 (by kernel_rfl) rfl #[.agg #[.bool a0_0, .slice A0_1 l0_1.length c0_1], .agg #[.bool a1_0, .slice A1_1 l1_1.length c1_1]] (by rfl) rfl rfl argt ?_
  with_reducible refine (turnstoneref01_minus.calls k a0_0 _ _ l0_1 a1_0 _ _ l1_1 t222 _ ?side1 ?side2 ?side3 ?side4 A23.out).mono ?_
  (case side1 => exact (ct (Kd.C_below HR0_1.out HB.out)))
  (case side2 => exact HC0_1.out)
  (case side3 => exact (ct (Kd.C_below HR1_1.out HB.out)))
  (case side4 => exact HC1_1.out)
  rintro e w35 ⟨v223, rfl, ho0, hb⟩
  refine ⟨_, rfl, ?_⟩
  have HO224 := Aside0.mk (Kd.R_lower (Kd.R_newM (M := fun k_ => (w.heap.size ≤ k_)) ho0 (below_size (belt HB)) (fun k_ h_ => h_)) (below_size (belt HB)))
  replace BK211 := blkb BK211 hb
  replace BK212 := blkb BK212 hb
  replace BK213 := blkb BK213 hb
  replace HB := belb HB hb
  (try clear hb)
  (try clear hb2)
  (try clear hk)
  (try clear hi)
  (try clear ho0)
  obtain ⟨Ao36, co36, eo36⟩ := Kd.R_slice HO224.out
  (first | subst eo36 | (injection eo36 with f1_ f2_ f3_; have f4_ := f1_.symm; have f5_ := f3_.symm; clear f1_ f2_ f3_; subst f4_; subst f5_))
  refine hK.out _ _ ⟨bc BK211 0, bc BK211 1, bc BK212 0, bc BK212 1⟩ (fun hHeld => ?_)
  clear hK K
  refine norm_ (a' := ?_) ?_ ?_
  rotate_left
  ·show Act.put _ (some 25) _ = _
   simp only [Act.put, List.setIfInBounds_toArray, List.set_cons_zero, List.set_cons_succ, i64_w, i32_w]
   rfl
  refine pure_ (i := 5) (N := some 26) (v := ?_) (a' := ?_) #[true, true, true, true, true, true, false, false] rfl rfl (any_of HT_.out (by kernel_rfl)) (fun _ _ _ h => h) (Or.inl ⟨by rfl, ?_⟩) ?_ ?_
  rotate_left
  ·intro w'
   go_simp
   with_reducible rfl
  rotate_left
  ·simp only [Act.put, List.setIfInBounds_toArray, List.set_cons_zero, List.set_cons_succ, i64_w, i32_w]
   rfl
  refine one_ (i := 6) (N := some 27) #[true, true, true, true, true, true, true, false] rfl rfl (one_of HT_.out (by kernel_rfl)) (by decide) (fun K hK => ?_)
  refine goes_ Try.func49 (by kernel_rfl) rfl #[.agg #[.bool a0_0, .slice Ao36 t222.length co36]] (by rfl) rfl rfl argt ?_
  with_reducible refine (turnstoneref01_trim.calls k a0_0 (fun k_ => some k_ = (.slice Ao36 t222.length co36 : Value).ownBlock) _ _ t222 t225 t226 _ ?side1 A24.out).mono ?_
  (case side1 => exact Kd.R_V (Kd.R_tight rfl (Kd.R_types (Kd.R_types (Kd.R_types (HO224.out) BK211.out (by decide)) BK212.out (by decide)) BK213.out (by decide))))
  rintro e w37 ⟨v227, rfl, ho0, hb⟩
  refine ⟨_, rfl, ?_⟩
  have HO228 := Aside0.mk (Kd.V_lower (Kd.V_mono (ok' := fun k_ => (w.heap.size ≤ k_) ∧ k_ ≠ gb211 ∧ k_ ≠ gb212 ∧ k_ ≠ gb213) ho0 (fun k_ hk_ => ⟨Or.elim hk_ (fun hs_ => ((Kd.R_types (Kd.R_types (Kd.R_types (HO224.out) BK211.out (by decide)) BK212.out (by decide)) BK213.out (by decide)).1 k_ hs_.symm).1.1.1.1) (fun hn_ => (Nat.le_trans (below_size (belt HB)) hn_)), Or.elim hk_ (fun hs_ => ((Kd.R_types (Kd.R_types (Kd.R_types (HO224.out) BK211.out (by decide)) BK212.out (by decide)) BK213.out (by decide)).1 k_ hs_.symm).1.1.2) (fun hn_ => (Kd.freshB (blkt BK211) k_ hn_)), Or.elim hk_ (fun hs_ => ((Kd.R_types (Kd.R_types (Kd.R_types (HO224.out) BK211.out (by decide)) BK212.out (by decide)) BK213.out (by decide)).1 k_ hs_.symm).1.2) (fun hn_ => (Kd.freshB (blkt BK212) k_ hn_)), Or.elim hk_ (fun hs_ => ((Kd.R_types (Kd.R_types (Kd.R_types (HO224.out) BK211.out (by decide)) BK212.out (by decide)) BK213.out (by decide)).1 k_ hs_.symm).2) (fun hn_ => (Kd.freshB (blkt BK213) k_ hn_))⟩)) (below_size (belt HB)))
  replace HO224 := rb HO224 hb
  replace BK211 := blkb BK211 hb
  replace BK212 := blkb BK212 hb
  replace BK213 := blkb BK213 hb
  replace HB := belb HB hb
  (try clear hb)
  (try clear hb2)
  (try clear hk)
  (try clear hi)
  (try clear ho0)
  obtain ⟨Ao39, co39, eo39⟩ := Kd.V_slice HO228.out
  (first | subst eo39 | (injection eo39 with f1_ f2_ f3_; have f4_ := f1_.symm; have f5_ := f3_.symm; clear f1_ f2_ f3_; subst f4_; subst f5_))
  refine hK.out _ _ ⟨bc BK211 0, bc BK211 1, bc BK212 0, bc BK212 1⟩ (fun hHeld => ?_)
  clear hK K
  refine norm_ (a' := ?_) ?_ ?_
  rotate_left
  ·show Act.put _ (some 27) _ = _
   simp only [Act.put, List.setIfInBounds_toArray, List.set_cons_zero, List.set_cons_succ, i64_w, i32_w]
   rfl
  refine one_ (i := 7) (N := none) #[true, true, true, true, true, true, true, true] rfl rfl (one_of HT_.out (by kernel_rfl)) (by decide) (fun K hK => ?_)
  have hs38 : w37.cell? ⟨gb213, 0, none⟩ = some (.bool false) := bc BK213 0
  have hfs38 := blk_frozen BK213.out 0
  have hns38_0 := NB211_213.out
  have hns38_1 := NB212_213.out
  have hms38_0 := NB213_211.out
  have hms38_1 := NB213_212.out
  have hs40 : w37.cell? ⟨gb213, 1, none⟩ = some (.slice none 0 0) := bc BK213 1
  have hfs40 := blk_frozen BK213.out 1
  have hns40_0 := NB211_213.out
  have hns40_1 := NB212_213.out
  have hms40_0 := NB213_211.out
  have hms40_1 := NB213_212.out
  refine skip_ (w1 := ?_) (by rfl) rfl ?_ ?_
  rotate_left
  ·go_simp
   rfl
  refine hK.out _ _ ⟨((cell_far (p := ⟨gb213, _, none⟩) NB211_213.out _).trans (((cell_far (p := ⟨gb213, _, none⟩) NB211_213.out _).trans (hHeld.1)))), ((cell_far (p := ⟨gb213, _, none⟩) NB211_213.out _).trans (((cell_far (p := ⟨gb213, _, none⟩) NB211_213.out _).trans (hHeld.2.1)))), ((cell_far (p := ⟨gb213, _, none⟩) NB212_213.out _).trans (((cell_far (p := ⟨gb213, _, none⟩) NB212_213.out _).trans (hHeld.2.2.1)))), ((cell_far (p := ⟨gb213, _, none⟩) NB212_213.out _).trans (((cell_far (p := ⟨gb213, _, none⟩) NB212_213.out _).trans (hHeld.2.2.2))))⟩ (fun hHeld => ?_)
  clear hK K
  refine done_ (done_of HT_.out (by kernel_rfl)) ?_
  try go_wp2
  refine bodyPost_ret (results_cell_row rfl _ _ gb213 49 #[.bool t225, .slice Ao39 t226.length co39] (0, 0) _ rfl (by (with_reducible repeat (first | refine blk_drewN ?_ _ | refine blk_drew ?_ | refine blk_alloc ?_ _)); refine blk_put (cs := #[.bool t225, .slice none 0 0]) ?_ 1 _ rfl; (with_reducible repeat (first | refine blk_drewN ?_ _ | refine blk_drew ?_ | refine blk_alloc ?_ _)); refine blk_put (cs := #[.bool false, .slice none 0 0]) ?_ 0 _ rfl; exact blkt BK213) Try.underlying49 rfl (by kernel_rfl)) rfl ?_
  exact ⟨_, by first | rfl | (simp [errW_none, errW_some] <;> rfl) | (simp [*, errW_none, errW_some] <;> rfl), by (with_reducible repeat (first | apply Kd.V_alloc | apply Kd.V_drewN | apply Kd.V_drew)); exact Kd.V_mono (Kd.V_far (p := ⟨gb213, 1, none⟩) (Kd.V_far (p := ⟨gb213, 0, none⟩) (Kd.V_mono HO228.out (fun k_ hk => (⟨hk, hk.2.2.2⟩ : _ ∧ k_ ≠ gb213))) (fun _ hk => hk.2) (.bool t225)) (fun _ hk => hk.2) (.slice Ao39 t226.length co39)) (fun _ hk => hk.1.1), belt HB⟩
 rw [if_neg c22] at H
 have c22b0 : decide (0 ≤ t221) = false := decide_eq_false c22
 clear c22
 replace H := Option.bind_eq_some_iff.mp H
 obtain ⟨t229, A410, H⟩ := H
 replace H : ((turnstoneref01_trim.f k a1_0 t229).bind fun bt232 => (some (bt232.1, bt232.2))) = some (r1, r2) := H
 have A41 := Aside0.mk A410
 clear A410
 replace H := Option.bind_eq_some_iff.mp H
 obtain ⟨⟨t232, t233⟩, A420, H⟩ := H
 replace H : (some (t232, t233)) = some (r1, r2) := H
 have A42 := Aside0.mk A420
 clear A420
 simp only [Option.some.injEq, Prod.mk.injEq] at H
 obtain ⟨rfl, rfl⟩ := H
 go_enter Try.func41, Try.ntmps41
 try go_wp2_with (first | ((with_reducible refine gate_dst (N := 2) rfl ?_); refine box_event ?hg (N := 2) ?hd (cs := #[.bool a0_0, .slice A0_1 l0_1.length c0_1]) (t := 49) ?hr ?_; (case hd => rfl); (case hg => rfl); (case hr => first | (go_simp; done) | (go_simp; rfl)); intro gb211 hg w43 hbox hb; have BK211 := Aside0.mk (hbox); have GW211 := bels HB hg; have GE211 := bels HB hg; replace HB := belb HB hb; clear hb hbox hg) | ((with_reducible refine gate_dst (N := 3) rfl ?_); refine box_event ?hg (N := 3) ?hd (cs := #[.bool a1_0, .slice A1_1 l1_1.length c1_1]) (t := 49) ?hr ?_; (case hd => rfl); (case hg => rfl); (case hr => first | (go_simp; done) | (go_simp; rfl)); intro gb212 hg w44 hbox hb; have BK212 := Aside0.mk (hbox); have GW212 := bels HB hg; have GE212 := bels HB hg; have NB211_212 := blkl BK211 hg; have NB212_211 := blkg BK211 hg; replace BK211 := blkb BK211 hb; replace HB := belb HB hb; clear hb hbox hg) | ((with_reducible refine gate_dst (N := 4) rfl ?_); refine box_event ?hg (N := 4) ?hd (cs := #[.bool false, .slice none 0 0]) (t := 49) ?hr ?_; (case hd => rfl); (case hg => rfl); (case hr => first | (go_simp; done) | (go_simp; rfl)); intro gb213 hg w45 hbox hb; have BK213 := Aside0.mk (hbox); have GW213 := bels HB hg; have GE213 := bels HB hg; have NB211_213 := blkl BK211 hg; have NB213_211 := blkg BK211 hg; have NB212_213 := blkl BK212 hg; have NB213_212 := blkg BK212 hg; replace BK211 := blkb BK211 hb; replace BK212 := blkb BK212 hb; replace HB := belb HB hb; clear hb hbox hg; have hnb46 := NB211_212.out; have hnc46 := NB212_211.out; have hnb47 := NB211_213.out; have hnc47 := NB213_211.out; have hcz48_0 : w45.cell? ⟨gb211, 0, none⟩ = some (.bool a0_0) := bc BK211 0; have hcz48_1 : w45.cell? ⟨gb211, 1, none⟩ = some (.slice A0_1 l0_1.length c0_1) := bc BK211 1; have hfz48_0 := blk_frozen BK211.out 0; have hfz48_1 := blk_frozen BK211.out 1; have hnb49 := NB212_213.out; have hnc49 := NB213_212.out; have hcz50_0 : w45.cell? ⟨gb212, 0, none⟩ = some (.bool a1_0) := bc BK212 0; have hcz50_1 : w45.cell? ⟨gb212, 1, none⟩ = some (.slice A1_1 l1_1.length c1_1) := bc BK212 1; have hfz50_0 := blk_frozen BK212.out 0; have hfz50_1 := blk_frozen BK212.out 1) | ((with_reducible refine gate_callee (f := 51) rfl ?_); refine goesL_ (some 19) rfl rfl Try.func51 (by kernel_rfl) rfl #[.agg #[.bool a0_0, .slice A0_1 l0_1.length c0_1], .agg #[.bool a1_0, .slice A1_1 l1_1.length c1_1]] rfl argt ?_; (with_reducible refine (turnstoneref01_larger.calls k a0_0 _ _ l0_1 a1_0 _ _ l1_1 t221 _ ?side1 ?side2 ?side3 ?side4 A21.out).mono ?_); (case side1 => exact (ct (Kd.C_below HR0_1.out HB.out))); (case side2 => exact HC0_1.out); (case side3 => exact (ct (Kd.C_below HR1_1.out HB.out))); (case side4 => exact HC1_1.out); rintro e w51 ⟨rfl, hb⟩; refine ⟨_, rfl, ?_⟩; replace BK211 := blkb BK211 hb; replace BK212 := blkb BK212 hb; replace BK213 := blkb BK213 hb; replace HB := belb HB hb; (try clear hb); (try clear hb2); (try clear hk); (try clear hi)))
 replace BK211 := Aside0.mk (blk_drew BK211.out)
 replace BK212 := Aside0.mk (blk_drew BK212.out)
 replace BK213 := Aside0.mk (blk_drew BK213.out)
 replace HB := Aside0.mk (below_drew1 HB.out)
 refine start_ (n := 8) (S := fun w' => w'.cell? ⟨gb212, 0, none⟩ = some (.bool a1_0) ∧ w'.cell? ⟨gb212, 1, none⟩ = some (.slice A1_1 l1_1.length c1_1) ∧ w'.cell? ⟨gb211, 0, none⟩ = some (.bool a0_0) ∧ w'.cell? ⟨gb211, 1, none⟩ = some (.slice A0_1 l0_1.length c0_1)) (ds := []) #[false, false, false, false, false, false, false, false] (by kernel_rfl) rfl rfl ⟨bc BK212 0, bc BK212 1, bc BK211 0, bc BK211 1⟩ (fun hHeld => ?_); refine with_tabW turnstoneref01_Add.tab5 turnstoneref01_Add.bits5 (fun HT_ HW_ => ?_)
 generalize w51.drew = w52 at BK211 BK212 BK213 HB hHeld ⊢
 refine pure_ (i := 0) (N := some 28) (v := ?_) (a' := ?_) #[true, false, false, false, false, false, false, false] rfl rfl (any_of HT_.out (by kernel_rfl)) (fun _ _ _ h => h) (Or.inl ⟨by rfl, ?_⟩) ?_ ?_
 rotate_left
 ·intro w'
  go_simp
  with_reducible rfl
 rotate_left
 ·simp only [Act.put, List.setIfInBounds_toArray, List.set_cons_zero, List.set_cons_succ, i64_w, i32_w]
  rfl
 refine take_ (i := 1) (N := some 29) (v := ?_) (a' := ?_) #[true, true, false, false, false, false, false, false] rfl rfl (take_ofW HT_.out HW_.out (by kernel_rfl)) (fun _ _ _ h => h) (Or.inl ⟨by rfl, ?_⟩) hHeld ?_ ?_
 rotate_left
 ·rintro w' ⟨s0, s1, s2, s3⟩
  go_simp
  with_reducible rfl
 rotate_left
 ·simp only [Act.put, List.setIfInBounds_toArray, List.set_cons_zero, List.set_cons_succ, i64_w, i32_w]
  rfl
 refine take_ (i := 2) (N := some 30) (v := ?_) (a' := ?_) #[true, true, true, false, false, false, false, false] rfl rfl (take_ofW HT_.out HW_.out (by kernel_rfl)) (fun _ _ _ h => h) (Or.inl ⟨by rfl, ?_⟩) hHeld ?_ ?_
 rotate_left
 ·rintro w' ⟨s0, s1, s2, s3⟩
  go_simp
  with_reducible rfl
 rotate_left
 ·simp only [Act.put, List.setIfInBounds_toArray, List.set_cons_zero, List.set_cons_succ, i64_w, i32_w]
  rfl
 refine take_ (i := 3) (N := some 31) (v := ?_) (a' := ?_) #[true, true, true, true, false, false, false, false] rfl rfl (take_ofW HT_.out HW_.out (by kernel_rfl)) (fun _ _ _ h => h) (Or.inl ⟨by rfl, ?_⟩) hHeld ?_ ?_
 rotate_left
 ·rintro w' ⟨s0, s1, s2, s3⟩
  go_simp
  with_reducible rfl
 rotate_left
 ·simp only [Act.put, List.setIfInBounds_toArray, List.set_cons_zero, List.set_cons_succ, i64_w, i32_w]
  rfl
 refine one_ (i := 4) (N := some 32) #[true, true, true, true, true, false, false, false] rfl rfl (one_of HT_.out (by kernel_rfl)) (by decide) (fun K hK => ?_)
 refine goes_ Try.func52 (by kernel_rfl) rfl #[.agg #[.bool a1_0, .slice A1_1 l1_1.length c1_1], .agg #[.bool a0_0, .slice A0_1 l0_1.length c0_1]] (by rfl) rfl rfl argt ?_
 with_reducible refine (turnstoneref01_minus.calls k a1_0 _ _ l1_1 a0_0 _ _ l0_1 t229 _ ?side1 ?side2 ?side3 ?side4 A41.out).mono ?_
 (case side1 => exact (ct (Kd.C_below HR1_1.out HB.out)))
 (case side2 => exact HC1_1.out)
 (case side3 => exact (ct (Kd.C_below HR0_1.out HB.out)))
 (case side4 => exact HC0_1.out)
 rintro e w53 ⟨v230, rfl, ho0, hb⟩
 refine ⟨_, rfl, ?_⟩
 have HO231 := Aside0.mk (Kd.R_lower (Kd.R_newM (M := fun k_ => (w.heap.size ≤ k_)) ho0 (below_size (belt HB)) (fun k_ h_ => h_)) (below_size (belt HB)))
 replace BK211 := blkb BK211 hb
 replace BK212 := blkb BK212 hb
 replace BK213 := blkb BK213 hb
 replace HB := belb HB hb
 (try clear hb)
 (try clear hb2)
 (try clear hk)
 (try clear hi)
 (try clear ho0)
 obtain ⟨Ao54, co54, eo54⟩ := Kd.R_slice HO231.out
 (first | subst eo54 | (injection eo54 with f1_ f2_ f3_; have f4_ := f1_.symm; have f5_ := f3_.symm; clear f1_ f2_ f3_; subst f4_; subst f5_))
 refine hK.out _ _ ⟨bc BK212 0, bc BK212 1, bc BK211 0, bc BK211 1⟩ (fun hHeld => ?_)
 clear hK K
 refine norm_ (a' := ?_) ?_ ?_
 rotate_left
 ·show Act.put _ (some 32) _ = _
  simp only [Act.put, List.setIfInBounds_toArray, List.set_cons_zero, List.set_cons_succ, i64_w, i32_w]
  rfl
 refine pure_ (i := 5) (N := some 33) (v := ?_) (a' := ?_) #[true, true, true, true, true, true, false, false] rfl rfl (any_of HT_.out (by kernel_rfl)) (fun _ _ _ h => h) (Or.inl ⟨by rfl, ?_⟩) ?_ ?_
 rotate_left
 ·intro w'
  go_simp
  with_reducible rfl
 rotate_left
 ·simp only [Act.put, List.setIfInBounds_toArray, List.set_cons_zero, List.set_cons_succ, i64_w, i32_w]
  rfl
 refine one_ (i := 6) (N := some 34) #[true, true, true, true, true, true, true, false] rfl rfl (one_of HT_.out (by kernel_rfl)) (by decide) (fun K hK => ?_)
 refine goes_ Try.func49 (by kernel_rfl) rfl #[.agg #[.bool a1_0, .slice Ao54 t229.length co54]] (by rfl) rfl rfl argt ?_
 with_reducible refine (turnstoneref01_trim.calls k a1_0 (fun k_ => some k_ = (.slice Ao54 t229.length co54 : Value).ownBlock) _ _ t229 t232 t233 _ ?side1 A42.out).mono ?_
 (case side1 => exact Kd.R_V (Kd.R_tight rfl (Kd.R_types (Kd.R_types (Kd.R_types (HO231.out) BK211.out (by decide)) BK212.out (by decide)) BK213.out (by decide))))
 rintro e w55 ⟨v234, rfl, ho0, hb⟩
 refine ⟨_, rfl, ?_⟩
 have HO235 := Aside0.mk (Kd.V_lower (Kd.V_mono (ok' := fun k_ => (w.heap.size ≤ k_) ∧ k_ ≠ gb211 ∧ k_ ≠ gb212 ∧ k_ ≠ gb213) ho0 (fun k_ hk_ => ⟨Or.elim hk_ (fun hs_ => ((Kd.R_types (Kd.R_types (Kd.R_types (HO231.out) BK211.out (by decide)) BK212.out (by decide)) BK213.out (by decide)).1 k_ hs_.symm).1.1.1.1) (fun hn_ => (Nat.le_trans (below_size (belt HB)) hn_)), Or.elim hk_ (fun hs_ => ((Kd.R_types (Kd.R_types (Kd.R_types (HO231.out) BK211.out (by decide)) BK212.out (by decide)) BK213.out (by decide)).1 k_ hs_.symm).1.1.2) (fun hn_ => (Kd.freshB (blkt BK211) k_ hn_)), Or.elim hk_ (fun hs_ => ((Kd.R_types (Kd.R_types (Kd.R_types (HO231.out) BK211.out (by decide)) BK212.out (by decide)) BK213.out (by decide)).1 k_ hs_.symm).1.2) (fun hn_ => (Kd.freshB (blkt BK212) k_ hn_)), Or.elim hk_ (fun hs_ => ((Kd.R_types (Kd.R_types (Kd.R_types (HO231.out) BK211.out (by decide)) BK212.out (by decide)) BK213.out (by decide)).1 k_ hs_.symm).2) (fun hn_ => (Kd.freshB (blkt BK213) k_ hn_))⟩)) (below_size (belt HB)))
 replace HO231 := rb HO231 hb
 replace BK211 := blkb BK211 hb
 replace BK212 := blkb BK212 hb
 replace BK213 := blkb BK213 hb
 replace HB := belb HB hb
 (try clear hb)
 (try clear hb2)
 (try clear hk)
 (try clear hi)
 (try clear ho0)
 obtain ⟨Ao57, co57, eo57⟩ := Kd.V_slice HO235.out
 (first | subst eo57 | (injection eo57 with f1_ f2_ f3_; have f4_ := f1_.symm; have f5_ := f3_.symm; clear f1_ f2_ f3_; subst f4_; subst f5_))
 refine hK.out _ _ ⟨bc BK212 0, bc BK212 1, bc BK211 0, bc BK211 1⟩ (fun hHeld => ?_)
 clear hK K
 refine norm_ (a' := ?_) ?_ ?_
 rotate_left
 ·show Act.put _ (some 34) _ = _
  simp only [Act.put, List.setIfInBounds_toArray, List.set_cons_zero, List.set_cons_succ, i64_w, i32_w]
  rfl
 refine one_ (i := 7) (N := none) #[true, true, true, true, true, true, true, true] rfl rfl (one_of HT_.out (by kernel_rfl)) (by decide) (fun K hK => ?_)
 have hs56 : w55.cell? ⟨gb213, 0, none⟩ = some (.bool false) := bc BK213 0
 have hfs56 := blk_frozen BK213.out 0
 have hns56_0 := NB211_213.out
 have hns56_1 := NB212_213.out
 have hms56_0 := NB213_211.out
 have hms56_1 := NB213_212.out
 have hs58 : w55.cell? ⟨gb213, 1, none⟩ = some (.slice none 0 0) := bc BK213 1
 have hfs58 := blk_frozen BK213.out 1
 have hns58_0 := NB211_213.out
 have hns58_1 := NB212_213.out
 have hms58_0 := NB213_211.out
 have hms58_1 := NB213_212.out
 refine skip_ (w1 := ?_) (by rfl) rfl ?_ ?_
 rotate_left
 ·go_simp
  rfl
 refine hK.out _ _ ⟨((cell_far (p := ⟨gb213, _, none⟩) NB212_213.out _).trans (((cell_far (p := ⟨gb213, _, none⟩) NB212_213.out _).trans (hHeld.1)))), ((cell_far (p := ⟨gb213, _, none⟩) NB212_213.out _).trans (((cell_far (p := ⟨gb213, _, none⟩) NB212_213.out _).trans (hHeld.2.1)))), ((cell_far (p := ⟨gb213, _, none⟩) NB211_213.out _).trans (((cell_far (p := ⟨gb213, _, none⟩) NB211_213.out _).trans (hHeld.2.2.1)))), ((cell_far (p := ⟨gb213, _, none⟩) NB211_213.out _).trans (((cell_far (p := ⟨gb213, _, none⟩) NB211_213.out _).trans (hHeld.2.2.2))))⟩ (fun hHeld => ?_)
 clear hK K
 refine done_ (done_of HT_.out (by kernel_rfl)) ?_
 try go_wp2
 refine bodyPost_ret (results_cell_row rfl _ _ gb213 49 #[.bool t232, .slice Ao57 t233.length co57] (0, 0) _ rfl (by (with_reducible repeat (first | refine blk_drewN ?_ _ | refine blk_drew ?_ | refine blk_alloc ?_ _)); refine blk_put (cs := #[.bool t232, .slice none 0 0]) ?_ 1 _ rfl; (with_reducible repeat (first | refine blk_drewN ?_ _ | refine blk_drew ?_ | refine blk_alloc ?_ _)); refine blk_put (cs := #[.bool false, .slice none 0 0]) ?_ 0 _ rfl; exact blkt BK213) Try.underlying49 rfl (by kernel_rfl)) rfl ?_
 exact ⟨_, by first | rfl | (simp [errW_none, errW_some] <;> rfl) | (simp [*, errW_none, errW_some] <;> rfl), by (with_reducible repeat (first | apply Kd.V_alloc | apply Kd.V_drewN | apply Kd.V_drew)); exact Kd.V_mono (Kd.V_far (p := ⟨gb213, 1, none⟩) (Kd.V_far (p := ⟨gb213, 0, none⟩) (Kd.V_mono HO235.out (fun k_ hk => (⟨hk, hk.2.2.2⟩ : _ ∧ k_ ≠ gb213))) (fun _ hk => hk.2) (.bool t232)) (fun _ hk => hk.2) (.slice Ao57 t233.length co57)) (fun _ hk => hk.1.1), belt HB⟩


/-! ### turnstoneref01_Sub: function 34 -/
def turnstoneref01_Sub.f (k : Nat) (a0_0 : Bool) (l0_1 : List Int) (a1_0 : Bool) (l1_1 : List Int) : Option (Bool × List Int) := (turnstoneref01_Neg.f k a1_0 l1_1).bind fun bt239 => ((turnstoneref01_Add.f k a0_0 l0_1 bt239.1 bt239.2).bind fun bt243 => (some (bt243.1, bt243.2)))
theorem turnstoneref01_Sub.mono : ∀ a0 a1 a2 a3 k, LeO (turnstoneref01_Sub.f k a0 a1 a2 a3) (turnstoneref01_Sub.f (k + 1) a0 a1 a2 a3) := by
 intro a0 a1 a2 a3 k
 unfold turnstoneref01_Sub.f
 repeat' first
   | (with_reducible exact turnstoneref01_Add.mono _ _ _ _ _)
   | (with_reducible exact turnstoneref01_Neg.mono _ _ _)
   | (with_reducible exact LeO.refl _)
   | (with_reducible exact LeO.none _)
   | (with_reducible refine LeO.ite ?_ ?_)
   | (with_reducible refine LeO.bind ?_ (fun _ => ?_))
   | exact turnstoneref01_Add.mono _ _ _ _ _
   | exact turnstoneref01_Neg.mono _ _ _
   | exact LeO.none _
   | refine LeO.ite ?_ ?_
   | refine LeO.bind ?_ (fun _ => ?_)
set_option maxHeartbeats 8000000 in
set_option maxRecDepth 100000 in
theorem turnstoneref01_Sub.calls (k : Nat) (a0_0 : Bool) (A0_1 : Option Addr) (c0_1 : Nat) (l0_1 : List Int) (a1_0 : Bool) (P1_1_ : Nat → Prop) (A1_1 : Option Addr) (c1_1 : Nat) (l1_1 : List Int) (r1 : Bool) (r2 : List Int) (w : World) (hr0_1 : Kd.C (Kd.int .i64) w A0_1 l0_1.length l0_1) (hc0_1 : l0_1.length ≤ c0_1) (hs1_1 : Kd.V (Kd.int .i64) 3 w w.heap.size (fun k_ => P1_1_ k_) (.slice A1_1 l1_1.length c1_1) l1_1) (h : turnstoneref01_Sub.f k a0_0 l0_1 a1_0 l1_1 = some (r1, r2)) :
  Calls Try.prog 34 #[.agg #[.bool a0_0, .slice A0_1 l0_1.length c0_1], .agg #[.bool a1_0, .slice A1_1 l1_1.length c1_1]] w fun e w' => ∃ v1_ : Value, e = .returned (.agg #[.bool r1, v1_]) ∧ Kd.V (Kd.int .i64) 3 w' w.heap.size (fun k_ => (P1_1_ k_ ∨ w.heap.size ≤ k_)) v1_ r2 ∧ Below w.heap.size w w' := by
 have hu49 := Try.underlying49
 have HR0_1 := Aside0.mk hr0_1
 have HC0_1 := Aside0.mk hc0_1
 clear hr0_1 hc0_1
 have HO1_1 := Aside0.mk (show Kd.V (Kd.int .i64) 3 w w.heap.size (fun k_ => (P1_1_ k_ ∨ w.heap.size ≤ k_)) (.slice A1_1 l1_1.length c1_1) l1_1 from Kd.V_mono hs1_1 (fun k_ hk => .inl hk))
 have HB := Aside0.mk (Below.refl w.heap.size w)
 have H : ((turnstoneref01_Neg.f k a1_0 l1_1).bind fun bt239 => ((turnstoneref01_Add.f k a0_0 l0_1 bt239.1 bt239.2).bind fun bt243 => (some (bt243.1, bt243.2)))) = some (r1, r2) := h
 clear h
 replace H := Option.bind_eq_some_iff.mp H
 obtain ⟨⟨t239, t240⟩, A30, H⟩ := H
 replace H : ((turnstoneref01_Add.f k a0_0 l0_1 t239 t240).bind fun bt243 => (some (bt243.1, bt243.2))) = some (r1, r2) := H
 have A3 := Aside0.mk A30
 clear A30
 replace H := Option.bind_eq_some_iff.mp H
 obtain ⟨⟨t243, t244⟩, A40, H⟩ := H
 replace H : (some (t243, t244)) = some (r1, r2) := H
 have A4 := Aside0.mk A40
 clear A40
 simp only [Option.some.injEq, Prod.mk.injEq] at H
 obtain ⟨rfl, rfl⟩ := H
 go_enter Try.func34, Try.ntmps34
 try go_wp2_with (first | ((with_reducible refine gate_dst (N := 2) rfl ?_); refine box_event ?hg (N := 2) ?hd (cs := #[.bool a0_0, .slice A0_1 l0_1.length c0_1]) (t := 49) ?hr ?_; (case hd => rfl); (case hg => rfl); (case hr => first | (go_simp; done) | (go_simp; rfl)); intro gb236 hg w5 hbox hb; replace HO1_1 := Aside0.mk (Kd.V_below (Kd.V_elderB (vt HO1_1) gb236 (Nat.le_of_eq hg.symm)) hb); have BK236 := Aside0.mk (hbox); have GW236 := bels HB hg; have GE236 := bels HB hg; replace HB := belb HB hb; clear hb hbox hg) | ((with_reducible refine gate_dst (N := 3) rfl ?_); refine box_event ?hg (N := 3) ?hd (cs := #[.bool a1_0, .slice A1_1 l1_1.length c1_1]) (t := 49) ?hr ?_; (case hd => rfl); (case hg => rfl); (case hr => first | (go_simp; done) | (go_simp; rfl)); intro gb237 hg w6 hbox hb; replace HO1_1 := Aside0.mk (Kd.V_below (Kd.V_elderB (vt HO1_1) gb237 (Nat.le_of_eq hg.symm)) hb); have BK237 := Aside0.mk (hbox); have GW237 := bels HB hg; have GE237 := bels HB hg; have NB236_237 := blkl BK236 hg; have NB237_236 := blkg BK236 hg; replace BK236 := blkb BK236 hb; replace HB := belb HB hb; clear hb hbox hg) | ((with_reducible refine gate_dst (N := 4) rfl ?_); refine box_event ?hg (N := 4) ?hd (cs := #[.bool false, .slice none 0 0]) (t := 49) ?hr ?_; (case hd => rfl); (case hg => rfl); (case hr => first | (go_simp; done) | (go_simp; rfl)); intro gb238 hg w7 hbox hb; replace HO1_1 := Aside0.mk (Kd.V_below (Kd.V_elderB (vt HO1_1) gb238 (Nat.le_of_eq hg.symm)) hb); have BK238 := Aside0.mk (hbox); have GW238 := bels HB hg; have GE238 := bels HB hg; have NB236_238 := blkl BK236 hg; have NB238_236 := blkg BK236 hg; have NB237_238 := blkl BK237 hg; have NB238_237 := blkg BK237 hg; replace BK236 := blkb BK236 hb; replace BK237 := blkb BK237 hb; replace HB := belb HB hb; clear hb hbox hg))
 replace HO1_1 := Aside0.mk (Kd.V_drew HO1_1.out)
 replace BK236 := Aside0.mk (blk_drew BK236.out)
 replace BK237 := Aside0.mk (blk_drew BK237.out)
 replace BK238 := Aside0.mk (blk_drew BK238.out)
 replace HB := Aside0.mk (below_drew1 HB.out)
 refine start_ (n := 5) (S := fun w' => w'.cell? ⟨gb236, 0, none⟩ = some (.bool a0_0) ∧ w'.cell? ⟨gb236, 1, none⟩ = some (.slice A0_1 l0_1.length c0_1) ∧ w'.cell? ⟨gb237, 0, none⟩ = some (.bool a1_0) ∧ w'.cell? ⟨gb237, 1, none⟩ = some (.slice A1_1 l1_1.length c1_1)) (ds := []) #[false, false, false, false, false] (by kernel_rfl) rfl rfl ⟨bc BK236 0, bc BK236 1, bc BK237 0, bc BK237 1⟩ (fun hHeld => ?_)
 generalize w7.drew = w8 at HO1_1 BK236 BK237 BK238 HB hHeld ⊢
 refine take_ (i := 0) (N := some 5) (v := ?_) (a' := ?_) #[true, false, false, false, false] rfl rfl (by kernel_rfl) (fun _ _ _ h => h) (Or.inl ⟨by rfl, ?_⟩) hHeld ?_ ?_
 rotate_left
 ·rintro w' ⟨s0, s1, s2, s3⟩
  go_simp
  with_reducible rfl
 rotate_left
 ·simp only [Act.put, List.setIfInBounds_toArray, List.set_cons_zero, List.set_cons_succ, i64_w, i32_w]
  rfl
 refine take_ (i := 1) (N := some 6) (v := ?_) (a' := ?_) #[true, true, false, false, false] rfl rfl (by kernel_rfl) (fun _ _ _ h => h) (Or.inl ⟨by rfl, ?_⟩) hHeld ?_ ?_
 rotate_left
 ·rintro w' ⟨s0, s1, s2, s3⟩
  go_simp
  with_reducible rfl
 rotate_left
 ·simp only [Act.put, List.setIfInBounds_toArray, List.set_cons_zero, List.set_cons_succ, i64_w, i32_w]
  rfl
 refine one_ (i := 2) (N := some 7) #[true, true, true, false, false] rfl rfl (by kernel_rfl) (by decide) (fun K hK => ?_)
 refine goes_ Try.func40 (by kernel_rfl) rfl #[.agg #[.bool a1_0, .slice A1_1 l1_1.length c1_1]] (by rfl) rfl rfl argt ?_
 with_reducible refine (turnstoneref01_Neg.calls k a1_0 (fun k_ => ((((P1_1_ k_ ∨ w.heap.size ≤ k_) ∧ k_ ≠ gb236) ∧ k_ ≠ gb237) ∧ k_ ≠ gb238)) _ _ l1_1 t239 t240 _ ?side1 A3.out).mono ?_
 (case side1 => exact HO1_1.out)
 rintro e w9 ⟨v241, rfl, ho0, hb⟩
 refine ⟨_, rfl, ?_⟩
 replace HO1_1 := vb HO1_1 hb
 have HO242 := Aside0.mk (Kd.V_lower (Kd.V_mono (ok' := fun k_ => (P1_1_ k_ ∨ w.heap.size ≤ k_) ∧ k_ ≠ gb236 ∧ k_ ≠ gb237 ∧ k_ ≠ gb238) ho0 (fun k_ hk_ => ⟨Or.elim hk_ (fun hs_ => hs_.1.1.1) (fun hn_ => (.inr (Nat.le_trans (below_size (belt HB)) hn_))), Or.elim hk_ (fun hs_ => hs_.1.1.2) (fun hn_ => (Kd.freshB (blkt BK236) k_ hn_)), Or.elim hk_ (fun hs_ => hs_.1.2) (fun hn_ => (Kd.freshB (blkt BK237) k_ hn_)), Or.elim hk_ (fun hs_ => hs_.2) (fun hn_ => (Kd.freshB (blkt BK238) k_ hn_))⟩)) (below_size (belt HB)))
 replace BK236 := blkb BK236 hb
 replace BK237 := blkb BK237 hb
 replace BK238 := blkb BK238 hb
 replace HB := belb HB hb
 (try clear hb)
 (try clear hb2)
 (try clear hk)
 (try clear hi)
 (try clear ho0)
 obtain ⟨Ao10, co10, eo10⟩ := Kd.V_slice HO242.out
 (first | subst eo10 | (injection eo10 with f1_ f2_ f3_; have f4_ := f1_.symm; have f5_ := f3_.symm; clear f1_ f2_ f3_; subst f4_; subst f5_))
 refine hK.out _ _ ⟨bc BK236 0, bc BK236 1, bc BK237 0, bc BK237 1⟩ (fun hHeld => ?_)
 clear hK K
 refine norm_ (a' := ?_) ?_ ?_
 rotate_left
 ·show Act.put _ (some 7) _ = _
  simp only [Act.put, List.setIfInBounds_toArray, List.set_cons_zero, List.set_cons_succ, i64_w, i32_w]
  rfl
 refine one_ (i := 3) (N := some 8) #[true, true, true, true, false] rfl rfl (by kernel_rfl) (by decide) (fun K hK => ?_)
 refine goes_ Try.func41 (by kernel_rfl) rfl #[.agg #[.bool a0_0, .slice A0_1 l0_1.length c0_1], .agg #[.bool t239, .slice Ao10 t240.length co10]] (by rfl) rfl rfl argt ?_
 with_reducible refine (turnstoneref01_Add.calls k a0_0 _ _ l0_1 t239 _ _ t240 t243 t244 _ ?side1 ?side2 ?side3 ?side4 A4.out).mono ?_
 (case side1 => exact (ct (Kd.C_below HR0_1.out HB.out)))
 (case side2 => exact HC0_1.out)
 (case side3 => repeat (first | exact (Kd.V_reads' HO242.out).2.2 | (with_reducible refine Kd.C_alloc ?_ _) | (with_reducible refine Kd.C_drewN ?_ _) | (with_reducible refine Kd.C_drew ?_)))
 (case side4 => exact (Kd.V_reads' HO242.out).2.1)
 rintro e w11 ⟨v245, rfl, ho0, hb⟩
 refine ⟨_, rfl, ?_⟩
 replace HO1_1 := vb HO1_1 hb
 replace HO242 := vb HO242 hb
 have HO246 := Aside0.mk (Kd.V_lower (Kd.V_mono (ok' := fun k_ => (P1_1_ k_ ∨ w.heap.size ≤ k_) ∧ k_ ≠ gb236 ∧ k_ ≠ gb237 ∧ k_ ≠ gb238) ho0 (fun k_ hk_ => ⟨(.inr (Nat.le_trans (below_size (belt HB)) hk_)), (Kd.freshB (blkt BK236) k_ hk_), (Kd.freshB (blkt BK237) k_ hk_), (Kd.freshB (blkt BK238) k_ hk_)⟩)) (below_size (belt HB)))
 replace BK236 := blkb BK236 hb
 replace BK237 := blkb BK237 hb
 replace BK238 := blkb BK238 hb
 replace HB := belb HB hb
 (try clear hb)
 (try clear hb2)
 (try clear hk)
 (try clear hi)
 (try clear ho0)
 obtain ⟨Ao13, co13, eo13⟩ := Kd.V_slice HO246.out
 (first | subst eo13 | (injection eo13 with f1_ f2_ f3_; have f4_ := f1_.symm; have f5_ := f3_.symm; clear f1_ f2_ f3_; subst f4_; subst f5_))
 refine hK.out _ _ ⟨bc BK236 0, bc BK236 1, bc BK237 0, bc BK237 1⟩ (fun hHeld => ?_)
 clear hK K
 refine norm_ (a' := ?_) ?_ ?_
 rotate_left
 ·show Act.put _ (some 8) _ = _
  simp only [Act.put, List.setIfInBounds_toArray, List.set_cons_zero, List.set_cons_succ, i64_w, i32_w]
  rfl
 refine one_ (i := 4) (N := none) #[true, true, true, true, true] rfl rfl (by kernel_rfl) (by decide) (fun K hK => ?_)
 have hs12 : w11.cell? ⟨gb238, 0, none⟩ = some (.bool false) := bc BK238 0
 have hfs12 := blk_frozen BK238.out 0
 have hns12_0 := NB236_238.out
 have hns12_1 := NB237_238.out
 have hms12_0 := NB238_236.out
 have hms12_1 := NB238_237.out
 have hs14 : w11.cell? ⟨gb238, 1, none⟩ = some (.slice none 0 0) := bc BK238 1
 have hfs14 := blk_frozen BK238.out 1
 have hns14_0 := NB236_238.out
 have hns14_1 := NB237_238.out
 have hms14_0 := NB238_236.out
 have hms14_1 := NB238_237.out
 refine skip_ (w1 := ?_) (by rfl) rfl ?_ ?_
 rotate_left
 ·go_simp
  rfl
 refine hK.out _ _ ⟨((cell_far (p := ⟨gb238, _, none⟩) NB236_238.out _).trans (((cell_far (p := ⟨gb238, _, none⟩) NB236_238.out _).trans (hHeld.1)))), ((cell_far (p := ⟨gb238, _, none⟩) NB236_238.out _).trans (((cell_far (p := ⟨gb238, _, none⟩) NB236_238.out _).trans (hHeld.2.1)))), ((cell_far (p := ⟨gb238, _, none⟩) NB237_238.out _).trans (((cell_far (p := ⟨gb238, _, none⟩) NB237_238.out _).trans (hHeld.2.2.1)))), ((cell_far (p := ⟨gb238, _, none⟩) NB237_238.out _).trans (((cell_far (p := ⟨gb238, _, none⟩) NB237_238.out _).trans (hHeld.2.2.2))))⟩ (fun hHeld => ?_)
 clear hK K
 refine done_ (by kernel_rfl) ?_
 try go_wp2
 refine bodyPost_ret (results_cell_row rfl _ _ gb238 49 #[.bool t243, .slice Ao13 t244.length co13] (0, 0) _ rfl (by (with_reducible repeat (first | refine blk_drewN ?_ _ | refine blk_drew ?_ | refine blk_alloc ?_ _)); refine blk_put (cs := #[.bool t243, .slice none 0 0]) ?_ 1 _ rfl; (with_reducible repeat (first | refine blk_drewN ?_ _ | refine blk_drew ?_ | refine blk_alloc ?_ _)); refine blk_put (cs := #[.bool false, .slice none 0 0]) ?_ 0 _ rfl; exact blkt BK238) Try.underlying49 rfl (by kernel_rfl)) rfl ?_
 exact ⟨_, by first | rfl | (simp [errW_none, errW_some] <;> rfl) | (simp [*, errW_none, errW_some] <;> rfl), by (with_reducible repeat (first | apply Kd.V_alloc | apply Kd.V_drewN | apply Kd.V_drew)); exact Kd.V_mono (Kd.V_far (p := ⟨gb238, 1, none⟩) (Kd.V_far (p := ⟨gb238, 0, none⟩) (Kd.V_mono HO246.out (fun k_ hk => (⟨hk, hk.2.2.2⟩ : _ ∧ k_ ≠ gb238))) (fun _ hk => hk.2) (.bool t243)) (fun _ hk => hk.2) (.slice Ao13 t244.length co13)) (fun _ hk => hk.1.1), belt HB⟩


/-! ### turnstoneref01_Cmp: function 18 -/
def turnstoneref01_Cmp.f (k : Nat) (a0_0 : Bool) (l0_1 : List Int) (a1_0 : Bool) (l1_1 : List Int) : Option (Int) := (turnstoneref01_Sub.f k a0_0 l0_1 a1_0 l1_1).bind fun bt249 => ((turnstoneref01_Sign.f bt249.1 bt249.2).bind fun t253 => (some t253))
theorem turnstoneref01_Cmp.mono : ∀ a0 a1 a2 a3 k, LeO (turnstoneref01_Cmp.f k a0 a1 a2 a3) (turnstoneref01_Cmp.f (k + 1) a0 a1 a2 a3) := by
 intro a0 a1 a2 a3 k
 unfold turnstoneref01_Cmp.f
 repeat' first
   | (with_reducible exact turnstoneref01_Sub.mono _ _ _ _ _)
   | (with_reducible exact LeO.refl _)
   | (with_reducible exact LeO.none _)
   | (with_reducible refine LeO.ite ?_ ?_)
   | (with_reducible refine LeO.bind ?_ (fun _ => ?_))
   | exact turnstoneref01_Sub.mono _ _ _ _ _
   | exact LeO.none _
   | refine LeO.ite ?_ ?_
   | refine LeO.bind ?_ (fun _ => ?_)
set_option maxHeartbeats 8000000 in
set_option maxRecDepth 100000 in
theorem turnstoneref01_Cmp.calls (k : Nat) (a0_0 : Bool) (A0_1 : Option Addr) (c0_1 : Nat) (l0_1 : List Int) (a1_0 : Bool) (A1_1 : Option Addr) (c1_1 : Nat) (l1_1 : List Int) (r : Int) (w : World) (hr0_1 : Kd.C (Kd.int .i64) w A0_1 l0_1.length l0_1) (hc0_1 : l0_1.length ≤ c0_1) (hr1_1 : Kd.C (Kd.int .i64) w A1_1 l1_1.length l1_1) (hc1_1 : l1_1.length ≤ c1_1) (h : turnstoneref01_Cmp.f k a0_0 l0_1 a1_0 l1_1 = some r) :
  Calls Try.prog 18 #[.agg #[.bool a0_0, .slice A0_1 l0_1.length c0_1], .agg #[.bool a1_0, .slice A1_1 l1_1.length c1_1]] w fun e w' => e = .returned (.int .i64 r) ∧ Below w.heap.size w w' := by
 have hu49 := Try.underlying49
 have HR0_1 := Aside0.mk hr0_1
 have HC0_1 := Aside0.mk hc0_1
 clear hr0_1 hc0_1
 have HR1_1 := Aside0.mk hr1_1
 have HC1_1 := Aside0.mk hc1_1
 clear hr1_1 hc1_1
 have HB := Aside0.mk (Below.refl w.heap.size w)
 have H : ((turnstoneref01_Sub.f k a0_0 l0_1 a1_0 l1_1).bind fun bt249 => ((turnstoneref01_Sign.f bt249.1 bt249.2).bind fun t253 => (some t253))) = some r := h
 clear h
 replace H := Option.bind_eq_some_iff.mp H
 obtain ⟨⟨t249, t250⟩, A30, H⟩ := H
 replace H : ((turnstoneref01_Sign.f t249 t250).bind fun t253 => (some t253)) = some r := H
 have A3 := Aside0.mk A30
 clear A30
 replace H := Option.bind_eq_some_iff.mp H
 obtain ⟨t253, A40, H⟩ := H
 replace H : (some t253) = some r := H
 have A4 := Aside0.mk A40
 clear A40
 obtain rfl := Option.some.inj H
 go_enter Try.func18, Try.ntmps18
 go_wp2_with (first | ((with_reducible refine gate_dst (N := 2) rfl ?_); refine box_event ?hg (N := 2) ?hd (cs := #[.bool a0_0, .slice A0_1 l0_1.length c0_1]) (t := 49) ?hr ?_; (case hd => rfl); (case hg => rfl); (case hr => first | (go_simp; done) | (go_simp; rfl)); intro gb247 hg w5 hbox hb; have BK247 := Aside0.mk (hbox); have GW247 := bels HB hg; have GE247 := bels HB hg; replace HB := belb HB hb; clear hb hbox hg) | ((with_reducible refine gate_dst (N := 3) rfl ?_); refine box_event ?hg (N := 3) ?hd (cs := #[.bool a1_0, .slice A1_1 l1_1.length c1_1]) (t := 49) ?hr ?_; (case hd => rfl); (case hg => rfl); (case hr => first | (go_simp; done) | (go_simp; rfl)); intro gb248 hg w6 hbox hb; have BK248 := Aside0.mk (hbox); have GW248 := bels HB hg; have GE248 := bels HB hg; have NB247_248 := blkl BK247 hg; have NB248_247 := blkg BK247 hg; replace BK247 := blkb BK247 hb; replace HB := belb HB hb; clear hb hbox hg; have hnb7 := NB247_248.out; have hnc7 := NB248_247.out; have hcz8_0 : w6.cell? ⟨gb247, 0, none⟩ = some (.bool a0_0) := bc BK247 0; have hcz8_1 : w6.cell? ⟨gb247, 1, none⟩ = some (.slice A0_1 l0_1.length c0_1) := bc BK247 1; have hfz8_0 := blk_frozen BK247.out 0; have hfz8_1 := blk_frozen BK247.out 1; have hcz9_0 : w6.cell? ⟨gb248, 0, none⟩ = some (.bool a1_0) := bc BK248 0; have hcz9_1 : w6.cell? ⟨gb248, 1, none⟩ = some (.slice A1_1 l1_1.length c1_1) := bc BK248 1; have hfz9_0 := blk_frozen BK248.out 0; have hfz9_1 := blk_frozen BK248.out 1) | ((with_reducible refine gate_callee (f := 34) rfl ?_); refine goesL_ (some 7) rfl rfl Try.func34 (by kernel_rfl) rfl #[.agg #[.bool a0_0, .slice A0_1 l0_1.length c0_1], .agg #[.bool a1_0, .slice A1_1 l1_1.length c1_1]] rfl argt ?_; (with_reducible refine (turnstoneref01_Sub.calls k a0_0 _ _ l0_1 a1_0 (fun k_ => k_ < w.heap.size) _ _ l1_1 t249 t250 _ ?side1 ?side2 ?side3 A3.out).mono ?_); (case side1 => exact (ct (Kd.C_below HR0_1.out HB.out))); (case side2 => exact HC0_1.out); (case side3 => exact Kd.V_mk HC1_1.out (Kd.F_below (Kd.C_F (Kd.heap_int .i64) HR1_1.out) (belt HB))); rintro e w10 ⟨v251, rfl, ho0, hb⟩; refine ⟨_, rfl, ?_⟩; have HO252 := Aside0.mk (Kd.V_lower (Kd.V_mono (ok' := fun k_ => k_ ≠ gb247 ∧ k_ ≠ gb248) ho0 (fun k_ hk_ => ⟨Or.elim hk_ (fun hs_ => fun e_ => Nat.not_le.2 hs_ (by rw [e_]; exact GW247.out)) (fun hn_ => (Kd.freshB (blkt BK247) k_ hn_)), Or.elim hk_ (fun hs_ => fun e_ => Nat.not_le.2 hs_ (by rw [e_]; exact GW248.out)) (fun hn_ => (Kd.freshB (blkt BK248) k_ hn_))⟩)) (below_size (belt HB))); replace BK247 := blkb BK247 hb; replace BK248 := blkb BK248 hb; replace HB := belb HB hb; (try clear hb); (try clear hb2); (try clear hk); (try clear hi); (try clear ho0); obtain ⟨Ao11, co11, eo11⟩ := Kd.V_slice HO252.out; subst eo11) | ((with_reducible refine gate_callee (f := 29) rfl ?_); refine goesL_ (some 8) rfl rfl Try.func29 (by kernel_rfl) rfl #[.agg #[.bool t249, .slice Ao11 t250.length co11]] rfl argt ?_; (with_reducible refine (turnstoneref01_Sign.calls t249 _ _ t250 t253 _ ?side1 ?side2 A4.out).mono ?_); (case side1 => repeat (first | exact (Kd.V_reads' HO252.out).2.2 | (with_reducible refine Kd.C_alloc ?_ _) | (with_reducible refine Kd.C_drewN ?_ _) | (with_reducible refine Kd.C_drew ?_))); (case side2 => exact (Kd.V_reads' HO252.out).2.1); rintro e w12 ⟨rfl, hb⟩; refine ⟨_, rfl, ?_⟩; replace HO252 := vb HO252 hb; replace BK247 := blkb BK247 hb; replace BK248 := blkb BK248 hb; replace HB := belb HB hb; (try clear hb); (try clear hb2); (try clear hk); (try clear hi)))
 go_ret
 exact ⟨by first | rfl | (simp [errW_none, errW_some] <;> rfl) | (simp [*, errW_none, errW_some] <;> rfl), belt HB⟩


/-! ### turnstoneref01_U: function 19 -/
def turnstoneref01_U.l0 : Nat → Int → Bool → List Int → Option (Bool × List Int)
 | 0, _, _, _ => none
 | k + 1, x0, x256000, x256001 => if x0 > 0 then (if x256001.length < 17592186044416 then (turnstoneref01_U.l0 k (IntKind.u64.wrap (Int.tdiv x0 10000)) x256000 (x256001 ++ [wrap64 (Int.tmod x0 10000)])) else (none)) else (some (x256000, x256001))
def turnstoneref01_U.f (k : Nat) (a0 : Int) : Option (Bool × List Int) := turnstoneref01_U.l0 k a0 false ([] : List Int)
theorem turnstoneref01_U.mono_l : ∀ k, (∀ y0 y1 y2, LeO (turnstoneref01_U.l0 k y0 y1 y2) (turnstoneref01_U.l0 (k + 1) y0 y1 y2))
 | 0 => fun _ _ _ r h => by simp [turnstoneref01_U.l0] at h
 | k + 1 => by
  have ih0 := turnstoneref01_U.mono_l k
  ·intro y0 y1 y2
   unfold turnstoneref01_U.l0
   repeat' first
   | (with_reducible exact ih0 _ _ _)
   | (with_reducible exact LeO.refl _)
   | (with_reducible exact LeO.none _)
   | (with_reducible refine LeO.ite ?_ ?_)
   | (with_reducible refine LeO.bind ?_ (fun _ => ?_))
   | exact ih0 _ _ _
   | exact LeO.none _
   | refine LeO.ite ?_ ?_
   | refine LeO.bind ?_ (fun _ => ?_)
theorem turnstoneref01_U.mono : ∀ a0 k, LeO (turnstoneref01_U.f k a0) (turnstoneref01_U.f (k + 1) a0) := by
 intro a0 k
 have ih0 := turnstoneref01_U.mono_l k
 unfold turnstoneref01_U.f
 repeat' first
   | (with_reducible exact ih0 _ _ _)
   | (with_reducible exact LeO.refl _)
   | (with_reducible exact LeO.none _)
   | (with_reducible refine LeO.ite ?_ ?_)
   | (with_reducible refine LeO.bind ?_ (fun _ => ?_))
   | exact ih0 _ _ _
   | exact LeO.none _
   | refine LeO.ite ?_ ?_
   | refine LeO.bind ?_ (fun _ => ?_)
set_option maxHeartbeats 8000000 in
set_option maxRecDepth 100000 in
theorem turnstoneref01_U.calls (k : Nat) (a0 : Int) (r1 : Bool) (r2 : List Int) (w : World) (h : turnstoneref01_U.f k a0 = some (r1, r2)) :
  Calls Try.prog 19 #[.int .u64 a0] w fun e w' => ∃ v1_ : Value, e = .returned (.agg #[.bool r1, v1_]) ∧ Kd.R (Kd.int .i64) 3 w' w.heap.size (fun _ => True) v1_ r2 ∧ Below w.heap.size w w' := by
 have hu49 := Try.underlying49
 have HB := Aside0.mk (Below.refl w.heap.size w)
 have H : (turnstoneref01_U.l0 k a0 false ([] : List Int)) = some (r1, r2) := h
 clear h
 have H' := Aside0.mk H
 clear H
 go_enter Try.func19, Try.ntmps19
 go_wp2_with (first | ((with_reducible refine gate_dst (N := 2) rfl ?_); refine box_event ?hg (N := 2) ?hd (cs := #[.bool false, .slice none 0 0]) (t := 49) ?hr ?_; (case hd => rfl); (case hg => rfl); (case hr => first | (go_simp; done) | (go_simp; rfl)); intro gb254 hg w2 hbox hb; have BK254 := Aside0.mk (hbox); have GW254 := bels HB hg; have GE254 := bels HB hg; replace HB := belb HB hb; clear hb hbox hg) | ((with_reducible refine gate_dst (N := 3) rfl ?_); refine box_event ?hg (N := 3) ?hd (cs := #[.bool false, .slice none 0 0]) (t := 49) ?hr ?_; (case hd => rfl); (case hg => rfl); (case hr => first | (go_simp; done) | (go_simp; rfl)); intro gb255 hg w3 hbox hb; have BK255 := Aside0.mk (hbox); have GW255 := bels HB hg; have GE255 := bels HB hg; have NB254_255 := blkl BK254 hg; have NB255_254 := blkg BK254 hg; replace BK254 := blkb BK254 hb; replace HB := belb HB hb; clear hb hbox hg))
 (try simp only [Act.put, List.setIfInBounds_toArray, List.set_cons_zero, List.set_cons_succ])
 go_loopg [0] k (fun kq v0 w' => ∃ (x0_1 : Int) (x256001_1 : List Int) (u256001 : Value), v0 = .int .u64 x0_1 ∧ Aside0 (turnstoneref01_U.l0 kq x0_1 false x256001_1 = some (r1, r2)) ∧ Aside0 (kq ≤ k) ∧ Aside0 (Kd.R (Kd.int .i64) 3 w' w.heap.size (fun _ => True) u256001 x256001_1) ∧ Aside0 (w'.heap[gb254]? = some (.cells #[.bool false, (.slice none 0 0)] 49 (0, 0))) ∧ Aside0 (w'.heap[gb255]? = some (.cells #[.bool false, u256001] 49 (0, 0))) ∧ Aside0 (Below w.heap.size w w'))
 case atStart => exact ⟨(a0), (([] : List Int)), (.slice none 0 0), (by first | rfl | (simp; done) | (simp [*]; done)), H', ⟨Nat.le_refl _⟩, ⟨by first | exact Kd.R_nil _ _ _ _ _ | exact Kd.N_nil _ _ _ _ _ | exact Kd.V_nil _ _ _ _ _ | exact Kd.Q_nil _ _ _ _ _ | exact Kd.S_nil _ _ _ _ _⟩, ⟨blkt BK254⟩, ⟨blkt BK255⟩, ⟨belt HB⟩⟩
 case round =>
  clear H'
  try clear c1
  try clear p2
  obtain ⟨x0_1, x256001_1, u256001, rfl, HA, HK1, HO_256001, BK254, BK255, HB⟩ := hrel
  cases gk with
  | zero => exact absurd HA.out (by simp [turnstoneref01_U.l0])
  | succ k1 =>
   have H := HA.out
   clear HA
   simp only [turnstoneref01_U.l0] at H
   by_cases c4 : x0_1 > 0
   ·rw [if_pos c4] at H
    have c4b0 : decide (0 < x0_1) = true := decide_eq_true c4
    clear c4
    by_cases c5 : x256001_1.length < 17592186044416
    ·rw [if_pos c5] at H
     have LMc5 := Aside0.mk c5
     clear c5
     obtain ⟨y256, hy256⟩ : ∃ y_ : List Int, y_ = (x256001_1 ++ [wrap64 (Int.tmod x0_1 10000)]) := ⟨_, rfl⟩
     replace H : (turnstoneref01_U.l0 k1 (IntKind.u64.wrap (Int.tdiv x0_1 10000)) false y256) = some (r1, r2) := by first | (rw [hy256]; with_reducible exact H) | (have H2_ := (Option.bind_some _ _).symm.trans H; rw [hy256]; with_reducible exact H2_) | (have H2_ := (Option.bind_some _ _).symm.trans H; with_reducible exact H2_) | with_reducible exact H | (rw [hy256]; exact H) | exact H
     have Ny256 := Aside0.mk hy256
     clear hy256
     have H' := Aside0.mk H
     clear H
     have hnb6 := NB255_254.out
     have hnc6 := NB254_255.out
     have hcz7_0 : wr.cell? ⟨gb255, 0, none⟩ = some (.bool false) := bc BK255 0
     have hcz7_1 : wr.cell? ⟨gb255, 1, none⟩ = some (u256001) := bc BK255 1
     have hfz7_0 := blk_frozen BK255.out 0
     have hfz7_1 := blk_frozen BK255.out 1
     go_wp2_with (first | ((with_reducible refine gate_builtin (b := .append) (xs := #[.tmp 7, .tmp 11]) rfl ?_); at_builtin; refine Kd.R_append (Kd.int .i64) (w0 := w) w.heap.size rfl (.tmp 7) (.tmp 11) 47 3 (.int .i64 0) 8 rfl Try.underlying47 info3 rfl (by decide) (by omega) u256001 x256001_1 (wrap64 (Int.tmod x0_1 10000)) [.int .i64 (wrap64 (Int.tmod x0_1 10000))] (fun _ => True) (fun _ => False) rfl rfl ?aP (fun _ hk => hk.elim) ?aF ?aO ?aB ?aS ?aL ?_; (case aP => exact rfl); (case aB => exact (belt HB)); (case aF => exact (fun _ _ => trivial)); (case aO => exact (rt HO_256001)); (case aS => exact (below_size (belt HB))); (case aL => have := LMc5.out; omega); intro v257 w8 ho hb hg hat; rw [← Ny256.out] at ho; replace BK254 := Aside0.mk (blk_grown (blkt BK254) hg (Kd.R_ne HO_256001.out BK254.out (by decide))); replace BK255 := Aside0.mk (blk_grown (blkt BK255) hg (Kd.R_ne HO_256001.out BK255.out (by decide))); replace HB := Aside0.mk (hb); have HO258 := Aside0.mk (ho); clear HO_256001; clear ho hb hg hat; obtain ⟨Ao9, co9, eo9⟩ := Kd.R_slice HO258.out; subst eo9; have hcz10_0 : w8.cell? ⟨gb255, 0, none⟩ = some (.bool false) := bc BK255 0; have hcz10_1 : w8.cell? ⟨gb255, 1, none⟩ = some (u256001) := bc BK255 1; have hfz10_0 := blk_frozen BK255.out 0; have hfz10_1 := blk_frozen BK255.out 1))
     go_roundg k1
     case measure => have := HK1.out; omega
     case rel => exact ⟨(IntKind.u64.wrap (Int.tdiv x0_1 10000)), (y256), (.slice Ao9 y256.length co9), (by first | rfl | (simp; done) | (simp [*]; done)), H', ⟨by have := HK1.out; omega⟩, ⟨by (with_reducible repeat (first | apply Kd.R_alloc | apply Kd.R_drewN | apply Kd.R_drew)); exact Kd.R_mono (Kd.R_far (p := ⟨gb255, 1, none⟩) (Kd.R_types HO258.out BK255.out (by decide)) (fun _ hk => hk.2) (.slice Ao9 y256.length co9)) (fun _ hk => trivial)⟩, ⟨by (with_reducible repeat (first | refine blk_drewN ?_ _ | refine blk_drew ?_ | refine blk_alloc ?_ _)); refine blk_far ?_ NB254_255.out _; exact blkt BK254⟩, ⟨by (with_reducible repeat (first | refine blk_drewN ?_ _ | refine blk_drew ?_ | refine blk_alloc ?_ _)); refine blk_put (cs := #[.bool false, u256001]) ?_ 1 _ rfl; exact blkt BK255⟩, ⟨belt HB⟩⟩
    rw [if_neg c5] at H
    exact absurd H (by simp)
   rw [if_neg c4] at H
   have c4b0 : decide (0 < x0_1) = false := decide_eq_false c4
   clear c4
   simp only [Option.some.injEq, Prod.mk.injEq] at H
   obtain ⟨rfl, rfl⟩ := H
   have hnb11 := NB255_254.out
   have hnc11 := NB254_255.out
   have hcz12_0 : wr.cell? ⟨gb255, 0, none⟩ = some (.bool false) := bc BK255 0
   have hcz12_1 : wr.cell? ⟨gb255, 1, none⟩ = some (u256001) := bc BK255 1
   have hfz12_0 := blk_frozen BK255.out 0
   have hfz12_1 := blk_frozen BK255.out 1
   have hcz13_0 : wr.cell? ⟨gb254, 0, none⟩ = some (.bool false) := bc BK254 0
   have hcz13_1 : wr.cell? ⟨gb254, 1, none⟩ = some (.slice none 0 0) := bc BK254 1
   have hfz13_0 := blk_frozen BK254.out 0
   have hfz13_1 := blk_frozen BK254.out 1
   obtain ⟨Ao14, co14, eo14⟩ := Kd.R_slice HO_256001.out
   subst eo14
   go_wp2
   refine bodyPost_ret (results_cell_row rfl _ _ gb254 49 #[.bool false, .slice Ao14 x256001_1.length co14] (0, 0) _ rfl (by (with_reducible repeat (first | refine blk_drewN ?_ _ | refine blk_drew ?_ | refine blk_alloc ?_ _)); refine blk_put (cs := #[.bool false, .slice none 0 0]) ?_ 1 _ rfl; (with_reducible repeat (first | refine blk_drewN ?_ _ | refine blk_drew ?_ | refine blk_alloc ?_ _)); refine blk_put (cs := #[.bool false, .slice none 0 0]) ?_ 0 _ rfl; exact blkt BK254) Try.underlying49 rfl (by kernel_rfl)) rfl ?_
   exact ⟨_, by first | rfl | (simp [errW_none, errW_some] <;> rfl) | (simp [*, errW_none, errW_some] <;> rfl), by (with_reducible repeat (first | apply Kd.R_alloc | apply Kd.R_drewN | apply Kd.R_drew)); exact Kd.R_mono (Kd.R_far (p := ⟨gb254, 1, none⟩) (Kd.R_far (p := ⟨gb254, 0, none⟩) (Kd.R_types HO_256001.out BK254.out (by decide)) (fun _ hk => hk.2) (.bool false)) (fun _ hk => hk.2) (.slice Ao14 x256001_1.length co14)) (fun _ hk => trivial), belt HB⟩


/-! ### turnstoneref01_N: function 42 -/
def turnstoneref01_N.f (k : Nat) (a0 : Int) : Option (Bool × List Int) := if a0 ≥ 0 then ((turnstoneref01_U.f k (IntKind.u64.wrap (a0))).bind fun bt260 => (some (bt260.1, bt260.2))) else ((turnstoneref01_U.f k (IntKind.u64.wrap ((IntKind.u64.wrap (wrap64 (-(wrap64 (a0 + 1))))) + 1))).bind fun bt264 => (some (true, bt264.2)))
theorem turnstoneref01_N.mono : ∀ a0 k, LeO (turnstoneref01_N.f k a0) (turnstoneref01_N.f (k + 1) a0) := by
 intro a0 k
 unfold turnstoneref01_N.f
 repeat' first
   | (with_reducible exact turnstoneref01_U.mono _ _)
   | (with_reducible exact LeO.refl _)
   | (with_reducible exact LeO.none _)
   | (with_reducible refine LeO.ite ?_ ?_)
   | (with_reducible refine LeO.bind ?_ (fun _ => ?_))
   | exact turnstoneref01_U.mono _ _
   | exact LeO.none _
   | refine LeO.ite ?_ ?_
   | refine LeO.bind ?_ (fun _ => ?_)
set_option maxHeartbeats 8000000 in
set_option maxRecDepth 100000 in
theorem turnstoneref01_N.calls (k : Nat) (a0 : Int) (r1 : Bool) (r2 : List Int) (w : World) (h : turnstoneref01_N.f k a0 = some (r1, r2)) :
  Calls Try.prog 42 #[.int .i64 a0] w fun e w' => ∃ v1_ : Value, e = .returned (.agg #[.bool r1, v1_]) ∧ Kd.R (Kd.int .i64) 3 w' w.heap.size (fun _ => True) v1_ r2 ∧ Below w.heap.size w w' := by
 have hu49 := Try.underlying49
 have HB := Aside0.mk (Below.refl w.heap.size w)
 have H : (if a0 ≥ 0 then ((turnstoneref01_U.f k (IntKind.u64.wrap (a0))).bind fun bt260 => (some (bt260.1, bt260.2))) else ((turnstoneref01_U.f k (IntKind.u64.wrap ((IntKind.u64.wrap (wrap64 (-(wrap64 (a0 + 1))))) + 1))).bind fun bt264 => (some (true, bt264.2)))) = some (r1, r2) := h
 clear h
 by_cases c2 : a0 ≥ 0
 ·rw [if_pos c2] at H
  have c2b0 : decide (0 ≤ a0) = true := decide_eq_true c2
  clear c2
  replace H := Option.bind_eq_some_iff.mp H
  obtain ⟨⟨t260, t261⟩, A30, H⟩ := H
  replace H : (some (t260, t261)) = some (r1, r2) := H
  have A3 := Aside0.mk A30
  clear A30
  simp only [Option.some.injEq, Prod.mk.injEq] at H
  obtain ⟨rfl, rfl⟩ := H
  go_enter Try.func42, Try.ntmps42
  go_wp2_with (first | ((with_reducible refine gate_dst (N := 2) rfl ?_); refine box_event ?hg (N := 2) ?hd (cs := #[.bool false, .slice none 0 0]) (t := 49) ?hr ?_; (case hd => rfl); (case hg => rfl); (case hr => first | (go_simp; done) | (go_simp; rfl)); intro gb259 hg w4 hbox hb; have BK259 := Aside0.mk (hbox); have GW259 := bels HB hg; have GE259 := bels HB hg; replace HB := belb HB hb; clear hb hbox hg) | ((with_reducible refine gate_callee (f := 19) rfl ?_); refine goesL_ (some 8) rfl rfl Try.func19 (by kernel_rfl) rfl #[.int .u64 (IntKind.u64.wrap (a0))] rfl argt ?_; (with_reducible refine (turnstoneref01_U.calls k (IntKind.u64.wrap (a0)) t260 t261 _ A3.out).mono ?_); rintro e w5 ⟨v262, rfl, ho0, hb⟩; refine ⟨_, rfl, ?_⟩; have HO263 := Aside0.mk (Kd.R_lower ho0 (below_size (belt HB))); replace BK259 := blkb BK259 hb; replace HB := belb HB hb; (try clear hb); (try clear hb2); (try clear hk); (try clear hi); (try clear ho0); have hcz6_0 : w5.cell? ⟨gb259, 0, none⟩ = some (.bool false) := bc BK259 0; have hcz6_1 : w5.cell? ⟨gb259, 1, none⟩ = some (.slice none 0 0) := bc BK259 1; have hfz6_0 := blk_frozen BK259.out 0; have hfz6_1 := blk_frozen BK259.out 1; obtain ⟨Ao7, co7, eo7⟩ := Kd.R_slice HO263.out; subst eo7))
  refine bodyPost_ret (results_cell_row rfl _ _ gb259 49 #[.bool t260, .slice Ao7 t261.length co7] (0, 0) _ rfl (by (with_reducible repeat (first | refine blk_drewN ?_ _ | refine blk_drew ?_ | refine blk_alloc ?_ _)); refine blk_put (cs := #[.bool t260, .slice none 0 0]) ?_ 1 _ rfl; (with_reducible repeat (first | refine blk_drewN ?_ _ | refine blk_drew ?_ | refine blk_alloc ?_ _)); refine blk_put (cs := #[.bool false, .slice none 0 0]) ?_ 0 _ rfl; exact blkt BK259) Try.underlying49 rfl (by kernel_rfl)) rfl ?_
  exact ⟨_, by first | rfl | (simp [errW_none, errW_some] <;> rfl) | (simp [*, errW_none, errW_some] <;> rfl), by (with_reducible repeat (first | apply Kd.R_alloc | apply Kd.R_drewN | apply Kd.R_drew)); exact Kd.R_mono (Kd.R_far (p := ⟨gb259, 1, none⟩) (Kd.R_far (p := ⟨gb259, 0, none⟩) (Kd.R_types HO263.out BK259.out (by decide)) (fun _ hk => hk.2) (.bool t260)) (fun _ hk => hk.2) (.slice Ao7 t261.length co7)) (fun _ hk => trivial), belt HB⟩
 rw [if_neg c2] at H
 have c2b0 : decide (0 ≤ a0) = false := decide_eq_false c2
 clear c2
 replace H := Option.bind_eq_some_iff.mp H
 obtain ⟨⟨t264, t265⟩, A80, H⟩ := H
 replace H : (some (true, t265)) = some (r1, r2) := H
 have A8 := Aside0.mk A80
 clear A80
 simp only [Option.some.injEq, Prod.mk.injEq] at H
 obtain ⟨rfl, rfl⟩ := H
 go_enter Try.func42, Try.ntmps42
 go_wp2_with (first | ((with_reducible refine gate_dst (N := 2) rfl ?_); refine box_event ?hg (N := 2) ?hd (cs := #[.bool false, .slice none 0 0]) (t := 49) ?hr ?_; (case hd => rfl); (case hg => rfl); (case hr => first | (go_simp; done) | (go_simp; rfl)); intro gb259 hg w9 hbox hb; have BK259 := Aside0.mk (hbox); have GW259 := bels HB hg; have GE259 := bels HB hg; replace HB := belb HB hb; clear hb hbox hg) | ((with_reducible refine gate_callee (f := 19) rfl ?_); refine goesL_ (some 14) rfl rfl Try.func19 (by kernel_rfl) rfl #[.int .u64 (IntKind.u64.wrap ((IntKind.u64.wrap (wrap64 (-(wrap64 (a0 + 1))))) + 1))] rfl argt ?_; (with_reducible refine (turnstoneref01_U.calls k (IntKind.u64.wrap ((IntKind.u64.wrap (wrap64 (-(wrap64 (a0 + 1))))) + 1)) t264 t265 _ A8.out).mono ?_); rintro e w10 ⟨v266, rfl, ho0, hb⟩; refine ⟨_, rfl, ?_⟩; have HO267 := Aside0.mk (Kd.R_lower ho0 (below_size (belt HB))); replace BK259 := blkb BK259 hb; replace HB := belb HB hb; (try clear hb); (try clear hb2); (try clear hk); (try clear hi); (try clear ho0)) | ((with_reducible refine gate_dst (N := 3) rfl ?_); refine box_event ?hg (N := 3) ?hd (cs := #[.bool false, .slice none 0 0]) (t := 49) ?hr ?_; (case hd => rfl); (case hg => rfl); (case hr => first | (go_simp; done) | (go_simp; rfl)); intro gb268 hg w11 hbox hb; replace HO267 := rb HO267 hb; have BK268 := Aside0.mk (hbox); have GW268 := bels HB hg; have GE268 := bels HB hg; have NB259_268 := blkl BK259 hg; have NB268_259 := blkg BK259 hg; replace BK259 := blkb BK259 hb; replace HB := belb HB hb; clear hb hbox hg; have hnb12 := NB268_259.out; have hnc12 := NB259_268.out; have hcz13_0 : w11.cell? ⟨gb268, 0, none⟩ = some (.bool false) := bc BK268 0; have hcz13_1 : w11.cell? ⟨gb268, 1, none⟩ = some (.slice none 0 0) := bc BK268 1; have hfz13_0 := blk_frozen BK268.out 0; have hfz13_1 := blk_frozen BK268.out 1; obtain ⟨Ao14, co14, eo14⟩ := Kd.R_slice HO267.out; subst eo14; have hcz15_0 : w11.cell? ⟨gb259, 0, none⟩ = some (.bool false) := bc BK259 0; have hcz15_1 : w11.cell? ⟨gb259, 1, none⟩ = some (.slice none 0 0) := bc BK259 1; have hfz15_0 := blk_frozen BK259.out 0; have hfz15_1 := blk_frozen BK259.out 1))
 refine bodyPost_ret (results_cell_row rfl _ _ gb259 49 #[.bool true, .slice Ao14 t265.length co14] (0, 0) _ rfl (by (with_reducible repeat (first | refine blk_drewN ?_ _ | refine blk_drew ?_ | refine blk_alloc ?_ _)); refine blk_put (cs := #[.bool true, .slice none 0 0]) ?_ 1 _ rfl; (with_reducible repeat (first | refine blk_drewN ?_ _ | refine blk_drew ?_ | refine blk_alloc ?_ _)); refine blk_put (cs := #[.bool false, .slice none 0 0]) ?_ 0 _ rfl; (with_reducible repeat (first | refine blk_drewN ?_ _ | refine blk_drew ?_ | refine blk_alloc ?_ _)); refine blk_far ?_ NB259_268.out _; (with_reducible repeat (first | refine blk_drewN ?_ _ | refine blk_drew ?_ | refine blk_alloc ?_ _)); refine blk_far ?_ NB259_268.out _; (with_reducible repeat (first | refine blk_drewN ?_ _ | refine blk_drew ?_ | refine blk_alloc ?_ _)); refine blk_far ?_ NB259_268.out _; exact blkt BK259) Try.underlying49 rfl (by kernel_rfl)) rfl ?_
 exact ⟨_, by first | rfl | (simp [errW_none, errW_some] <;> rfl) | (simp [*, errW_none, errW_some] <;> rfl), by (with_reducible repeat (first | apply Kd.R_alloc | apply Kd.R_drewN | apply Kd.R_drew)); exact Kd.R_mono (Kd.R_far (p := ⟨gb259, 1, none⟩) (Kd.R_far (p := ⟨gb259, 0, none⟩) (Kd.R_far (p := ⟨gb268, 0, none⟩) (Kd.R_far (p := ⟨gb268, 1, none⟩) (Kd.R_far (p := ⟨gb268, 0, none⟩) (Kd.R_types (Kd.R_types HO267.out BK268.out (by decide)) BK259.out (by decide)) (fun _ hk => hk.1.2) (.bool t264)) (fun _ hk => hk.1.2) (.slice Ao14 t265.length co14)) (fun _ hk => hk.1.2) (.bool true)) (fun _ hk => hk.2) (.bool true)) (fun _ hk => hk.2) (.slice Ao14 t265.length co14)) (fun _ hk => trivial), belt HB⟩


/-! ### turnstoneref01_Power: function 30 -/
def turnstoneref01_Power.l0 : Nat → Int → Int → Bool → List Int → Option (Bool × List Int)
 | 0, _, _, _, _ => none
 | k + 1, x0, x4, x275000, x275001 => if x4 < x0 then ((turnstoneref01_Add.f k x275000 x275001 x275000 x275001).bind fun bt275 => (turnstoneref01_Power.l0 k x0 (wrap64 (x4 + 1)) bt275.1 bt275.2)) else (some (x275000, x275001))
def turnstoneref01_Power.f (k : Nat) (a0 : Int) : Option (Bool × List Int) := (turnstoneref01_N.f k 1).bind fun bt270 => (turnstoneref01_Power.l0 k a0 0 bt270.1 bt270.2)
theorem turnstoneref01_Power.mono_l : ∀ k, (∀ y0 y1 y2 y3, LeO (turnstoneref01_Power.l0 k y0 y1 y2 y3) (turnstoneref01_Power.l0 (k + 1) y0 y1 y2 y3))
 | 0 => fun _ _ _ _ r h => by simp [turnstoneref01_Power.l0] at h
 | k + 1 => by
  have ih0 := turnstoneref01_Power.mono_l k
  ·intro y0 y1 y2 y3
   unfold turnstoneref01_Power.l0
   repeat' first
   | (with_reducible exact ih0 _ _ _ _)
   | (with_reducible exact turnstoneref01_Add.mono _ _ _ _ _)
   | (with_reducible exact turnstoneref01_N.mono _ _)
   | (with_reducible exact LeO.refl _)
   | (with_reducible exact LeO.none _)
   | (with_reducible refine LeO.ite ?_ ?_)
   | (with_reducible refine LeO.bind ?_ (fun _ => ?_))
   | exact ih0 _ _ _ _
   | exact turnstoneref01_Add.mono _ _ _ _ _
   | exact turnstoneref01_N.mono _ _
   | exact LeO.none _
   | refine LeO.ite ?_ ?_
   | refine LeO.bind ?_ (fun _ => ?_)
theorem turnstoneref01_Power.mono : ∀ a0 k, LeO (turnstoneref01_Power.f k a0) (turnstoneref01_Power.f (k + 1) a0) := by
 intro a0 k
 have ih0 := turnstoneref01_Power.mono_l k
 unfold turnstoneref01_Power.f
 repeat' first
   | (with_reducible exact ih0 _ _ _ _)
   | (with_reducible exact turnstoneref01_Add.mono _ _ _ _ _)
   | (with_reducible exact turnstoneref01_N.mono _ _)
   | (with_reducible exact LeO.refl _)
   | (with_reducible exact LeO.none _)
   | (with_reducible refine LeO.ite ?_ ?_)
   | (with_reducible refine LeO.bind ?_ (fun _ => ?_))
   | exact ih0 _ _ _ _
   | exact turnstoneref01_Add.mono _ _ _ _ _
   | exact turnstoneref01_N.mono _ _
   | exact LeO.none _
   | refine LeO.ite ?_ ?_
   | refine LeO.bind ?_ (fun _ => ?_)
set_option maxHeartbeats 8000000 in
set_option maxRecDepth 100000 in
theorem turnstoneref01_Power.calls (k : Nat) (a0 : Int) (r1 : Bool) (r2 : List Int) (w : World) (h : turnstoneref01_Power.f k a0 = some (r1, r2)) :
  Calls Try.prog 30 #[.int .i64 a0] w fun e w' => ∃ v1_ : Value, e = .returned (.agg #[.bool r1, v1_]) ∧ Kd.V (Kd.int .i64) 3 w' w.heap.size (fun k_ => (w.heap.size ≤ k_)) v1_ r2 ∧ Below w.heap.size w w' := by
 have hu49 := Try.underlying49
 have HB := Aside0.mk (Below.refl w.heap.size w)
 have H : ((turnstoneref01_N.f k 1).bind fun bt270 => (turnstoneref01_Power.l0 k a0 0 bt270.1 bt270.2)) = some (r1, r2) := h
 clear h
 replace H := Option.bind_eq_some_iff.mp H
 obtain ⟨⟨t270, t271⟩, A20, H⟩ := H
 replace H : (turnstoneref01_Power.l0 k a0 0 t270 t271) = some (r1, r2) := H
 have A2 := Aside0.mk A20
 clear A20
 have H' := Aside0.mk H
 clear H
 go_enter Try.func30, Try.ntmps30
 go_wp2_with (first | ((with_reducible refine gate_dst (N := 2) rfl ?_); refine box_event ?hg (N := 2) ?hd (cs := #[.bool false, .slice none 0 0]) (t := 49) ?hr ?_; (case hd => rfl); (case hg => rfl); (case hr => first | (go_simp; done) | (go_simp; rfl)); intro gb269 hg w3 hbox hb; have BK269 := Aside0.mk (hbox); have GW269 := bels HB hg; have GE269 := bels HB hg; replace HB := belb HB hb; clear hb hbox hg) | ((with_reducible refine gate_callee (f := 42) rfl ?_); refine goesL_ (some 5) rfl rfl Try.func42 (by kernel_rfl) rfl #[.int .i64 1] rfl argt ?_; (with_reducible refine (turnstoneref01_N.calls k 1 t270 t271 _ A2.out).mono ?_); rintro e w4 ⟨v272, rfl, ho0, hb⟩; refine ⟨_, rfl, ?_⟩; have HO273 := Aside0.mk (Kd.R_lower (Kd.R_newM (M := fun k_ => (w.heap.size ≤ k_)) ho0 (below_size (belt HB)) (fun k_ h_ => h_)) (below_size (belt HB))); replace BK269 := blkb BK269 hb; replace HB := belb HB hb; (try clear hb); (try clear hb2); (try clear hk); (try clear hi); (try clear ho0)) | ((with_reducible refine gate_dst (N := 3) rfl ?_); refine box_event ?hg (N := 3) ?hd (cs := #[.bool false, .slice none 0 0]) (t := 49) ?hr ?_; (case hd => rfl); (case hg => rfl); (case hr => first | (go_simp; done) | (go_simp; rfl)); intro gb274 hg w5 hbox hb; replace HO273 := rb HO273 hb; have BK274 := Aside0.mk (hbox); have GW274 := bels HB hg; have GE274 := bels HB hg; have NB269_274 := blkl BK269 hg; have NB274_269 := blkg BK269 hg; replace BK269 := blkb BK269 hb; replace HB := belb HB hb; clear hb hbox hg; have hnb6 := NB274_269.out; have hnc6 := NB269_274.out; have hcz7_0 : w5.cell? ⟨gb274, 0, none⟩ = some (.bool false) := bc BK274 0; have hcz7_1 : w5.cell? ⟨gb274, 1, none⟩ = some (.slice none 0 0) := bc BK274 1; have hfz7_0 := blk_frozen BK274.out 0; have hfz7_1 := blk_frozen BK274.out 1; obtain ⟨Ao8, co8, eo8⟩ := Kd.R_slice HO273.out; subst eo8))
 (try simp only [Act.put, List.setIfInBounds_toArray, List.set_cons_zero, List.set_cons_succ])
 go_loopg [4] k (fun kq v4 w' => ∃ (x4_1 : Int) (x275000_1 : Bool) (x275001_1 : List Int) (u275001 : Value), v4 = .int .i64 x4_1 ∧ Aside0 (turnstoneref01_Power.l0 kq a0 x4_1 x275000_1 x275001_1 = some (r1, r2)) ∧ Aside0 (kq ≤ k) ∧ Aside0 (Kd.V (Kd.int .i64) 3 w' w.heap.size (fun k_ => (w.heap.size ≤ k_) ∧ k_ ≠ gb269 ∧ k_ ≠ gb274) u275001 x275001_1) ∧ Aside0 (w'.heap[gb269]? = some (.cells #[.bool false, (.slice none 0 0)] 49 (0, 0))) ∧ Aside0 (w'.heap[gb274]? = some (.cells #[.bool x275000_1, u275001] 49 (0, 0))) ∧ Aside0 (Below w.heap.size w w'))
 case atStart => exact ⟨(0), (t270), (t271), (.slice Ao8 t271.length co8), (by first | rfl | (simp; done) | (simp [*]; done)), H', ⟨Nat.le_refl _⟩, ⟨Kd.R_V (by (with_reducible repeat (first | apply Kd.R_alloc | apply Kd.R_drewN | apply Kd.R_drew)); exact Kd.R_mono (Kd.R_far (p := ⟨gb274, 1, none⟩) (Kd.R_far (p := ⟨gb274, 0, none⟩) (Kd.R_types (Kd.R_types (Kd.R_types HO273.out BK269.out (by decide)) BK274.out (by decide)) BK274.out (by decide)) (fun _ hk => hk.2) (.bool t270)) (fun _ hk => hk.2) (.slice Ao8 t271.length co8)) (fun _ hk => ⟨hk.1.1.1.1, ⟨hk.1.1.2, hk.1.2⟩⟩))⟩, ⟨by (with_reducible repeat (first | refine blk_drewN ?_ _ | refine blk_drew ?_ | refine blk_alloc ?_ _)); refine blk_far ?_ NB269_274.out _; (with_reducible repeat (first | refine blk_drewN ?_ _ | refine blk_drew ?_ | refine blk_alloc ?_ _)); refine blk_far ?_ NB269_274.out _; exact blkt BK269⟩, ⟨by (with_reducible repeat (first | refine blk_drewN ?_ _ | refine blk_drew ?_ | refine blk_alloc ?_ _)); refine blk_put (cs := #[.bool t270, .slice none 0 0]) ?_ 1 _ rfl; (with_reducible repeat (first | refine blk_drewN ?_ _ | refine blk_drew ?_ | refine blk_alloc ?_ _)); refine blk_put (cs := #[.bool false, .slice none 0 0]) ?_ 0 _ rfl; exact blkt BK274⟩, ⟨belt HB⟩⟩
 case round =>
  clear H'
  try clear p2
  try clear c3
  try clear c4
  try clear c6
  try clear hcz7_0
  try clear hcz7_1
  try clear hfz7_0
  try clear hfz7_1
  obtain ⟨x4_1, x275000_1, x275001_1, u275001, rfl, HA, HK1, HO_275001, BK269, BK274, HB⟩ := hrel
  cases gk with
  | zero => exact absurd HA.out (by simp [turnstoneref01_Power.l0])
  | succ k1 =>
   have H := HA.out
   clear HA
   simp only [turnstoneref01_Power.l0] at H
   by_cases c9 : x4_1 < a0
   ·rw [if_pos c9] at H
    have c9b0 : decide (x4_1 < a0) = true := decide_eq_true c9
    clear c9
    replace H := Option.bind_eq_some_iff.mp H
    obtain ⟨⟨t275, t276⟩, A100, H⟩ := H
    replace H : (turnstoneref01_Power.l0 k1 a0 (wrap64 (x4_1 + 1)) t275 t276) = some (r1, r2) := H
    have A10 := Aside0.mk A100
    clear A100
    have H' := Aside0.mk H
    clear H
    have hnb11 := NB274_269.out
    have hnc11 := NB269_274.out
    have hcz12_0 : wr.cell? ⟨gb274, 0, none⟩ = some (.bool x275000_1) := bc BK274 0
    have hcz12_1 : wr.cell? ⟨gb274, 1, none⟩ = some (u275001) := bc BK274 1
    have hfz12_0 := blk_frozen BK274.out 0
    have hfz12_1 := blk_frozen BK274.out 1
    obtain ⟨Ao13, co13, eo13⟩ := Kd.V_slice HO_275001.out
    subst eo13
    go_wp2_with (first | ((with_reducible refine gate_callee (f := 41) rfl ?_); refine goesL_ (some 13) rfl rfl Try.func41 (by kernel_rfl) rfl #[.agg #[.bool x275000_1, .slice Ao13 x275001_1.length co13], .agg #[.bool x275000_1, .slice Ao13 x275001_1.length co13]] rfl argt ?_; (with_reducible refine (turnstoneref01_Add.calls k1 x275000_1 _ _ x275001_1 x275000_1 _ _ x275001_1 t275 t276 _ ?side1 ?side2 ?side3 ?side4 A10.out).mono ?_); (case side1 => repeat (first | exact (Kd.V_reads' HO_275001.out).2.2 | (with_reducible refine Kd.C_alloc ?_ _) | (with_reducible refine Kd.C_drewN ?_ _) | (with_reducible refine Kd.C_drew ?_))); (case side2 => exact (Kd.V_reads' HO_275001.out).2.1); (case side3 => repeat (first | exact (Kd.V_reads' HO_275001.out).2.2 | (with_reducible refine Kd.C_alloc ?_ _) | (with_reducible refine Kd.C_drewN ?_ _) | (with_reducible refine Kd.C_drew ?_))); (case side4 => exact (Kd.V_reads' HO_275001.out).2.1); rintro e w14 ⟨v277, rfl, ho0, hb⟩; refine ⟨_, rfl, ?_⟩; replace HO_275001 := vb HO_275001 hb; have HO278 := Aside0.mk (Kd.V_lower (Kd.V_mono (ok' := fun k_ => (w.heap.size ≤ k_) ∧ k_ ≠ gb269 ∧ k_ ≠ gb274) ho0 (fun k_ hk_ => ⟨(Nat.le_trans (below_size (belt HB)) hk_), (Kd.freshB (blkt BK269) k_ hk_), (Kd.freshB (blkt BK274) k_ hk_)⟩)) (below_size (belt HB))); replace BK269 := blkb BK269 hb; replace BK274 := blkb BK274 hb; replace HB := belb HB hb; (try clear hb); (try clear hb2); (try clear hk); (try clear hi); (try clear ho0); have hcz15_0 : w14.cell? ⟨gb274, 0, none⟩ = some (.bool x275000_1) := bc BK274 0; have hcz15_1 : w14.cell? ⟨gb274, 1, none⟩ = some (.slice Ao13 x275001_1.length co13) := bc BK274 1; have hfz15_0 := blk_frozen BK274.out 0; have hfz15_1 := blk_frozen BK274.out 1; obtain ⟨Ao16, co16, eo16⟩ := Kd.V_slice HO278.out; subst eo16))
    go_roundg k1
    case measure => have := HK1.out; omega
    case rel => exact ⟨(wrap64 (x4_1 + 1)), (t275), (t276), (.slice Ao16 t276.length co16), (by first | rfl | (simp; done) | (simp [*]; done)), H', ⟨by have := HK1.out; omega⟩, ⟨by (with_reducible repeat (first | apply Kd.V_alloc | apply Kd.V_drewN | apply Kd.V_drew)); exact Kd.V_mono (Kd.V_far (p := ⟨gb274, 1, none⟩) (Kd.V_far (p := ⟨gb274, 0, none⟩) (Kd.V_mono HO278.out (fun k_ hk => (⟨hk, hk.2.2⟩ : _ ∧ k_ ≠ gb274))) (fun _ hk => hk.2) (.bool t275)) (fun _ hk => hk.2) (.slice Ao16 t276.length co16)) (fun _ hk => ⟨hk.1.1, ⟨hk.1.2.1, hk.1.2.2⟩⟩)⟩, ⟨by (with_reducible repeat (first | refine blk_drewN ?_ _ | refine blk_drew ?_ | refine blk_alloc ?_ _)); refine blk_far ?_ NB269_274.out _; (with_reducible repeat (first | refine blk_drewN ?_ _ | refine blk_drew ?_ | refine blk_alloc ?_ _)); refine blk_far ?_ NB269_274.out _; exact blkt BK269⟩, ⟨by (with_reducible repeat (first | refine blk_drewN ?_ _ | refine blk_drew ?_ | refine blk_alloc ?_ _)); refine blk_put (cs := #[.bool t275, .slice Ao13 x275001_1.length co13]) ?_ 1 _ rfl; (with_reducible repeat (first | refine blk_drewN ?_ _ | refine blk_drew ?_ | refine blk_alloc ?_ _)); refine blk_put (cs := #[.bool x275000_1, .slice Ao13 x275001_1.length co13]) ?_ 0 _ rfl; exact blkt BK274⟩, ⟨belt HB⟩⟩
   rw [if_neg c9] at H
   have c9b0 : decide (x4_1 < a0) = false := decide_eq_false c9
   clear c9
   simp only [Option.some.injEq, Prod.mk.injEq] at H
   obtain ⟨rfl, rfl⟩ := H
   have hnb17 := NB274_269.out
   have hnc17 := NB269_274.out
   have hcz18_0 : wr.cell? ⟨gb274, 0, none⟩ = some (.bool x275000_1) := bc BK274 0
   have hcz18_1 : wr.cell? ⟨gb274, 1, none⟩ = some (u275001) := bc BK274 1
   have hfz18_0 := blk_frozen BK274.out 0
   have hfz18_1 := blk_frozen BK274.out 1
   have hcz19_0 : wr.cell? ⟨gb269, 0, none⟩ = some (.bool false) := bc BK269 0
   have hcz19_1 : wr.cell? ⟨gb269, 1, none⟩ = some (.slice none 0 0) := bc BK269 1
   have hfz19_0 := blk_frozen BK269.out 0
   have hfz19_1 := blk_frozen BK269.out 1
   obtain ⟨Ao20, co20, eo20⟩ := Kd.V_slice HO_275001.out
   subst eo20
   go_wp2
   refine bodyPost_ret (results_cell_row rfl _ _ gb269 49 #[.bool x275000_1, .slice Ao20 x275001_1.length co20] (0, 0) _ rfl (by (with_reducible repeat (first | refine blk_drewN ?_ _ | refine blk_drew ?_ | refine blk_alloc ?_ _)); refine blk_put (cs := #[.bool x275000_1, .slice none 0 0]) ?_ 1 _ rfl; (with_reducible repeat (first | refine blk_drewN ?_ _ | refine blk_drew ?_ | refine blk_alloc ?_ _)); refine blk_put (cs := #[.bool false, .slice none 0 0]) ?_ 0 _ rfl; exact blkt BK269) Try.underlying49 rfl (by kernel_rfl)) rfl ?_
   exact ⟨_, by first | rfl | (simp [errW_none, errW_some] <;> rfl) | (simp [*, errW_none, errW_some] <;> rfl), by (with_reducible repeat (first | apply Kd.V_alloc | apply Kd.V_drewN | apply Kd.V_drew)); exact Kd.V_mono (Kd.V_far (p := ⟨gb269, 1, none⟩) (Kd.V_far (p := ⟨gb269, 0, none⟩) (Kd.V_mono HO_275001.out (fun k_ hk => (⟨hk, hk.2.1⟩ : _ ∧ k_ ≠ gb269))) (fun _ hk => hk.2) (.bool x275000_1)) (fun _ hk => hk.2) (.slice Ao20 x275001_1.length co20)) (fun _ hk => hk.1.1), belt HB⟩

end Go.Proofs.Ytdfpkjdhndfcbaa.Print
