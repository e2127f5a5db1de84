/- What each Go function that is named below answers, as a Lean function, and that its walk comes to just that: for whatever arguments that function gives an answer for. Written by a program of this session (wip/mkpr.py, pr.sh). -/
import Derived.Test.YtimgiiceipjpaaaPrint1000
import Derived.Test.YtimgiiceipjpaaaPrint1003
namespace Go.Proofs.Ytimgiiceipjpaaa.Print
open Go.RowKit Go.Proofs.YtimgiiceipjpaaaW.PrintWords Go.Proofs.YtimgiiceipjpaaaW.PrintLast Go.Proofs.YtimgiiceipjpaaaW.PrintMore
attribute [local go_sem] max2_int min2_int max_two min_two max_three min_three max_four min_four   -- for this text's walks alone
open Go.Proofs.Ytimgiiceipjpaaa.Bits Go.Proofs.Ytimgiiceipjpaaa.Short
attribute [local go_sem] add64_run0 sub64_run0 add64_run sub64_run
set_option linter.unusedVariables false
set_option linter.unusedSimpArgs false

/-! ### pos_Floors: function 49 -/
def pos_Floors.l0 : Nat → Int → Int → Int → List (S67) → Int → Int → Option (Int × Int)
 | 0, _, _, _, _, _, _ => none
 | k + 1, x0, x4, x5, x9, x10, x11 => if x11 < x10 then (if 0 ≤ x11 then (if x11 < (x9.length : Int) then ((vtime_Time_Since.f ((rd_T67 x9 x11).f0) x0).bind fun t326 => (if x11 = 0 then (pos_Floors.l0 k x0 (mn t326 t326) (mx t326 t326) x9 x10 (wrap64 (x11 + 1))) else (pos_Floors.l0 k x0 (mn x4 t326) (mx x5 t326) x9 x10 (wrap64 (x11 + 1))))) else (none)) else (none)) else (some (x4, x5))
def pos_Floors.f (k : Nat) (a0 : Int) (l1 : List (S67)) : Option (Int × Int) := pos_Floors.l0 k a0 0 0 l1 (l1.length : Int) 0
theorem pos_Floors.mono_l : ∀ k, (∀ y0 y1 y2 y3 y4 y5, LeO (pos_Floors.l0 k y0 y1 y2 y3 y4 y5) (pos_Floors.l0 (k + 1) y0 y1 y2 y3 y4 y5))
 | 0 => fun _ _ _ _ _ _ r h => by simp [pos_Floors.l0] at h
 | k + 1 => by
  have ih0 := pos_Floors.mono_l k
  ·intro y0 y1 y2 y3 y4 y5
   unfold pos_Floors.l0
   repeat' first
   | (with_reducible exact ih0 _ _ _ _ _ _)
   | (with_reducible exact LeO.refl _)
   | (with_reducible exact LeO.none _)
   | (with_reducible refine LeO.ite ?_ ?_)
   | (with_reducible refine LeO.bind ?_ (fun _ => ?_))
   | exact ih0 _ _ _ _ _ _
   | exact LeO.none _
   | refine LeO.ite ?_ ?_
   | refine LeO.bind ?_ (fun _ => ?_)
theorem pos_Floors.mono : ∀ a0 a1 k, LeO (pos_Floors.f k a0 a1) (pos_Floors.f (k + 1) a0 a1) := by
 intro a0 a1 k
 have ih0 := pos_Floors.mono_l k
 unfold pos_Floors.f
 repeat' first
   | (with_reducible exact ih0 _ _ _ _ _ _)
   | (with_reducible exact LeO.refl _)
   | (with_reducible exact LeO.none _)
   | (with_reducible refine LeO.ite ?_ ?_)
   | (with_reducible refine LeO.bind ?_ (fun _ => ?_))
   | exact ih0 _ _ _ _ _ _
   | exact LeO.none _
   | refine LeO.ite ?_ ?_
   | refine LeO.bind ?_ (fun _ => ?_)
set_option maxHeartbeats 8000000 in
set_option maxRecDepth 100000 in
theorem pos_Floors.calls (k : Nat) (a0 : Int) (A1 : Option Addr) (c1 : Nat) (l1 : List (S67)) (r1 : Int) (r2 : Int) (w : World) (hr1 : Kd.C k67 w A1 l1.length l1) (hc1 : l1.length ≤ c1) (h : pos_Floors.f k a0 l1 = some (r1, r2)) :
  Calls Try.prog 49 #[.int .u64 a0, .slice A1 l1.length c1] w fun e w' => e = .returned (.tuple #[.int .i64 r1, .int .i64 r2]) ∧ Below w.heap.size w w' := by
 have hu67 := Try.underlying67
 have HR1 := Aside0.mk hr1
 have HC1 := Aside0.mk hc1
 clear hr1 hc1
 have HB := Aside0.mk (Below.refl w.heap.size w)
 have H : (pos_Floors.l0 k a0 0 0 l1 (l1.length : Int) 0) = some (r1, r2) := h
 clear h
 have H' := Aside0.mk H
 clear H
 go_enter Try.func49, Try.ntmps49
 go_wp2
 (try simp only [Act.put, List.setIfInBounds_toArray, List.set_cons_zero, List.set_cons_succ])
 go_loopg [4, 5, 11] k (fun kq v4 v5 v11 w' => ∃ (x4_1 : Int) (x5_1 : Int) (x11_1 : Int), v4 = .int .i64 x4_1 ∧ v5 = .int .i64 x5_1 ∧ v11 = .int .i64 x11_1 ∧ Aside0 (pos_Floors.l0 kq a0 x4_1 x5_1 l1 (l1.length : Int) x11_1 = some (r1, r2)) ∧ Aside0 (kq ≤ k) ∧ Aside0 (Below w.heap.size w w'))
 case atStart => exact ⟨(0), (0), (0), (by first | rfl | (simp; done) | (simp [*]; done)), (by first | rfl | (simp; done) | (simp [*]; done)), (by first | rfl | (simp; done) | (simp [*]; done)), H', ⟨Nat.le_refl _⟩, ⟨belt HB⟩⟩
 case round =>
  clear H'
  try clear c1
  try clear p2
  obtain ⟨x4_1, x5_1, x11_1, rfl, rfl, rfl, HA, HK1, HB⟩ := hrel
  cases gk with
  | zero => exact absurd HA.out (by simp [pos_Floors.l0])
  | succ k1 =>
   have H := HA.out
   clear HA
   simp only [pos_Floors.l0] at H
   by_cases c3 : x11_1 < (l1.length : Int)
   ·rw [if_pos c3] at H
    have c3b0 : decide (x11_1 < (l1.length : Int)) = true := decide_eq_true c3
    clear c3
    by_cases c4 : 0 ≤ x11_1
    ·rw [if_pos c4] at H
     have c4b0 : decide (0 ≤ x11_1) = true := decide_eq_true c4
     clear c4
     by_cases c5 : x11_1 < (l1.length : Int)
     ·rw [if_pos c5] at H
      have c5b0 : decide (x11_1 < (l1.length : Int)) = true := decide_eq_true c5
      clear c5
      replace H := Option.bind_eq_some_iff.mp H
      obtain ⟨t326, A60, H⟩ := H
      replace H : (if x11_1 = 0 then (pos_Floors.l0 k1 a0 (mn t326 t326) (mx t326 t326) l1 (l1.length : Int) (wrap64 (x11_1 + 1))) else (pos_Floors.l0 k1 a0 (mn x4_1 t326) (mx x5_1 t326) l1 (l1.length : Int) (wrap64 (x11_1 + 1)))) = some (r1, r2) := H
      have A6 := Aside0.mk A60
      clear A60
      by_cases c7 : x11_1 = 0
      ·rw [if_pos c7] at H
       have c7b0 : (x11_1 == 0) = true := beq_iff_eq.mpr c7
       have c7b1 : (x11_1 != 0) = false := bne_eq_false_iff_eq.mpr c7
       clear c7
       obtain ⟨ji8, hji8⟩ : ∃ j_ : Int, (mn t326 t326) = j_ := ⟨_, rfl⟩
       replace H : (pos_Floors.l0 k1 a0 ji8 (mx t326 t326) l1 (l1.length : Int) (wrap64 (x11_1 + 1))) = some (r1, r2) := by first | (rw [hji8] at H; exact H) | (simp only [hji8] at H ⊢; exact H)
       (try rw [hji8] at A6)
       have hji8_ : (if t326 < t326 then t326 else t326) = ji8 := hji8
       obtain ⟨ji9, hji9⟩ : ∃ j_ : Int, (mx t326 t326) = j_ := ⟨_, rfl⟩
       replace H : (pos_Floors.l0 k1 a0 ji8 ji9 l1 (l1.length : Int) (wrap64 (x11_1 + 1))) = some (r1, r2) := by first | (rw [hji9] at H; exact H) | (simp only [hji9] at H ⊢; exact H)
       (try rw [hji9] at A6)
       have hji9_ : (if t326 < t326 then t326 else t326) = ji9 := hji9
       have H' := Aside0.mk H
       clear H
       have p324 : 0 ≤ (x11_1 : Int) := of_decide_eq_true (by first | (with_reducible assumption) | assumption)
       have q324 : x11_1 < (l1.length : Int) := of_decide_eq_true (by first | (with_reducible assumption) | assumption)
       obtain ⟨ad324, e324, hx324_0, hx324_1, hx324_2⟩ := at_T67 HR1.out x11_1 p324 q324
       cases e324
       replace hx324_0 := (HB.out.cell (World.block_lt_of_cell? w _ hx324_0)).trans hx324_0
       replace hx324_1 := (HB.out.cell (World.block_lt_of_cell? w _ hx324_1)).trans hx324_1
       replace hx324_2 := (HB.out.cell (World.block_lt_of_cell? w _ hx324_2)).trans hx324_2
       replace p324 := eq_true p324
       replace q324 := eq_true q324
       go_wp2_with (first | ((with_reducible refine gate_dst (N := 7) rfl ?_); refine box_event ?hg (N := 7) ?hd (cs := #[.int .u64 0, .int .u32 0, .int .u32 0]) (t := 67) ?hr ?_; (case hd => rfl); (case hg => rfl); (case hr => first | (go_simp; done) | (go_simp; rfl)); intro gb325 hg w10 hbox hb; have BK325 := Aside0.mk (hbox); have GW325 := bels HB hg; have GE325 := bels HB hg; replace HB := belb HB hb; clear hb hbox hg; have hcz11_0 : w10.cell? ⟨gb325, 0, none⟩ = some (.int .u64 0) := bc BK325 0; have hcz11_1 : w10.cell? ⟨gb325, 1, none⟩ = some (.int .u32 0) := bc BK325 1; have hcz11_2 : w10.cell? ⟨gb325, 2, none⟩ = some (.int .u32 0) := bc BK325 2; have hfz11_0 := blk_frozen BK325.out 0; have hfz11_1 := blk_frozen BK325.out 1; have hfz11_2 := blk_frozen BK325.out 2) | ((with_reducible refine gate_callee (f := 20) rfl ?_); refine goesL_ (some 19) rfl rfl Try.func20 (by kernel_rfl) rfl #[.int .u64 ((rd_T67 l1 x11_1).f0), .int .u64 a0] rfl argt ?_; (with_reducible refine (vtime_Time_Since.calls ((rd_T67 l1 x11_1).f0) a0 t326 _ A6.out).mono ?_); rintro e w' ⟨rfl, ⟨nd, rfl⟩⟩; refine ⟨_, rfl, ?_⟩))
       go_roundg k1
       case measure => have := HK1.out; omega
       case rel => exact ⟨(ji8), (ji9), (wrap64 (x11_1 + 1)), (by first | rfl | (simp; done) | (simp only [← hji8]; first | rfl | (simp; done) | (simp [mn, mx]; done)) | (simp [*]; done)), (by first | rfl | (simp; done) | (simp only [← hji9]; first | rfl | (simp; done) | (simp [mn, mx]; done)) | (simp [*]; done)), (by first | rfl | (simp; done) | (simp [*]; done)), H', ⟨by have := HK1.out; omega⟩, ⟨belt HB⟩⟩
      rw [if_neg c7] at H
      have c7b0 : (x11_1 == 0) = false := beq_eq_false_iff_ne.mpr c7
      have c7b1 : (x11_1 != 0) = true := bne_iff_ne.mpr c7
      obtain ⟨ji12, hji12⟩ : ∃ j_ : Int, (mn x4_1 t326) = j_ := ⟨_, rfl⟩
      replace H : (pos_Floors.l0 k1 a0 ji12 (mx x5_1 t326) l1 (l1.length : Int) (wrap64 (x11_1 + 1))) = some (r1, r2) := by first | (rw [hji12] at H; exact H) | (simp only [hji12] at H ⊢; exact H)
      (try rw [hji12] at A6)
      have hji12_ : (if t326 < x4_1 then t326 else x4_1) = ji12 := hji12
      obtain ⟨ji13, hji13⟩ : ∃ j_ : Int, (mx x5_1 t326) = j_ := ⟨_, rfl⟩
      replace H : (pos_Floors.l0 k1 a0 ji12 ji13 l1 (l1.length : Int) (wrap64 (x11_1 + 1))) = some (r1, r2) := by first | (rw [hji13] at H; exact H) | (simp only [hji13] at H ⊢; exact H)
      (try rw [hji13] at A6)
      have hji13_ : (if x5_1 < t326 then t326 else x5_1) = ji13 := hji13
      have H' := Aside0.mk H
      clear H
      have p324 : 0 ≤ (x11_1 : Int) := of_decide_eq_true (by first | (with_reducible assumption) | assumption)
      have q324 : x11_1 < (l1.length : Int) := of_decide_eq_true (by first | (with_reducible assumption) | assumption)
      obtain ⟨ad324, e324, hx324_0, hx324_1, hx324_2⟩ := at_T67 HR1.out x11_1 p324 q324
      cases e324
      replace hx324_0 := (HB.out.cell (World.block_lt_of_cell? w _ hx324_0)).trans hx324_0
      replace hx324_1 := (HB.out.cell (World.block_lt_of_cell? w _ hx324_1)).trans hx324_1
      replace hx324_2 := (HB.out.cell (World.block_lt_of_cell? w _ hx324_2)).trans hx324_2
      replace p324 := eq_true p324
      replace q324 := eq_true q324
      go_wp2_with (first | ((with_reducible refine gate_dst (N := 7) rfl ?_); refine box_event ?hg (N := 7) ?hd (cs := #[.int .u64 0, .int .u32 0, .int .u32 0]) (t := 67) ?hr ?_; (case hd => rfl); (case hg => rfl); (case hr => first | (go_simp; done) | (go_simp; rfl)); intro gb325 hg w14 hbox hb; have BK325 := Aside0.mk (hbox); have GW325 := bels HB hg; have GE325 := bels HB hg; replace HB := belb HB hb; clear hb hbox hg; have hcz15_0 : w14.cell? ⟨gb325, 0, none⟩ = some (.int .u64 0) := bc BK325 0; have hcz15_1 : w14.cell? ⟨gb325, 1, none⟩ = some (.int .u32 0) := bc BK325 1; have hcz15_2 : w14.cell? ⟨gb325, 2, none⟩ = some (.int .u32 0) := bc BK325 2; have hfz15_0 := blk_frozen BK325.out 0; have hfz15_1 := blk_frozen BK325.out 1; have hfz15_2 := blk_frozen BK325.out 2) | ((with_reducible refine gate_callee (f := 20) rfl ?_); refine goesL_ (some 19) rfl rfl Try.func20 (by kernel_rfl) rfl #[.int .u64 ((rd_T67 l1 x11_1).f0), .int .u64 a0] rfl argt ?_; (with_reducible refine (vtime_Time_Since.calls ((rd_T67 l1 x11_1).f0) a0 t326 _ A6.out).mono ?_); rintro e w' ⟨rfl, ⟨nd, rfl⟩⟩; refine ⟨_, rfl, ?_⟩))
      go_roundg k1
      case measure => have := HK1.out; omega
      case rel => exact ⟨(ji12), (ji13), (wrap64 (x11_1 + 1)), (by first | rfl | (simp; done) | (simp only [← hji12]; first | rfl | (simp; done) | (simp [mn, mx]; done)) | (simp [*]; done)), (by first | rfl | (simp; done) | (simp only [← hji13]; first | rfl | (simp; done) | (simp [mn, mx]; done)) | (simp [*]; done)), (by first | rfl | (simp; done) | (simp [*]; done)), H', ⟨by have := HK1.out; omega⟩, ⟨belt HB⟩⟩
     rw [if_neg c5] at H
     exact absurd H (by simp)
    rw [if_neg c4] at H
    exact absurd H (by simp)
   rw [if_neg c3] at H
   have c3b0 : decide (x11_1 < (l1.length : Int)) = false := decide_eq_false c3
   clear c3
   simp only [Option.some.injEq, Prod.mk.injEq] at H
   obtain ⟨rfl, rfl⟩ := H
   go_wp2
   go_ret2
   exact ⟨by first | rfl | (simp [errW_none, errW_some] <;> rfl) | (simp [*, errW_none, errW_some] <;> rfl), belt HB⟩

end Go.Proofs.Ytimgiiceipjpaaa.Print
