/- What each Go function that is named below answers, as a Lean function, and that its walk comes to just that: for whatever arguments that function gives an answer for. Written by a program of this session (wip/mkpr.py, pr.sh). -/
import Derived.Test.YtdfpkjdhndfcbaaPrint1000
import Derived.Test.YtdfpkjdhndfcbaaPrint1005
namespace Go.Proofs.Ytdfpkjdhndfcbaa.Print
open Go.RowKit Go.Proofs.YtdfpkjdhndfcbaaW.PrintWords Go.Proofs.YtdfpkjdhndfcbaaW.PrintLast Go.Proofs.YtdfpkjdhndfcbaaW.PrintMore
attribute [local go_sem] max2_int min2_int max_two min_two max_three min_three max_four min_four   -- for this text's walks alone
open Go.Proofs.Ytdfpkjdhndfcbaa.Bits Go.Proofs.Ytdfpkjdhndfcbaa.Short
attribute [local go_sem] add64_run0 sub64_run0 add64_run sub64_run
set_option linter.unusedVariables false
set_option linter.unusedSimpArgs false

/-! ### turnstonelaw05_near: function 7 -/
def turnstonelaw05_near.l0 : Nat → Int → List (S26) → Int → Int → Int → Int → Int → Int → Int → Int → Int → Option (Bool)
 | 0, _, _, _, _, _, _, _, _, _, _, _ => none
 | k + 1, x0, x12, x13, x14, x129000, x129001, x129002, x129003, x129004, x129005, x129006 => if x14 < x13 then (if 0 ≤ x14 then (if x14 < (x12.length : Int) then ((vtime_Time_Since.f ((rd_T26 x12 x14).f0) x0).bind fun t134 => (if t134 ≤ (-1152921504606846976) then (some false) else (if t134 ≥ 1152921504606846976 then (some false) else (turnstonelaw05_near.l0 k x0 x12 x13 (wrap64 (x14 + 1)) x129000 x129001 x129002 x129003 x129004 x129005 x129006)))) else (none)) else (none)) else ((item_Item_Right.f x129000 x129001 x129002 x129003 x129004 x129005 x129006).bind fun t135 => (some t135))
def turnstonelaw05_near.f (k : Nat) (a0 : Int) (a1_0 : Int) (a1_1 : Int) (a1_2 : Int) (a1_3 : Int) (a1_4 : Int) (a1_5 : Int) (a1_6 : Int) : Option (Bool) := (some (([(⟨a1_0, a1_1, a1_2⟩ : S26), (⟨a1_4, a1_5, a1_6⟩ : S26)] : List (S26)) : List (S26))).bind fun y129 => (turnstonelaw05_near.l0 k a0 y129 (y129.length : Int) 0 a1_0 a1_1 a1_2 a1_3 a1_4 a1_5 a1_6)
theorem turnstonelaw05_near.mono_l : ∀ k, (∀ y0 y1 y2 y3 y4 y5 y6 y7 y8 y9 y10, LeO (turnstonelaw05_near.l0 k y0 y1 y2 y3 y4 y5 y6 y7 y8 y9 y10) (turnstonelaw05_near.l0 (k + 1) y0 y1 y2 y3 y4 y5 y6 y7 y8 y9 y10))
 | 0 => fun _ _ _ _ _ _ _ _ _ _ _ r h => by simp [turnstonelaw05_near.l0] at h
 | k + 1 => by
  have ih0 := turnstonelaw05_near.mono_l k
  ·intro y0 y1 y2 y3 y4 y5 y6 y7 y8 y9 y10
   unfold turnstonelaw05_near.l0
   repeat' first
   | (with_reducible exact ih0 _ _ _ _ _ _ _ _ _ _ _)
   | (with_reducible exact LeO.refl _)
   | (with_reducible exact LeO.none _)
   | (with_reducible refine LeO.ite ?_ ?_)
   | (with_reducible refine LeO.bind ?_ (fun _ => ?_))
   | exact ih0 _ _ _ _ _ _ _ _ _ _ _
   | exact LeO.none _
   | refine LeO.ite ?_ ?_
   | refine LeO.bind ?_ (fun _ => ?_)
theorem turnstonelaw05_near.mono : ∀ a0 a1 a2 a3 a4 a5 a6 a7 k, LeO (turnstonelaw05_near.f k a0 a1 a2 a3 a4 a5 a6 a7) (turnstonelaw05_near.f (k + 1) a0 a1 a2 a3 a4 a5 a6 a7) := by
 intro a0 a1 a2 a3 a4 a5 a6 a7 k
 have ih0 := turnstonelaw05_near.mono_l k
 unfold turnstonelaw05_near.f
 repeat' first
   | (with_reducible exact ih0 _ _ _ _ _ _ _ _ _ _ _)
   | (with_reducible exact LeO.refl _)
   | (with_reducible exact LeO.none _)
   | (with_reducible refine LeO.ite ?_ ?_)
   | (with_reducible refine LeO.bind ?_ (fun _ => ?_))
   | exact ih0 _ _ _ _ _ _ _ _ _ _ _
   | exact LeO.none _
   | refine LeO.ite ?_ ?_
   | refine LeO.bind ?_ (fun _ => ?_)
set_option maxHeartbeats 8000000 in
set_option maxRecDepth 100000 in
theorem turnstonelaw05_near.calls (k : Nat) (a0 : Int) (a1_0 : Int) (a1_1 : Int) (a1_2 : Int) (a1_3 : Int) (a1_4 : Int) (a1_5 : Int) (a1_6 : Int) (r : Bool) (w : World) (h : turnstonelaw05_near.f k a0 a1_0 a1_1 a1_2 a1_3 a1_4 a1_5 a1_6 = some r) :
  Calls Try.prog 7 #[.int .u64 a0, .agg #[.int .u64 a1_0, .int .u32 a1_1, .int .u32 a1_2, .int .i64 a1_3, .int .u64 a1_4, .int .u32 a1_5, .int .u32 a1_6]] w fun e w' => e = .returned (.bool r) ∧ Below w.heap.size w w' := by
 have hu28 := Try.underlying28
 have hu26 := Try.underlying26
 have HB := Aside0.mk (Below.refl w.heap.size w)
 have H : ((some (([(⟨a1_0, a1_1, a1_2⟩ : S26), (⟨a1_4, a1_5, a1_6⟩ : S26)] : List (S26)) : List (S26))).bind fun y129 => (turnstonelaw05_near.l0 k a0 y129 (y129.length : Int) 0 a1_0 a1_1 a1_2 a1_3 a1_4 a1_5 a1_6)) = some r := h
 clear h
 obtain ⟨y129, hy129⟩ : ∃ y_ : List (S26), y_ = (([(⟨a1_0, a1_1, a1_2⟩ : S26), (⟨a1_4, a1_5, a1_6⟩ : S26)] : List (S26))) := ⟨_, rfl⟩
 replace H : (turnstonelaw05_near.l0 k a0 y129 (y129.length : Int) 0 a1_0 a1_1 a1_2 a1_3 a1_4 a1_5 a1_6) = some r := by first | (rw [hy129]; with_reducible exact H) | (have H2_ := (Option.bind_some _ _).symm.trans H; rw [hy129]; with_reducible exact H2_) | (have H2_ := (Option.bind_some _ _).symm.trans H; with_reducible exact H2_) | with_reducible exact H | (rw [hy129]; exact H) | exact H
 have Ny129 := Aside0.mk hy129
 clear hy129
 have H' := Aside0.mk H
 clear H
 go_enter Try.func7, Try.ntmps7
 go_wp2_with (first | ((with_reducible refine gate_dst (N := 3) rfl ?_); refine box_event ?hg (N := 3) ?hd (cs := #[.int .u64 a1_0, .int .u32 a1_1, .int .u32 a1_2, .int .i64 a1_3, .int .u64 a1_4, .int .u32 a1_5, .int .u32 a1_6]) (t := 28) ?hr ?_; (case hd => rfl); (case hg => rfl); (case hr => first | (go_simp; done) | (go_simp; rfl)); intro gb128 hg w3 hbox hb; have BK128 := Aside0.mk (hbox); have GW128 := bels HB hg; have GE128 := bels HB hg; replace HB := belb HB hb; clear hb hbox hg; have hcz4_0 : w3.cell? ⟨gb128, 0, none⟩ = some (.int .u64 a1_0) := bc BK128 0; have hcz4_1 : w3.cell? ⟨gb128, 1, none⟩ = some (.int .u32 a1_1) := bc BK128 1; have hcz4_2 : w3.cell? ⟨gb128, 2, none⟩ = some (.int .u32 a1_2) := bc BK128 2; have hcz4_3 : w3.cell? ⟨gb128, 3, none⟩ = some (.int .i64 a1_3) := bc BK128 3; have hcz4_4 : w3.cell? ⟨gb128, 4, none⟩ = some (.int .u64 a1_4) := bc BK128 4; have hcz4_5 : w3.cell? ⟨gb128, 5, none⟩ = some (.int .u32 a1_5) := bc BK128 5; have hcz4_6 : w3.cell? ⟨gb128, 6, none⟩ = some (.int .u32 a1_6) := bc BK128 6; have hfz4_0 := blk_frozen BK128.out 0; have hfz4_1 := blk_frozen BK128.out 1; have hfz4_2 := blk_frozen BK128.out 2; have hfz4_3 := blk_frozen BK128.out 3; have hfz4_4 := blk_frozen BK128.out 4; have hfz4_5 := blk_frozen BK128.out 5; have hfz4_6 := blk_frozen BK128.out 6) | ((with_reducible refine gate_dst (N := 12) rfl ?_); refine Kd.R_lit k26 _ 26 ?hg (N := 12) ?hd (xs := ([(⟨a1_0, a1_1, a1_2⟩ : S26), (⟨a1_4, a1_5, a1_6⟩ : S26)] : List (S26))) (inner := [.int .u64 a1_0, .int .u32 a1_1, .int .u32 a1_2, .int .u64 a1_4, .int .u32 a1_5, .int .u32 a1_6]) (ok := fun _ => True) (okp := fun _ => True) ?hr ?hp (fun _ hk => hk) trivial (Below.refl _ _) (Nat.le_refl _) (by simp) ?_; (case hd => rfl); (case hg => rfl); (case hr => first | (go_simp; done) | (go_simp; rfl)); (case hp => exact (Reps.c3 (show Kd.M k26 _ _ _ (⟨a1_0, a1_1, a1_2⟩ : S26) [.int .u64 a1_0, .int .u32 a1_1, .int .u32 a1_2] from (k26_mkM _ _ _ (⟨a1_0, a1_1, a1_2⟩ : S26) )) (Reps.c3 (show Kd.M k26 _ _ _ (⟨a1_4, a1_5, a1_6⟩ : S26) [.int .u64 a1_4, .int .u32 a1_5, .int .u32 a1_6] from (k26_mkM _ _ _ (⟨a1_4, a1_5, a1_6⟩ : S26) )) (Reps.none _ _)))); intro v130 w5 ho6 hb hg_ hnew_; clear hg_ hnew_; (first | rw [← Ny129.out] at ho6 | (simp only [Int.reduceToNat] at ho6; rw [← Ny129.out] at ho6)); have HO131 := Aside0.mk (Kd.R_lower ho6 (below_size (belt HB))); replace BK128 := blkb BK128 hb; replace HB := belb HB hb; clear hb ho6; obtain ⟨Ao7, co7, eo7⟩ := Kd.R_slice HO131.out; subst eo7))
 (try simp only [Act.put, List.setIfInBounds_toArray, List.set_cons_zero, List.set_cons_succ])
 go_loopg [14] k (fun kq v14 w' => ∃ (x14_1 : Int), v14 = .int .i64 x14_1 ∧ Aside0 (turnstonelaw05_near.l0 kq a0 y129 (y129.length : Int) x14_1 a1_0 a1_1 a1_2 a1_3 a1_4 a1_5 a1_6 = some r) ∧ Aside0 (kq ≤ k) ∧ Aside0 (Kd.R k26 26 w' w.heap.size (fun _ => True) (.slice Ao7 y129.length co7) y129) ∧ Aside0 (w'.heap[gb128]? = some (.cells #[.int .u64 a1_0, .int .u32 a1_1, .int .u32 a1_2, .int .i64 a1_3, .int .u64 a1_4, .int .u32 a1_5, .int .u32 a1_6] 28 (0, 0))) ∧ Aside0 (Below w.heap.size w w'))
 case atStart => exact ⟨(0), (by first | rfl | (simp; done) | (simp [*]; done)), H', ⟨Nat.le_refl _⟩, ⟨by (with_reducible repeat (first | apply Kd.R_alloc | apply Kd.R_drewN | apply Kd.R_drew)); exact HO131.out⟩, ⟨blkt BK128⟩, ⟨belt HB⟩⟩
 case round =>
  clear H'
  try clear p2
  try clear c3
  try clear c7
  try clear hcz4_0
  try clear hcz4_1
  try clear hcz4_2
  try clear hcz4_3
  try clear hcz4_4
  try clear hcz4_5
  try clear hcz4_6
  try clear hfz4_0
  try clear hfz4_1
  try clear hfz4_2
  try clear hfz4_3
  try clear hfz4_4
  try clear hfz4_5
  try clear hfz4_6
  obtain ⟨x14_1, rfl, HA, HK1, HO_12, BK128, HB⟩ := hrel
  cases gk with
  | zero => exact absurd HA.out (by simp [turnstonelaw05_near.l0])
  | succ k1 =>
   have H := HA.out
   clear HA
   simp only [turnstonelaw05_near.l0] at H
   by_cases c8 : x14_1 < (y129.length : Int)
   ·rw [if_pos c8] at H
    have c8b0 : decide (x14_1 < (y129.length : Int)) = true := decide_eq_true c8
    clear c8
    by_cases c9 : 0 ≤ x14_1
    ·rw [if_pos c9] at H
     have c9b0 : decide (0 ≤ x14_1) = true := decide_eq_true c9
     clear c9
     by_cases c10 : x14_1 < (y129.length : Int)
     ·rw [if_pos c10] at H
      have c10b0 : decide (x14_1 < (y129.length : Int)) = true := decide_eq_true c10
      clear c10
      replace H := Option.bind_eq_some_iff.mp H
      obtain ⟨t134, A110, H⟩ := H
      replace H : (if t134 ≤ (-1152921504606846976) then (some false) else (if t134 ≥ 1152921504606846976 then (some false) else (turnstonelaw05_near.l0 k1 a0 y129 (y129.length : Int) (wrap64 (x14_1 + 1)) a1_0 a1_1 a1_2 a1_3 a1_4 a1_5 a1_6))) = some r := H
      have A11 := Aside0.mk A110
      clear A110
      by_cases c12 : t134 ≤ (-1152921504606846976)
      ·rw [if_pos c12] at H
       have c12b0 : decide (t134 ≤ (-1152921504606846976)) = true := decide_eq_true c12
       clear c12
       obtain rfl := Option.some.inj H
       have p132 : 0 ≤ (x14_1 : Int) := of_decide_eq_true (by first | (with_reducible assumption) | assumption)
       have q132 : x14_1 < (y129.length : Int) := of_decide_eq_true (by first | (with_reducible assumption) | assumption)
       obtain ⟨ad132, e132, hx132_0, hx132_1, hx132_2⟩ := at_T26 (Kd.R_reads' HO_12.out).2.2 x14_1 p132 q132
       cases e132
       replace p132 := eq_true p132
       replace q132 := eq_true q132
       go_wp2_with (first | ((with_reducible refine gate_dst (N := 6) rfl ?_); refine box_event ?hg (N := 6) ?hd (cs := #[.int .u64 0, .int .u32 0, .int .u32 0]) (t := 26) ?hr ?_; (case hd => rfl); (case hg => rfl); (case hr => first | (go_simp; done) | (go_simp; rfl)); intro gb133 hg w13 hbox hb; replace HO_12 := Aside0.mk (Kd.R_below (Kd.R_elderB (rt HO_12) gb133 (Nat.le_of_eq hg.symm)) hb); have BK133 := Aside0.mk (hbox); have GW133 := bels HB hg; have GE133 := bels HB hg; have NB128_133 := blkl BK128 hg; have NB133_128 := blkg BK128 hg; replace BK128 := blkb BK128 hb; replace HB := belb HB hb; clear hb hbox hg; have hnb14 := NB133_128.out; have hnc14 := NB128_133.out; have hcz15_0 : w13.cell? ⟨gb133, 0, none⟩ = some (.int .u64 0) := bc BK133 0; have hcz15_1 : w13.cell? ⟨gb133, 1, none⟩ = some (.int .u32 0) := bc BK133 1; have hcz15_2 : w13.cell? ⟨gb133, 2, none⟩ = some (.int .u32 0) := bc BK133 2; have hfz15_0 := blk_frozen BK133.out 0; have hfz15_1 := blk_frozen BK133.out 1; have hfz15_2 := blk_frozen BK133.out 2) | ((with_reducible refine gate_callee (f := 24) rfl ?_); refine goesL_ (some 21) rfl rfl Try.func24 (by kernel_rfl) rfl #[.int .u64 ((rd_T26 y129 x14_1).f0), .int .u64 a0] rfl argt ?_; (with_reducible refine (vtime_Time_Since.calls ((rd_T26 y129 x14_1).f0) a0 t134 _ A11.out).mono ?_); rintro e w' ⟨rfl, ⟨nd, rfl⟩⟩; refine ⟨_, rfl, ?_⟩))
       go_ret
       exact ⟨by first | rfl | (simp [errW_none, errW_some] <;> rfl) | (simp [*, errW_none, errW_some] <;> rfl), belt HB⟩
      rw [if_neg c12] at H
      have c12b0 : decide (t134 ≤ (-1152921504606846976)) = false := decide_eq_false c12
      clear c12
      by_cases c16 : t134 ≥ 1152921504606846976
      ·rw [if_pos c16] at H
       have c16b0 : decide (1152921504606846976 ≤ t134) = true := decide_eq_true c16
       clear c16
       obtain rfl := Option.some.inj H
       have p132 : 0 ≤ (x14_1 : Int) := of_decide_eq_true (by first | (with_reducible assumption) | assumption)
       have q132 : x14_1 < (y129.length : Int) := of_decide_eq_true (by first | (with_reducible assumption) | assumption)
       obtain ⟨ad132, e132, hx132_0, hx132_1, hx132_2⟩ := at_T26 (Kd.R_reads' HO_12.out).2.2 x14_1 p132 q132
       cases e132
       replace p132 := eq_true p132
       replace q132 := eq_true q132
       go_wp2_with (first | ((with_reducible refine gate_dst (N := 6) rfl ?_); refine box_event ?hg (N := 6) ?hd (cs := #[.int .u64 0, .int .u32 0, .int .u32 0]) (t := 26) ?hr ?_; (case hd => rfl); (case hg => rfl); (case hr => first | (go_simp; done) | (go_simp; rfl)); intro gb133 hg w17 hbox hb; replace HO_12 := Aside0.mk (Kd.R_below (Kd.R_elderB (rt HO_12) gb133 (Nat.le_of_eq hg.symm)) hb); have BK133 := Aside0.mk (hbox); have GW133 := bels HB hg; have GE133 := bels HB hg; have NB128_133 := blkl BK128 hg; have NB133_128 := blkg BK128 hg; replace BK128 := blkb BK128 hb; replace HB := belb HB hb; clear hb hbox hg; have hnb18 := NB133_128.out; have hnc18 := NB128_133.out; have hcz19_0 : w17.cell? ⟨gb133, 0, none⟩ = some (.int .u64 0) := bc BK133 0; have hcz19_1 : w17.cell? ⟨gb133, 1, none⟩ = some (.int .u32 0) := bc BK133 1; have hcz19_2 : w17.cell? ⟨gb133, 2, none⟩ = some (.int .u32 0) := bc BK133 2; have hfz19_0 := blk_frozen BK133.out 0; have hfz19_1 := blk_frozen BK133.out 1; have hfz19_2 := blk_frozen BK133.out 2) | ((with_reducible refine gate_callee (f := 24) rfl ?_); refine goesL_ (some 21) rfl rfl Try.func24 (by kernel_rfl) rfl #[.int .u64 ((rd_T26 y129 x14_1).f0), .int .u64 a0] rfl argt ?_; (with_reducible refine (vtime_Time_Since.calls ((rd_T26 y129 x14_1).f0) a0 t134 _ A11.out).mono ?_); rintro e w' ⟨rfl, ⟨nd, rfl⟩⟩; refine ⟨_, rfl, ?_⟩))
       go_ret
       exact ⟨by first | rfl | (simp [errW_none, errW_some] <;> rfl) | (simp [*, errW_none, errW_some] <;> rfl), belt HB⟩
      rw [if_neg c16] at H
      have c16b0 : decide (1152921504606846976 ≤ t134) = false := decide_eq_false c16
      clear c16
      have H' := Aside0.mk H
      clear H
      have p132 : 0 ≤ (x14_1 : Int) := of_decide_eq_true (by first | (with_reducible assumption) | assumption)
      have q132 : x14_1 < (y129.length : Int) := of_decide_eq_true (by first | (with_reducible assumption) | assumption)
      obtain ⟨ad132, e132, hx132_0, hx132_1, hx132_2⟩ := at_T26 (Kd.R_reads' HO_12.out).2.2 x14_1 p132 q132
      cases e132
      replace p132 := eq_true p132
      replace q132 := eq_true q132
      go_wp2_with (first | ((with_reducible refine gate_dst (N := 6) rfl ?_); refine box_event ?hg (N := 6) ?hd (cs := #[.int .u64 0, .int .u32 0, .int .u32 0]) (t := 26) ?hr ?_; (case hd => rfl); (case hg => rfl); (case hr => first | (go_simp; done) | (go_simp; rfl)); intro gb133 hg w20 hbox hb; replace HO_12 := Aside0.mk (Kd.R_below (Kd.R_elderB (rt HO_12) gb133 (Nat.le_of_eq hg.symm)) hb); have BK133 := Aside0.mk (hbox); have GW133 := bels HB hg; have GE133 := bels HB hg; have NB128_133 := blkl BK128 hg; have NB133_128 := blkg BK128 hg; replace BK128 := blkb BK128 hb; replace HB := belb HB hb; clear hb hbox hg; have hnb21 := NB133_128.out; have hnc21 := NB128_133.out; have hcz22_0 : w20.cell? ⟨gb133, 0, none⟩ = some (.int .u64 0) := bc BK133 0; have hcz22_1 : w20.cell? ⟨gb133, 1, none⟩ = some (.int .u32 0) := bc BK133 1; have hcz22_2 : w20.cell? ⟨gb133, 2, none⟩ = some (.int .u32 0) := bc BK133 2; have hfz22_0 := blk_frozen BK133.out 0; have hfz22_1 := blk_frozen BK133.out 1; have hfz22_2 := blk_frozen BK133.out 2) | ((with_reducible refine gate_callee (f := 24) rfl ?_); refine goesL_ (some 21) rfl rfl Try.func24 (by kernel_rfl) rfl #[.int .u64 ((rd_T26 y129 x14_1).f0), .int .u64 a0] rfl argt ?_; (with_reducible refine (vtime_Time_Since.calls ((rd_T26 y129 x14_1).f0) a0 t134 _ A11.out).mono ?_); rintro e w' ⟨rfl, ⟨nd, rfl⟩⟩; refine ⟨_, rfl, ?_⟩))
      go_roundg k1
      case measure => have := HK1.out; omega
      case rel => exact ⟨(wrap64 (x14_1 + 1)), (by first | rfl | (simp; done) | (simp [*]; done)), H', ⟨by have := HK1.out; omega⟩, ⟨by (with_reducible repeat (first | apply Kd.R_alloc | apply Kd.R_drewN | apply Kd.R_drew)); exact Kd.R_mono (Kd.R_far (p := ⟨gb133, 2, none⟩) (Kd.R_far (p := ⟨gb133, 1, none⟩) (Kd.R_far (p := ⟨gb133, 0, none⟩) (Kd.R_mono HO_12.out (fun k_ hk => (⟨hk, hk.2⟩ : _ ∧ k_ ≠ gb133))) (fun _ hk => hk.2) (.int .u64 ((rd_T26 y129 x14_1).f0))) (fun _ hk => hk.2) (.int .u32 ((rd_T26 y129 x14_1).f1))) (fun _ hk => hk.2) (.int .u32 ((rd_T26 y129 x14_1).f2))) (fun _ hk => trivial)⟩, ⟨by (with_reducible repeat (first | refine blk_drewN ?_ _ | refine blk_drew ?_ | refine blk_alloc ?_ _)); refine blk_far ?_ NB128_133.out _; (with_reducible repeat (first | refine blk_drewN ?_ _ | refine blk_drew ?_ | refine blk_alloc ?_ _)); refine blk_far ?_ NB128_133.out _; (with_reducible repeat (first | refine blk_drewN ?_ _ | refine blk_drew ?_ | refine blk_alloc ?_ _)); refine blk_far ?_ NB128_133.out _; exact blkt BK128⟩, ⟨belt HB⟩⟩
     rw [if_neg c10] at H
     exact absurd H (by simp)
    rw [if_neg c9] at H
    exact absurd H (by simp)
   rw [if_neg c8] at H
   have c8b0 : decide (x14_1 < (y129.length : Int)) = false := decide_eq_false c8
   clear c8
   replace H := Option.bind_eq_some_iff.mp H
   obtain ⟨t135, A230, H⟩ := H
   replace H : (some t135) = some r := H
   have A23 := Aside0.mk A230
   clear A230
   obtain rfl := Option.some.inj H
   have hcz24_0 : wr.cell? ⟨gb128, 0, none⟩ = some (.int .u64 a1_0) := bc BK128 0
   have hcz24_1 : wr.cell? ⟨gb128, 1, none⟩ = some (.int .u32 a1_1) := bc BK128 1
   have hcz24_2 : wr.cell? ⟨gb128, 2, none⟩ = some (.int .u32 a1_2) := bc BK128 2
   have hcz24_3 : wr.cell? ⟨gb128, 3, none⟩ = some (.int .i64 a1_3) := bc BK128 3
   have hcz24_4 : wr.cell? ⟨gb128, 4, none⟩ = some (.int .u64 a1_4) := bc BK128 4
   have hcz24_5 : wr.cell? ⟨gb128, 5, none⟩ = some (.int .u32 a1_5) := bc BK128 5
   have hcz24_6 : wr.cell? ⟨gb128, 6, none⟩ = some (.int .u32 a1_6) := bc BK128 6
   have hfz24_0 := blk_frozen BK128.out 0
   have hfz24_1 := blk_frozen BK128.out 1
   have hfz24_2 := blk_frozen BK128.out 2
   have hfz24_3 := blk_frozen BK128.out 3
   have hfz24_4 := blk_frozen BK128.out 4
   have hfz24_5 := blk_frozen BK128.out 5
   have hfz24_6 := blk_frozen BK128.out 6
   go_wp2_with (first | ((with_reducible refine gate_callee (f := 11) rfl ?_); refine goesL_ (some 30) rfl rfl Try.func11 (by kernel_rfl) rfl #[.agg #[.int .u64 a1_0, .int .u32 a1_1, .int .u32 a1_2, .int .i64 a1_3, .int .u64 a1_4, .int .u32 a1_5, .int .u32 a1_6]] rfl argt ?_; (with_reducible refine (item_Item_Right.calls a1_0 a1_1 a1_2 a1_3 a1_4 a1_5 a1_6 t135 _ A23.out).mono ?_); rintro e w25 ⟨rfl, hb⟩; refine ⟨_, rfl, ?_⟩; replace HO_12 := rb HO_12 hb; replace BK128 := blkb BK128 hb; replace HB := belb HB hb; (try clear hb); (try clear hb2); (try clear hk); (try clear hi)))
   go_ret
   exact ⟨by first | rfl | (simp [errW_none, errW_some] <;> rfl) | (simp [*, errW_none, errW_some] <;> rfl), belt HB⟩

end Go.Proofs.Ytdfpkjdhndfcbaa.Print
