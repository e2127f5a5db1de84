/- What each Go function that is named below answers, as a Lean function, and that its walk comes to just that: for whatever arguments that function gives an answer for. Written by a program of this session (wip/mkpr.py, pr.sh). -/
import Derived.Test.YtimgiiceipjpaaaPrint0
import Derived.Test.YtimgiiceipjpaaaPrint3
import Derived.Test.YtimgiiceipjpaaaPrint6
import Derived.Test.YtimgiiceipjpaaaPrint10
import Derived.Test.YtimgiiceipjpaaaPrint11
namespace Go.Proofs.Ytimgiiceipjpaaa.Print
open Go.RowKit Go.Proofs.YtimgiiceipjpaaaW.PrintWords Go.Proofs.YtimgiiceipjpaaaW.PrintLast Go.Proofs.YtimgiiceipjpaaaW.PrintMore
attribute [local go_sem] max2_int min2_int max_two min_two max_three min_three max_four min_four   -- for this text's walks alone
open Go.Proofs.Ytimgiiceipjpaaa.Bits Go.Proofs.Ytimgiiceipjpaaa.Short
attribute [local go_sem] add64_run0 sub64_run0 add64_run sub64_run
set_option linter.unusedVariables false
set_option linter.unusedSimpArgs false

/-! ### turnstoneref02_All: function 35 -/
def turnstoneref02_All.l0 : Nat → Int → List Int → Int → Int → Bool → List Int → Option (Bool × List Int)
 | 0, _, _, _, _, _, _ => none
 | k + 1, x0, x12, x13, x14, x234000, x234001 => if x14 < x13 then (if 0 ≤ x14 then (if x14 < (x12.length : Int) then ((turnstoneref01_U.f k (rd x12 x14)).bind fun bt235 => ((turnstoneref01_U.f k x0).bind fun bt239 => ((turnstoneref01_Mul.f k bt235.1 bt235.2 bt239.1 bt239.2).bind fun bt243 => ((turnstoneref01_Add.f k x234000 x234001 bt243.1 bt243.2).bind fun bt247 => (turnstoneref02_All.l0 k x0 x12 x13 (wrap64 (x14 + 1)) bt247.1 bt247.2))))) else (none)) else (none)) else (some (x234000, x234001))
def turnstoneref02_All.f (k : Nat) (a0 : Int) (a1 : Int) (l2 : List Int) : Option (Bool × List Int) := (turnstoneref01_U.f k a1).bind fun bt229 => (turnstoneref02_All.l0 k a0 l2 (l2.length : Int) 0 bt229.1 bt229.2)
theorem turnstoneref02_All.mono_l : ∀ k, (∀ y0 y1 y2 y3 y4 y5, LeO (turnstoneref02_All.l0 k y0 y1 y2 y3 y4 y5) (turnstoneref02_All.l0 (k + 1) y0 y1 y2 y3 y4 y5))
 | 0 => fun _ _ _ _ _ _ r h => by simp [turnstoneref02_All.l0] at h
 | k + 1 => by
  have ih0 := turnstoneref02_All.mono_l k
  ·intro y0 y1 y2 y3 y4 y5
   unfold turnstoneref02_All.l0
   repeat' first
   | (with_reducible exact ih0 _ _ _ _ _ _)
   | (with_reducible exact turnstoneref01_Add.mono _ _ _ _ _)
   | (with_reducible exact turnstoneref01_Mul.mono _ _ _ _ _)
   | (with_reducible exact turnstoneref01_U.mono _ _)
   | (with_reducible exact LeO.refl _)
   | (with_reducible exact LeO.none _)
   | (with_reducible refine LeO.ite ?_ ?_)
   | (with_reducible refine LeO.bind ?_ (fun _ => ?_))
   | exact ih0 _ _ _ _ _ _
   | exact turnstoneref01_Add.mono _ _ _ _ _
   | exact turnstoneref01_Mul.mono _ _ _ _ _
   | exact turnstoneref01_U.mono _ _
   | exact LeO.none _
   | refine LeO.ite ?_ ?_
   | refine LeO.bind ?_ (fun _ => ?_)
theorem turnstoneref02_All.mono : ∀ a0 a1 a2 k, LeO (turnstoneref02_All.f k a0 a1 a2) (turnstoneref02_All.f (k + 1) a0 a1 a2) := by
 intro a0 a1 a2 k
 have ih0 := turnstoneref02_All.mono_l k
 unfold turnstoneref02_All.f
 repeat' first
   | (with_reducible exact ih0 _ _ _ _ _ _)
   | (with_reducible exact turnstoneref01_Add.mono _ _ _ _ _)
   | (with_reducible exact turnstoneref01_Mul.mono _ _ _ _ _)
   | (with_reducible exact turnstoneref01_U.mono _ _)
   | (with_reducible exact LeO.refl _)
   | (with_reducible exact LeO.none _)
   | (with_reducible refine LeO.ite ?_ ?_)
   | (with_reducible refine LeO.bind ?_ (fun _ => ?_))
   | exact ih0 _ _ _ _ _ _
   | exact turnstoneref01_Add.mono _ _ _ _ _
   | exact turnstoneref01_Mul.mono _ _ _ _ _
   | exact turnstoneref01_U.mono _ _
   | exact LeO.none _
   | refine LeO.ite ?_ ?_
   | refine LeO.bind ?_ (fun _ => ?_)
def turnstoneref02_All.T5 : Bool × List (List Nat × List Nat) := (true, [([], []), ([], []), ([1], [1]), ([], []), ([3, 2], [3]), ([2, 4, 4], [2, 4]), ([0, 5, 5], [0, 5]), ([6, 6, 0, 1, 2, 3, 4, 5, 6], [6])])
def turnstoneref02_All.B5 : List Nat := [0, 0, 2, 0, 14, 30, 63, 127]
theorem turnstoneref02_All.tab5 : rtab .any (opsOf Try.f35 5) = turnstoneref02_All.T5 := by kernel_rfl
theorem turnstoneref02_All.bits5 : waitsOk turnstoneref02_All.T5.2 turnstoneref02_All.B5 = true := by kernel_rfl
set_option maxHeartbeats 8000000 in
set_option maxRecDepth 100000 in
theorem turnstoneref02_All.calls (k : Nat) (a0 : Int) (a1 : Int) (A2 : Option Addr) (c2 : Nat) (l2 : List Int) (r1 : Bool) (r2 : List Int) (w : World) (hr2 : Kd.C (Kd.int .u64) w A2 l2.length l2) (hc2 : l2.length ≤ c2) (h : turnstoneref02_All.f k a0 a1 l2 = some (r1, r2)) :
  Calls Try.prog 35 #[.int .u64 a0, .int .u64 a1, .slice A2 l2.length c2] w fun e w' => ∃ v1_ : Value, e = .returned (.agg #[.bool r1, v1_]) ∧ Kd.V (Kd.int .i64) 3 w' w.heap.size (fun k_ => (w.heap.size ≤ k_)) v1_ r2 ∧ Below w.heap.size w w' := by
 have hu28 := Try.underlying28
 have HR2 := Aside0.mk hr2
 have HC2 := Aside0.mk hc2
 clear hr2 hc2
 have HB := Aside0.mk (Below.refl w.heap.size w)
 have H : ((turnstoneref01_U.f k a1).bind fun bt229 => (turnstoneref02_All.l0 k a0 l2 (l2.length : Int) 0 bt229.1 bt229.2)) = some (r1, r2) := h
 clear h
 replace H := Option.bind_eq_some_iff.mp H
 obtain ⟨⟨t229, t230⟩, A40, H⟩ := H
 replace H : (turnstoneref02_All.l0 k a0 l2 (l2.length : Int) 0 t229 t230) = some (r1, r2) := H
 have A4 := Aside0.mk A40
 clear A40
 have H' := Aside0.mk H
 clear H
 go_enter Try.func35, Try.ntmps35
 go_wp2_with (first | ((with_reducible refine gate_dst (N := 6) rfl ?_); refine box_event ?hg (N := 6) ?hd (cs := #[.bool false, .slice none 0 0]) (t := 28) ?hr ?_; (case hd => rfl); (case hg => rfl); (case hr => first | (go_simp; done) | (go_simp; rfl)); intro gb228 hg w5 hbox hb; have n0_ := belb HB hb; have n1_ := Aside0.mk (hbox); have n2_ := bels HB hg; have n3_ := bels HB hg; clear HB; have HB := n0_; have BK228 := n1_; have GW228 := n2_; have GE228 := n3_; clear n0_ n1_ n2_ n3_; clear hb hbox hg) | ((with_reducible refine gate_callee (f := 24) rfl ?_); refine goesL_ (some 11) rfl rfl Try.func24 (by kernel_rfl) rfl #[.int .u64 a1] rfl argt ?_; (with_reducible refine (turnstoneref01_U.calls k a1 t229 t230 _ A4.out).mono ?_); rintro e w6 ⟨v231, rfl, ho0, hb⟩; refine ⟨_, rfl, ?_⟩; have n0_ := Aside0.mk (Kd.R_lower (Kd.R_newM (M := fun k_ => (w.heap.size ≤ k_)) ho0 (below_size (belt HB)) (fun k_ h_ => h_)) (below_size (belt HB))); have n1_ := blkb BK228 hb; have n2_ := belb HB hb; clear BK228; clear HB; have HO232 := n0_; have BK228 := n1_; have HB := n2_; clear n0_ n1_ n2_; (try clear hb); (try clear hb2); (try clear hk); (try clear hi); (try clear ho0)) | ((with_reducible refine gate_dst (N := 7) rfl ?_); refine box_event ?hg (N := 7) ?hd (cs := #[.bool false, .slice none 0 0]) (t := 28) ?hr ?_; (case hd => rfl); (case hg => rfl); (case hr => first | (go_simp; done) | (go_simp; rfl)); intro gb233 hg w7 hbox hb; have n0_ := rb HO232 hb; have n1_ := blkb BK228 hb; have n2_ := belb HB hb; have n3_ := Aside0.mk (hbox); have n4_ := bels HB hg; have n5_ := bels HB hg; have n6_ := blkl BK228 hg; have n7_ := blkg BK228 hg; clear HO232; clear BK228; clear HB; have HO232 := n0_; have BK228 := n1_; have HB := n2_; have BK233 := n3_; have GW233 := n4_; have GE233 := n5_; have NB228_233 := n6_; have NB233_228 := n7_; clear n0_ n1_ n2_ n3_ n4_ n5_ n6_ n7_; clear hb hbox hg; have hnb8 := NB233_228.out; have hnc8 := NB228_233.out; have hcz9_0 : w7.cell? ⟨gb233, 0, none⟩ = some (.bool false) := (blk_cell BK233.out 0).trans rfl; have hcz9_1 : w7.cell? ⟨gb233, 1, none⟩ = some (.slice none 0 0) := (blk_cell BK233.out 1).trans rfl; have hfz9_0 := blk_frozen BK233.out 0; have hfz9_1 := blk_frozen BK233.out 1; obtain ⟨Ao10, co10, eo10⟩ := Kd.R_slice HO232.out; subst eo10))
 (try simp only [Act.put, List.setIfInBounds_toArray, List.set_cons_zero, List.set_cons_succ])
 go_loopg [14] k (fun kq v14 w' => ∃ (x14_1 : Int) (x234000_1 : Bool) (x234001_1 : List Int) (u234001 : Value), v14 = .int .i64 x14_1 ∧ Aside0 (turnstoneref02_All.l0 kq a0 l2 (l2.length : Int) x14_1 x234000_1 x234001_1 = some (r1, r2)) ∧ Aside0 (kq ≤ k) ∧ Aside0 (Kd.V (Kd.int .i64) 3 w' w.heap.size (fun k_ => (w.heap.size ≤ k_) ∧ k_ ≠ gb228 ∧ k_ ≠ gb233) u234001 x234001_1) ∧ Aside0 (w'.heap[gb228]? = some (.cells #[.bool false, (.slice none 0 0)] 28 (0, 0))) ∧ Aside0 (w'.heap[gb233]? = some (.cells #[.bool x234000_1, u234001] 28 (0, 0))) ∧ Aside0 (Below w.heap.size w w'))
 case atStart => exact ⟨(0), (t229), (t230), (.slice Ao10 t230.length co10), (by first | rfl | (simp; done) | (simp [*]; done)), H', ⟨Nat.le_refl _⟩, ⟨Kd.R_V (by (with_reducible repeat (first | apply Kd.R_alloc | apply Kd.R_drewN | apply Kd.R_drew)); exact Kd.R_mono (Kd.R_far (p := ⟨gb233, 1, none⟩) (Kd.R_far (p := ⟨gb233, 0, none⟩) (Kd.R_types (Kd.R_types (Kd.R_types HO232.out BK228.out (by decide)) BK233.out (by decide)) BK233.out (by decide)) (fun _ hk => hk.2) (.bool t229)) (fun _ hk => hk.2) (.slice Ao10 t230.length co10)) (fun _ hk => ⟨hk.1.1.1.1, ⟨hk.1.1.2, hk.1.2⟩⟩))⟩, ⟨by (with_reducible repeat (first | refine blk_drewN ?_ _ | refine blk_drew ?_ | refine blk_alloc ?_ _)); refine blk_far ?_ NB228_233.out _; (with_reducible repeat (first | refine blk_drewN ?_ _ | refine blk_drew ?_ | refine blk_alloc ?_ _)); refine blk_far ?_ NB228_233.out _; (with_reducible repeat (first | refine blk_drewN ?_ _ | refine blk_drew ?_ | refine blk_alloc ?_ _)); exact BK228.out⟩, ⟨by (with_reducible repeat (first | refine blk_drewN ?_ _ | refine blk_drew ?_ | refine blk_alloc ?_ _)); refine blk_put (cs := #[.bool t229, .slice none 0 0]) ?_ 1 _ rfl; (with_reducible repeat (first | refine blk_drewN ?_ _ | refine blk_drew ?_ | refine blk_alloc ?_ _)); refine blk_put (cs := #[.bool false, .slice none 0 0]) ?_ 0 _ rfl; (with_reducible repeat (first | refine blk_drewN ?_ _ | refine blk_drew ?_ | refine blk_alloc ?_ _)); exact BK233.out⟩, ⟨by repeat (first | (with_reducible first | exact HB.out | apply below_alloc | apply pw_below_drewN | apply below_drew1 | refine below_set ?_ GE228.out | refine below_set ?_ GE233.out) | exact HB.out)⟩⟩
 case round =>
  clear H'
  try clear c2
  try clear p2
  try clear c3
  try clear c8
  try clear hcz9_0
  try clear hcz9_1
  try clear hfz9_0
  try clear hfz9_1
  obtain ⟨x14_1, x234000_1, x234001_1, u234001, rfl, HA, HK1, HO_234001, BK228, BK233, HB⟩ := hrel
  cases gk with
  | zero => exact absurd HA.out (by simp [turnstoneref02_All.l0])
  | succ k1 =>
   have H := HA.out
   clear HA
   simp only [turnstoneref02_All.l0] at H
   by_cases c11 : x14_1 < (l2.length : Int)
   ·rw [if_pos c11] at H
    have c11b0 : decide (x14_1 < (l2.length : Int)) = true := decide_eq_true c11
    clear c11
    by_cases c12 : 0 ≤ x14_1
    ·rw [if_pos c12] at H
     have c12b0 : decide (0 ≤ x14_1) = true := decide_eq_true c12
     clear c12
     by_cases c13 : x14_1 < (l2.length : Int)
     ·rw [if_pos c13] at H
      have c13b0 : decide (x14_1 < (l2.length : Int)) = true := decide_eq_true c13
      clear c13
      replace H := Option.bind_eq_some_iff.mp H
      obtain ⟨⟨t235, t236⟩, A140, H⟩ := H
      replace H : ((turnstoneref01_U.f k1 a0).bind fun bt239 => ((turnstoneref01_Mul.f k1 t235 t236 bt239.1 bt239.2).bind fun bt243 => ((turnstoneref01_Add.f k1 x234000_1 x234001_1 bt243.1 bt243.2).bind fun bt247 => (turnstoneref02_All.l0 k1 a0 l2 (l2.length : Int) (wrap64 (x14_1 + 1)) bt247.1 bt247.2)))) = some (r1, r2) := H
      have A14 := Aside0.mk A140
      clear A140
      replace H := Option.bind_eq_some_iff.mp H
      obtain ⟨⟨t239, t240⟩, A150, H⟩ := H
      replace H : ((turnstoneref01_Mul.f k1 t235 t236 t239 t240).bind fun bt243 => ((turnstoneref01_Add.f k1 x234000_1 x234001_1 bt243.1 bt243.2).bind fun bt247 => (turnstoneref02_All.l0 k1 a0 l2 (l2.length : Int) (wrap64 (x14_1 + 1)) bt247.1 bt247.2))) = some (r1, r2) := H
      have A15 := Aside0.mk A150
      clear A150
      replace H := Option.bind_eq_some_iff.mp H
      obtain ⟨⟨t243, t244⟩, A160, H⟩ := H
      replace H : ((turnstoneref01_Add.f k1 x234000_1 x234001_1 t243 t244).bind fun bt247 => (turnstoneref02_All.l0 k1 a0 l2 (l2.length : Int) (wrap64 (x14_1 + 1)) bt247.1 bt247.2)) = some (r1, r2) := H
      have A16 := Aside0.mk A160
      clear A160
      replace H := Option.bind_eq_some_iff.mp H
      obtain ⟨⟨t247, t248⟩, A170, H⟩ := H
      replace H : (turnstoneref02_All.l0 k1 a0 l2 (l2.length : Int) (wrap64 (x14_1 + 1)) t247 t248) = some (r1, r2) := H
      have A17 := Aside0.mk A170
      clear A170
      have H' := Aside0.mk H
      clear H
      have p234 : 0 ≤ (x14_1 : Int) := of_decide_eq_true (by first | (with_reducible assumption) | assumption)
      have q234 : x14_1 < (l2.length : Int) := of_decide_eq_true (by first | (with_reducible assumption) | assumption)
      obtain ⟨ad234, e234, hx234_0⟩ := Kd.at_int HR2.out x14_1 p234 q234
      cases e234
      replace hx234_0 := (HB.out.cell (World.block_lt_of_cell? w _ hx234_0)).trans hx234_0
      replace p234 := eq_true p234
      replace q234 := eq_true q234
      try go_wp2
      have n0_ := Aside0.mk (Kd.V_drew HO_234001.out)
      have n1_ := Aside0.mk (blk_drew BK228.out)
      have n2_ := Aside0.mk (blk_drew BK233.out)
      have n3_ := Aside0.mk (below_drew1 HB.out)
      clear HO_234001
      clear BK228
      clear BK233
      clear HB
      have HO_234001 := n0_
      have BK228 := n1_
      have BK233 := n2_
      have HB := n3_
      clear n0_ n1_ n2_ n3_
      refine start_ (n := 8) (S := fun w' => w'.cell? ⟨gb233, 0, none⟩ = some (.bool x234000_1) ∧ w'.cell? ⟨gb233, 1, none⟩ = some (u234001)) (ds := [7]) #[false, false, false, false, false, false, false, false] (by kernel_rfl) rfl rfl ⟨(blk_cell BK233.out 0).trans rfl, (blk_cell BK233.out 1).trans rfl⟩ (fun hHeld => ?_); refine with_tabW turnstoneref02_All.tab5 turnstoneref02_All.bits5 (fun HT_ HW_ => ?_)
      generalize wr.drew = w18 at HO_234001 BK228 BK233 HB hHeld ⊢
      refine pure_ (i := 1) (N := some 19) (v := ?_) (a' := ?_) #[false, true, false, false, false, false, false, false] rfl rfl (any_of HT_.out (by kernel_rfl)) (fun _ _ _ h => h) (Or.inl ⟨by rfl, ?_⟩) ?_ ?_
      rotate_left
      ·intro w'
       go_simp
       with_reducible rfl
      rotate_left
      ·simp only [Act.put, List.setIfInBounds_toArray, List.set_cons_zero, List.set_cons_succ, i64_w, i32_w]
       rfl
      refine pure_ (i := 3) (N := some 21) (v := ?_) (a' := ?_) #[false, true, false, true, false, false, false, false] rfl rfl (any_of HT_.out (by kernel_rfl)) (fun _ _ _ h => h) (Or.inl ⟨by rfl, ?_⟩) ?_ ?_
      rotate_left
      ·intro w'
       go_simp
       with_reducible rfl
      rotate_left
      ·simp only [Act.put, List.setIfInBounds_toArray, List.set_cons_zero, List.set_cons_succ, i64_w, i32_w]
       rfl
      refine take_ (i := 0) (N := some 18) (v := ?_) (a' := ?_) #[true, true, false, true, false, false, false, false] rfl rfl (take_ofW HT_.out HW_.out (by kernel_rfl)) (fun _ _ _ h => h) (Or.inl ⟨by rfl, ?_⟩) hHeld ?_ ?_
      rotate_left
      ·rintro w' ⟨s0, s1⟩
       go_simp
       with_reducible rfl
      rotate_left
      ·simp only [Act.put, List.setIfInBounds_toArray, List.set_cons_zero, List.set_cons_succ, i64_w, i32_w]
       rfl
      refine one_ (i := 2) (N := some 20) #[true, true, true, true, false, false, false, false] rfl rfl (one_of HT_.out (by kernel_rfl)) (by decide) (fun K hK => ?_)
      refine goes_ Try.func24 (by kernel_rfl) rfl #[.int .u64 (rd l2 x14_1)] (by rfl) rfl rfl argt ?_
      with_reducible refine (turnstoneref01_U.calls k1 (rd l2 x14_1) t235 t236 _ A14.out).mono ?_
      rintro e w19 ⟨v237, rfl, ho0, hb⟩
      refine ⟨_, rfl, ?_⟩
      have n0_ := Aside0.mk (Kd.V_elder' (vt HO_234001) (Kd.R_base ho0) hb)
      have n1_ := Aside0.mk (Kd.R_lower (Kd.R_newM (M := fun k_ => (w.heap.size ≤ k_)) ho0 (below_size (belt HB)) (fun k_ h_ => h_)) (below_size (belt HB)))
      have n2_ := blkb BK228 hb
      have n3_ := blkb BK233 hb
      have n4_ := belb HB hb
      clear HO_234001
      clear BK228
      clear BK233
      clear HB
      have HO_234001 := n0_
      have HO238 := n1_
      have BK228 := n2_
      have BK233 := n3_
      have HB := n4_
      clear n0_ n1_ n2_ n3_ n4_
      (try clear hb)
      (try clear hb2)
      (try clear hk)
      (try clear hi)
      (try clear ho0)
      refine hK.out _ _ ⟨(blk_cell BK233.out 0).trans rfl, (blk_cell BK233.out 1).trans rfl⟩ (fun hHeld => ?_)
      clear hK K
      refine norm_ (a' := ?_) ?_ ?_
      rotate_left
      ·show Act.put _ (some 20) _ = _
       simp only [Act.put, List.setIfInBounds_toArray, List.set_cons_zero, List.set_cons_succ, i64_w, i32_w]
       rfl
      refine one_ (i := 4) (N := some 22) #[true, true, true, true, true, false, false, false] rfl rfl (one_of HT_.out (by kernel_rfl)) (by decide) (fun K hK => ?_)
      refine goes_ Try.func24 (by kernel_rfl) rfl #[.int .u64 a0] (by rfl) rfl rfl argt ?_
      with_reducible refine (turnstoneref01_U.calls k1 a0 t239 t240 _ A15.out).mono ?_
      rintro e w20 ⟨v241, rfl, ho0, hb⟩
      refine ⟨_, rfl, ?_⟩
      have n0_ := Aside0.mk (Kd.V_elder' (vt HO_234001) (Kd.R_base ho0) hb)
      have n1_ := Aside0.mk (Kd.R_elder' (rt HO238) (Kd.R_base ho0) hb)
      have n2_ := Aside0.mk (Kd.R_lower (Kd.R_new' (Kd.R_newM (M := fun k_ => (w.heap.size ≤ k_)) ho0 (below_size (belt HB)) (fun k_ h_ => h_)) (Kd.R_lt (rt HO238))) (below_size (belt HB)))
      have n3_ := blkb BK228 hb
      have n4_ := blkb BK233 hb
      have n5_ := belb HB hb
      clear HO_234001
      clear HO238
      clear BK228
      clear BK233
      clear HB
      have HO_234001 := n0_
      have HO238 := n1_
      have HO242 := n2_
      have BK228 := n3_
      have BK233 := n4_
      have HB := n5_
      clear n0_ n1_ n2_ n3_ n4_ n5_
      (try clear hb)
      (try clear hb2)
      (try clear hk)
      (try clear hi)
      (try clear ho0)
      obtain ⟨Ao21, co21, eo21⟩ := Kd.R_slice HO238.out
      (first | subst eo21 | (injection eo21 with f1_ f2_ f3_; have f4_ := f1_.symm; have f5_ := f3_.symm; clear f1_ f2_ f3_; subst f4_; subst f5_))
      obtain ⟨Ao22, co22, eo22⟩ := Kd.R_slice HO242.out
      (first | subst eo22 | (injection eo22 with f1_ f2_ f3_; have f4_ := f1_.symm; have f5_ := f3_.symm; clear f1_ f2_ f3_; subst f4_; subst f5_))
      refine hK.out _ _ ⟨(blk_cell BK233.out 0).trans rfl, (blk_cell BK233.out 1).trans rfl⟩ (fun hHeld => ?_)
      clear hK K
      refine norm_ (a' := ?_) ?_ ?_
      rotate_left
      ·show Act.put _ (some 22) _ = _
       simp only [Act.put, List.setIfInBounds_toArray, List.set_cons_zero, List.set_cons_succ, i64_w, i32_w]
       rfl
      refine one_ (i := 5) (N := some 23) #[true, true, true, true, true, true, false, false] rfl rfl (one_of HT_.out (by kernel_rfl)) (by decide) (fun K hK => ?_)
      refine goes_ Try.func40 (by kernel_rfl) rfl #[.agg #[.bool t235, .slice Ao21 t236.length co21], .agg #[.bool t239, .slice Ao22 t240.length co22]] (by rfl) rfl rfl argt ?_
      with_reducible refine (turnstoneref01_Mul.calls k1 t235 _ _ t236 t239 _ _ t240 t243 t244 _ ?side1 ?side2 ?side3 ?side4 A16.out).mono ?_
      (case side1 => repeat (first | exact (Kd.R_reads' HO238.out).2.2 | (with_reducible refine Kd.C_alloc ?_ _) | (with_reducible refine Kd.C_drewN ?_ _) | (with_reducible refine Kd.C_drew ?_)))
      (case side2 => exact (Kd.R_reads' HO238.out).2.1)
      (case side3 => repeat (first | exact (Kd.R_reads' HO242.out).2.2 | (with_reducible refine Kd.C_alloc ?_ _) | (with_reducible refine Kd.C_drewN ?_ _) | (with_reducible refine Kd.C_drew ?_)))
      (case side4 => exact (Kd.R_reads' HO242.out).2.1)
      rintro e w23 ⟨v245, rfl, ho0, hb⟩
      refine ⟨_, rfl, ?_⟩
      have n0_ := vb HO_234001 hb
      have n1_ := rb HO238 hb
      have n2_ := rb HO242 hb
      have n3_ := Aside0.mk (Kd.V_lower (Kd.V_mono (ok' := fun k_ => (w.heap.size ≤ k_) ∧ some k_ ≠ (.slice Ao21 t236.length co21 : Value).ownBlock ∧ some k_ ≠ (.slice Ao22 t240.length co22 : Value).ownBlock ∧ k_ ≠ gb228 ∧ k_ ≠ gb233) ho0 (fun k_ hk_ => ⟨(Nat.le_trans (below_size (belt HB)) hk_), (Kd.fresh' (Kd.R_lt (rt HO238)) k_ hk_), (Kd.fresh' (Kd.R_lt (rt HO242)) k_ hk_), (Kd.freshB (blkt BK228) k_ hk_), (Kd.freshB (blkt BK233) k_ hk_)⟩)) (below_size (belt HB)))
      have n4_ := blkb BK228 hb
      have n5_ := blkb BK233 hb
      have n6_ := belb HB hb
      clear HO_234001
      clear HO238
      clear HO242
      clear BK228
      clear BK233
      clear HB
      have HO_234001 := n0_
      have HO238 := n1_
      have HO242 := n2_
      have HO246 := n3_
      have BK228 := n4_
      have BK233 := n5_
      have HB := n6_
      clear n0_ n1_ n2_ n3_ n4_ n5_ n6_
      (try clear hb)
      (try clear hb2)
      (try clear hk)
      (try clear hi)
      (try clear ho0)
      obtain ⟨Ao24, co24, eo24⟩ := Kd.V_slice HO_234001.out
      (first | subst eo24 | (injection eo24 with f1_ f2_ f3_; have f4_ := f1_.symm; have f5_ := f3_.symm; clear f1_ f2_ f3_; subst f4_; subst f5_))
      obtain ⟨Ao25, co25, eo25⟩ := Kd.V_slice HO246.out
      (first | subst eo25 | (injection eo25 with f1_ f2_ f3_; have f4_ := f1_.symm; have f5_ := f3_.symm; clear f1_ f2_ f3_; subst f4_; subst f5_))
      refine hK.out _ _ ⟨(blk_cell BK233.out 0).trans rfl, (blk_cell BK233.out 1).trans rfl⟩ (fun hHeld => ?_)
      clear hK K
      refine norm_ (a' := ?_) ?_ ?_
      rotate_left
      ·show Act.put _ (some 23) _ = _
       simp only [Act.put, List.setIfInBounds_toArray, List.set_cons_zero, List.set_cons_succ, i64_w, i32_w]
       rfl
      refine one_ (i := 6) (N := some 24) #[true, true, true, true, true, true, true, false] rfl rfl (one_of HT_.out (by kernel_rfl)) (by decide) (fun K hK => ?_)
      refine goes_ Try.func27 (by kernel_rfl) rfl #[.agg #[.bool x234000_1, .slice Ao24 x234001_1.length co24], .agg #[.bool t243, .slice Ao25 t244.length co25]] (by rfl) rfl rfl argt ?_
      with_reducible refine (turnstoneref01_Add.calls k1 x234000_1 _ _ x234001_1 t243 _ _ t244 t247 t248 _ ?side1 ?side2 ?side3 ?side4 A17.out).mono ?_
      (case side1 => repeat (first | exact (Kd.V_reads' HO_234001.out).2.2 | (with_reducible refine Kd.C_alloc ?_ _) | (with_reducible refine Kd.C_drewN ?_ _) | (with_reducible refine Kd.C_drew ?_)))
      (case side2 => exact (Kd.V_reads' HO_234001.out).2.1)
      (case side3 => repeat (first | exact (Kd.V_reads' HO246.out).2.2 | (with_reducible refine Kd.C_alloc ?_ _) | (with_reducible refine Kd.C_drewN ?_ _) | (with_reducible refine Kd.C_drew ?_)))
      (case side4 => exact (Kd.V_reads' HO246.out).2.1)
      rintro e w26 ⟨v249, rfl, ho0, hb⟩
      refine ⟨_, rfl, ?_⟩
      have n0_ := vb HO_234001 hb
      have n1_ := rb HO238 hb
      have n2_ := rb HO242 hb
      have n3_ := vb HO246 hb
      have n4_ := Aside0.mk (Kd.V_lower (Kd.V_mono (ok' := fun k_ => (w.heap.size ≤ k_) ∧ some k_ ≠ (.slice Ao21 t236.length co21 : Value).ownBlock ∧ some k_ ≠ (.slice Ao22 t240.length co22 : Value).ownBlock ∧ k_ ≠ gb228 ∧ k_ ≠ gb233) ho0 (fun k_ hk_ => ⟨(Nat.le_trans (below_size (belt HB)) hk_), (Kd.fresh' (Kd.R_lt (rt HO238)) k_ hk_), (Kd.fresh' (Kd.R_lt (rt HO242)) k_ hk_), (Kd.freshB (blkt BK228) k_ hk_), (Kd.freshB (blkt BK233) k_ hk_)⟩)) (below_size (belt HB)))
      have n5_ := blkb BK228 hb
      have n6_ := blkb BK233 hb
      have n7_ := belb HB hb
      clear HO_234001
      clear HO238
      clear HO242
      clear HO246
      clear BK228
      clear BK233
      clear HB
      have HO_234001 := n0_
      have HO238 := n1_
      have HO242 := n2_
      have HO246 := n3_
      have HO250 := n4_
      have BK228 := n5_
      have BK233 := n6_
      have HB := n7_
      clear n0_ n1_ n2_ n3_ n4_ n5_ n6_ n7_
      (try clear hb)
      (try clear hb2)
      (try clear hk)
      (try clear hi)
      (try clear ho0)
      obtain ⟨Ao28, co28, eo28⟩ := Kd.V_slice HO250.out
      (first | subst eo28 | (injection eo28 with f1_ f2_ f3_; have f4_ := f1_.symm; have f5_ := f3_.symm; clear f1_ f2_ f3_; subst f4_; subst f5_))
      refine hK.out _ _ ⟨(blk_cell BK233.out 0).trans rfl, (blk_cell BK233.out 1).trans rfl⟩ (fun hHeld => ?_)
      clear hK K
      refine norm_ (a' := ?_) ?_ ?_
      rotate_left
      ·show Act.put _ (some 24) _ = _
       simp only [Act.put, List.setIfInBounds_toArray, List.set_cons_zero, List.set_cons_succ, i64_w, i32_w]
       rfl
      refine last_ (i := 7) (N := none) #[true, true, true, true, true, true, true, true] rfl rfl (one_of HT_.out (by kernel_rfl)) (by decide) (fun K hK => ?_)
      have hs27 : w26.cell? ⟨gb233, 0, none⟩ = some (.bool x234000_1) := (blk_cell BK233.out 0).trans rfl
      have hfs27 := blk_frozen BK233.out 0
      have hns27_0 := NB228_233.out
      have hms27_0 := NB233_228.out
      have hs29 : w26.cell? ⟨gb233, 1, none⟩ = some (.slice Ao24 x234001_1.length co24) := (blk_cell BK233.out 1).trans rfl
      have hfs29 := blk_frozen BK233.out 1
      have hns29_0 := NB228_233.out
      have hms29_0 := NB233_228.out
      refine skip_ (w1 := ?_) (by rfl) rfl ?_ ?_
      rotate_left
      ·go_simp
       rfl
      refine hK.out _ _ ?_
      clear hK K
      refine done_ (done_of HT_.out (by kernel_rfl)) ?_
      try go_wp2
      go_roundg k1
      case measure => have := HK1.out; omega
      case rel => exact ⟨(wrap64 (x14_1 + 1)), (t247), (t248), (.slice Ao28 t248.length co28), (by first | rfl | (simp; done) | (simp [*]; done)), H', ⟨by have := HK1.out; omega⟩, ⟨by (with_reducible repeat (first | apply Kd.V_alloc | apply Kd.V_drewN | apply Kd.V_drew)); exact Kd.V_mono (Kd.V_far (p := ⟨gb233, 1, none⟩) (Kd.V_far (p := ⟨gb233, 0, none⟩) (Kd.V_mono HO250.out (fun k_ hk => (⟨hk, hk.2.2.2.2⟩ : _ ∧ k_ ≠ gb233))) (fun _ hk => hk.2) (.bool t247)) (fun _ hk => hk.2) (.slice Ao28 t248.length co28)) (fun _ hk => ⟨hk.1.1, ⟨hk.1.2.2.2.1, hk.1.2.2.2.2⟩⟩)⟩, ⟨by (with_reducible repeat (first | refine blk_drewN ?_ _ | refine blk_drew ?_ | refine blk_alloc ?_ _)); refine blk_far ?_ NB228_233.out _; (with_reducible repeat (first | refine blk_drewN ?_ _ | refine blk_drew ?_ | refine blk_alloc ?_ _)); refine blk_far ?_ NB228_233.out _; (with_reducible repeat (first | refine blk_drewN ?_ _ | refine blk_drew ?_ | refine blk_alloc ?_ _)); exact BK228.out⟩, ⟨by (with_reducible repeat (first | refine blk_drewN ?_ _ | refine blk_drew ?_ | refine blk_alloc ?_ _)); refine blk_put (cs := #[.bool t247, .slice Ao24 x234001_1.length co24]) ?_ 1 _ rfl; (with_reducible repeat (first | refine blk_drewN ?_ _ | refine blk_drew ?_ | refine blk_alloc ?_ _)); refine blk_put (cs := #[.bool x234000_1, .slice Ao24 x234001_1.length co24]) ?_ 0 _ rfl; (with_reducible repeat (first | refine blk_drewN ?_ _ | refine blk_drew ?_ | refine blk_alloc ?_ _)); exact BK233.out⟩, ⟨by repeat (first | (with_reducible first | exact HB.out | apply below_alloc | apply pw_below_drewN | apply below_drew1 | refine below_set ?_ GE228.out | refine below_set ?_ GE233.out) | exact HB.out)⟩⟩
     ·rw [if_neg c13] at H
      exact absurd H (by simp)
    ·rw [if_neg c12] at H
     exact absurd H (by simp)
   ·rw [if_neg c11] at H
    have c11b0 : decide (x14_1 < (l2.length : Int)) = false := decide_eq_false c11
    clear c11
    simp only [Option.some.injEq, Prod.mk.injEq] at H
    obtain ⟨rfl, rfl⟩ := H
    have hnb30 := NB233_228.out
    have hnc30 := NB228_233.out
    have hcz31_0 : wr.cell? ⟨gb233, 0, none⟩ = some (.bool x234000_1) := (blk_cell BK233.out 0).trans rfl
    have hcz31_1 : wr.cell? ⟨gb233, 1, none⟩ = some (u234001) := (blk_cell BK233.out 1).trans rfl
    have hfz31_0 := blk_frozen BK233.out 0
    have hfz31_1 := blk_frozen BK233.out 1
    have hcz32_0 : wr.cell? ⟨gb228, 0, none⟩ = some (.bool false) := (blk_cell BK228.out 0).trans rfl
    have hcz32_1 : wr.cell? ⟨gb228, 1, none⟩ = some (.slice none 0 0) := (blk_cell BK228.out 1).trans rfl
    have hfz32_0 := blk_frozen BK228.out 0
    have hfz32_1 := blk_frozen BK228.out 1
    obtain ⟨Ao33, co33, eo33⟩ := Kd.V_slice HO_234001.out
    subst eo33
    go_wp2
    refine bodyPost_ret (results_cell_row rfl _ _ gb228 28 #[.bool x234000_1, .slice Ao33 x234001_1.length co33] (0, 0) _ rfl (by (with_reducible repeat (first | refine blk_drewN ?_ _ | refine blk_drew ?_ | refine blk_alloc ?_ _)); refine blk_put (cs := #[.bool x234000_1, .slice none 0 0]) ?_ 1 _ rfl; (with_reducible repeat (first | refine blk_drewN ?_ _ | refine blk_drew ?_ | refine blk_alloc ?_ _)); refine blk_put (cs := #[.bool false, .slice none 0 0]) ?_ 0 _ rfl; (with_reducible repeat (first | refine blk_drewN ?_ _ | refine blk_drew ?_ | refine blk_alloc ?_ _)); exact BK228.out) Try.underlying28 rfl (by kernel_rfl)) rfl ?_
    exact ⟨_, by first | rfl | (simp [errW_none, errW_some] <;> rfl) | (simp [*, errW_none, errW_some] <;> rfl), by (with_reducible repeat (first | apply Kd.V_alloc | apply Kd.V_drewN | apply Kd.V_drew)); exact Kd.V_mono (Kd.V_far (p := ⟨gb228, 1, none⟩) (Kd.V_far (p := ⟨gb228, 0, none⟩) (Kd.V_mono HO_234001.out (fun k_ hk => (⟨hk, hk.2.1⟩ : _ ∧ k_ ≠ gb228))) (fun _ hk => hk.2) (.bool x234000_1)) (fun _ hk => hk.2) (.slice Ao33 x234001_1.length co33)) (fun _ hk => hk.1.1), by repeat (first | (with_reducible first | exact HB.out | apply below_alloc | apply pw_below_drewN | apply below_drew1 | refine below_set ?_ GE228.out | refine below_set ?_ GE233.out) | exact HB.out)⟩

/-! ### turnstoneref01_Neg: function 61 -/
def turnstoneref01_Neg.f (k : Nat) (a0_0 : Bool) (l0_1 : List Int) : Option (Bool × List Int) := (turnstoneref01_trim.f k (!a0_0) l0_1).bind fun bt253 => (some (bt253.1, bt253.2))
theorem turnstoneref01_Neg.mono : ∀ a0 a1 k, LeO (turnstoneref01_Neg.f k a0 a1) (turnstoneref01_Neg.f (k + 1) a0 a1) := by
 intro a0 a1 k
 unfold turnstoneref01_Neg.f
 repeat' first
   | (with_reducible exact turnstoneref01_trim.mono _ _ _)
   | (with_reducible exact LeO.refl _)
   | (with_reducible exact LeO.none _)
   | (with_reducible refine LeO.ite ?_ ?_)
   | (with_reducible refine LeO.bind ?_ (fun _ => ?_))
   | exact turnstoneref01_trim.mono _ _ _
   | exact LeO.none _
   | refine LeO.ite ?_ ?_
   | refine LeO.bind ?_ (fun _ => ?_)
set_option maxHeartbeats 8000000 in
set_option maxRecDepth 100000 in
theorem turnstoneref01_Neg.calls (k : Nat) (a0_0 : Bool) (P0_1_ : Nat → Prop) (A0_1 : Option Addr) (c0_1 : Nat) (l0_1 : List Int) (r1 : Bool) (r2 : List Int) (w : World) (hs0_1 : Kd.V (Kd.int .i64) 3 w w.heap.size (fun k_ => P0_1_ k_) (.slice A0_1 l0_1.length c0_1) l0_1) (h : turnstoneref01_Neg.f k a0_0 l0_1 = some (r1, r2)) :
  Calls Try.prog 61 #[.agg #[.bool a0_0, .slice A0_1 l0_1.length c0_1]] w fun e w' => ∃ v1_ : Value, e = .returned (.agg #[.bool r1, v1_]) ∧ Kd.V (Kd.int .i64) 3 w' w.heap.size (fun k_ => (P0_1_ k_ ∨ w.heap.size ≤ k_)) v1_ r2 ∧ Below w.heap.size w w' := by
 have hu28 := Try.underlying28
 have HO0_1 := Aside0.mk (show Kd.V (Kd.int .i64) 3 w w.heap.size (fun k_ => (P0_1_ k_ ∨ w.heap.size ≤ k_)) (.slice A0_1 l0_1.length c0_1) l0_1 from Kd.V_mono hs0_1 (fun k_ hk => .inl hk))
 have HB := Aside0.mk (Below.refl w.heap.size w)
 have H : ((turnstoneref01_trim.f k (!a0_0) l0_1).bind fun bt253 => (some (bt253.1, bt253.2))) = some (r1, r2) := h
 clear h
 replace H := Option.bind_eq_some_iff.mp H
 obtain ⟨⟨t253, t254⟩, A20, H⟩ := H
 replace H : (some (t253, t254)) = some (r1, r2) := H
 have A2 := Aside0.mk A20
 clear A20
 simp only [Option.some.injEq, Prod.mk.injEq] at H
 obtain ⟨rfl, rfl⟩ := H
 go_enter Try.func61, Try.ntmps61
 go_wp2_with (first | ((with_reducible refine gate_dst (N := 1) rfl ?_); refine box_event ?hg (N := 1) ?hd (cs := #[.bool a0_0, .slice A0_1 l0_1.length c0_1]) (t := 28) ?hr ?_; (case hd => rfl); (case hg => rfl); (case hr => first | (go_simp; done) | (go_simp; rfl)); intro gb251 hg w3 hbox hb; have n0_ := Aside0.mk (Kd.V_below (Kd.V_elderB (vt HO0_1) gb251 (Nat.le_of_eq hg.symm)) hb); have n1_ := belb HB hb; have n2_ := Aside0.mk (hbox); have n3_ := bels HB hg; have n4_ := bels HB hg; clear HO0_1; clear HB; have HO0_1 := n0_; have HB := n1_; have BK251 := n2_; have GW251 := n3_; have GE251 := n4_; clear n0_ n1_ n2_ n3_ n4_; clear hb hbox hg) | ((with_reducible refine gate_dst (N := 2) rfl ?_); refine box_event ?hg (N := 2) ?hd (cs := #[.bool false, .slice none 0 0]) (t := 28) ?hr ?_; (case hd => rfl); (case hg => rfl); (case hr => first | (go_simp; done) | (go_simp; rfl)); intro gb252 hg w4 hbox hb; have n0_ := Aside0.mk (Kd.V_below (Kd.V_elderB (vt HO0_1) gb252 (Nat.le_of_eq hg.symm)) hb); have n1_ := blkb BK251 hb; have n2_ := belb HB hb; have n3_ := Aside0.mk (hbox); have n4_ := bels HB hg; have n5_ := bels HB hg; have n6_ := blkl BK251 hg; have n7_ := blkg BK251 hg; clear HO0_1; clear BK251; clear HB; have HO0_1 := n0_; have BK251 := n1_; have HB := n2_; have BK252 := n3_; have GW252 := n4_; have GE252 := n5_; have NB251_252 := n6_; have NB252_251 := n7_; clear n0_ n1_ n2_ n3_ n4_ n5_ n6_ n7_; clear hb hbox hg; have hnb5 := NB251_252.out; have hnc5 := NB252_251.out; have hcz6_0 : w4.cell? ⟨gb251, 0, none⟩ = some (.bool a0_0) := (blk_cell BK251.out 0).trans rfl; have hcz6_1 : w4.cell? ⟨gb251, 1, none⟩ = some (.slice A0_1 l0_1.length c0_1) := (blk_cell BK251.out 1).trans rfl; have hfz6_0 := blk_frozen BK251.out 0; have hfz6_1 := blk_frozen BK251.out 1) | ((with_reducible refine gate_callee (f := 62) rfl ?_); refine goesL_ (some 9) rfl rfl Try.func62 (by kernel_rfl) rfl #[.agg #[.bool (!a0_0), .slice A0_1 l0_1.length c0_1]] rfl argt ?_; (with_reducible refine (turnstoneref01_trim.calls k (!a0_0) (fun k_ => (((P0_1_ k_ ∨ w.heap.size ≤ k_) ∧ k_ ≠ gb251) ∧ k_ ≠ gb252)) _ _ l0_1 t253 t254 _ ?side1 A2.out).mono ?_); (case side1 => exact HO0_1.out); rintro e w7 ⟨v255, rfl, ho0, hb⟩; refine ⟨_, rfl, ?_⟩; have n0_ := vb HO0_1 hb; have n1_ := Aside0.mk (Kd.V_lower (Kd.V_mono (ok' := fun k_ => (P0_1_ k_ ∨ w.heap.size ≤ k_) ∧ k_ ≠ gb251 ∧ k_ ≠ gb252) ho0 (fun k_ hk_ => ⟨Or.elim hk_ (fun hs_ => hs_.1.1) (fun hn_ => (.inr (Nat.le_trans (below_size (belt HB)) hn_))), Or.elim hk_ (fun hs_ => hs_.1.2) (fun hn_ => (Kd.freshB (blkt BK251) k_ hn_)), Or.elim hk_ (fun hs_ => hs_.2) (fun hn_ => (Kd.freshB (blkt BK252) k_ hn_))⟩)) (below_size (belt HB))); have n2_ := blkb BK251 hb; have n3_ := blkb BK252 hb; have n4_ := belb HB hb; clear HO0_1; clear BK251; clear BK252; clear HB; have HO0_1 := n0_; have HO256 := n1_; have BK251 := n2_; have BK252 := n3_; have HB := n4_; clear n0_ n1_ n2_ n3_ n4_; (try clear hb); (try clear hb2); (try clear hk); (try clear hi); (try clear ho0); have hcz8_0 : w7.cell? ⟨gb252, 0, none⟩ = some (.bool false) := (blk_cell BK252.out 0).trans rfl; have hcz8_1 : w7.cell? ⟨gb252, 1, none⟩ = some (.slice none 0 0) := (blk_cell BK252.out 1).trans rfl; have hfz8_0 := blk_frozen BK252.out 0; have hfz8_1 := blk_frozen BK252.out 1; obtain ⟨Ao9, co9, eo9⟩ := Kd.V_slice HO256.out; subst eo9))
 refine bodyPost_ret (results_cell_row rfl _ _ gb252 28 #[.bool t253, .slice Ao9 t254.length co9] (0, 0) _ rfl (by (with_reducible repeat (first | refine blk_drewN ?_ _ | refine blk_drew ?_ | refine blk_alloc ?_ _)); refine blk_put (cs := #[.bool t253, .slice none 0 0]) ?_ 1 _ rfl; (with_reducible repeat (first | refine blk_drewN ?_ _ | refine blk_drew ?_ | refine blk_alloc ?_ _)); refine blk_put (cs := #[.bool false, .slice none 0 0]) ?_ 0 _ rfl; (with_reducible repeat (first | refine blk_drewN ?_ _ | refine blk_drew ?_ | refine blk_alloc ?_ _)); exact BK252.out) Try.underlying28 rfl (by kernel_rfl)) rfl ?_
 exact ⟨_, by first | rfl | (simp [errW_none, errW_some] <;> rfl) | (simp [*, errW_none, errW_some] <;> rfl), by (with_reducible repeat (first | apply Kd.V_alloc | apply Kd.V_drewN | apply Kd.V_drew)); exact Kd.V_mono (Kd.V_far (p := ⟨gb252, 1, none⟩) (Kd.V_far (p := ⟨gb252, 0, none⟩) (Kd.V_mono HO256.out (fun k_ hk => (⟨hk, hk.2.2⟩ : _ ∧ k_ ≠ gb252))) (fun _ hk => hk.2) (.bool t253)) (fun _ hk => hk.2) (.slice Ao9 t254.length co9)) (fun _ hk => hk.1.1), by repeat (first | (with_reducible first | exact HB.out | apply below_alloc | apply pw_below_drewN | apply below_drew1 | refine below_set ?_ GE251.out | refine below_set ?_ GE252.out) | exact HB.out)⟩

/-! ### turnstoneref01_Sub: function 43 -/
def turnstoneref01_Sub.f (k : Nat) (a0_0 : Bool) (l0_1 : List Int) (a1_0 : Bool) (l1_1 : List Int) : Option (Bool × List Int) := (turnstoneref01_Neg.f k a1_0 l1_1).bind fun bt260 => ((turnstoneref01_Add.f k a0_0 l0_1 bt260.1 bt260.2).bind fun bt264 => (some (bt264.1, bt264.2)))
theorem turnstoneref01_Sub.mono : ∀ a0 a1 a2 a3 k, LeO (turnstoneref01_Sub.f k a0 a1 a2 a3) (turnstoneref01_Sub.f (k + 1) a0 a1 a2 a3) := by
 intro a0 a1 a2 a3 k
 unfold turnstoneref01_Sub.f
 repeat' first
   | (with_reducible exact turnstoneref01_Add.mono _ _ _ _ _)
   | (with_reducible exact turnstoneref01_Neg.mono _ _ _)
   | (with_reducible exact LeO.refl _)
   | (with_reducible exact LeO.none _)
   | (with_reducible refine LeO.ite ?_ ?_)
   | (with_reducible refine LeO.bind ?_ (fun _ => ?_))
   | exact turnstoneref01_Add.mono _ _ _ _ _
   | exact turnstoneref01_Neg.mono _ _ _
   | exact LeO.none _
   | refine LeO.ite ?_ ?_
   | refine LeO.bind ?_ (fun _ => ?_)
set_option maxHeartbeats 8000000 in
set_option maxRecDepth 100000 in
theorem turnstoneref01_Sub.calls (k : Nat) (a0_0 : Bool) (A0_1 : Option Addr) (c0_1 : Nat) (l0_1 : List Int) (a1_0 : Bool) (P1_1_ : Nat → Prop) (A1_1 : Option Addr) (c1_1 : Nat) (l1_1 : List Int) (r1 : Bool) (r2 : List Int) (w : World) (hr0_1 : Kd.C (Kd.int .i64) w A0_1 l0_1.length l0_1) (hc0_1 : l0_1.length ≤ c0_1) (hs1_1 : Kd.V (Kd.int .i64) 3 w w.heap.size (fun k_ => P1_1_ k_) (.slice A1_1 l1_1.length c1_1) l1_1) (h : turnstoneref01_Sub.f k a0_0 l0_1 a1_0 l1_1 = some (r1, r2)) :
  Calls Try.prog 43 #[.agg #[.bool a0_0, .slice A0_1 l0_1.length c0_1], .agg #[.bool a1_0, .slice A1_1 l1_1.length c1_1]] w fun e w' => ∃ v1_ : Value, e = .returned (.agg #[.bool r1, v1_]) ∧ Kd.V (Kd.int .i64) 3 w' w.heap.size (fun k_ => (P1_1_ k_ ∨ w.heap.size ≤ k_)) v1_ r2 ∧ Below w.heap.size w w' := by
 have hu28 := Try.underlying28
 have HR0_1 := Aside0.mk hr0_1
 have HC0_1 := Aside0.mk hc0_1
 clear hr0_1 hc0_1
 have HO1_1 := Aside0.mk (show Kd.V (Kd.int .i64) 3 w w.heap.size (fun k_ => (P1_1_ k_ ∨ w.heap.size ≤ k_)) (.slice A1_1 l1_1.length c1_1) l1_1 from Kd.V_mono hs1_1 (fun k_ hk => .inl hk))
 have HB := Aside0.mk (Below.refl w.heap.size w)
 have H : ((turnstoneref01_Neg.f k a1_0 l1_1).bind fun bt260 => ((turnstoneref01_Add.f k a0_0 l0_1 bt260.1 bt260.2).bind fun bt264 => (some (bt264.1, bt264.2)))) = some (r1, r2) := h
 clear h
 replace H := Option.bind_eq_some_iff.mp H
 obtain ⟨⟨t260, t261⟩, A30, H⟩ := H
 replace H : ((turnstoneref01_Add.f k a0_0 l0_1 t260 t261).bind fun bt264 => (some (bt264.1, bt264.2))) = some (r1, r2) := H
 have A3 := Aside0.mk A30
 clear A30
 replace H := Option.bind_eq_some_iff.mp H
 obtain ⟨⟨t264, t265⟩, A40, H⟩ := H
 replace H : (some (t264, t265)) = some (r1, r2) := H
 have A4 := Aside0.mk A40
 clear A40
 simp only [Option.some.injEq, Prod.mk.injEq] at H
 obtain ⟨rfl, rfl⟩ := H
 go_enter Try.func43, Try.ntmps43
 try go_wp2_with (first | ((with_reducible refine gate_dst (N := 2) rfl ?_); refine box_event ?hg (N := 2) ?hd (cs := #[.bool a0_0, .slice A0_1 l0_1.length c0_1]) (t := 28) ?hr ?_; (case hd => rfl); (case hg => rfl); (case hr => first | (go_simp; done) | (go_simp; rfl)); intro gb257 hg w5 hbox hb; have n0_ := Aside0.mk (Kd.V_below (Kd.V_elderB (vt HO1_1) gb257 (Nat.le_of_eq hg.symm)) hb); have n1_ := belb HB hb; have n2_ := Aside0.mk (hbox); have n3_ := bels HB hg; have n4_ := bels HB hg; clear HO1_1; clear HB; have HO1_1 := n0_; have HB := n1_; have BK257 := n2_; have GW257 := n3_; have GE257 := n4_; clear n0_ n1_ n2_ n3_ n4_; clear hb hbox hg) | ((with_reducible refine gate_dst (N := 3) rfl ?_); refine box_event ?hg (N := 3) ?hd (cs := #[.bool a1_0, .slice A1_1 l1_1.length c1_1]) (t := 28) ?hr ?_; (case hd => rfl); (case hg => rfl); (case hr => first | (go_simp; done) | (go_simp; rfl)); intro gb258 hg w6 hbox hb; have n0_ := Aside0.mk (Kd.V_below (Kd.V_elderB (vt HO1_1) gb258 (Nat.le_of_eq hg.symm)) hb); have n1_ := blkb BK257 hb; have n2_ := belb HB hb; have n3_ := Aside0.mk (hbox); have n4_ := bels HB hg; have n5_ := bels HB hg; have n6_ := blkl BK257 hg; have n7_ := blkg BK257 hg; clear HO1_1; clear BK257; clear HB; have HO1_1 := n0_; have BK257 := n1_; have HB := n2_; have BK258 := n3_; have GW258 := n4_; have GE258 := n5_; have NB257_258 := n6_; have NB258_257 := n7_; clear n0_ n1_ n2_ n3_ n4_ n5_ n6_ n7_; clear hb hbox hg) | ((with_reducible refine gate_dst (N := 4) rfl ?_); refine box_event ?hg (N := 4) ?hd (cs := #[.bool false, .slice none 0 0]) (t := 28) ?hr ?_; (case hd => rfl); (case hg => rfl); (case hr => first | (go_simp; done) | (go_simp; rfl)); intro gb259 hg w7 hbox hb; have n0_ := Aside0.mk (Kd.V_below (Kd.V_elderB (vt HO1_1) gb259 (Nat.le_of_eq hg.symm)) hb); have n1_ := blkb BK257 hb; have n2_ := blkb BK258 hb; have n3_ := belb HB hb; have n4_ := Aside0.mk (hbox); have n5_ := bels HB hg; have n6_ := bels HB hg; have n7_ := blkl BK257 hg; have n8_ := blkg BK257 hg; have n9_ := blkl BK258 hg; have n10_ := blkg BK258 hg; clear HO1_1; clear BK257; clear BK258; clear HB; have HO1_1 := n0_; have BK257 := n1_; have BK258 := n2_; have HB := n3_; have BK259 := n4_; have GW259 := n5_; have GE259 := n6_; have NB257_259 := n7_; have NB259_257 := n8_; have NB258_259 := n9_; have NB259_258 := n10_; clear n0_ n1_ n2_ n3_ n4_ n5_ n6_ n7_ n8_ n9_ n10_; clear hb hbox hg))
 have n0_ := Aside0.mk (Kd.V_drew HO1_1.out)
 have n1_ := Aside0.mk (blk_drew BK257.out)
 have n2_ := Aside0.mk (blk_drew BK258.out)
 have n3_ := Aside0.mk (blk_drew BK259.out)
 have n4_ := Aside0.mk (below_drew1 HB.out)
 clear HO1_1
 clear BK257
 clear BK258
 clear BK259
 clear HB
 have HO1_1 := n0_
 have BK257 := n1_
 have BK258 := n2_
 have BK259 := n3_
 have HB := n4_
 clear n0_ n1_ n2_ n3_ n4_
 refine start_ (n := 5) (S := fun w' => w'.cell? ⟨gb257, 0, none⟩ = some (.bool a0_0) ∧ w'.cell? ⟨gb257, 1, none⟩ = some (.slice A0_1 l0_1.length c0_1) ∧ w'.cell? ⟨gb258, 0, none⟩ = some (.bool a1_0) ∧ w'.cell? ⟨gb258, 1, none⟩ = some (.slice A1_1 l1_1.length c1_1)) (ds := []) #[false, false, false, false, false] (by kernel_rfl) rfl rfl ⟨(blk_cell BK257.out 0).trans rfl, (blk_cell BK257.out 1).trans rfl, (blk_cell BK258.out 0).trans rfl, (blk_cell BK258.out 1).trans rfl⟩ (fun hHeld => ?_)
 generalize w7.drew = w8 at HO1_1 BK257 BK258 BK259 HB hHeld ⊢
 refine take_ (i := 0) (N := some 5) (v := ?_) (a' := ?_) #[true, false, false, false, false] rfl rfl (by kernel_rfl) (fun _ _ _ h => h) (Or.inl ⟨by rfl, ?_⟩) hHeld ?_ ?_
 rotate_left
 ·rintro w' ⟨s0, s1, s2, s3⟩
  go_simp
  with_reducible rfl
 rotate_left
 ·simp only [Act.put, List.setIfInBounds_toArray, List.set_cons_zero, List.set_cons_succ, i64_w, i32_w]
  rfl
 refine take_ (i := 1) (N := some 6) (v := ?_) (a' := ?_) #[true, true, false, false, false] rfl rfl (by kernel_rfl) (fun _ _ _ h => h) (Or.inl ⟨by rfl, ?_⟩) hHeld ?_ ?_
 rotate_left
 ·rintro w' ⟨s0, s1, s2, s3⟩
  go_simp
  with_reducible rfl
 rotate_left
 ·simp only [Act.put, List.setIfInBounds_toArray, List.set_cons_zero, List.set_cons_succ, i64_w, i32_w]
  rfl
 refine one_ (i := 2) (N := some 7) #[true, true, true, false, false] rfl rfl (by kernel_rfl) (by decide) (fun K hK => ?_)
 refine goes_ Try.func61 (by kernel_rfl) rfl #[.agg #[.bool a1_0, .slice A1_1 l1_1.length c1_1]] (by rfl) rfl rfl argt ?_
 with_reducible refine (turnstoneref01_Neg.calls k a1_0 (fun k_ => ((((P1_1_ k_ ∨ w.heap.size ≤ k_) ∧ k_ ≠ gb257) ∧ k_ ≠ gb258) ∧ k_ ≠ gb259)) _ _ l1_1 t260 t261 _ ?side1 A3.out).mono ?_
 (case side1 => exact HO1_1.out)
 rintro e w9 ⟨v262, rfl, ho0, hb⟩
 refine ⟨_, rfl, ?_⟩
 have n0_ := vb HO1_1 hb
 have n1_ := Aside0.mk (Kd.V_lower (Kd.V_mono (ok' := fun k_ => (P1_1_ k_ ∨ w.heap.size ≤ k_) ∧ k_ ≠ gb257 ∧ k_ ≠ gb258 ∧ k_ ≠ gb259) ho0 (fun k_ hk_ => ⟨Or.elim hk_ (fun hs_ => hs_.1.1.1) (fun hn_ => (.inr (Nat.le_trans (below_size (belt HB)) hn_))), Or.elim hk_ (fun hs_ => hs_.1.1.2) (fun hn_ => (Kd.freshB (blkt BK257) k_ hn_)), Or.elim hk_ (fun hs_ => hs_.1.2) (fun hn_ => (Kd.freshB (blkt BK258) k_ hn_)), Or.elim hk_ (fun hs_ => hs_.2) (fun hn_ => (Kd.freshB (blkt BK259) k_ hn_))⟩)) (below_size (belt HB)))
 have n2_ := blkb BK257 hb
 have n3_ := blkb BK258 hb
 have n4_ := blkb BK259 hb
 have n5_ := belb HB hb
 clear HO1_1
 clear BK257
 clear BK258
 clear BK259
 clear HB
 have HO1_1 := n0_
 have HO263 := n1_
 have BK257 := n2_
 have BK258 := n3_
 have BK259 := n4_
 have HB := n5_
 clear n0_ n1_ n2_ n3_ n4_ n5_
 (try clear hb)
 (try clear hb2)
 (try clear hk)
 (try clear hi)
 (try clear ho0)
 obtain ⟨Ao10, co10, eo10⟩ := Kd.V_slice HO263.out
 (first | subst eo10 | (injection eo10 with f1_ f2_ f3_; have f4_ := f1_.symm; have f5_ := f3_.symm; clear f1_ f2_ f3_; subst f4_; subst f5_))
 refine hK.out _ _ ⟨(blk_cell BK257.out 0).trans rfl, (blk_cell BK257.out 1).trans rfl, (blk_cell BK258.out 0).trans rfl, (blk_cell BK258.out 1).trans rfl⟩ (fun hHeld => ?_)
 clear hK K
 refine norm_ (a' := ?_) ?_ ?_
 rotate_left
 ·show Act.put _ (some 7) _ = _
  simp only [Act.put, List.setIfInBounds_toArray, List.set_cons_zero, List.set_cons_succ, i64_w, i32_w]
  rfl
 refine one_ (i := 3) (N := some 8) #[true, true, true, true, false] rfl rfl (by kernel_rfl) (by decide) (fun K hK => ?_)
 refine goes_ Try.func27 (by kernel_rfl) rfl #[.agg #[.bool a0_0, .slice A0_1 l0_1.length c0_1], .agg #[.bool t260, .slice Ao10 t261.length co10]] (by rfl) rfl rfl argt ?_
 with_reducible refine (turnstoneref01_Add.calls k a0_0 _ _ l0_1 t260 _ _ t261 t264 t265 _ ?side1 ?side2 ?side3 ?side4 A4.out).mono ?_
 (case side1 => exact (ct (Kd.C_below HR0_1.out HB.out)))
 (case side2 => exact HC0_1.out)
 (case side3 => repeat (first | exact (Kd.V_reads' HO263.out).2.2 | (with_reducible refine Kd.C_alloc ?_ _) | (with_reducible refine Kd.C_drewN ?_ _) | (with_reducible refine Kd.C_drew ?_)))
 (case side4 => exact (Kd.V_reads' HO263.out).2.1)
 rintro e w11 ⟨v266, rfl, ho0, hb⟩
 refine ⟨_, rfl, ?_⟩
 have n0_ := vb HO1_1 hb
 have n1_ := vb HO263 hb
 have n2_ := Aside0.mk (Kd.V_lower (Kd.V_mono (ok' := fun k_ => (P1_1_ k_ ∨ w.heap.size ≤ k_) ∧ k_ ≠ gb257 ∧ k_ ≠ gb258 ∧ k_ ≠ gb259) ho0 (fun k_ hk_ => ⟨(.inr (Nat.le_trans (below_size (belt HB)) hk_)), (Kd.freshB (blkt BK257) k_ hk_), (Kd.freshB (blkt BK258) k_ hk_), (Kd.freshB (blkt BK259) k_ hk_)⟩)) (below_size (belt HB)))
 have n3_ := blkb BK257 hb
 have n4_ := blkb BK258 hb
 have n5_ := blkb BK259 hb
 have n6_ := belb HB hb
 clear HO1_1
 clear HO263
 clear BK257
 clear BK258
 clear BK259
 clear HB
 have HO1_1 := n0_
 have HO263 := n1_
 have HO267 := n2_
 have BK257 := n3_
 have BK258 := n4_
 have BK259 := n5_
 have HB := n6_
 clear n0_ n1_ n2_ n3_ n4_ n5_ n6_
 (try clear hb)
 (try clear hb2)
 (try clear hk)
 (try clear hi)
 (try clear ho0)
 obtain ⟨Ao13, co13, eo13⟩ := Kd.V_slice HO267.out
 (first | subst eo13 | (injection eo13 with f1_ f2_ f3_; have f4_ := f1_.symm; have f5_ := f3_.symm; clear f1_ f2_ f3_; subst f4_; subst f5_))
 refine hK.out _ _ ⟨(blk_cell BK257.out 0).trans rfl, (blk_cell BK257.out 1).trans rfl, (blk_cell BK258.out 0).trans rfl, (blk_cell BK258.out 1).trans rfl⟩ (fun hHeld => ?_)
 clear hK K
 refine norm_ (a' := ?_) ?_ ?_
 rotate_left
 ·show Act.put _ (some 8) _ = _
  simp only [Act.put, List.setIfInBounds_toArray, List.set_cons_zero, List.set_cons_succ, i64_w, i32_w]
  rfl
 refine one_ (i := 4) (N := none) #[true, true, true, true, true] rfl rfl (by kernel_rfl) (by decide) (fun K hK => ?_)
 have hs12 : w11.cell? ⟨gb259, 0, none⟩ = some (.bool false) := (blk_cell BK259.out 0).trans rfl
 have hfs12 := blk_frozen BK259.out 0
 have hns12_0 := NB257_259.out
 have hns12_1 := NB258_259.out
 have hms12_0 := NB259_257.out
 have hms12_1 := NB259_258.out
 have hs14 : w11.cell? ⟨gb259, 1, none⟩ = some (.slice none 0 0) := (blk_cell BK259.out 1).trans rfl
 have hfs14 := blk_frozen BK259.out 1
 have hns14_0 := NB257_259.out
 have hns14_1 := NB258_259.out
 have hms14_0 := NB259_257.out
 have hms14_1 := NB259_258.out
 refine skip_ (w1 := ?_) (by rfl) rfl ?_ ?_
 rotate_left
 ·go_simp
  rfl
 refine hK.out _ _ ⟨((cell_far (p := ⟨gb259, _, none⟩) NB257_259.out _).trans (((cell_far (p := ⟨gb259, _, none⟩) NB257_259.out _).trans (hHeld.1)))), ((cell_far (p := ⟨gb259, _, none⟩) NB257_259.out _).trans (((cell_far (p := ⟨gb259, _, none⟩) NB257_259.out _).trans (hHeld.2.1)))), ((cell_far (p := ⟨gb259, _, none⟩) NB258_259.out _).trans (((cell_far (p := ⟨gb259, _, none⟩) NB258_259.out _).trans (hHeld.2.2.1)))), ((cell_far (p := ⟨gb259, _, none⟩) NB258_259.out _).trans (((cell_far (p := ⟨gb259, _, none⟩) NB258_259.out _).trans (hHeld.2.2.2))))⟩ (fun hHeld => ?_)
 clear hK K
 refine done_ (by kernel_rfl) ?_
 try go_wp2
 refine bodyPost_ret (results_cell_row rfl _ _ gb259 28 #[.bool t264, .slice Ao13 t265.length co13] (0, 0) _ rfl (by (with_reducible repeat (first | refine blk_drewN ?_ _ | refine blk_drew ?_ | refine blk_alloc ?_ _)); refine blk_put (cs := #[.bool t264, .slice none 0 0]) ?_ 1 _ rfl; (with_reducible repeat (first | refine blk_drewN ?_ _ | refine blk_drew ?_ | refine blk_alloc ?_ _)); refine blk_put (cs := #[.bool false, .slice none 0 0]) ?_ 0 _ rfl; (with_reducible repeat (first | refine blk_drewN ?_ _ | refine blk_drew ?_ | refine blk_alloc ?_ _)); exact BK259.out) Try.underlying28 rfl (by kernel_rfl)) rfl ?_
 exact ⟨_, by first | rfl | (simp [errW_none, errW_some] <;> rfl) | (simp [*, errW_none, errW_some] <;> rfl), by (with_reducible repeat (first | apply Kd.V_alloc | apply Kd.V_drewN | apply Kd.V_drew)); exact Kd.V_mono (Kd.V_far (p := ⟨gb259, 1, none⟩) (Kd.V_far (p := ⟨gb259, 0, none⟩) (Kd.V_mono HO267.out (fun k_ hk => (⟨hk, hk.2.2.2⟩ : _ ∧ k_ ≠ gb259))) (fun _ hk => hk.2) (.bool t264)) (fun _ hk => hk.2) (.slice Ao13 t265.length co13)) (fun _ hk => hk.1.1), by repeat (first | (with_reducible first | exact HB.out | apply below_alloc | apply pw_below_drewN | apply below_drew1 | refine below_set ?_ GE257.out | refine below_set ?_ GE258.out | refine below_set ?_ GE259.out) | exact HB.out)⟩

end Go.Proofs.Ytimgiiceipjpaaa.Print
