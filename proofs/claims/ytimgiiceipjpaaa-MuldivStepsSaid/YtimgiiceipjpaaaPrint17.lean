/- What each Go function that is named below answers, as a Lean function, and that its walk comes to just that: for whatever arguments that function gives an answer for. Written by a program of this session (wip/mkpr.py, pr.sh). -/
import Derived.Test.YtimgiiceipjpaaaPrint0
import Derived.Test.YtimgiiceipjpaaaPrint4
import Derived.Test.YtimgiiceipjpaaaPrint15
import Derived.Test.YtimgiiceipjpaaaPrint16
namespace Go.Proofs.Ytimgiiceipjpaaa.Print
open Go.RowKit Go.Proofs.YtimgiiceipjpaaaW.PrintWords Go.Proofs.YtimgiiceipjpaaaW.PrintLast Go.Proofs.YtimgiiceipjpaaaW.PrintMore
attribute [local go_sem] max2_int min2_int max_two min_two max_three min_three max_four min_four   -- for this text's walks alone
open Go.Proofs.Ytimgiiceipjpaaa.Bits Go.Proofs.Ytimgiiceipjpaaa.Short
attribute [local go_sem] add64_run0 sub64_run0 add64_run sub64_run
set_option linter.unusedVariables false
set_option linter.unusedSimpArgs false

/-! ### turnstoneref02_All: function 35 -/
def turnstoneref02_All.l0 : Nat → Int → List Int → Int → Int → Bool → List Int → Option (Bool × List Int)
 | 0, _, _, _, _, _, _ => none
 | k + 1, x0, x12, x13, x14, x260000, x260001 => if x14 < x13 then (if 0 ≤ x14 then (if x14 < (x12.length : Int) then ((turnstoneref01_U.f k (rd x12 x14)).bind fun bt261 => ((turnstoneref01_U.f k x0).bind fun bt265 => ((turnstoneref01_Mul.f k bt261.1 bt261.2 bt265.1 bt265.2).bind fun bt269 => ((turnstoneref01_Add.f k x260000 x260001 bt269.1 bt269.2).bind fun bt273 => (turnstoneref02_All.l0 k x0 x12 x13 (wrap64 (x14 + 1)) bt273.1 bt273.2))))) else (none)) else (none)) else (some (x260000, x260001))
def turnstoneref02_All.f (k : Nat) (a0 : Int) (a1 : Int) (l2 : List Int) : Option (Bool × List Int) := (turnstoneref01_U.f k a1).bind fun bt255 => (turnstoneref02_All.l0 k a0 l2 (l2.length : Int) 0 bt255.1 bt255.2)
theorem turnstoneref02_All.mono_l : ∀ k, (∀ y0 y1 y2 y3 y4 y5, LeO (turnstoneref02_All.l0 k y0 y1 y2 y3 y4 y5) (turnstoneref02_All.l0 (k + 1) y0 y1 y2 y3 y4 y5))
 | 0 => fun _ _ _ _ _ _ r h => by simp [turnstoneref02_All.l0] at h
 | k + 1 => by
  have ih0 := turnstoneref02_All.mono_l k
  ·intro y0 y1 y2 y3 y4 y5
   unfold turnstoneref02_All.l0
   repeat' first
   | (with_reducible exact ih0 _ _ _ _ _ _)
   | (with_reducible exact turnstoneref01_Add.mono _ _ _ _ _)
   | (with_reducible exact turnstoneref01_Mul.mono _ _ _ _ _)
   | (with_reducible exact turnstoneref01_U.mono _ _)
   | (with_reducible exact LeO.refl _)
   | (with_reducible exact LeO.none _)
   | (with_reducible refine LeO.ite ?_ ?_)
   | (with_reducible refine LeO.bind ?_ (fun _ => ?_))
   | exact ih0 _ _ _ _ _ _
   | exact turnstoneref01_Add.mono _ _ _ _ _
   | exact turnstoneref01_Mul.mono _ _ _ _ _
   | exact turnstoneref01_U.mono _ _
   | exact LeO.none _
   | refine LeO.ite ?_ ?_
   | refine LeO.bind ?_ (fun _ => ?_)
theorem turnstoneref02_All.mono : ∀ a0 a1 a2 k, LeO (turnstoneref02_All.f k a0 a1 a2) (turnstoneref02_All.f (k + 1) a0 a1 a2) := by
 intro a0 a1 a2 k
 have ih0 := turnstoneref02_All.mono_l k
 unfold turnstoneref02_All.f
 repeat' first
   | (with_reducible exact ih0 _ _ _ _ _ _)
   | (with_reducible exact turnstoneref01_Add.mono _ _ _ _ _)
   | (with_reducible exact turnstoneref01_Mul.mono _ _ _ _ _)
   | (with_reducible exact turnstoneref01_U.mono _ _)
   | (with_reducible exact LeO.refl _)
   | (with_reducible exact LeO.none _)
   | (with_reducible refine LeO.ite ?_ ?_)
   | (with_reducible refine LeO.bind ?_ (fun _ => ?_))
   | exact ih0 _ _ _ _ _ _
   | exact turnstoneref01_Add.mono _ _ _ _ _
   | exact turnstoneref01_Mul.mono _ _ _ _ _
   | exact turnstoneref01_U.mono _ _
   | exact LeO.none _
   | refine LeO.ite ?_ ?_
   | refine LeO.bind ?_ (fun _ => ?_)
def turnstoneref02_All.T5 : Bool × List (List Nat × List Nat) := (true, [([], []), ([], []), ([1], [1]), ([], []), ([3, 2], [3]), ([2, 4, 4], [2, 4]), ([0, 5, 5], [0, 5]), ([6, 6, 0, 1, 2, 3, 4, 5, 6], [6])])
def turnstoneref02_All.B5 : List Nat := [0, 0, 2, 0, 14, 30, 63, 127]
theorem turnstoneref02_All.tab5 : rtab .any (opsOf Try.f35 5) = turnstoneref02_All.T5 := by kernel_rfl
theorem turnstoneref02_All.bits5 : waitsOk turnstoneref02_All.T5.2 turnstoneref02_All.B5 = true := by kernel_rfl
set_option maxHeartbeats 8000000 in
set_option maxRecDepth 100000 in
theorem turnstoneref02_All.calls (k : Nat) (a0 : Int) (a1 : Int) (A2 : Option Addr) (c2 : Nat) (l2 : List Int) (r1 : Bool) (r2 : List Int) (w : World) (hr2 : Kd.C (Kd.int .u64) w A2 l2.length l2) (hc2 : l2.length ≤ c2) (h : turnstoneref02_All.f k a0 a1 l2 = some (r1, r2)) :
  Calls Try.prog 35 #[.int .u64 a0, .int .u64 a1, .slice A2 l2.length c2] w fun e w' => ∃ v1_ : Value, e = .returned (.agg #[.bool r1, v1_]) ∧ Kd.V (Kd.int .i64) 3 w' w.heap.size (fun k_ => (w.heap.size ≤ k_)) v1_ r2 ∧ Below w.heap.size w w' := by
 have hu28 := Try.underlying28
 have HR2 := Aside0.mk hr2
 have HC2 := Aside0.mk hc2
 clear hr2 hc2
 have HB := Aside0.mk (Below.refl w.heap.size w)
 have H : ((turnstoneref01_U.f k a1).bind fun bt255 => (turnstoneref02_All.l0 k a0 l2 (l2.length : Int) 0 bt255.1 bt255.2)) = some (r1, r2) := h
 clear h
 replace H := Option.bind_eq_some_iff.mp H
 obtain ⟨⟨t255, t256⟩, A40, H⟩ := H
 replace H : (turnstoneref02_All.l0 k a0 l2 (l2.length : Int) 0 t255 t256) = some (r1, r2) := H
 have A4 := Aside0.mk A40
 clear A40
 have H' := Aside0.mk H
 clear H
 go_enter Try.func35, Try.ntmps35
 go_wp2_with (first | ((with_reducible refine gate_dst (N := 6) rfl ?_); refine box_event ?hg (N := 6) ?hd (cs := #[.bool false, .slice none 0 0]) (t := 28) ?hr ?_; (case hd => rfl); (case hg => rfl); (case hr => first | (go_simp; done) | (go_simp; rfl)); intro gb254 hg w5 hbox hb; have n0_ := belb HB hb; have n1_ := Aside0.mk (hbox); have n2_ := bels HB hg; have n3_ := bels HB hg; clear HB; have HB := n0_; have BK254 := n1_; have GW254 := n2_; have GE254 := n3_; clear n0_ n1_ n2_ n3_; clear hb hbox hg) | ((with_reducible refine gate_callee (f := 24) rfl ?_); refine goesL_ (some 11) rfl rfl Try.func24 (by kernel_rfl) rfl #[.int .u64 a1] rfl argt ?_; (with_reducible refine (turnstoneref01_U.calls k a1 t255 t256 _ A4.out).mono ?_); rintro e w6 ⟨v257, rfl, ho0, hb⟩; refine ⟨_, rfl, ?_⟩; have n0_ := Aside0.mk (Kd.R_lower (Kd.R_newM (M := fun k_ => (w.heap.size ≤ k_)) ho0 (below_size (belt HB)) (fun k_ h_ => h_)) (below_size (belt HB))); have n1_ := blkb BK254 hb; have n2_ := belb HB hb; clear BK254; clear HB; have HO258 := n0_; have BK254 := n1_; have HB := n2_; clear n0_ n1_ n2_; (try clear hb); (try clear hb2); (try clear hk); (try clear hi); (try clear ho0)) | ((with_reducible refine gate_dst (N := 7) rfl ?_); refine box_event ?hg (N := 7) ?hd (cs := #[.bool false, .slice none 0 0]) (t := 28) ?hr ?_; (case hd => rfl); (case hg => rfl); (case hr => first | (go_simp; done) | (go_simp; rfl)); intro gb259 hg w7 hbox hb; have n0_ := rb HO258 hb; have n1_ := blkb BK254 hb; have n2_ := belb HB hb; have n3_ := Aside0.mk (hbox); have n4_ := bels HB hg; have n5_ := bels HB hg; have n6_ := blkl BK254 hg; have n7_ := blkg BK254 hg; clear HO258; clear BK254; clear HB; have HO258 := n0_; have BK254 := n1_; have HB := n2_; have BK259 := n3_; have GW259 := n4_; have GE259 := n5_; have NB254_259 := n6_; have NB259_254 := n7_; clear n0_ n1_ n2_ n3_ n4_ n5_ n6_ n7_; clear hb hbox hg; have hnb8 := NB259_254.out; have hnc8 := NB254_259.out; have hcz9_0 : w7.cell? ⟨gb259, 0, none⟩ = some (.bool false) := (blk_cell BK259.out 0).trans rfl; have hcz9_1 : w7.cell? ⟨gb259, 1, none⟩ = some (.slice none 0 0) := (blk_cell BK259.out 1).trans rfl; have hfz9_0 := blk_frozen BK259.out 0; have hfz9_1 := blk_frozen BK259.out 1; obtain ⟨Ao10, co10, eo10⟩ := Kd.R_slice HO258.out; subst eo10))
 (try simp only [Act.put, List.setIfInBounds_toArray, List.set_cons_zero, List.set_cons_succ])
 go_loopg [14] k (fun kq v14 w' => ∃ (x14_1 : Int) (x260000_1 : Bool) (x260001_1 : List Int) (u260001 : Value), v14 = .int .i64 x14_1 ∧ Aside0 (turnstoneref02_All.l0 kq a0 l2 (l2.length : Int) x14_1 x260000_1 x260001_1 = some (r1, r2)) ∧ Aside0 (kq ≤ k) ∧ Aside0 (Kd.V (Kd.int .i64) 3 w' w.heap.size (fun k_ => (w.heap.size ≤ k_) ∧ k_ ≠ gb254 ∧ k_ ≠ gb259) u260001 x260001_1) ∧ Aside0 (w'.heap[gb254]? = some (.cells #[.bool false, (.slice none 0 0)] 28 (0, 0))) ∧ Aside0 (w'.heap[gb259]? = some (.cells #[.bool x260000_1, u260001] 28 (0, 0))) ∧ Aside0 (Below w.heap.size w w'))
 case atStart => exact ⟨(0), (t255), (t256), (.slice Ao10 t256.length co10), (by first | rfl | (simp; done) | (simp [*]; done)), H', ⟨Nat.le_refl _⟩, ⟨Kd.R_V (by (with_reducible repeat (first | apply Kd.R_alloc | apply Kd.R_drewN | apply Kd.R_drew)); exact Kd.R_mono (Kd.R_far (p := ⟨gb259, 1, none⟩) (Kd.R_far (p := ⟨gb259, 0, none⟩) (Kd.R_types (Kd.R_types (Kd.R_types HO258.out BK254.out (by decide)) BK259.out (by decide)) BK259.out (by decide)) (fun _ hk => hk.2) (.bool t255)) (fun _ hk => hk.2) (.slice Ao10 t256.length co10)) (fun _ hk => ⟨hk.1.1.1.1, ⟨hk.1.1.2, hk.1.2⟩⟩))⟩, ⟨by (with_reducible repeat (first | refine blk_drewN ?_ _ | refine blk_drew ?_ | refine blk_alloc ?_ _)); refine blk_far ?_ NB254_259.out _; (with_reducible repeat (first | refine blk_drewN ?_ _ | refine blk_drew ?_ | refine blk_alloc ?_ _)); refine blk_far ?_ NB254_259.out _; (with_reducible repeat (first | refine blk_drewN ?_ _ | refine blk_drew ?_ | refine blk_alloc ?_ _)); exact BK254.out⟩, ⟨by (with_reducible repeat (first | refine blk_drewN ?_ _ | refine blk_drew ?_ | refine blk_alloc ?_ _)); refine blk_put (cs := #[.bool t255, .slice none 0 0]) ?_ 1 _ rfl; (with_reducible repeat (first | refine blk_drewN ?_ _ | refine blk_drew ?_ | refine blk_alloc ?_ _)); refine blk_put (cs := #[.bool false, .slice none 0 0]) ?_ 0 _ rfl; (with_reducible repeat (first | refine blk_drewN ?_ _ | refine blk_drew ?_ | refine blk_alloc ?_ _)); exact BK259.out⟩, ⟨by repeat (first | (with_reducible first | exact HB.out | apply below_alloc | apply pw_below_drewN | apply below_drew1 | refine below_set ?_ GE254.out | refine below_set ?_ GE259.out) | exact HB.out)⟩⟩
 case round =>
  clear H'
  try clear c2
  try clear p2
  try clear c3
  try clear c8
  try clear hcz9_0
  try clear hcz9_1
  try clear hfz9_0
  try clear hfz9_1
  obtain ⟨x14_1, x260000_1, x260001_1, u260001, rfl, HA, HK1, HO_260001, BK254, BK259, HB⟩ := hrel
  cases gk with
  | zero => exact absurd HA.out (by simp [turnstoneref02_All.l0])
  | succ k1 =>
   have H := HA.out
   clear HA
   simp only [turnstoneref02_All.l0] at H
   by_cases c11 : x14_1 < (l2.length : Int)
   ·rw [if_pos c11] at H
    have c11b0 : decide (x14_1 < (l2.length : Int)) = true := decide_eq_true c11
    clear c11
    by_cases c12 : 0 ≤ x14_1
    ·rw [if_pos c12] at H
     have c12b0 : decide (0 ≤ x14_1) = true := decide_eq_true c12
     clear c12
     by_cases c13 : x14_1 < (l2.length : Int)
     ·rw [if_pos c13] at H
      have c13b0 : decide (x14_1 < (l2.length : Int)) = true := decide_eq_true c13
      clear c13
      replace H := Option.bind_eq_some_iff.mp H
      obtain ⟨⟨t261, t262⟩, A140, H⟩ := H
      replace H : ((turnstoneref01_U.f k1 a0).bind fun bt265 => ((turnstoneref01_Mul.f k1 t261 t262 bt265.1 bt265.2).bind fun bt269 => ((turnstoneref01_Add.f k1 x260000_1 x260001_1 bt269.1 bt269.2).bind fun bt273 => (turnstoneref02_All.l0 k1 a0 l2 (l2.length : Int) (wrap64 (x14_1 + 1)) bt273.1 bt273.2)))) = some (r1, r2) := H
      have A14 := Aside0.mk A140
      clear A140
      replace H := Option.bind_eq_some_iff.mp H
      obtain ⟨⟨t265, t266⟩, A150, H⟩ := H
      replace H : ((turnstoneref01_Mul.f k1 t261 t262 t265 t266).bind fun bt269 => ((turnstoneref01_Add.f k1 x260000_1 x260001_1 bt269.1 bt269.2).bind fun bt273 => (turnstoneref02_All.l0 k1 a0 l2 (l2.length : Int) (wrap64 (x14_1 + 1)) bt273.1 bt273.2))) = some (r1, r2) := H
      have A15 := Aside0.mk A150
      clear A150
      replace H := Option.bind_eq_some_iff.mp H
      obtain ⟨⟨t269, t270⟩, A160, H⟩ := H
      replace H : ((turnstoneref01_Add.f k1 x260000_1 x260001_1 t269 t270).bind fun bt273 => (turnstoneref02_All.l0 k1 a0 l2 (l2.length : Int) (wrap64 (x14_1 + 1)) bt273.1 bt273.2)) = some (r1, r2) := H
      have A16 := Aside0.mk A160
      clear A160
      replace H := Option.bind_eq_some_iff.mp H
      obtain ⟨⟨t273, t274⟩, A170, H⟩ := H
      replace H : (turnstoneref02_All.l0 k1 a0 l2 (l2.length : Int) (wrap64 (x14_1 + 1)) t273 t274) = some (r1, r2) := H
      have A17 := Aside0.mk A170
      clear A170
      have H' := Aside0.mk H
      clear H
      have p260 : 0 ≤ (x14_1 : Int) := of_decide_eq_true (by first | (with_reducible assumption) | assumption)
      have q260 : x14_1 < (l2.length : Int) := of_decide_eq_true (by first | (with_reducible assumption) | assumption)
      obtain ⟨ad260, e260, hx260_0⟩ := Kd.at_int HR2.out x14_1 p260 q260
      cases e260
      replace hx260_0 := (HB.out.cell (World.block_lt_of_cell? w _ hx260_0)).trans hx260_0
      replace p260 := eq_true p260
      replace q260 := eq_true q260
      try go_wp2
      have n0_ := Aside0.mk (Kd.V_drew HO_260001.out)
      have n1_ := Aside0.mk (blk_drew BK254.out)
      have n2_ := Aside0.mk (blk_drew BK259.out)
      have n3_ := Aside0.mk (below_drew1 HB.out)
      clear HO_260001
      clear BK254
      clear BK259
      clear HB
      have HO_260001 := n0_
      have BK254 := n1_
      have BK259 := n2_
      have HB := n3_
      clear n0_ n1_ n2_ n3_
      refine start_ (n := 8) (S := fun w' => w'.cell? ⟨gb259, 0, none⟩ = some (.bool x260000_1) ∧ w'.cell? ⟨gb259, 1, none⟩ = some (u260001)) (ds := [7]) #[false, false, false, false, false, false, false, false] (by kernel_rfl) rfl rfl ⟨(blk_cell BK259.out 0).trans rfl, (blk_cell BK259.out 1).trans rfl⟩ (fun hHeld => ?_); refine with_tabW turnstoneref02_All.tab5 turnstoneref02_All.bits5 (fun HT_ HW_ => ?_)
      generalize wr.drew = w18 at HO_260001 BK254 BK259 HB hHeld ⊢
      refine pure_ (i := 1) (N := some 19) (v := ?_) (a' := ?_) #[false, true, false, false, false, false, false, false] rfl rfl (any_of HT_.out (by kernel_rfl)) (fun _ _ _ h => h) (Or.inl ⟨by rfl, ?_⟩) ?_ ?_
      rotate_left
      ·intro w'
       go_simp
       with_reducible rfl
      rotate_left
      ·simp only [Act.put, List.setIfInBounds_toArray, List.set_cons_zero, List.set_cons_succ, i64_w, i32_w]
       rfl
      refine pure_ (i := 3) (N := some 21) (v := ?_) (a' := ?_) #[false, true, false, true, false, false, false, false] rfl rfl (any_of HT_.out (by kernel_rfl)) (fun _ _ _ h => h) (Or.inl ⟨by rfl, ?_⟩) ?_ ?_
      rotate_left
      ·intro w'
       go_simp
       with_reducible rfl
      rotate_left
      ·simp only [Act.put, List.setIfInBounds_toArray, List.set_cons_zero, List.set_cons_succ, i64_w, i32_w]
       rfl
      refine take_ (i := 0) (N := some 18) (v := ?_) (a' := ?_) #[true, true, false, true, false, false, false, false] rfl rfl (take_ofW HT_.out HW_.out (by kernel_rfl)) (fun _ _ _ h => h) (Or.inl ⟨by rfl, ?_⟩) hHeld ?_ ?_
      rotate_left
      ·rintro w' ⟨s0, s1⟩
       go_simp
       with_reducible rfl
      rotate_left
      ·simp only [Act.put, List.setIfInBounds_toArray, List.set_cons_zero, List.set_cons_succ, i64_w, i32_w]
       rfl
      refine one_ (i := 2) (N := some 20) #[true, true, true, true, false, false, false, false] rfl rfl (one_of HT_.out (by kernel_rfl)) (by decide) (fun K hK => ?_)
      refine goes_ Try.func24 (by kernel_rfl) rfl #[.int .u64 (rd l2 x14_1)] (by rfl) rfl rfl argt ?_
      with_reducible refine (turnstoneref01_U.calls k1 (rd l2 x14_1) t261 t262 _ A14.out).mono ?_
      rintro e w19 ⟨v263, rfl, ho0, hb⟩
      refine ⟨_, rfl, ?_⟩
      have n0_ := Aside0.mk (Kd.V_elder' (vt HO_260001) (Kd.R_base ho0) hb)
      have n1_ := Aside0.mk (Kd.R_lower (Kd.R_newM (M := fun k_ => (w.heap.size ≤ k_)) ho0 (below_size (belt HB)) (fun k_ h_ => h_)) (below_size (belt HB)))
      have n2_ := blkb BK254 hb
      have n3_ := blkb BK259 hb
      have n4_ := belb HB hb
      clear HO_260001
      clear BK254
      clear BK259
      clear HB
      have HO_260001 := n0_
      have HO264 := n1_
      have BK254 := n2_
      have BK259 := n3_
      have HB := n4_
      clear n0_ n1_ n2_ n3_ n4_
      (try clear hb)
      (try clear hb2)
      (try clear hk)
      (try clear hi)
      (try clear ho0)
      refine hK.out _ _ ⟨(blk_cell BK259.out 0).trans rfl, (blk_cell BK259.out 1).trans rfl⟩ (fun hHeld => ?_)
      clear hK K
      refine norm_ (a' := ?_) ?_ ?_
      rotate_left
      ·show Act.put _ (some 20) _ = _
       simp only [Act.put, List.setIfInBounds_toArray, List.set_cons_zero, List.set_cons_succ, i64_w, i32_w]
       rfl
      refine one_ (i := 4) (N := some 22) #[true, true, true, true, true, false, false, false] rfl rfl (one_of HT_.out (by kernel_rfl)) (by decide) (fun K hK => ?_)
      refine goes_ Try.func24 (by kernel_rfl) rfl #[.int .u64 a0] (by rfl) rfl rfl argt ?_
      with_reducible refine (turnstoneref01_U.calls k1 a0 t265 t266 _ A15.out).mono ?_
      rintro e w20 ⟨v267, rfl, ho0, hb⟩
      refine ⟨_, rfl, ?_⟩
      have n0_ := Aside0.mk (Kd.V_elder' (vt HO_260001) (Kd.R_base ho0) hb)
      have n1_ := Aside0.mk (Kd.R_elder' (rt HO264) (Kd.R_base ho0) hb)
      have n2_ := Aside0.mk (Kd.R_lower (Kd.R_new' (Kd.R_newM (M := fun k_ => (w.heap.size ≤ k_)) ho0 (below_size (belt HB)) (fun k_ h_ => h_)) (Kd.R_lt (rt HO264))) (below_size (belt HB)))
      have n3_ := blkb BK254 hb
      have n4_ := blkb BK259 hb
      have n5_ := belb HB hb
      clear HO_260001
      clear HO264
      clear BK254
      clear BK259
      clear HB
      have HO_260001 := n0_
      have HO264 := n1_
      have HO268 := n2_
      have BK254 := n3_
      have BK259 := n4_
      have HB := n5_
      clear n0_ n1_ n2_ n3_ n4_ n5_
      (try clear hb)
      (try clear hb2)
      (try clear hk)
      (try clear hi)
      (try clear ho0)
      obtain ⟨Ao21, co21, eo21⟩ := Kd.R_slice HO264.out
      (first | subst eo21 | (injection eo21 with f1_ f2_ f3_; have f4_ := f1_.symm; have f5_ := f3_.symm; clear f1_ f2_ f3_; subst f4_; subst f5_))
      obtain ⟨Ao22, co22, eo22⟩ := Kd.R_slice HO268.out
      (first | subst eo22 | (injection eo22 with f1_ f2_ f3_; have f4_ := f1_.symm; have f5_ := f3_.symm; clear f1_ f2_ f3_; subst f4_; subst f5_))
      refine hK.out _ _ ⟨(blk_cell BK259.out 0).trans rfl, (blk_cell BK259.out 1).trans rfl⟩ (fun hHeld => ?_)
      clear hK K
      refine norm_ (a' := ?_) ?_ ?_
      rotate_left
      ·show Act.put _ (some 22) _ = _
       simp only [Act.put, List.setIfInBounds_toArray, List.set_cons_zero, List.set_cons_succ, i64_w, i32_w]
       rfl
      refine one_ (i := 5) (N := some 23) #[true, true, true, true, true, true, false, false] rfl rfl (one_of HT_.out (by kernel_rfl)) (by decide) (fun K hK => ?_)
      refine goes_ Try.func40 (by kernel_rfl) rfl #[.agg #[.bool t261, .slice Ao21 t262.length co21], .agg #[.bool t265, .slice Ao22 t266.length co22]] (by rfl) rfl rfl argt ?_
      with_reducible refine (turnstoneref01_Mul.calls k1 t261 _ _ t262 t265 _ _ t266 t269 t270 _ ?side1 ?side2 ?side3 ?side4 A16.out).mono ?_
      (case side1 => repeat (first | exact (Kd.R_reads' HO264.out).2.2 | (with_reducible refine Kd.C_alloc ?_ _) | (with_reducible refine Kd.C_drewN ?_ _) | (with_reducible refine Kd.C_drew ?_)))
      (case side2 => exact (Kd.R_reads' HO264.out).2.1)
      (case side3 => repeat (first | exact (Kd.R_reads' HO268.out).2.2 | (with_reducible refine Kd.C_alloc ?_ _) | (with_reducible refine Kd.C_drewN ?_ _) | (with_reducible refine Kd.C_drew ?_)))
      (case side4 => exact (Kd.R_reads' HO268.out).2.1)
      rintro e w23 ⟨v271, rfl, ho0, hb⟩
      refine ⟨_, rfl, ?_⟩
      have n0_ := vb HO_260001 hb
      have n1_ := rb HO264 hb
      have n2_ := rb HO268 hb
      have n3_ := Aside0.mk (Kd.V_lower (Kd.V_mono (ok' := fun k_ => (w.heap.size ≤ k_) ∧ some k_ ≠ (.slice Ao21 t262.length co21 : Value).ownBlock ∧ some k_ ≠ (.slice Ao22 t266.length co22 : Value).ownBlock ∧ k_ ≠ gb254 ∧ k_ ≠ gb259) ho0 (fun k_ hk_ => ⟨(Nat.le_trans (below_size (belt HB)) hk_), (Kd.fresh' (Kd.R_lt (rt HO264)) k_ hk_), (Kd.fresh' (Kd.R_lt (rt HO268)) k_ hk_), (Kd.freshB (blkt BK254) k_ hk_), (Kd.freshB (blkt BK259) k_ hk_)⟩)) (below_size (belt HB)))
      have n4_ := blkb BK254 hb
      have n5_ := blkb BK259 hb
      have n6_ := belb HB hb
      clear HO_260001
      clear HO264
      clear HO268
      clear BK254
      clear BK259
      clear HB
      have HO_260001 := n0_
      have HO264 := n1_
      have HO268 := n2_
      have HO272 := n3_
      have BK254 := n4_
      have BK259 := n5_
      have HB := n6_
      clear n0_ n1_ n2_ n3_ n4_ n5_ n6_
      (try clear hb)
      (try clear hb2)
      (try clear hk)
      (try clear hi)
      (try clear ho0)
      obtain ⟨Ao24, co24, eo24⟩ := Kd.V_slice HO_260001.out
      (first | subst eo24 | (injection eo24 with f1_ f2_ f3_; have f4_ := f1_.symm; have f5_ := f3_.symm; clear f1_ f2_ f3_; subst f4_; subst f5_))
      obtain ⟨Ao25, co25, eo25⟩ := Kd.V_slice HO272.out
      (first | subst eo25 | (injection eo25 with f1_ f2_ f3_; have f4_ := f1_.symm; have f5_ := f3_.symm; clear f1_ f2_ f3_; subst f4_; subst f5_))
      refine hK.out _ _ ⟨(blk_cell BK259.out 0).trans rfl, (blk_cell BK259.out 1).trans rfl⟩ (fun hHeld => ?_)
      clear hK K
      refine norm_ (a' := ?_) ?_ ?_
      rotate_left
      ·show Act.put _ (some 23) _ = _
       simp only [Act.put, List.setIfInBounds_toArray, List.set_cons_zero, List.set_cons_succ, i64_w, i32_w]
       rfl
      refine one_ (i := 6) (N := some 24) #[true, true, true, true, true, true, true, false] rfl rfl (one_of HT_.out (by kernel_rfl)) (by decide) (fun K hK => ?_)
      refine goes_ Try.func27 (by kernel_rfl) rfl #[.agg #[.bool x260000_1, .slice Ao24 x260001_1.length co24], .agg #[.bool t269, .slice Ao25 t270.length co25]] (by rfl) rfl rfl argt ?_
      with_reducible refine (turnstoneref01_Add.calls k1 x260000_1 _ _ x260001_1 t269 _ _ t270 t273 t274 _ ?side1 ?side2 ?side3 ?side4 A17.out).mono ?_
      (case side1 => repeat (first | exact (Kd.V_reads' HO_260001.out).2.2 | (with_reducible refine Kd.C_alloc ?_ _) | (with_reducible refine Kd.C_drewN ?_ _) | (with_reducible refine Kd.C_drew ?_)))
      (case side2 => exact (Kd.V_reads' HO_260001.out).2.1)
      (case side3 => repeat (first | exact (Kd.V_reads' HO272.out).2.2 | (with_reducible refine Kd.C_alloc ?_ _) | (with_reducible refine Kd.C_drewN ?_ _) | (with_reducible refine Kd.C_drew ?_)))
      (case side4 => exact (Kd.V_reads' HO272.out).2.1)
      rintro e w26 ⟨v275, rfl, ho0, hb⟩
      refine ⟨_, rfl, ?_⟩
      have n0_ := vb HO_260001 hb
      have n1_ := rb HO264 hb
      have n2_ := rb HO268 hb
      have n3_ := vb HO272 hb
      have n4_ := Aside0.mk (Kd.V_lower (Kd.V_mono (ok' := fun k_ => (w.heap.size ≤ k_) ∧ some k_ ≠ (.slice Ao21 t262.length co21 : Value).ownBlock ∧ some k_ ≠ (.slice Ao22 t266.length co22 : Value).ownBlock ∧ k_ ≠ gb254 ∧ k_ ≠ gb259) ho0 (fun k_ hk_ => ⟨(Nat.le_trans (below_size (belt HB)) hk_), (Kd.fresh' (Kd.R_lt (rt HO264)) k_ hk_), (Kd.fresh' (Kd.R_lt (rt HO268)) k_ hk_), (Kd.freshB (blkt BK254) k_ hk_), (Kd.freshB (blkt BK259) k_ hk_)⟩)) (below_size (belt HB)))
      have n5_ := blkb BK254 hb
      have n6_ := blkb BK259 hb
      have n7_ := belb HB hb
      clear HO_260001
      clear HO264
      clear HO268
      clear HO272
      clear BK254
      clear BK259
      clear HB
      have HO_260001 := n0_
      have HO264 := n1_
      have HO268 := n2_
      have HO272 := n3_
      have HO276 := n4_
      have BK254 := n5_
      have BK259 := n6_
      have HB := n7_
      clear n0_ n1_ n2_ n3_ n4_ n5_ n6_ n7_
      (try clear hb)
      (try clear hb2)
      (try clear hk)
      (try clear hi)
      (try clear ho0)
      obtain ⟨Ao28, co28, eo28⟩ := Kd.V_slice HO276.out
      (first | subst eo28 | (injection eo28 with f1_ f2_ f3_; have f4_ := f1_.symm; have f5_ := f3_.symm; clear f1_ f2_ f3_; subst f4_; subst f5_))
      refine hK.out _ _ ⟨(blk_cell BK259.out 0).trans rfl, (blk_cell BK259.out 1).trans rfl⟩ (fun hHeld => ?_)
      clear hK K
      refine norm_ (a' := ?_) ?_ ?_
      rotate_left
      ·show Act.put _ (some 24) _ = _
       simp only [Act.put, List.setIfInBounds_toArray, List.set_cons_zero, List.set_cons_succ, i64_w, i32_w]
       rfl
      refine last_ (i := 7) (N := none) #[true, true, true, true, true, true, true, true] rfl rfl (one_of HT_.out (by kernel_rfl)) (by decide) (fun K hK => ?_)
      have hs27 : w26.cell? ⟨gb259, 0, none⟩ = some (.bool x260000_1) := (blk_cell BK259.out 0).trans rfl
      have hfs27 := blk_frozen BK259.out 0
      have hns27_0 := NB254_259.out
      have hms27_0 := NB259_254.out
      have hs29 : w26.cell? ⟨gb259, 1, none⟩ = some (.slice Ao24 x260001_1.length co24) := (blk_cell BK259.out 1).trans rfl
      have hfs29 := blk_frozen BK259.out 1
      have hns29_0 := NB254_259.out
      have hms29_0 := NB259_254.out
      refine skip_ (w1 := ?_) (by rfl) rfl ?_ ?_
      rotate_left
      ·go_simp
       rfl
      refine hK.out _ _ ?_
      clear hK K
      refine done_ (done_of HT_.out (by kernel_rfl)) ?_
      try go_wp2
      go_roundg k1
      case measure => have := HK1.out; omega
      case rel => exact ⟨(wrap64 (x14_1 + 1)), (t273), (t274), (.slice Ao28 t274.length co28), (by first | rfl | (simp; done) | (simp [*]; done)), H', ⟨by have := HK1.out; omega⟩, ⟨by (with_reducible repeat (first | apply Kd.V_alloc | apply Kd.V_drewN | apply Kd.V_drew)); exact Kd.V_mono (Kd.V_far (p := ⟨gb259, 1, none⟩) (Kd.V_far (p := ⟨gb259, 0, none⟩) (Kd.V_mono HO276.out (fun k_ hk => (⟨hk, hk.2.2.2.2⟩ : _ ∧ k_ ≠ gb259))) (fun _ hk => hk.2) (.bool t273)) (fun _ hk => hk.2) (.slice Ao28 t274.length co28)) (fun _ hk => ⟨hk.1.1, ⟨hk.1.2.2.2.1, hk.1.2.2.2.2⟩⟩)⟩, ⟨by (with_reducible repeat (first | refine blk_drewN ?_ _ | refine blk_drew ?_ | refine blk_alloc ?_ _)); refine blk_far ?_ NB254_259.out _; (with_reducible repeat (first | refine blk_drewN ?_ _ | refine blk_drew ?_ | refine blk_alloc ?_ _)); refine blk_far ?_ NB254_259.out _; (with_reducible repeat (first | refine blk_drewN ?_ _ | refine blk_drew ?_ | refine blk_alloc ?_ _)); exact BK254.out⟩, ⟨by (with_reducible repeat (first | refine blk_drewN ?_ _ | refine blk_drew ?_ | refine blk_alloc ?_ _)); refine blk_put (cs := #[.bool t273, .slice Ao24 x260001_1.length co24]) ?_ 1 _ rfl; (with_reducible repeat (first | refine blk_drewN ?_ _ | refine blk_drew ?_ | refine blk_alloc ?_ _)); refine blk_put (cs := #[.bool x260000_1, .slice Ao24 x260001_1.length co24]) ?_ 0 _ rfl; (with_reducible repeat (first | refine blk_drewN ?_ _ | refine blk_drew ?_ | refine blk_alloc ?_ _)); exact BK259.out⟩, ⟨by repeat (first | (with_reducible first | exact HB.out | apply below_alloc | apply pw_below_drewN | apply below_drew1 | refine below_set ?_ GE254.out | refine below_set ?_ GE259.out) | exact HB.out)⟩⟩
     ·rw [if_neg c13] at H
      exact absurd H (by simp)
    ·rw [if_neg c12] at H
     exact absurd H (by simp)
   ·rw [if_neg c11] at H
    have c11b0 : decide (x14_1 < (l2.length : Int)) = false := decide_eq_false c11
    clear c11
    simp only [Option.some.injEq, Prod.mk.injEq] at H
    obtain ⟨rfl, rfl⟩ := H
    have hnb30 := NB259_254.out
    have hnc30 := NB254_259.out
    have hcz31_0 : wr.cell? ⟨gb259, 0, none⟩ = some (.bool x260000_1) := (blk_cell BK259.out 0).trans rfl
    have hcz31_1 : wr.cell? ⟨gb259, 1, none⟩ = some (u260001) := (blk_cell BK259.out 1).trans rfl
    have hfz31_0 := blk_frozen BK259.out 0
    have hfz31_1 := blk_frozen BK259.out 1
    have hcz32_0 : wr.cell? ⟨gb254, 0, none⟩ = some (.bool false) := (blk_cell BK254.out 0).trans rfl
    have hcz32_1 : wr.cell? ⟨gb254, 1, none⟩ = some (.slice none 0 0) := (blk_cell BK254.out 1).trans rfl
    have hfz32_0 := blk_frozen BK254.out 0
    have hfz32_1 := blk_frozen BK254.out 1
    obtain ⟨Ao33, co33, eo33⟩ := Kd.V_slice HO_260001.out
    subst eo33
    go_wp2
    refine bodyPost_ret (results_cell_row rfl _ _ gb254 28 #[.bool x260000_1, .slice Ao33 x260001_1.length co33] (0, 0) _ rfl (by (with_reducible repeat (first | refine blk_drewN ?_ _ | refine blk_drew ?_ | refine blk_alloc ?_ _)); refine blk_put (cs := #[.bool x260000_1, .slice none 0 0]) ?_ 1 _ rfl; (with_reducible repeat (first | refine blk_drewN ?_ _ | refine blk_drew ?_ | refine blk_alloc ?_ _)); refine blk_put (cs := #[.bool false, .slice none 0 0]) ?_ 0 _ rfl; (with_reducible repeat (first | refine blk_drewN ?_ _ | refine blk_drew ?_ | refine blk_alloc ?_ _)); exact BK254.out) Try.underlying28 rfl (by kernel_rfl)) rfl ?_
    exact ⟨_, by first | rfl | (simp [errW_none, errW_some] <;> rfl) | (simp [*, errW_none, errW_some] <;> rfl), by (with_reducible repeat (first | apply Kd.V_alloc | apply Kd.V_drewN | apply Kd.V_drew)); exact Kd.V_mono (Kd.V_far (p := ⟨gb254, 1, none⟩) (Kd.V_far (p := ⟨gb254, 0, none⟩) (Kd.V_mono HO_260001.out (fun k_ hk => (⟨hk, hk.2.1⟩ : _ ∧ k_ ≠ gb254))) (fun _ hk => hk.2) (.bool x260000_1)) (fun _ hk => hk.2) (.slice Ao33 x260001_1.length co33)) (fun _ hk => hk.1.1), by repeat (first | (with_reducible first | exact HB.out | apply below_alloc | apply pw_below_drewN | apply below_drew1 | refine below_set ?_ GE254.out | refine below_set ?_ GE259.out) | exact HB.out)⟩

end Go.Proofs.Ytimgiiceipjpaaa.Print
