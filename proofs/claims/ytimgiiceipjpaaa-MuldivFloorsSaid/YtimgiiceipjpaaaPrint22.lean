/- What each Go function that is named below answers, as a Lean function, and that its walk comes to just that: for whatever arguments that function gives an answer for. Written by a program of this session (wip/mkpr.py, pr.sh). -/
import Derived.Test.YtimgiiceipjpaaaPrint0
import Derived.Test.YtimgiiceipjpaaaPrint10
import Derived.Test.YtimgiiceipjpaaaPrint12
import Derived.Test.YtimgiiceipjpaaaPrint13
namespace Go.Proofs.Ytimgiiceipjpaaa.Print
open Go.RowKit Go.Proofs.YtimgiiceipjpaaaW.PrintWords Go.Proofs.YtimgiiceipjpaaaW.PrintLast Go.Proofs.YtimgiiceipjpaaaW.PrintMore
attribute [local go_sem] max2_int min2_int max_two min_two max_three min_three max_four min_four   -- for this text's walks alone
open Go.Proofs.Ytimgiiceipjpaaa.Bits Go.Proofs.Ytimgiiceipjpaaa.Short
attribute [local go_sem] add64_run0 sub64_run0 add64_run sub64_run
set_option linter.unusedVariables false
set_option linter.unusedSimpArgs false

/-! ### vtime_Time_Since: function 20 -/
def vtime_Time_Since.f (a0 : Int) (a1 : Int) : Option (Int) := some (wrap64 (IntKind.u64.wrap (a0 - a1)))
set_option maxHeartbeats 8000000 in
set_option maxRecDepth 100000 in
theorem vtime_Time_Since.calls (a0 : Int) (a1 : Int) (r : Int) (w : World) (h : vtime_Time_Since.f a0 a1 = some r) :
  Calls Try.prog 20 #[.int .u64 a0, .int .u64 a1] w fun e w' => e = .returned (.int .i64 r) ∧ Drawn0 w w' := by
 have H : (some (wrap64 (IntKind.u64.wrap (a0 - a1)))) = some r := h
 clear h
 obtain rfl := Option.some.inj H
 go_enter Try.func20, Try.ntmps20
 go_wp2
 go_ret
 exact ⟨by first | rfl | (simp; done) | (simp [*]; done), by repeat (first | exact Drawn0.refl _ | apply Drawn0.step)⟩

/-! ### turnstonelaw04_awake: function 44 -/
def turnstonelaw04_awake.f : Option Bool := some true
theorem turnstonelaw04_awake.calls (r : Bool) (w : World) (h : turnstonelaw04_awake.f = some r) : Calls Try.prog 44 #[] w fun e w' => e = .returned (.bool r) ∧ Below w.heap.size w w' := by
 obtain rfl := Option.some.inj h
 exact Go.Proofs.Ytimgiiceipjpaaa.Awake.at44 w

/-! ### turnstoneref03_Round: function 26 -/
mutual
def turnstoneref03_Round.l0 : Nat → Bool → List Int → Bool → List Int → Option (Bool × List Int)
 | 0, _, _, _, _ => none
 | k + 1, x506000, x506001, x512000, x512001 => (turnstoneref01_Sign.f x506000 x506001).bind fun t512 => (if t512 < 0 then ((turnstoneref01_Add.f k x506000 x506001 x512000 x512001).bind fun bt513 => (turnstoneref03_Round.l0 k bt513.1 bt513.2 x512000 x512001)) else (turnstoneref03_Round.l1 k x506000 x506001 x512000 x512001))
def turnstoneref03_Round.l1 : Nat → Bool → List Int → Bool → List Int → Option (Bool × List Int)
 | 0, _, _, _, _ => none
 | k + 1, x506000, x506001, x512000, x512001 => (turnstoneref01_Cmp.f k x506000 x506001 x512000 x512001).bind fun t517 => (if t517 ≥ 0 then ((turnstoneref01_Sub.f k x506000 x506001 x512000 x512001).bind fun bt518 => (turnstoneref03_Round.l1 k bt518.1 bt518.2 x512000 x512001)) else (some (x506000, x506001)))
end
def turnstoneref03_Round.f (k : Nat) (a0_0 : Bool) (l0_1 : List Int) : Option (Bool × List Int) := (turnstoneref01_Power.f k 64).bind fun bt507 => (turnstoneref03_Round.l0 k a0_0 l0_1 bt507.1 bt507.2)
theorem turnstoneref03_Round.mono_l : ∀ k, (∀ y0 y1 y2 y3, LeO (turnstoneref03_Round.l0 k y0 y1 y2 y3) (turnstoneref03_Round.l0 (k + 1) y0 y1 y2 y3)) ∧ (∀ y0 y1 y2 y3, LeO (turnstoneref03_Round.l1 k y0 y1 y2 y3) (turnstoneref03_Round.l1 (k + 1) y0 y1 y2 y3))
 | 0 => ⟨fun _ _ _ _ r h => by simp [turnstoneref03_Round.l0] at h, fun _ _ _ _ r h => by simp [turnstoneref03_Round.l1] at h⟩
 | k + 1 => by
  obtain ⟨ih0, ih1⟩ := turnstoneref03_Round.mono_l k
  refine ⟨?_, ?_⟩
  ·intro y0 y1 y2 y3
   unfold turnstoneref03_Round.l0
   repeat' first
   | (with_reducible exact ih0 _ _ _ _)
   | (with_reducible exact ih1 _ _ _ _)
   | (with_reducible exact turnstoneref01_Add.mono _ _ _ _ _)
   | (with_reducible exact turnstoneref01_Cmp.mono _ _ _ _ _)
   | (with_reducible exact turnstoneref01_Power.mono _ _)
   | (with_reducible exact turnstoneref01_Sub.mono _ _ _ _ _)
   | (with_reducible exact LeO.refl _)
   | (with_reducible exact LeO.none _)
   | (with_reducible refine LeO.ite ?_ ?_)
   | (with_reducible refine LeO.bind ?_ (fun _ => ?_))
   | exact ih0 _ _ _ _
   | exact ih1 _ _ _ _
   | exact turnstoneref01_Add.mono _ _ _ _ _
   | exact turnstoneref01_Cmp.mono _ _ _ _ _
   | exact turnstoneref01_Power.mono _ _
   | exact turnstoneref01_Sub.mono _ _ _ _ _
   | exact LeO.none _
   | refine LeO.ite ?_ ?_
   | refine LeO.bind ?_ (fun _ => ?_)
  ·intro y0 y1 y2 y3
   unfold turnstoneref03_Round.l1
   repeat' first
   | (with_reducible exact ih0 _ _ _ _)
   | (with_reducible exact ih1 _ _ _ _)
   | (with_reducible exact turnstoneref01_Add.mono _ _ _ _ _)
   | (with_reducible exact turnstoneref01_Cmp.mono _ _ _ _ _)
   | (with_reducible exact turnstoneref01_Power.mono _ _)
   | (with_reducible exact turnstoneref01_Sub.mono _ _ _ _ _)
   | (with_reducible exact LeO.refl _)
   | (with_reducible exact LeO.none _)
   | (with_reducible refine LeO.ite ?_ ?_)
   | (with_reducible refine LeO.bind ?_ (fun _ => ?_))
   | exact ih0 _ _ _ _
   | exact ih1 _ _ _ _
   | exact turnstoneref01_Add.mono _ _ _ _ _
   | exact turnstoneref01_Cmp.mono _ _ _ _ _
   | exact turnstoneref01_Power.mono _ _
   | exact turnstoneref01_Sub.mono _ _ _ _ _
   | exact LeO.none _
   | refine LeO.ite ?_ ?_
   | refine LeO.bind ?_ (fun _ => ?_)
theorem turnstoneref03_Round.mono : ∀ a0 a1 k, LeO (turnstoneref03_Round.f k a0 a1) (turnstoneref03_Round.f (k + 1) a0 a1) := by
 intro a0 a1 k
 obtain ⟨ih0, ih1⟩ := turnstoneref03_Round.mono_l k
 unfold turnstoneref03_Round.f
 repeat' first
   | (with_reducible exact ih0 _ _ _ _)
   | (with_reducible exact ih1 _ _ _ _)
   | (with_reducible exact turnstoneref01_Add.mono _ _ _ _ _)
   | (with_reducible exact turnstoneref01_Cmp.mono _ _ _ _ _)
   | (with_reducible exact turnstoneref01_Power.mono _ _)
   | (with_reducible exact turnstoneref01_Sub.mono _ _ _ _ _)
   | (with_reducible exact LeO.refl _)
   | (with_reducible exact LeO.none _)
   | (with_reducible refine LeO.ite ?_ ?_)
   | (with_reducible refine LeO.bind ?_ (fun _ => ?_))
   | exact ih0 _ _ _ _
   | exact ih1 _ _ _ _
   | exact turnstoneref01_Add.mono _ _ _ _ _
   | exact turnstoneref01_Cmp.mono _ _ _ _ _
   | exact turnstoneref01_Power.mono _ _
   | exact turnstoneref01_Sub.mono _ _ _ _ _
   | exact LeO.none _
   | refine LeO.ite ?_ ?_
   | refine LeO.bind ?_ (fun _ => ?_)
set_option maxHeartbeats 8000000 in
set_option maxRecDepth 100000 in
theorem turnstoneref03_Round.calls (k : Nat) (a0_0 : Bool) (P0_1_ : Nat → Prop) (A0_1 : Option Addr) (c0_1 : Nat) (l0_1 : List Int) (r1 : Bool) (r2 : List Int) (w : World) (hs0_1 : Kd.V (Kd.int .i64) 3 w w.heap.size (fun k_ => P0_1_ k_) (.slice A0_1 l0_1.length c0_1) l0_1) (h : turnstoneref03_Round.f k a0_0 l0_1 = some (r1, r2)) :
  Calls Try.prog 26 #[.agg #[.bool a0_0, .slice A0_1 l0_1.length c0_1]] w fun e w' => ∃ v1_ : Value, e = .returned (.agg #[.bool r1, v1_]) ∧ Kd.V (Kd.int .i64) 3 w' w.heap.size (fun k_ => (P0_1_ k_ ∨ w.heap.size ≤ k_)) v1_ r2 ∧ Below w.heap.size w w' := by
 have hu28 := Try.underlying28
 have HO0_1 := Aside0.mk (show Kd.V (Kd.int .i64) 3 w w.heap.size (fun k_ => (P0_1_ k_ ∨ w.heap.size ≤ k_)) (.slice A0_1 l0_1.length c0_1) l0_1 from Kd.V_mono hs0_1 (fun k_ hk => .inl hk))
 have HB := Aside0.mk (Below.refl w.heap.size w)
 have H : ((turnstoneref01_Power.f k 64).bind fun bt507 => (turnstoneref03_Round.l0 k a0_0 l0_1 bt507.1 bt507.2)) = some (r1, r2) := h
 clear h
 replace H := Option.bind_eq_some_iff.mp H
 obtain ⟨⟨t507, t508⟩, A20, H⟩ := H
 replace H : (turnstoneref03_Round.l0 k a0_0 l0_1 t507 t508) = some (r1, r2) := H
 have A2 := Aside0.mk A20
 clear A20
 have H' := Aside0.mk H
 clear H
 go_enter Try.func26, Try.ntmps26
 go_wp2_with (first | ((with_reducible refine gate_dst (N := 1) rfl ?_); refine box_event ?hg (N := 1) ?hd (cs := #[.bool a0_0, .slice A0_1 l0_1.length c0_1]) (t := 28) ?hr ?_; (case hd => rfl); (case hg => rfl); (case hr => first | (go_simp; done) | (go_simp; rfl)); intro gb505 hg w3 hbox hb; have n0_ := Aside0.mk (Kd.V_below (Kd.V_elderB (vt HO0_1) gb505 (Nat.le_of_eq hg.symm)) hb); have n1_ := belb HB hb; have n2_ := Aside0.mk (hbox); have n3_ := bels HB hg; have n4_ := bels HB hg; clear HO0_1; clear HB; have HO0_1 := n0_; have HB := n1_; have BK505 := n2_; have GW505 := n3_; have GE505 := n4_; clear n0_ n1_ n2_ n3_ n4_; clear hb hbox hg) | ((with_reducible refine gate_dst (N := 2) rfl ?_); refine box_event ?hg (N := 2) ?hd (cs := #[.bool false, .slice none 0 0]) (t := 28) ?hr ?_; (case hd => rfl); (case hg => rfl); (case hr => first | (go_simp; done) | (go_simp; rfl)); intro gb506 hg w4 hbox hb; have n0_ := Aside0.mk (Kd.V_below (Kd.V_elderB (vt HO0_1) gb506 (Nat.le_of_eq hg.symm)) hb); have n1_ := blkb BK505 hb; have n2_ := belb HB hb; have n3_ := Aside0.mk (hbox); have n4_ := bels HB hg; have n5_ := bels HB hg; have n6_ := blkl BK505 hg; have n7_ := blkg BK505 hg; clear HO0_1; clear BK505; clear HB; have HO0_1 := n0_; have BK505 := n1_; have HB := n2_; have BK506 := n3_; have GW506 := n4_; have GE506 := n5_; have NB505_506 := n6_; have NB506_505 := n7_; clear n0_ n1_ n2_ n3_ n4_ n5_ n6_ n7_; clear hb hbox hg) | ((with_reducible refine gate_callee (f := 60) rfl ?_); refine goesL_ (some 4) rfl rfl Try.func60 (by kernel_rfl) rfl #[.int .i64 64] rfl argt ?_; (with_reducible refine (turnstoneref01_Power.calls k 64 t507 t508 _ A2.out).mono ?_); rintro e w5 ⟨v509, rfl, ho0, hb⟩; refine ⟨_, rfl, ?_⟩; have n0_ := vb HO0_1 hb; have n1_ := Aside0.mk (Kd.V_lower (Kd.V_mono (ok' := fun k_ => (P0_1_ k_ ∨ w.heap.size ≤ k_) ∧ k_ ≠ gb505 ∧ k_ ≠ gb506) ho0 (fun k_ hk_ => ⟨(.inr (Nat.le_trans (below_size (belt HB)) hk_)), (Kd.freshB (blkt BK505) k_ hk_), (Kd.freshB (blkt BK506) k_ hk_)⟩)) (below_size (belt HB))); have n2_ := blkb BK505 hb; have n3_ := blkb BK506 hb; have n4_ := belb HB hb; clear HO0_1; clear BK505; clear BK506; clear HB; have HO0_1 := n0_; have HO510 := n1_; have BK505 := n2_; have BK506 := n3_; have HB := n4_; clear n0_ n1_ n2_ n3_ n4_; (try clear hb); (try clear hb2); (try clear hk); (try clear hi); (try clear ho0)) | ((with_reducible refine gate_dst (N := 3) rfl ?_); refine box_event ?hg (N := 3) ?hd (cs := #[.bool false, .slice none 0 0]) (t := 28) ?hr ?_; (case hd => rfl); (case hg => rfl); (case hr => first | (go_simp; done) | (go_simp; rfl)); intro gb511 hg w6 hbox hb; have n0_ := Aside0.mk (Kd.V_below (Kd.V_elderB (vt HO0_1) gb511 (Nat.le_of_eq hg.symm)) hb); have n1_ := Aside0.mk (Kd.V_below (Kd.V_elderB (vt HO510) gb511 (Nat.le_of_eq hg.symm)) hb); have n2_ := blkb BK505 hb; have n3_ := blkb BK506 hb; have n4_ := belb HB hb; have n5_ := Aside0.mk (hbox); have n6_ := bels HB hg; have n7_ := bels HB hg; have n8_ := blkl BK505 hg; have n9_ := blkg BK505 hg; have n10_ := blkl BK506 hg; have n11_ := blkg BK506 hg; clear HO0_1; clear HO510; clear BK505; clear BK506; clear HB; have HO0_1 := n0_; have HO510 := n1_; have BK505 := n2_; have BK506 := n3_; have HB := n4_; have BK511 := n5_; have GW511 := n6_; have GE511 := n7_; have NB505_511 := n8_; have NB511_505 := n9_; have NB506_511 := n10_; have NB511_506 := n11_; clear n0_ n1_ n2_ n3_ n4_ n5_ n6_ n7_ n8_ n9_ n10_ n11_; clear hb hbox hg; have hnb7 := NB511_505.out; have hnc7 := NB505_511.out; have hnb8 := NB511_506.out; have hnc8 := NB506_511.out; have hcz9_0 : w6.cell? ⟨gb511, 0, none⟩ = some (.bool false) := (blk_cell BK511.out 0).trans rfl; have hcz9_1 : w6.cell? ⟨gb511, 1, none⟩ = some (.slice none 0 0) := (blk_cell BK511.out 1).trans rfl; have hfz9_0 := blk_frozen BK511.out 0; have hfz9_1 := blk_frozen BK511.out 1; obtain ⟨Ao10, co10, eo10⟩ := Kd.V_slice HO510.out; subst eo10))
 (try simp only [Act.put, List.setIfInBounds_toArray, List.set_cons_zero, List.set_cons_succ])
 go_loopg [] k (fun kq w' => ∃ (x506000_1 : Bool) (x506001_1 : List Int) (u506001 : Value), Aside0 (turnstoneref03_Round.l0 kq x506000_1 x506001_1 t507 t508 = some (r1, r2)) ∧ Aside0 (kq ≤ k) ∧ Aside0 (Kd.V (Kd.int .i64) 3 w' w.heap.size (fun k_ => (P0_1_ k_ ∨ w.heap.size ≤ k_) ∧ k_ ≠ gb505 ∧ k_ ≠ gb506 ∧ k_ ≠ gb511) u506001 x506001_1) ∧ Aside0 (Kd.V (Kd.int .i64) 3 w' w.heap.size (fun k_ => (P0_1_ k_ ∨ w.heap.size ≤ k_) ∧ k_ ≠ gb505 ∧ k_ ≠ gb506 ∧ k_ ≠ gb511) (.slice Ao10 t508.length co10) t508) ∧ Aside0 (w'.heap[gb505]? = some (.cells #[.bool x506000_1, u506001] 28 (0, 0))) ∧ Aside0 (w'.heap[gb506]? = some (.cells #[.bool false, (.slice none 0 0)] 28 (0, 0))) ∧ Aside0 (w'.heap[gb511]? = some (.cells #[.bool t507, (.slice Ao10 t508.length co10)] 28 (0, 0))) ∧ Aside0 (Below w.heap.size w w'))
 case atStart => exact ⟨(a0_0), (l0_1), (.slice A0_1 l0_1.length c0_1), H', ⟨Nat.le_refl _⟩, ⟨by (with_reducible repeat (first | apply Kd.V_alloc | apply Kd.V_drewN | apply Kd.V_drew)); exact Kd.V_mono (Kd.V_far (p := ⟨gb511, 1, none⟩) (Kd.V_far (p := ⟨gb511, 0, none⟩) (Kd.V_mono HO0_1.out (fun k_ hk => (⟨hk, hk.2⟩ : _ ∧ k_ ≠ gb511))) (fun _ hk => hk.2) (.bool t507)) (fun _ hk => hk.2) (.slice Ao10 t508.length co10)) (fun _ hk => ⟨hk.1.1.1.1, ⟨hk.1.1.1.2, ⟨hk.1.1.2, hk.1.2⟩⟩⟩)⟩, ⟨by (with_reducible repeat (first | apply Kd.V_alloc | apply Kd.V_drewN | apply Kd.V_drew)); exact Kd.V_mono (Kd.V_far (p := ⟨gb511, 1, none⟩) (Kd.V_far (p := ⟨gb511, 0, none⟩) (Kd.V_mono HO510.out (fun k_ hk => (⟨hk, hk.2⟩ : _ ∧ k_ ≠ gb511))) (fun _ hk => hk.2) (.bool t507)) (fun _ hk => hk.2) (.slice Ao10 t508.length co10)) (fun _ hk => ⟨hk.1.1.1, ⟨hk.1.1.2.1, ⟨hk.1.1.2.2, hk.1.2⟩⟩⟩)⟩, ⟨by (with_reducible repeat (first | refine blk_drewN ?_ _ | refine blk_drew ?_ | refine blk_alloc ?_ _)); refine blk_far ?_ NB505_511.out _; (with_reducible repeat (first | refine blk_drewN ?_ _ | refine blk_drew ?_ | refine blk_alloc ?_ _)); refine blk_far ?_ NB505_511.out _; (with_reducible repeat (first | refine blk_drewN ?_ _ | refine blk_drew ?_ | refine blk_alloc ?_ _)); exact BK505.out⟩, ⟨by (with_reducible repeat (first | refine blk_drewN ?_ _ | refine blk_drew ?_ | refine blk_alloc ?_ _)); refine blk_far ?_ NB506_511.out _; (with_reducible repeat (first | refine blk_drewN ?_ _ | refine blk_drew ?_ | refine blk_alloc ?_ _)); refine blk_far ?_ NB506_511.out _; (with_reducible repeat (first | refine blk_drewN ?_ _ | refine blk_drew ?_ | refine blk_alloc ?_ _)); exact BK506.out⟩, ⟨by (with_reducible repeat (first | refine blk_drewN ?_ _ | refine blk_drew ?_ | refine blk_alloc ?_ _)); refine blk_put (cs := #[.bool t507, .slice none 0 0]) ?_ 1 _ rfl; (with_reducible repeat (first | refine blk_drewN ?_ _ | refine blk_drew ?_ | refine blk_alloc ?_ _)); refine blk_put (cs := #[.bool false, .slice none 0 0]) ?_ 0 _ rfl; (with_reducible repeat (first | refine blk_drewN ?_ _ | refine blk_drew ?_ | refine blk_alloc ?_ _)); exact BK511.out⟩, ⟨by repeat (first | (with_reducible first | exact HB.out | apply below_alloc | apply pw_below_drewN | apply below_drew1 | refine below_set ?_ GE505.out | refine below_set ?_ GE506.out | refine below_set ?_ GE511.out) | exact HB.out)⟩⟩
 case round =>
  clear H'
  try clear c2
  try clear p2
  try clear c6
  try clear c7
  try clear c8
  try clear hcz9_0
  try clear hcz9_1
  try clear hfz9_0
  try clear hfz9_1
  obtain ⟨x506000_1, x506001_1, u506001, HA, HK1, HO_506001, HO_512001, BK505, BK506, BK511, HB⟩ := hrel
  cases gk with
  | zero => exact absurd HA.out (by simp [turnstoneref03_Round.l0])
  | succ k1 =>
   have H := HA.out
   clear HA
   simp only [turnstoneref03_Round.l0] at H
   replace H := Option.bind_eq_some_iff.mp H
   obtain ⟨t512, A110, H⟩ := H
   replace H : (if t512 < 0 then ((turnstoneref01_Add.f k1 x506000_1 x506001_1 t507 t508).bind fun bt513 => (turnstoneref03_Round.l0 k1 bt513.1 bt513.2 t507 t508)) else (turnstoneref03_Round.l1 k1 x506000_1 x506001_1 t507 t508)) = some (r1, r2) := H
   have A11 := Aside0.mk A110
   clear A110
   by_cases c12 : t512 < 0
   ·rw [if_pos c12] at H
    have c12b0 : decide (t512 < 0) = true := decide_eq_true c12
    clear c12
    replace H := Option.bind_eq_some_iff.mp H
    obtain ⟨⟨t513, t514⟩, A130, H⟩ := H
    replace H : (turnstoneref03_Round.l0 k1 t513 t514 t507 t508) = some (r1, r2) := H
    have A13 := Aside0.mk A130
    clear A130
    have H' := Aside0.mk H
    clear H
    have hnb14 := NB505_506.out
    have hnc14 := NB506_505.out
    have hnb15 := NB505_511.out
    have hnc15 := NB511_505.out
    have hcz16_0 : wr.cell? ⟨gb505, 0, none⟩ = some (.bool x506000_1) := (blk_cell BK505.out 0).trans rfl
    have hcz16_1 : wr.cell? ⟨gb505, 1, none⟩ = some (u506001) := (blk_cell BK505.out 1).trans rfl
    have hfz16_0 := blk_frozen BK505.out 0
    have hfz16_1 := blk_frozen BK505.out 1
    obtain ⟨Ao17, co17, eo17⟩ := Kd.V_slice HO_506001.out
    subst eo17
    go_wp2_with (first | ((with_reducible refine gate_callee (f := 59) rfl ?_); refine goesL_ (some 6) rfl rfl Try.func59 (by kernel_rfl) rfl #[.agg #[.bool x506000_1, .slice Ao17 x506001_1.length co17]] rfl argt ?_; (with_reducible refine (turnstoneref01_Sign.calls x506000_1 _ _ x506001_1 t512 _ ?side1 ?side2 A11.out).mono ?_); (case side1 => repeat (first | exact (Kd.V_reads' HO_506001.out).2.2 | (with_reducible refine Kd.C_alloc ?_ _) | (with_reducible refine Kd.C_drewN ?_ _) | (with_reducible refine Kd.C_drew ?_))); (case side2 => exact (Kd.V_reads' HO_506001.out).2.1); rintro e w18 ⟨rfl, hb⟩; refine ⟨_, rfl, ?_⟩; have n0_ := vb HO_506001 hb; have n1_ := vb HO_512001 hb; have n2_ := blkb BK505 hb; have n3_ := blkb BK506 hb; have n4_ := blkb BK511 hb; have n5_ := belb HB hb; clear HO_506001; clear HO_512001; clear BK505; clear BK506; clear BK511; clear HB; have HO_506001 := n0_; have HO_512001 := n1_; have BK505 := n2_; have BK506 := n3_; have BK511 := n4_; have HB := n5_; clear n0_ n1_ n2_ n3_ n4_ n5_; (try clear hb); (try clear hb2); (try clear hk); (try clear hi); have hcz19_0 : w18.cell? ⟨gb505, 0, none⟩ = some (.bool x506000_1) := (blk_cell BK505.out 0).trans rfl; have hcz19_1 : w18.cell? ⟨gb505, 1, none⟩ = some (.slice Ao17 x506001_1.length co17) := (blk_cell BK505.out 1).trans rfl; have hfz19_0 := blk_frozen BK505.out 0; have hfz19_1 := blk_frozen BK505.out 1; have hnb20 := NB511_506.out; have hnc20 := NB506_511.out; have hcz21_0 : w18.cell? ⟨gb511, 0, none⟩ = some (.bool t507) := (blk_cell BK511.out 0).trans rfl; have hcz21_1 : w18.cell? ⟨gb511, 1, none⟩ = some (.slice Ao10 t508.length co10) := (blk_cell BK511.out 1).trans rfl; have hfz21_0 := blk_frozen BK511.out 0; have hfz21_1 := blk_frozen BK511.out 1) | ((with_reducible refine gate_callee (f := 27) rfl ?_); refine goesL_ (some 10) rfl rfl Try.func27 (by kernel_rfl) rfl #[.agg #[.bool x506000_1, .slice Ao17 x506001_1.length co17], .agg #[.bool t507, .slice Ao10 t508.length co10]] rfl argt ?_; (with_reducible refine (turnstoneref01_Add.calls k1 x506000_1 _ _ x506001_1 t507 _ _ t508 t513 t514 _ ?side1 ?side2 ?side3 ?side4 A13.out).mono ?_); (case side1 => repeat (first | exact (Kd.V_reads' HO_506001.out).2.2 | (with_reducible refine Kd.C_alloc ?_ _) | (with_reducible refine Kd.C_drewN ?_ _) | (with_reducible refine Kd.C_drew ?_))); (case side2 => exact (Kd.V_reads' HO_506001.out).2.1); (case side3 => repeat (first | exact (Kd.V_reads' HO_512001.out).2.2 | (with_reducible refine Kd.C_alloc ?_ _) | (with_reducible refine Kd.C_drewN ?_ _) | (with_reducible refine Kd.C_drew ?_))); (case side4 => exact (Kd.V_reads' HO_512001.out).2.1); rintro e w22 ⟨v515, rfl, ho0, hb⟩; refine ⟨_, rfl, ?_⟩; have n0_ := vb HO_506001 hb; have n1_ := vb HO_512001 hb; have n2_ := Aside0.mk (Kd.V_lower (Kd.V_mono (ok' := fun k_ => (P0_1_ k_ ∨ w.heap.size ≤ k_) ∧ k_ ≠ gb505 ∧ k_ ≠ gb506 ∧ k_ ≠ gb511) ho0 (fun k_ hk_ => ⟨(.inr (Nat.le_trans (below_size (belt HB)) hk_)), (Kd.freshB (blkt BK505) k_ hk_), (Kd.freshB (blkt BK506) k_ hk_), (Kd.freshB (blkt BK511) k_ hk_)⟩)) (below_size (belt HB))); have n3_ := blkb BK505 hb; have n4_ := blkb BK506 hb; have n5_ := blkb BK511 hb; have n6_ := belb HB hb; clear HO_506001; clear HO_512001; clear BK505; clear BK506; clear BK511; clear HB; have HO_506001 := n0_; have HO_512001 := n1_; have HO516 := n2_; have BK505 := n3_; have BK506 := n4_; have BK511 := n5_; have HB := n6_; clear n0_ n1_ n2_ n3_ n4_ n5_ n6_; (try clear hb); (try clear hb2); (try clear hk); (try clear hi); (try clear ho0); have hcz23_0 : w22.cell? ⟨gb505, 0, none⟩ = some (.bool x506000_1) := (blk_cell BK505.out 0).trans rfl; have hcz23_1 : w22.cell? ⟨gb505, 1, none⟩ = some (.slice Ao17 x506001_1.length co17) := (blk_cell BK505.out 1).trans rfl; have hfz23_0 := blk_frozen BK505.out 0; have hfz23_1 := blk_frozen BK505.out 1; obtain ⟨Ao24, co24, eo24⟩ := Kd.V_slice HO516.out; subst eo24))
    go_roundg k1
    case measure => have := HK1.out; omega
    case rel => exact ⟨(t513), (t514), (.slice Ao24 t514.length co24), H', ⟨by have := HK1.out; omega⟩, ⟨by (with_reducible repeat (first | apply Kd.V_alloc | apply Kd.V_drewN | apply Kd.V_drew)); exact Kd.V_mono (Kd.V_far (p := ⟨gb505, 1, none⟩) (Kd.V_far (p := ⟨gb505, 0, none⟩) (Kd.V_mono HO516.out (fun k_ hk => (⟨hk, hk.2.1⟩ : _ ∧ k_ ≠ gb505))) (fun _ hk => hk.2) (.bool t513)) (fun _ hk => hk.2) (.slice Ao24 t514.length co24)) (fun _ hk => ⟨hk.1.1, ⟨hk.1.2.1, ⟨hk.1.2.2.1, hk.1.2.2.2⟩⟩⟩)⟩, ⟨by (with_reducible repeat (first | apply Kd.V_alloc | apply Kd.V_drewN | apply Kd.V_drew)); exact Kd.V_mono (Kd.V_far (p := ⟨gb505, 1, none⟩) (Kd.V_far (p := ⟨gb505, 0, none⟩) (Kd.V_mono HO_512001.out (fun k_ hk => (⟨hk, hk.2.1⟩ : _ ∧ k_ ≠ gb505))) (fun _ hk => hk.2) (.bool t513)) (fun _ hk => hk.2) (.slice Ao24 t514.length co24)) (fun _ hk => ⟨hk.1.1, ⟨hk.1.2.1, ⟨hk.1.2.2.1, hk.1.2.2.2⟩⟩⟩)⟩, ⟨by (with_reducible repeat (first | refine blk_drewN ?_ _ | refine blk_drew ?_ | refine blk_alloc ?_ _)); refine blk_put (cs := #[.bool t513, .slice Ao17 x506001_1.length co17]) ?_ 1 _ rfl; (with_reducible repeat (first | refine blk_drewN ?_ _ | refine blk_drew ?_ | refine blk_alloc ?_ _)); refine blk_put (cs := #[.bool x506000_1, .slice Ao17 x506001_1.length co17]) ?_ 0 _ rfl; (with_reducible repeat (first | refine blk_drewN ?_ _ | refine blk_drew ?_ | refine blk_alloc ?_ _)); exact BK505.out⟩, ⟨by (with_reducible repeat (first | refine blk_drewN ?_ _ | refine blk_drew ?_ | refine blk_alloc ?_ _)); refine blk_far ?_ NB506_505.out _; (with_reducible repeat (first | refine blk_drewN ?_ _ | refine blk_drew ?_ | refine blk_alloc ?_ _)); refine blk_far ?_ NB506_505.out _; (with_reducible repeat (first | refine blk_drewN ?_ _ | refine blk_drew ?_ | refine blk_alloc ?_ _)); exact BK506.out⟩, ⟨by (with_reducible repeat (first | refine blk_drewN ?_ _ | refine blk_drew ?_ | refine blk_alloc ?_ _)); refine blk_far ?_ NB511_505.out _; (with_reducible repeat (first | refine blk_drewN ?_ _ | refine blk_drew ?_ | refine blk_alloc ?_ _)); refine blk_far ?_ NB511_505.out _; (with_reducible repeat (first | refine blk_drewN ?_ _ | refine blk_drew ?_ | refine blk_alloc ?_ _)); exact BK511.out⟩, ⟨by repeat (first | (with_reducible first | exact HB.out | apply below_alloc | apply pw_below_drewN | apply below_drew1 | refine below_set ?_ GE505.out | refine below_set ?_ GE506.out | refine below_set ?_ GE511.out) | exact HB.out)⟩⟩
   ·rw [if_neg c12] at H
    have c12b0 : decide (t512 < 0) = false := decide_eq_false c12
    clear c12
    have H' := Aside0.mk H
    clear H
    have hnb25 := NB505_506.out
    have hnc25 := NB506_505.out
    have hnb26 := NB505_511.out
    have hnc26 := NB511_505.out
    have hcz27_0 : wr.cell? ⟨gb505, 0, none⟩ = some (.bool x506000_1) := (blk_cell BK505.out 0).trans rfl
    have hcz27_1 : wr.cell? ⟨gb505, 1, none⟩ = some (u506001) := (blk_cell BK505.out 1).trans rfl
    have hfz27_0 := blk_frozen BK505.out 0
    have hfz27_1 := blk_frozen BK505.out 1
    obtain ⟨Ao28, co28, eo28⟩ := Kd.V_slice HO_506001.out
    subst eo28
    go_wp2_with (first | ((with_reducible refine gate_callee (f := 59) rfl ?_); refine goesL_ (some 6) rfl rfl Try.func59 (by kernel_rfl) rfl #[.agg #[.bool x506000_1, .slice Ao28 x506001_1.length co28]] rfl argt ?_; (with_reducible refine (turnstoneref01_Sign.calls x506000_1 _ _ x506001_1 t512 _ ?side1 ?side2 A11.out).mono ?_); (case side1 => repeat (first | exact (Kd.V_reads' HO_506001.out).2.2 | (with_reducible refine Kd.C_alloc ?_ _) | (with_reducible refine Kd.C_drewN ?_ _) | (with_reducible refine Kd.C_drew ?_))); (case side2 => exact (Kd.V_reads' HO_506001.out).2.1); rintro e w29 ⟨rfl, hb⟩; refine ⟨_, rfl, ?_⟩; have n0_ := vb HO_506001 hb; have n1_ := vb HO_512001 hb; have n2_ := blkb BK505 hb; have n3_ := blkb BK506 hb; have n4_ := blkb BK511 hb; have n5_ := belb HB hb; clear HO_506001; clear HO_512001; clear BK505; clear BK506; clear BK511; clear HB; have HO_506001 := n0_; have HO_512001 := n1_; have BK505 := n2_; have BK506 := n3_; have BK511 := n4_; have HB := n5_; clear n0_ n1_ n2_ n3_ n4_ n5_; (try clear hb); (try clear hb2); (try clear hk); (try clear hi)))
    (try simp only [Act.put, List.setIfInBounds_toArray, List.set_cons_zero, List.set_cons_succ])
    go_loopg [] k1 (fun kq w' => ∃ (x506000_2 : Bool) (x506001_2 : List Int) (u506001 : Value), Aside0 (turnstoneref03_Round.l1 kq x506000_2 x506001_2 t507 t508 = some (r1, r2)) ∧ Aside0 (kq ≤ k1) ∧ Aside0 (Kd.V (Kd.int .i64) 3 w' w.heap.size (fun k_ => (P0_1_ k_ ∨ w.heap.size ≤ k_) ∧ k_ ≠ gb505 ∧ k_ ≠ gb506 ∧ k_ ≠ gb511) u506001 x506001_2) ∧ Aside0 (Kd.V (Kd.int .i64) 3 w' w.heap.size (fun k_ => (P0_1_ k_ ∨ w.heap.size ≤ k_) ∧ k_ ≠ gb505 ∧ k_ ≠ gb506 ∧ k_ ≠ gb511) (.slice Ao10 t508.length co10) t508) ∧ Aside0 (w'.heap[gb505]? = some (.cells #[.bool x506000_2, u506001] 28 (0, 0))) ∧ Aside0 (w'.heap[gb506]? = some (.cells #[.bool false, (.slice none 0 0)] 28 (0, 0))) ∧ Aside0 (w'.heap[gb511]? = some (.cells #[.bool t507, (.slice Ao10 t508.length co10)] 28 (0, 0))) ∧ Aside0 (Below w.heap.size w w'))
    case atStart => exact ⟨(x506000_1), (x506001_1), (.slice Ao28 x506001_1.length co28), H', ⟨Nat.le_refl _⟩, ⟨by (with_reducible repeat (first | apply Kd.V_alloc | apply Kd.V_drewN | apply Kd.V_drew)); exact HO_506001.out⟩, ⟨by (with_reducible repeat (first | apply Kd.V_alloc | apply Kd.V_drewN | apply Kd.V_drew)); exact HO_512001.out⟩, ⟨by (with_reducible repeat (first | refine blk_drewN ?_ _ | refine blk_drew ?_ | refine blk_alloc ?_ _)); exact BK505.out⟩, ⟨by (with_reducible repeat (first | refine blk_drewN ?_ _ | refine blk_drew ?_ | refine blk_alloc ?_ _)); exact BK506.out⟩, ⟨by (with_reducible repeat (first | refine blk_drewN ?_ _ | refine blk_drew ?_ | refine blk_alloc ?_ _)); exact BK511.out⟩, ⟨by repeat (first | (with_reducible first | exact HB.out | apply below_alloc | apply pw_below_drewN | apply below_drew1 | refine below_set ?_ GE505.out | refine below_set ?_ GE506.out | refine below_set ?_ GE511.out) | exact HB.out)⟩⟩
    case round =>
     clear H'
     try clear c1
     try clear c2
     try clear p2
     try clear c5
     try clear c6
     try clear c7
     try clear c8
     try clear c12
     try clear c12b0
     try clear c14
     try clear c15
     try clear c20
     try clear c25
     try clear c26
     try clear c27
     try clear hcz16_0
     try clear hcz16_1
     try clear hcz19_0
     try clear hcz19_1
     try clear hcz21_0
     try clear hcz21_1
     try clear hcz23_0
     try clear hcz23_1
     try clear hcz27_0
     try clear hcz27_1
     try clear hcz9_0
     try clear hcz9_1
     try clear hfz16_0
     try clear hfz16_1
     try clear hfz19_0
     try clear hfz19_1
     try clear hfz21_0
     try clear hfz21_1
     try clear hfz23_0
     try clear hfz23_1
     try clear hfz27_0
     try clear hfz27_1
     try clear hfz9_0
     try clear hfz9_1
     try clear p2
     obtain ⟨x506000_2, x506001_2, u506001, HA, HK2, HO_506001, HO_512001, BK505, BK506, BK511, HB⟩ := hrel
     cases gk with
     | zero => exact absurd HA.out (by simp [turnstoneref03_Round.l1])
     | succ k2 =>
      have H := HA.out
      clear HA
      simp only [turnstoneref03_Round.l1] at H
      replace H := Option.bind_eq_some_iff.mp H
      obtain ⟨t517, A300, H⟩ := H
      replace H : (if t517 ≥ 0 then ((turnstoneref01_Sub.f k2 x506000_2 x506001_2 t507 t508).bind fun bt518 => (turnstoneref03_Round.l1 k2 bt518.1 bt518.2 t507 t508)) else (some (x506000_2, x506001_2))) = some (r1, r2) := H
      have A30 := Aside0.mk A300
      clear A300
      by_cases c31 : t517 ≥ 0
      ·rw [if_pos c31] at H
       have c31b0 : decide (0 ≤ t517) = true := decide_eq_true c31
       clear c31
       replace H := Option.bind_eq_some_iff.mp H
       obtain ⟨⟨t518, t519⟩, A320, H⟩ := H
       replace H : (turnstoneref03_Round.l1 k2 t518 t519 t507 t508) = some (r1, r2) := H
       have A32 := Aside0.mk A320
       clear A320
       have H' := Aside0.mk H
       clear H
       have hnb33 := NB505_506.out
       have hnc33 := NB506_505.out
       have hnb34 := NB505_511.out
       have hnc34 := NB511_505.out
       have hcz35_0 : wr.cell? ⟨gb505, 0, none⟩ = some (.bool x506000_2) := (blk_cell BK505.out 0).trans rfl
       have hcz35_1 : wr.cell? ⟨gb505, 1, none⟩ = some (u506001) := (blk_cell BK505.out 1).trans rfl
       have hfz35_0 := blk_frozen BK505.out 0
       have hfz35_1 := blk_frozen BK505.out 1
       have hnb36 := NB511_506.out
       have hnc36 := NB506_511.out
       have hcz37_0 : wr.cell? ⟨gb511, 0, none⟩ = some (.bool t507) := (blk_cell BK511.out 0).trans rfl
       have hcz37_1 : wr.cell? ⟨gb511, 1, none⟩ = some (.slice Ao10 t508.length co10) := (blk_cell BK511.out 1).trans rfl
       have hfz37_0 := blk_frozen BK511.out 0
       have hfz37_1 := blk_frozen BK511.out 1
       obtain ⟨Ao38, co38, eo38⟩ := Kd.V_slice HO_506001.out
       subst eo38
       go_wp2_with (first | ((with_reducible refine gate_callee (f := 18) rfl ?_); refine goesL_ (some 13) rfl rfl Try.func18 (by kernel_rfl) rfl #[.agg #[.bool x506000_2, .slice Ao38 x506001_2.length co38], .agg #[.bool t507, .slice Ao10 t508.length co10]] rfl argt ?_; (with_reducible refine (turnstoneref01_Cmp.calls k2 x506000_2 _ _ x506001_2 t507 _ _ t508 t517 _ ?side1 ?side2 ?side3 ?side4 A30.out).mono ?_); (case side1 => repeat (first | exact (Kd.V_reads' HO_506001.out).2.2 | (with_reducible refine Kd.C_alloc ?_ _) | (with_reducible refine Kd.C_drewN ?_ _) | (with_reducible refine Kd.C_drew ?_))); (case side2 => exact (Kd.V_reads' HO_506001.out).2.1); (case side3 => repeat (first | exact (Kd.V_reads' HO_512001.out).2.2 | (with_reducible refine Kd.C_alloc ?_ _) | (with_reducible refine Kd.C_drewN ?_ _) | (with_reducible refine Kd.C_drew ?_))); (case side4 => exact (Kd.V_reads' HO_512001.out).2.1); rintro e w39 ⟨rfl, hb⟩; refine ⟨_, rfl, ?_⟩; have n0_ := vb HO_506001 hb; have n1_ := vb HO_512001 hb; have n2_ := blkb BK505 hb; have n3_ := blkb BK506 hb; have n4_ := blkb BK511 hb; have n5_ := belb HB hb; clear HO_506001; clear HO_512001; clear BK505; clear BK506; clear BK511; clear HB; have HO_506001 := n0_; have HO_512001 := n1_; have BK505 := n2_; have BK506 := n3_; have BK511 := n4_; have HB := n5_; clear n0_ n1_ n2_ n3_ n4_ n5_; (try clear hb); (try clear hb2); (try clear hk); (try clear hi); have hcz40_0 : w39.cell? ⟨gb505, 0, none⟩ = some (.bool x506000_2) := (blk_cell BK505.out 0).trans rfl; have hcz40_1 : w39.cell? ⟨gb505, 1, none⟩ = some (.slice Ao38 x506001_2.length co38) := (blk_cell BK505.out 1).trans rfl; have hfz40_0 := blk_frozen BK505.out 0; have hfz40_1 := blk_frozen BK505.out 1; have hcz41_0 : w39.cell? ⟨gb511, 0, none⟩ = some (.bool t507) := (blk_cell BK511.out 0).trans rfl; have hcz41_1 : w39.cell? ⟨gb511, 1, none⟩ = some (.slice Ao10 t508.length co10) := (blk_cell BK511.out 1).trans rfl; have hfz41_0 := blk_frozen BK511.out 0; have hfz41_1 := blk_frozen BK511.out 1) | ((with_reducible refine gate_callee (f := 43) rfl ?_); refine goesL_ (some 17) rfl rfl Try.func43 (by kernel_rfl) rfl #[.agg #[.bool x506000_2, .slice Ao38 x506001_2.length co38], .agg #[.bool t507, .slice Ao10 t508.length co10]] rfl argt ?_; (with_reducible refine (turnstoneref01_Sub.calls k2 x506000_2 _ _ x506001_2 t507 (fun k_ => ((P0_1_ k_ ∨ w.heap.size ≤ k_) ∧ (k_ ≠ gb505 ∧ (k_ ≠ gb506 ∧ k_ ≠ gb511)))) _ _ t508 t518 t519 _ ?side1 ?side2 ?side3 A32.out).mono ?_); (case side1 => repeat (first | exact (Kd.V_reads' HO_506001.out).2.2 | (with_reducible refine Kd.C_alloc ?_ _) | (with_reducible refine Kd.C_drewN ?_ _) | (with_reducible refine Kd.C_drew ?_))); (case side2 => exact (Kd.V_reads' HO_506001.out).2.1); (case side3 => exact HO_512001.out); rintro e w42 ⟨v520, rfl, ho0, hb⟩; refine ⟨_, rfl, ?_⟩; have n0_ := vb HO_506001 hb; have n1_ := vb HO_512001 hb; have n2_ := Aside0.mk (Kd.V_lower (Kd.V_mono (ok' := fun k_ => (P0_1_ k_ ∨ w.heap.size ≤ k_) ∧ k_ ≠ gb505 ∧ k_ ≠ gb506 ∧ k_ ≠ gb511) ho0 (fun k_ hk_ => ⟨Or.elim hk_ (fun hs_ => hs_.1) (fun hn_ => (.inr (Nat.le_trans (below_size (belt HB)) hn_))), Or.elim hk_ (fun hs_ => hs_.2.1) (fun hn_ => (Kd.freshB (blkt BK505) k_ hn_)), Or.elim hk_ (fun hs_ => hs_.2.2.1) (fun hn_ => (Kd.freshB (blkt BK506) k_ hn_)), Or.elim hk_ (fun hs_ => hs_.2.2.2) (fun hn_ => (Kd.freshB (blkt BK511) k_ hn_))⟩)) (below_size (belt HB))); have n3_ := blkb BK505 hb; have n4_ := blkb BK506 hb; have n5_ := blkb BK511 hb; have n6_ := belb HB hb; clear HO_506001; clear HO_512001; clear BK505; clear BK506; clear BK511; clear HB; have HO_506001 := n0_; have HO_512001 := n1_; have HO521 := n2_; have BK505 := n3_; have BK506 := n4_; have BK511 := n5_; have HB := n6_; clear n0_ n1_ n2_ n3_ n4_ n5_ n6_; (try clear hb); (try clear hb2); (try clear hk); (try clear hi); (try clear ho0); have hcz43_0 : w42.cell? ⟨gb505, 0, none⟩ = some (.bool x506000_2) := (blk_cell BK505.out 0).trans rfl; have hcz43_1 : w42.cell? ⟨gb505, 1, none⟩ = some (.slice Ao38 x506001_2.length co38) := (blk_cell BK505.out 1).trans rfl; have hfz43_0 := blk_frozen BK505.out 0; have hfz43_1 := blk_frozen BK505.out 1; obtain ⟨Ao44, co44, eo44⟩ := Kd.V_slice HO521.out; subst eo44))
       go_roundg k2
       case measure => have := HK1.out; have := HK2.out; omega
       case rel => exact ⟨(t518), (t519), (.slice Ao44 t519.length co44), H', ⟨by have := HK1.out; have := HK2.out; omega⟩, ⟨by (with_reducible repeat (first | apply Kd.V_alloc | apply Kd.V_drewN | apply Kd.V_drew)); exact Kd.V_mono (Kd.V_far (p := ⟨gb505, 1, none⟩) (Kd.V_far (p := ⟨gb505, 0, none⟩) (Kd.V_mono HO521.out (fun k_ hk => (⟨hk, hk.2.1⟩ : _ ∧ k_ ≠ gb505))) (fun _ hk => hk.2) (.bool t518)) (fun _ hk => hk.2) (.slice Ao44 t519.length co44)) (fun _ hk => ⟨hk.1.1, ⟨hk.1.2.1, ⟨hk.1.2.2.1, hk.1.2.2.2⟩⟩⟩)⟩, ⟨by (with_reducible repeat (first | apply Kd.V_alloc | apply Kd.V_drewN | apply Kd.V_drew)); exact Kd.V_mono (Kd.V_far (p := ⟨gb505, 1, none⟩) (Kd.V_far (p := ⟨gb505, 0, none⟩) (Kd.V_mono HO_512001.out (fun k_ hk => (⟨hk, hk.2.1⟩ : _ ∧ k_ ≠ gb505))) (fun _ hk => hk.2) (.bool t518)) (fun _ hk => hk.2) (.slice Ao44 t519.length co44)) (fun _ hk => ⟨hk.1.1, ⟨hk.1.2.1, ⟨hk.1.2.2.1, hk.1.2.2.2⟩⟩⟩)⟩, ⟨by (with_reducible repeat (first | refine blk_drewN ?_ _ | refine blk_drew ?_ | refine blk_alloc ?_ _)); refine blk_put (cs := #[.bool t518, .slice Ao38 x506001_2.length co38]) ?_ 1 _ rfl; (with_reducible repeat (first | refine blk_drewN ?_ _ | refine blk_drew ?_ | refine blk_alloc ?_ _)); refine blk_put (cs := #[.bool x506000_2, .slice Ao38 x506001_2.length co38]) ?_ 0 _ rfl; (with_reducible repeat (first | refine blk_drewN ?_ _ | refine blk_drew ?_ | refine blk_alloc ?_ _)); exact BK505.out⟩, ⟨by (with_reducible repeat (first | refine blk_drewN ?_ _ | refine blk_drew ?_ | refine blk_alloc ?_ _)); refine blk_far ?_ NB506_505.out _; (with_reducible repeat (first | refine blk_drewN ?_ _ | refine blk_drew ?_ | refine blk_alloc ?_ _)); refine blk_far ?_ NB506_505.out _; (with_reducible repeat (first | refine blk_drewN ?_ _ | refine blk_drew ?_ | refine blk_alloc ?_ _)); exact BK506.out⟩, ⟨by (with_reducible repeat (first | refine blk_drewN ?_ _ | refine blk_drew ?_ | refine blk_alloc ?_ _)); refine blk_far ?_ NB511_505.out _; (with_reducible repeat (first | refine blk_drewN ?_ _ | refine blk_drew ?_ | refine blk_alloc ?_ _)); refine blk_far ?_ NB511_505.out _; (with_reducible repeat (first | refine blk_drewN ?_ _ | refine blk_drew ?_ | refine blk_alloc ?_ _)); exact BK511.out⟩, ⟨by repeat (first | (with_reducible first | exact HB.out | apply below_alloc | apply pw_below_drewN | apply below_drew1 | refine below_set ?_ GE505.out | refine below_set ?_ GE506.out | refine below_set ?_ GE511.out) | exact HB.out)⟩⟩
      ·rw [if_neg c31] at H
       have c31b0 : decide (0 ≤ t517) = false := decide_eq_false c31
       clear c31
       simp only [Option.some.injEq, Prod.mk.injEq] at H
       obtain ⟨rfl, rfl⟩ := H
       have hnb45 := NB505_506.out
       have hnc45 := NB506_505.out
       have hnb46 := NB505_511.out
       have hnc46 := NB511_505.out
       have hcz47_0 : wr.cell? ⟨gb505, 0, none⟩ = some (.bool x506000_2) := (blk_cell BK505.out 0).trans rfl
       have hcz47_1 : wr.cell? ⟨gb505, 1, none⟩ = some (u506001) := (blk_cell BK505.out 1).trans rfl
       have hfz47_0 := blk_frozen BK505.out 0
       have hfz47_1 := blk_frozen BK505.out 1
       have hnb48 := NB511_506.out
       have hnc48 := NB506_511.out
       have hcz49_0 : wr.cell? ⟨gb511, 0, none⟩ = some (.bool t507) := (blk_cell BK511.out 0).trans rfl
       have hcz49_1 : wr.cell? ⟨gb511, 1, none⟩ = some (.slice Ao10 t508.length co10) := (blk_cell BK511.out 1).trans rfl
       have hfz49_0 := blk_frozen BK511.out 0
       have hfz49_1 := blk_frozen BK511.out 1
       obtain ⟨Ao50, co50, eo50⟩ := Kd.V_slice HO_506001.out
       subst eo50
       go_wp2_with (first | ((with_reducible refine gate_callee (f := 18) rfl ?_); refine goesL_ (some 13) rfl rfl Try.func18 (by kernel_rfl) rfl #[.agg #[.bool x506000_2, .slice Ao50 x506001_2.length co50], .agg #[.bool t507, .slice Ao10 t508.length co10]] rfl argt ?_; (with_reducible refine (turnstoneref01_Cmp.calls k2 x506000_2 _ _ x506001_2 t507 _ _ t508 t517 _ ?side1 ?side2 ?side3 ?side4 A30.out).mono ?_); (case side1 => repeat (first | exact (Kd.V_reads' HO_506001.out).2.2 | (with_reducible refine Kd.C_alloc ?_ _) | (with_reducible refine Kd.C_drewN ?_ _) | (with_reducible refine Kd.C_drew ?_))); (case side2 => exact (Kd.V_reads' HO_506001.out).2.1); (case side3 => repeat (first | exact (Kd.V_reads' HO_512001.out).2.2 | (with_reducible refine Kd.C_alloc ?_ _) | (with_reducible refine Kd.C_drewN ?_ _) | (with_reducible refine Kd.C_drew ?_))); (case side4 => exact (Kd.V_reads' HO_512001.out).2.1); rintro e w51 ⟨rfl, hb⟩; refine ⟨_, rfl, ?_⟩; have n0_ := vb HO_506001 hb; have n1_ := vb HO_512001 hb; have n2_ := blkb BK505 hb; have n3_ := blkb BK506 hb; have n4_ := blkb BK511 hb; have n5_ := belb HB hb; clear HO_506001; clear HO_512001; clear BK505; clear BK506; clear BK511; clear HB; have HO_506001 := n0_; have HO_512001 := n1_; have BK505 := n2_; have BK506 := n3_; have BK511 := n4_; have HB := n5_; clear n0_ n1_ n2_ n3_ n4_ n5_; (try clear hb); (try clear hb2); (try clear hk); (try clear hi); have hcz52_0 : w51.cell? ⟨gb505, 0, none⟩ = some (.bool x506000_2) := (blk_cell BK505.out 0).trans rfl; have hcz52_1 : w51.cell? ⟨gb505, 1, none⟩ = some (.slice Ao50 x506001_2.length co50) := (blk_cell BK505.out 1).trans rfl; have hfz52_0 := blk_frozen BK505.out 0; have hfz52_1 := blk_frozen BK505.out 1; have hcz53_0 : w51.cell? ⟨gb506, 0, none⟩ = some (.bool false) := (blk_cell BK506.out 0).trans rfl; have hcz53_1 : w51.cell? ⟨gb506, 1, none⟩ = some (.slice none 0 0) := (blk_cell BK506.out 1).trans rfl; have hfz53_0 := blk_frozen BK506.out 0; have hfz53_1 := blk_frozen BK506.out 1))
       refine bodyPost_ret (results_cell_row rfl _ _ gb506 28 #[.bool x506000_2, .slice Ao50 x506001_2.length co50] (0, 0) _ rfl (by (with_reducible repeat (first | refine blk_drewN ?_ _ | refine blk_drew ?_ | refine blk_alloc ?_ _)); refine blk_put (cs := #[.bool x506000_2, .slice none 0 0]) ?_ 1 _ rfl; (with_reducible repeat (first | refine blk_drewN ?_ _ | refine blk_drew ?_ | refine blk_alloc ?_ _)); refine blk_put (cs := #[.bool false, .slice none 0 0]) ?_ 0 _ rfl; (with_reducible repeat (first | refine blk_drewN ?_ _ | refine blk_drew ?_ | refine blk_alloc ?_ _)); exact BK506.out) Try.underlying28 rfl (by kernel_rfl)) rfl ?_
       exact ⟨_, by first | rfl | (simp [errW_none, errW_some] <;> rfl) | (simp [*, errW_none, errW_some] <;> rfl), by (with_reducible repeat (first | apply Kd.V_alloc | apply Kd.V_drewN | apply Kd.V_drew)); exact Kd.V_mono (Kd.V_far (p := ⟨gb506, 1, none⟩) (Kd.V_far (p := ⟨gb506, 0, none⟩) (Kd.V_mono HO_506001.out (fun k_ hk => (⟨hk, hk.2.2.1⟩ : _ ∧ k_ ≠ gb506))) (fun _ hk => hk.2) (.bool x506000_2)) (fun _ hk => hk.2) (.slice Ao50 x506001_2.length co50)) (fun _ hk => hk.1.1), by repeat (first | (with_reducible first | exact HB.out | apply below_alloc | apply pw_below_drewN | apply below_drew1 | refine below_set ?_ GE505.out | refine below_set ?_ GE506.out | refine below_set ?_ GE511.out) | exact HB.out)⟩

end Go.Proofs.Ytimgiiceipjpaaa.Print
