/- What each Go function that is named below answers, as a Lean function, and that its walk comes to just that: for whatever arguments that function gives an answer for. Written by a program of this session (wip/mkpr.py, pr.sh). -/
import Derived.Test.YtimgiiceipjpaaaPrint0
import Derived.Test.YtimgiiceipjpaaaPrint24
import Derived.Test.YtimgiiceipjpaaaPrint25
import Derived.Test.YtimgiiceipjpaaaPrint26
import Derived.Test.YtimgiiceipjpaaaPrint27
namespace Go.Proofs.Ytimgiiceipjpaaa.Print
open Go.RowKit Go.Proofs.YtimgiiceipjpaaaW.PrintWords Go.Proofs.YtimgiiceipjpaaaW.PrintLast Go.Proofs.YtimgiiceipjpaaaW.PrintMore
attribute [local go_sem] max2_int min2_int max_two min_two max_three min_three max_four min_four   -- for this text's walks alone
open Go.Proofs.Ytimgiiceipjpaaa.Bits Go.Proofs.Ytimgiiceipjpaaa.Short
attribute [local go_sem] add64_run0 sub64_run0 add64_run sub64_run
set_option linter.unusedVariables false
set_option linter.unusedSimpArgs false

/-! ### turnstoneref03_Before: function 23 -/
def turnstoneref03_Before.f (k : Nat) (a0 : Int) (a1 : Int) : Option (Bool) := (turnstoneref03_Since.f k a0 a1).bind fun bt523 => ((turnstoneref01_Sign.f bt523.1 bt523.2).bind fun t527 => (some (decide (t527 < 0))))
theorem turnstoneref03_Before.mono : ∀ a0 a1 k, LeO (turnstoneref03_Before.f k a0 a1) (turnstoneref03_Before.f (k + 1) a0 a1) := by
 intro a0 a1 k
 unfold turnstoneref03_Before.f
 repeat' first
   | (with_reducible exact turnstoneref03_Since.mono _ _ _)
   | (with_reducible exact LeO.refl _)
   | (with_reducible exact LeO.none _)
   | (with_reducible refine LeO.ite ?_ ?_)
   | (with_reducible refine LeO.bind ?_ (fun _ => ?_))
   | exact turnstoneref03_Since.mono _ _ _
   | exact LeO.none _
   | refine LeO.ite ?_ ?_
   | refine LeO.bind ?_ (fun _ => ?_)
set_option maxHeartbeats 8000000 in
set_option maxRecDepth 100000 in
theorem turnstoneref03_Before.calls (k : Nat) (a0 : Int) (a1 : Int) (r : Bool) (w : World) (h : turnstoneref03_Before.f k a0 a1 = some r) :
  Calls Try.prog 23 #[.int .u64 a0, .int .u64 a1] w fun e w' => e = .returned (.bool r) ∧ Below w.heap.size w w' := by
 have HB := Aside0.mk (Below.refl w.heap.size w)
 have H : ((turnstoneref03_Since.f k a0 a1).bind fun bt523 => ((turnstoneref01_Sign.f bt523.1 bt523.2).bind fun t527 => (some (decide (t527 < 0))))) = some r := h
 clear h
 replace H := Option.bind_eq_some_iff.mp H
 obtain ⟨⟨t523, t524⟩, A30, H⟩ := H
 replace H : ((turnstoneref01_Sign.f t523 t524).bind fun t527 => (some (decide (t527 < 0)))) = some r := H
 have A3 := Aside0.mk A30
 clear A30
 replace H := Option.bind_eq_some_iff.mp H
 obtain ⟨t527, A40, H⟩ := H
 replace H : (some (decide (t527 < 0))) = some r := H
 have A4 := Aside0.mk A40
 clear A40
 obtain rfl := Option.some.inj H
 go_enter Try.func23, Try.ntmps23
 go_wp2_with (first | ((with_reducible refine gate_callee (f := 21) rfl ?_); refine goesL_ (some 7) rfl rfl Try.func21 (by kernel_rfl) rfl #[.int .u64 a0, .int .u64 a1] rfl argt ?_; (with_reducible refine (turnstoneref03_Since.calls k a0 a1 t523 t524 _ A3.out).mono ?_); rintro e w5 ⟨v525, rfl, ho0, hb⟩; refine ⟨_, rfl, ?_⟩; have n0_ := Aside0.mk (Kd.V_lower (Kd.V_mono (ok' := fun k_ => True) ho0 (fun k_ hk_ => trivial)) (below_size (belt HB))); have n1_ := belb HB hb; clear HB; have HO526 := n0_; have HB := n1_; clear n0_ n1_; (try clear hb); (try clear hb2); (try clear hk); (try clear hi); (try clear ho0); obtain ⟨Ao6, co6, eo6⟩ := Kd.V_slice HO526.out; subst eo6) | ((with_reducible refine gate_callee (f := 59) rfl ?_); refine goesL_ (some 8) rfl rfl Try.func59 (by kernel_rfl) rfl #[.agg #[.bool t523, .slice Ao6 t524.length co6]] rfl argt ?_; (with_reducible refine (turnstoneref01_Sign.calls t523 _ _ t524 t527 _ ?side1 ?side2 A4.out).mono ?_); (case side1 => repeat (first | exact (Kd.V_reads' HO526.out).2.2 | (with_reducible refine Kd.C_alloc ?_ _) | (with_reducible refine Kd.C_drewN ?_ _) | (with_reducible refine Kd.C_drew ?_))); (case side2 => exact (Kd.V_reads' HO526.out).2.1); rintro e w7 ⟨rfl, hb⟩; refine ⟨_, rfl, ?_⟩; have n0_ := vb HO526 hb; have n1_ := belb HB hb; clear HO526; clear HB; have HO526 := n0_; have HB := n1_; clear n0_ n1_; (try clear hb); (try clear hb2); (try clear hk); (try clear hi)))
 go_ret
 exact ⟨by first | rfl | (simp [errW_none, errW_some] <;> rfl) | (simp [*, errW_none, errW_some] <;> rfl), by repeat (first | (with_reducible first | exact HB.out | apply below_alloc | apply pw_below_drewN | apply below_drew1) | exact HB.out)⟩

/-! ### turnstoneref03_Round: function 26 -/
mutual
def turnstoneref03_Round.l0 : Nat → Bool → List Int → Bool → List Int → Option (Bool × List Int)
 | 0, _, _, _, _ => none
 | k + 1, x529000, x529001, x535000, x535001 => (turnstoneref01_Sign.f x529000 x529001).bind fun t535 => (if t535 < 0 then ((turnstoneref01_Add.f k x529000 x529001 x535000 x535001).bind fun bt536 => (turnstoneref03_Round.l0 k bt536.1 bt536.2 x535000 x535001)) else (turnstoneref03_Round.l1 k x529000 x529001 x535000 x535001))
def turnstoneref03_Round.l1 : Nat → Bool → List Int → Bool → List Int → Option (Bool × List Int)
 | 0, _, _, _, _ => none
 | k + 1, x529000, x529001, x535000, x535001 => (turnstoneref01_Cmp.f k x529000 x529001 x535000 x535001).bind fun t540 => (if t540 ≥ 0 then ((turnstoneref01_Sub.f k x529000 x529001 x535000 x535001).bind fun bt541 => (turnstoneref03_Round.l1 k bt541.1 bt541.2 x535000 x535001)) else (some (x529000, x529001)))
end
def turnstoneref03_Round.f (k : Nat) (a0_0 : Bool) (l0_1 : List Int) : Option (Bool × List Int) := (turnstoneref01_Power.f k 64).bind fun bt530 => (turnstoneref03_Round.l0 k a0_0 l0_1 bt530.1 bt530.2)
theorem turnstoneref03_Round.mono_l : ∀ k, (∀ y0 y1 y2 y3, LeO (turnstoneref03_Round.l0 k y0 y1 y2 y3) (turnstoneref03_Round.l0 (k + 1) y0 y1 y2 y3)) ∧ (∀ y0 y1 y2 y3, LeO (turnstoneref03_Round.l1 k y0 y1 y2 y3) (turnstoneref03_Round.l1 (k + 1) y0 y1 y2 y3))
 | 0 => ⟨fun _ _ _ _ r h => by simp [turnstoneref03_Round.l0] at h, fun _ _ _ _ r h => by simp [turnstoneref03_Round.l1] at h⟩
 | k + 1 => by
  obtain ⟨ih0, ih1⟩ := turnstoneref03_Round.mono_l k
  refine ⟨?_, ?_⟩
  ·intro y0 y1 y2 y3
   unfold turnstoneref03_Round.l0
   repeat' first
   | (with_reducible exact ih0 _ _ _ _)
   | (with_reducible exact ih1 _ _ _ _)
   | (with_reducible exact turnstoneref01_Add.mono _ _ _ _ _)
   | (with_reducible exact turnstoneref01_Cmp.mono _ _ _ _ _)
   | (with_reducible exact turnstoneref01_Power.mono _ _)
   | (with_reducible exact turnstoneref01_Sub.mono _ _ _ _ _)
   | (with_reducible exact LeO.refl _)
   | (with_reducible exact LeO.none _)
   | (with_reducible refine LeO.ite ?_ ?_)
   | (with_reducible refine LeO.bind ?_ (fun _ => ?_))
   | exact ih0 _ _ _ _
   | exact ih1 _ _ _ _
   | exact turnstoneref01_Add.mono _ _ _ _ _
   | exact turnstoneref01_Cmp.mono _ _ _ _ _
   | exact turnstoneref01_Power.mono _ _
   | exact turnstoneref01_Sub.mono _ _ _ _ _
   | exact LeO.none _
   | refine LeO.ite ?_ ?_
   | refine LeO.bind ?_ (fun _ => ?_)
  ·intro y0 y1 y2 y3
   unfold turnstoneref03_Round.l1
   repeat' first
   | (with_reducible exact ih0 _ _ _ _)
   | (with_reducible exact ih1 _ _ _ _)
   | (with_reducible exact turnstoneref01_Add.mono _ _ _ _ _)
   | (with_reducible exact turnstoneref01_Cmp.mono _ _ _ _ _)
   | (with_reducible exact turnstoneref01_Power.mono _ _)
   | (with_reducible exact turnstoneref01_Sub.mono _ _ _ _ _)
   | (with_reducible exact LeO.refl _)
   | (with_reducible exact LeO.none _)
   | (with_reducible refine LeO.ite ?_ ?_)
   | (with_reducible refine LeO.bind ?_ (fun _ => ?_))
   | exact ih0 _ _ _ _
   | exact ih1 _ _ _ _
   | exact turnstoneref01_Add.mono _ _ _ _ _
   | exact turnstoneref01_Cmp.mono _ _ _ _ _
   | exact turnstoneref01_Power.mono _ _
   | exact turnstoneref01_Sub.mono _ _ _ _ _
   | exact LeO.none _
   | refine LeO.ite ?_ ?_
   | refine LeO.bind ?_ (fun _ => ?_)
theorem turnstoneref03_Round.mono : ∀ a0 a1 k, LeO (turnstoneref03_Round.f k a0 a1) (turnstoneref03_Round.f (k + 1) a0 a1) := by
 intro a0 a1 k
 obtain ⟨ih0, ih1⟩ := turnstoneref03_Round.mono_l k
 unfold turnstoneref03_Round.f
 repeat' first
   | (with_reducible exact ih0 _ _ _ _)
   | (with_reducible exact ih1 _ _ _ _)
   | (with_reducible exact turnstoneref01_Add.mono _ _ _ _ _)
   | (with_reducible exact turnstoneref01_Cmp.mono _ _ _ _ _)
   | (with_reducible exact turnstoneref01_Power.mono _ _)
   | (with_reducible exact turnstoneref01_Sub.mono _ _ _ _ _)
   | (with_reducible exact LeO.refl _)
   | (with_reducible exact LeO.none _)
   | (with_reducible refine LeO.ite ?_ ?_)
   | (with_reducible refine LeO.bind ?_ (fun _ => ?_))
   | exact ih0 _ _ _ _
   | exact ih1 _ _ _ _
   | exact turnstoneref01_Add.mono _ _ _ _ _
   | exact turnstoneref01_Cmp.mono _ _ _ _ _
   | exact turnstoneref01_Power.mono _ _
   | exact turnstoneref01_Sub.mono _ _ _ _ _
   | exact LeO.none _
   | refine LeO.ite ?_ ?_
   | refine LeO.bind ?_ (fun _ => ?_)
set_option maxHeartbeats 8000000 in
set_option maxRecDepth 100000 in
theorem turnstoneref03_Round.calls (k : Nat) (a0_0 : Bool) (P0_1_ : Nat → Prop) (A0_1 : Option Addr) (c0_1 : Nat) (l0_1 : List Int) (r1 : Bool) (r2 : List Int) (w : World) (hs0_1 : Kd.V (Kd.int .i64) 3 w w.heap.size (fun k_ => P0_1_ k_) (.slice A0_1 l0_1.length c0_1) l0_1) (h : turnstoneref03_Round.f k a0_0 l0_1 = some (r1, r2)) :
  Calls Try.prog 26 #[.agg #[.bool a0_0, .slice A0_1 l0_1.length c0_1]] w fun e w' => ∃ v1_ : Value, e = .returned (.agg #[.bool r1, v1_]) ∧ Kd.V (Kd.int .i64) 3 w' w.heap.size (fun k_ => (P0_1_ k_ ∨ w.heap.size ≤ k_)) v1_ r2 ∧ Below w.heap.size w w' := by
 have hu28 := Try.underlying28
 have HO0_1 := Aside0.mk (show Kd.V (Kd.int .i64) 3 w w.heap.size (fun k_ => (P0_1_ k_ ∨ w.heap.size ≤ k_)) (.slice A0_1 l0_1.length c0_1) l0_1 from Kd.V_mono hs0_1 (fun k_ hk => .inl hk))
 have HB := Aside0.mk (Below.refl w.heap.size w)
 have H : ((turnstoneref01_Power.f k 64).bind fun bt530 => (turnstoneref03_Round.l0 k a0_0 l0_1 bt530.1 bt530.2)) = some (r1, r2) := h
 clear h
 replace H := Option.bind_eq_some_iff.mp H
 obtain ⟨⟨t530, t531⟩, A20, H⟩ := H
 replace H : (turnstoneref03_Round.l0 k a0_0 l0_1 t530 t531) = some (r1, r2) := H
 have A2 := Aside0.mk A20
 clear A20
 have H' := Aside0.mk H
 clear H
 go_enter Try.func26, Try.ntmps26
 go_wp2_with (first | ((with_reducible refine gate_dst (N := 1) rfl ?_); refine box_event ?hg (N := 1) ?hd (cs := #[.bool a0_0, .slice A0_1 l0_1.length c0_1]) (t := 28) ?hr ?_; (case hd => rfl); (case hg => rfl); (case hr => first | (go_simp; done) | (go_simp; rfl)); intro gb528 hg w3 hbox hb; have n0_ := Aside0.mk (Kd.V_below (Kd.V_elderB (vt HO0_1) gb528 (Nat.le_of_eq hg.symm)) hb); have n1_ := belb HB hb; have n2_ := Aside0.mk (hbox); have n3_ := bels HB hg; have n4_ := bels HB hg; clear HO0_1; clear HB; have HO0_1 := n0_; have HB := n1_; have BK528 := n2_; have GW528 := n3_; have GE528 := n4_; clear n0_ n1_ n2_ n3_ n4_; clear hb hbox hg) | ((with_reducible refine gate_dst (N := 2) rfl ?_); refine box_event ?hg (N := 2) ?hd (cs := #[.bool false, .slice none 0 0]) (t := 28) ?hr ?_; (case hd => rfl); (case hg => rfl); (case hr => first | (go_simp; done) | (go_simp; rfl)); intro gb529 hg w4 hbox hb; have n0_ := Aside0.mk (Kd.V_below (Kd.V_elderB (vt HO0_1) gb529 (Nat.le_of_eq hg.symm)) hb); have n1_ := blkb BK528 hb; have n2_ := belb HB hb; have n3_ := Aside0.mk (hbox); have n4_ := bels HB hg; have n5_ := bels HB hg; have n6_ := blkl BK528 hg; have n7_ := blkg BK528 hg; clear HO0_1; clear BK528; clear HB; have HO0_1 := n0_; have BK528 := n1_; have HB := n2_; have BK529 := n3_; have GW529 := n4_; have GE529 := n5_; have NB528_529 := n6_; have NB529_528 := n7_; clear n0_ n1_ n2_ n3_ n4_ n5_ n6_ n7_; clear hb hbox hg) | ((with_reducible refine gate_callee (f := 60) rfl ?_); refine goesL_ (some 4) rfl rfl Try.func60 (by kernel_rfl) rfl #[.int .i64 64] rfl argt ?_; (with_reducible refine (turnstoneref01_Power.calls k 64 t530 t531 _ A2.out).mono ?_); rintro e w5 ⟨v532, rfl, ho0, hb⟩; refine ⟨_, rfl, ?_⟩; have n0_ := vb HO0_1 hb; have n1_ := Aside0.mk (Kd.V_lower (Kd.V_mono (ok' := fun k_ => (P0_1_ k_ ∨ w.heap.size ≤ k_) ∧ k_ ≠ gb528 ∧ k_ ≠ gb529) ho0 (fun k_ hk_ => ⟨(.inr (Nat.le_trans (below_size (belt HB)) hk_)), (Kd.freshB (blkt BK528) k_ hk_), (Kd.freshB (blkt BK529) k_ hk_)⟩)) (below_size (belt HB))); have n2_ := blkb BK528 hb; have n3_ := blkb BK529 hb; have n4_ := belb HB hb; clear HO0_1; clear BK528; clear BK529; clear HB; have HO0_1 := n0_; have HO533 := n1_; have BK528 := n2_; have BK529 := n3_; have HB := n4_; clear n0_ n1_ n2_ n3_ n4_; (try clear hb); (try clear hb2); (try clear hk); (try clear hi); (try clear ho0)) | ((with_reducible refine gate_dst (N := 3) rfl ?_); refine box_event ?hg (N := 3) ?hd (cs := #[.bool false, .slice none 0 0]) (t := 28) ?hr ?_; (case hd => rfl); (case hg => rfl); (case hr => first | (go_simp; done) | (go_simp; rfl)); intro gb534 hg w6 hbox hb; have n0_ := Aside0.mk (Kd.V_below (Kd.V_elderB (vt HO0_1) gb534 (Nat.le_of_eq hg.symm)) hb); have n1_ := Aside0.mk (Kd.V_below (Kd.V_elderB (vt HO533) gb534 (Nat.le_of_eq hg.symm)) hb); have n2_ := blkb BK528 hb; have n3_ := blkb BK529 hb; have n4_ := belb HB hb; have n5_ := Aside0.mk (hbox); have n6_ := bels HB hg; have n7_ := bels HB hg; have n8_ := blkl BK528 hg; have n9_ := blkg BK528 hg; have n10_ := blkl BK529 hg; have n11_ := blkg BK529 hg; clear HO0_1; clear HO533; clear BK528; clear BK529; clear HB; have HO0_1 := n0_; have HO533 := n1_; have BK528 := n2_; have BK529 := n3_; have HB := n4_; have BK534 := n5_; have GW534 := n6_; have GE534 := n7_; have NB528_534 := n8_; have NB534_528 := n9_; have NB529_534 := n10_; have NB534_529 := n11_; clear n0_ n1_ n2_ n3_ n4_ n5_ n6_ n7_ n8_ n9_ n10_ n11_; clear hb hbox hg; have hnb7 := NB534_528.out; have hnc7 := NB528_534.out; have hnb8 := NB534_529.out; have hnc8 := NB529_534.out; have hcz9_0 : w6.cell? ⟨gb534, 0, none⟩ = some (.bool false) := (blk_cell BK534.out 0).trans rfl; have hcz9_1 : w6.cell? ⟨gb534, 1, none⟩ = some (.slice none 0 0) := (blk_cell BK534.out 1).trans rfl; have hfz9_0 := blk_frozen BK534.out 0; have hfz9_1 := blk_frozen BK534.out 1; obtain ⟨Ao10, co10, eo10⟩ := Kd.V_slice HO533.out; subst eo10))
 (try simp only [Act.put, List.setIfInBounds_toArray, List.set_cons_zero, List.set_cons_succ])
 go_loopg [] k (fun kq w' => ∃ (x529000_1 : Bool) (x529001_1 : List Int) (u529001 : Value), Aside0 (turnstoneref03_Round.l0 kq x529000_1 x529001_1 t530 t531 = some (r1, r2)) ∧ Aside0 (kq ≤ k) ∧ Aside0 (Kd.V (Kd.int .i64) 3 w' w.heap.size (fun k_ => (P0_1_ k_ ∨ w.heap.size ≤ k_) ∧ k_ ≠ gb528 ∧ k_ ≠ gb529 ∧ k_ ≠ gb534) u529001 x529001_1) ∧ Aside0 (Kd.V (Kd.int .i64) 3 w' w.heap.size (fun k_ => (P0_1_ k_ ∨ w.heap.size ≤ k_) ∧ k_ ≠ gb528 ∧ k_ ≠ gb529 ∧ k_ ≠ gb534) (.slice Ao10 t531.length co10) t531) ∧ Aside0 (w'.heap[gb528]? = some (.cells #[.bool x529000_1, u529001] 28 (0, 0))) ∧ Aside0 (w'.heap[gb529]? = some (.cells #[.bool false, (.slice none 0 0)] 28 (0, 0))) ∧ Aside0 (w'.heap[gb534]? = some (.cells #[.bool t530, (.slice Ao10 t531.length co10)] 28 (0, 0))) ∧ Aside0 (Below w.heap.size w w'))
 case atStart => exact ⟨(a0_0), (l0_1), (.slice A0_1 l0_1.length c0_1), H', ⟨Nat.le_refl _⟩, ⟨by (with_reducible repeat (first | apply Kd.V_alloc | apply Kd.V_drewN | apply Kd.V_drew)); exact Kd.V_mono (Kd.V_far (p := ⟨gb534, 1, none⟩) (Kd.V_far (p := ⟨gb534, 0, none⟩) (Kd.V_mono HO0_1.out (fun k_ hk => (⟨hk, hk.2⟩ : _ ∧ k_ ≠ gb534))) (fun _ hk => hk.2) (.bool t530)) (fun _ hk => hk.2) (.slice Ao10 t531.length co10)) (fun _ hk => ⟨hk.1.1.1.1, ⟨hk.1.1.1.2, ⟨hk.1.1.2, hk.1.2⟩⟩⟩)⟩, ⟨by (with_reducible repeat (first | apply Kd.V_alloc | apply Kd.V_drewN | apply Kd.V_drew)); exact Kd.V_mono (Kd.V_far (p := ⟨gb534, 1, none⟩) (Kd.V_far (p := ⟨gb534, 0, none⟩) (Kd.V_mono HO533.out (fun k_ hk => (⟨hk, hk.2⟩ : _ ∧ k_ ≠ gb534))) (fun _ hk => hk.2) (.bool t530)) (fun _ hk => hk.2) (.slice Ao10 t531.length co10)) (fun _ hk => ⟨hk.1.1.1, ⟨hk.1.1.2.1, ⟨hk.1.1.2.2, hk.1.2⟩⟩⟩)⟩, ⟨by (with_reducible repeat (first | refine blk_drewN ?_ _ | refine blk_drew ?_ | refine blk_alloc ?_ _)); refine blk_far ?_ NB528_534.out _; (with_reducible repeat (first | refine blk_drewN ?_ _ | refine blk_drew ?_ | refine blk_alloc ?_ _)); refine blk_far ?_ NB528_534.out _; (with_reducible repeat (first | refine blk_drewN ?_ _ | refine blk_drew ?_ | refine blk_alloc ?_ _)); exact BK528.out⟩, ⟨by (with_reducible repeat (first | refine blk_drewN ?_ _ | refine blk_drew ?_ | refine blk_alloc ?_ _)); refine blk_far ?_ NB529_534.out _; (with_reducible repeat (first | refine blk_drewN ?_ _ | refine blk_drew ?_ | refine blk_alloc ?_ _)); refine blk_far ?_ NB529_534.out _; (with_reducible repeat (first | refine blk_drewN ?_ _ | refine blk_drew ?_ | refine blk_alloc ?_ _)); exact BK529.out⟩, ⟨by (with_reducible repeat (first | refine blk_drewN ?_ _ | refine blk_drew ?_ | refine blk_alloc ?_ _)); refine blk_put (cs := #[.bool t530, .slice none 0 0]) ?_ 1 _ rfl; (with_reducible repeat (first | refine blk_drewN ?_ _ | refine blk_drew ?_ | refine blk_alloc ?_ _)); refine blk_put (cs := #[.bool false, .slice none 0 0]) ?_ 0 _ rfl; (with_reducible repeat (first | refine blk_drewN ?_ _ | refine blk_drew ?_ | refine blk_alloc ?_ _)); exact BK534.out⟩, ⟨by repeat (first | (with_reducible first | exact HB.out | apply below_alloc | apply pw_below_drewN | apply below_drew1 | refine below_set ?_ GE528.out | refine below_set ?_ GE529.out | refine below_set ?_ GE534.out) | exact HB.out)⟩⟩
 case round =>
  clear H'
  try clear c2
  try clear p2
  try clear c6
  try clear c7
  try clear c8
  try clear hcz9_0
  try clear hcz9_1
  try clear hfz9_0
  try clear hfz9_1
  obtain ⟨x529000_1, x529001_1, u529001, HA, HK1, HO_529001, HO_535001, BK528, BK529, BK534, HB⟩ := hrel
  cases gk with
  | zero => exact absurd HA.out (by simp [turnstoneref03_Round.l0])
  | succ k1 =>
   have H := HA.out
   clear HA
   simp only [turnstoneref03_Round.l0] at H
   replace H := Option.bind_eq_some_iff.mp H
   obtain ⟨t535, A110, H⟩ := H
   replace H : (if t535 < 0 then ((turnstoneref01_Add.f k1 x529000_1 x529001_1 t530 t531).bind fun bt536 => (turnstoneref03_Round.l0 k1 bt536.1 bt536.2 t530 t531)) else (turnstoneref03_Round.l1 k1 x529000_1 x529001_1 t530 t531)) = some (r1, r2) := H
   have A11 := Aside0.mk A110
   clear A110
   by_cases c12 : t535 < 0
   ·rw [if_pos c12] at H
    have c12b0 : decide (t535 < 0) = true := decide_eq_true c12
    clear c12
    replace H := Option.bind_eq_some_iff.mp H
    obtain ⟨⟨t536, t537⟩, A130, H⟩ := H
    replace H : (turnstoneref03_Round.l0 k1 t536 t537 t530 t531) = some (r1, r2) := H
    have A13 := Aside0.mk A130
    clear A130
    have H' := Aside0.mk H
    clear H
    have hnb14 := NB528_529.out
    have hnc14 := NB529_528.out
    have hnb15 := NB528_534.out
    have hnc15 := NB534_528.out
    have hcz16_0 : wr.cell? ⟨gb528, 0, none⟩ = some (.bool x529000_1) := (blk_cell BK528.out 0).trans rfl
    have hcz16_1 : wr.cell? ⟨gb528, 1, none⟩ = some (u529001) := (blk_cell BK528.out 1).trans rfl
    have hfz16_0 := blk_frozen BK528.out 0
    have hfz16_1 := blk_frozen BK528.out 1
    obtain ⟨Ao17, co17, eo17⟩ := Kd.V_slice HO_529001.out
    subst eo17
    go_wp2_with (first | ((with_reducible refine gate_callee (f := 59) rfl ?_); refine goesL_ (some 6) rfl rfl Try.func59 (by kernel_rfl) rfl #[.agg #[.bool x529000_1, .slice Ao17 x529001_1.length co17]] rfl argt ?_; (with_reducible refine (turnstoneref01_Sign.calls x529000_1 _ _ x529001_1 t535 _ ?side1 ?side2 A11.out).mono ?_); (case side1 => repeat (first | exact (Kd.V_reads' HO_529001.out).2.2 | (with_reducible refine Kd.C_alloc ?_ _) | (with_reducible refine Kd.C_drewN ?_ _) | (with_reducible refine Kd.C_drew ?_))); (case side2 => exact (Kd.V_reads' HO_529001.out).2.1); rintro e w18 ⟨rfl, hb⟩; refine ⟨_, rfl, ?_⟩; have n0_ := vb HO_529001 hb; have n1_ := vb HO_535001 hb; have n2_ := blkb BK528 hb; have n3_ := blkb BK529 hb; have n4_ := blkb BK534 hb; have n5_ := belb HB hb; clear HO_529001; clear HO_535001; clear BK528; clear BK529; clear BK534; clear HB; have HO_529001 := n0_; have HO_535001 := n1_; have BK528 := n2_; have BK529 := n3_; have BK534 := n4_; have HB := n5_; clear n0_ n1_ n2_ n3_ n4_ n5_; (try clear hb); (try clear hb2); (try clear hk); (try clear hi); have hcz19_0 : w18.cell? ⟨gb528, 0, none⟩ = some (.bool x529000_1) := (blk_cell BK528.out 0).trans rfl; have hcz19_1 : w18.cell? ⟨gb528, 1, none⟩ = some (.slice Ao17 x529001_1.length co17) := (blk_cell BK528.out 1).trans rfl; have hfz19_0 := blk_frozen BK528.out 0; have hfz19_1 := blk_frozen BK528.out 1; have hnb20 := NB534_529.out; have hnc20 := NB529_534.out; have hcz21_0 : w18.cell? ⟨gb534, 0, none⟩ = some (.bool t530) := (blk_cell BK534.out 0).trans rfl; have hcz21_1 : w18.cell? ⟨gb534, 1, none⟩ = some (.slice Ao10 t531.length co10) := (blk_cell BK534.out 1).trans rfl; have hfz21_0 := blk_frozen BK534.out 0; have hfz21_1 := blk_frozen BK534.out 1) | ((with_reducible refine gate_callee (f := 27) rfl ?_); refine goesL_ (some 10) rfl rfl Try.func27 (by kernel_rfl) rfl #[.agg #[.bool x529000_1, .slice Ao17 x529001_1.length co17], .agg #[.bool t530, .slice Ao10 t531.length co10]] rfl argt ?_; (with_reducible refine (turnstoneref01_Add.calls k1 x529000_1 _ _ x529001_1 t530 _ _ t531 t536 t537 _ ?side1 ?side2 ?side3 ?side4 A13.out).mono ?_); (case side1 => repeat (first | exact (Kd.V_reads' HO_529001.out).2.2 | (with_reducible refine Kd.C_alloc ?_ _) | (with_reducible refine Kd.C_drewN ?_ _) | (with_reducible refine Kd.C_drew ?_))); (case side2 => exact (Kd.V_reads' HO_529001.out).2.1); (case side3 => repeat (first | exact (Kd.V_reads' HO_535001.out).2.2 | (with_reducible refine Kd.C_alloc ?_ _) | (with_reducible refine Kd.C_drewN ?_ _) | (with_reducible refine Kd.C_drew ?_))); (case side4 => exact (Kd.V_reads' HO_535001.out).2.1); rintro e w22 ⟨v538, rfl, ho0, hb⟩; refine ⟨_, rfl, ?_⟩; have n0_ := vb HO_529001 hb; have n1_ := vb HO_535001 hb; have n2_ := Aside0.mk (Kd.V_lower (Kd.V_mono (ok' := fun k_ => (P0_1_ k_ ∨ w.heap.size ≤ k_) ∧ k_ ≠ gb528 ∧ k_ ≠ gb529 ∧ k_ ≠ gb534) ho0 (fun k_ hk_ => ⟨(.inr (Nat.le_trans (below_size (belt HB)) hk_)), (Kd.freshB (blkt BK528) k_ hk_), (Kd.freshB (blkt BK529) k_ hk_), (Kd.freshB (blkt BK534) k_ hk_)⟩)) (below_size (belt HB))); have n3_ := blkb BK528 hb; have n4_ := blkb BK529 hb; have n5_ := blkb BK534 hb; have n6_ := belb HB hb; clear HO_529001; clear HO_535001; clear BK528; clear BK529; clear BK534; clear HB; have HO_529001 := n0_; have HO_535001 := n1_; have HO539 := n2_; have BK528 := n3_; have BK529 := n4_; have BK534 := n5_; have HB := n6_; clear n0_ n1_ n2_ n3_ n4_ n5_ n6_; (try clear hb); (try clear hb2); (try clear hk); (try clear hi); (try clear ho0); have hcz23_0 : w22.cell? ⟨gb528, 0, none⟩ = some (.bool x529000_1) := (blk_cell BK528.out 0).trans rfl; have hcz23_1 : w22.cell? ⟨gb528, 1, none⟩ = some (.slice Ao17 x529001_1.length co17) := (blk_cell BK528.out 1).trans rfl; have hfz23_0 := blk_frozen BK528.out 0; have hfz23_1 := blk_frozen BK528.out 1; obtain ⟨Ao24, co24, eo24⟩ := Kd.V_slice HO539.out; subst eo24))
    go_roundg k1
    case measure => have := HK1.out; omega
    case rel => exact ⟨(t536), (t537), (.slice Ao24 t537.length co24), H', ⟨by have := HK1.out; omega⟩, ⟨by (with_reducible repeat (first | apply Kd.V_alloc | apply Kd.V_drewN | apply Kd.V_drew)); exact Kd.V_mono (Kd.V_far (p := ⟨gb528, 1, none⟩) (Kd.V_far (p := ⟨gb528, 0, none⟩) (Kd.V_mono HO539.out (fun k_ hk => (⟨hk, hk.2.1⟩ : _ ∧ k_ ≠ gb528))) (fun _ hk => hk.2) (.bool t536)) (fun _ hk => hk.2) (.slice Ao24 t537.length co24)) (fun _ hk => ⟨hk.1.1, ⟨hk.1.2.1, ⟨hk.1.2.2.1, hk.1.2.2.2⟩⟩⟩)⟩, ⟨by (with_reducible repeat (first | apply Kd.V_alloc | apply Kd.V_drewN | apply Kd.V_drew)); exact Kd.V_mono (Kd.V_far (p := ⟨gb528, 1, none⟩) (Kd.V_far (p := ⟨gb528, 0, none⟩) (Kd.V_mono HO_535001.out (fun k_ hk => (⟨hk, hk.2.1⟩ : _ ∧ k_ ≠ gb528))) (fun _ hk => hk.2) (.bool t536)) (fun _ hk => hk.2) (.slice Ao24 t537.length co24)) (fun _ hk => ⟨hk.1.1, ⟨hk.1.2.1, ⟨hk.1.2.2.1, hk.1.2.2.2⟩⟩⟩)⟩, ⟨by (with_reducible repeat (first | refine blk_drewN ?_ _ | refine blk_drew ?_ | refine blk_alloc ?_ _)); refine blk_put (cs := #[.bool t536, .slice Ao17 x529001_1.length co17]) ?_ 1 _ rfl; (with_reducible repeat (first | refine blk_drewN ?_ _ | refine blk_drew ?_ | refine blk_alloc ?_ _)); refine blk_put (cs := #[.bool x529000_1, .slice Ao17 x529001_1.length co17]) ?_ 0 _ rfl; (with_reducible repeat (first | refine blk_drewN ?_ _ | refine blk_drew ?_ | refine blk_alloc ?_ _)); exact BK528.out⟩, ⟨by (with_reducible repeat (first | refine blk_drewN ?_ _ | refine blk_drew ?_ | refine blk_alloc ?_ _)); refine blk_far ?_ NB529_528.out _; (with_reducible repeat (first | refine blk_drewN ?_ _ | refine blk_drew ?_ | refine blk_alloc ?_ _)); refine blk_far ?_ NB529_528.out _; (with_reducible repeat (first | refine blk_drewN ?_ _ | refine blk_drew ?_ | refine blk_alloc ?_ _)); exact BK529.out⟩, ⟨by (with_reducible repeat (first | refine blk_drewN ?_ _ | refine blk_drew ?_ | refine blk_alloc ?_ _)); refine blk_far ?_ NB534_528.out _; (with_reducible repeat (first | refine blk_drewN ?_ _ | refine blk_drew ?_ | refine blk_alloc ?_ _)); refine blk_far ?_ NB534_528.out _; (with_reducible repeat (first | refine blk_drewN ?_ _ | refine blk_drew ?_ | refine blk_alloc ?_ _)); exact BK534.out⟩, ⟨by repeat (first | (with_reducible first | exact HB.out | apply below_alloc | apply pw_below_drewN | apply below_drew1 | refine below_set ?_ GE528.out | refine below_set ?_ GE529.out | refine below_set ?_ GE534.out) | exact HB.out)⟩⟩
   ·rw [if_neg c12] at H
    have c12b0 : decide (t535 < 0) = false := decide_eq_false c12
    clear c12
    have H' := Aside0.mk H
    clear H
    have hnb25 := NB528_529.out
    have hnc25 := NB529_528.out
    have hnb26 := NB528_534.out
    have hnc26 := NB534_528.out
    have hcz27_0 : wr.cell? ⟨gb528, 0, none⟩ = some (.bool x529000_1) := (blk_cell BK528.out 0).trans rfl
    have hcz27_1 : wr.cell? ⟨gb528, 1, none⟩ = some (u529001) := (blk_cell BK528.out 1).trans rfl
    have hfz27_0 := blk_frozen BK528.out 0
    have hfz27_1 := blk_frozen BK528.out 1
    obtain ⟨Ao28, co28, eo28⟩ := Kd.V_slice HO_529001.out
    subst eo28
    go_wp2_with (first | ((with_reducible refine gate_callee (f := 59) rfl ?_); refine goesL_ (some 6) rfl rfl Try.func59 (by kernel_rfl) rfl #[.agg #[.bool x529000_1, .slice Ao28 x529001_1.length co28]] rfl argt ?_; (with_reducible refine (turnstoneref01_Sign.calls x529000_1 _ _ x529001_1 t535 _ ?side1 ?side2 A11.out).mono ?_); (case side1 => repeat (first | exact (Kd.V_reads' HO_529001.out).2.2 | (with_reducible refine Kd.C_alloc ?_ _) | (with_reducible refine Kd.C_drewN ?_ _) | (with_reducible refine Kd.C_drew ?_))); (case side2 => exact (Kd.V_reads' HO_529001.out).2.1); rintro e w29 ⟨rfl, hb⟩; refine ⟨_, rfl, ?_⟩; have n0_ := vb HO_529001 hb; have n1_ := vb HO_535001 hb; have n2_ := blkb BK528 hb; have n3_ := blkb BK529 hb; have n4_ := blkb BK534 hb; have n5_ := belb HB hb; clear HO_529001; clear HO_535001; clear BK528; clear BK529; clear BK534; clear HB; have HO_529001 := n0_; have HO_535001 := n1_; have BK528 := n2_; have BK529 := n3_; have BK534 := n4_; have HB := n5_; clear n0_ n1_ n2_ n3_ n4_ n5_; (try clear hb); (try clear hb2); (try clear hk); (try clear hi)))
    (try simp only [Act.put, List.setIfInBounds_toArray, List.set_cons_zero, List.set_cons_succ])
    go_loopg [] k1 (fun kq w' => ∃ (x529000_2 : Bool) (x529001_2 : List Int) (u529001 : Value), Aside0 (turnstoneref03_Round.l1 kq x529000_2 x529001_2 t530 t531 = some (r1, r2)) ∧ Aside0 (kq ≤ k1) ∧ Aside0 (Kd.V (Kd.int .i64) 3 w' w.heap.size (fun k_ => (P0_1_ k_ ∨ w.heap.size ≤ k_) ∧ k_ ≠ gb528 ∧ k_ ≠ gb529 ∧ k_ ≠ gb534) u529001 x529001_2) ∧ Aside0 (Kd.V (Kd.int .i64) 3 w' w.heap.size (fun k_ => (P0_1_ k_ ∨ w.heap.size ≤ k_) ∧ k_ ≠ gb528 ∧ k_ ≠ gb529 ∧ k_ ≠ gb534) (.slice Ao10 t531.length co10) t531) ∧ Aside0 (w'.heap[gb528]? = some (.cells #[.bool x529000_2, u529001] 28 (0, 0))) ∧ Aside0 (w'.heap[gb529]? = some (.cells #[.bool false, (.slice none 0 0)] 28 (0, 0))) ∧ Aside0 (w'.heap[gb534]? = some (.cells #[.bool t530, (.slice Ao10 t531.length co10)] 28 (0, 0))) ∧ Aside0 (Below w.heap.size w w'))
    case atStart => exact ⟨(x529000_1), (x529001_1), (.slice Ao28 x529001_1.length co28), H', ⟨Nat.le_refl _⟩, ⟨by (with_reducible repeat (first | apply Kd.V_alloc | apply Kd.V_drewN | apply Kd.V_drew)); exact HO_529001.out⟩, ⟨by (with_reducible repeat (first | apply Kd.V_alloc | apply Kd.V_drewN | apply Kd.V_drew)); exact HO_535001.out⟩, ⟨by (with_reducible repeat (first | refine blk_drewN ?_ _ | refine blk_drew ?_ | refine blk_alloc ?_ _)); exact BK528.out⟩, ⟨by (with_reducible repeat (first | refine blk_drewN ?_ _ | refine blk_drew ?_ | refine blk_alloc ?_ _)); exact BK529.out⟩, ⟨by (with_reducible repeat (first | refine blk_drewN ?_ _ | refine blk_drew ?_ | refine blk_alloc ?_ _)); exact BK534.out⟩, ⟨by repeat (first | (with_reducible first | exact HB.out | apply below_alloc | apply pw_below_drewN | apply below_drew1 | refine below_set ?_ GE528.out | refine below_set ?_ GE529.out | refine below_set ?_ GE534.out) | exact HB.out)⟩⟩
    case round =>
     clear H'
     try clear c1
     try clear c2
     try clear p2
     try clear c5
     try clear c6
     try clear c7
     try clear c8
     try clear c12
     try clear c12b0
     try clear c14
     try clear c15
     try clear c20
     try clear c25
     try clear c26
     try clear c27
     try clear hcz16_0
     try clear hcz16_1
     try clear hcz19_0
     try clear hcz19_1
     try clear hcz21_0
     try clear hcz21_1
     try clear hcz23_0
     try clear hcz23_1
     try clear hcz27_0
     try clear hcz27_1
     try clear hcz9_0
     try clear hcz9_1
     try clear hfz16_0
     try clear hfz16_1
     try clear hfz19_0
     try clear hfz19_1
     try clear hfz21_0
     try clear hfz21_1
     try clear hfz23_0
     try clear hfz23_1
     try clear hfz27_0
     try clear hfz27_1
     try clear hfz9_0
     try clear hfz9_1
     try clear p2
     obtain ⟨x529000_2, x529001_2, u529001, HA, HK2, HO_529001, HO_535001, BK528, BK529, BK534, HB⟩ := hrel
     cases gk with
     | zero => exact absurd HA.out (by simp [turnstoneref03_Round.l1])
     | succ k2 =>
      have H := HA.out
      clear HA
      simp only [turnstoneref03_Round.l1] at H
      replace H := Option.bind_eq_some_iff.mp H
      obtain ⟨t540, A300, H⟩ := H
      replace H : (if t540 ≥ 0 then ((turnstoneref01_Sub.f k2 x529000_2 x529001_2 t530 t531).bind fun bt541 => (turnstoneref03_Round.l1 k2 bt541.1 bt541.2 t530 t531)) else (some (x529000_2, x529001_2))) = some (r1, r2) := H
      have A30 := Aside0.mk A300
      clear A300
      by_cases c31 : t540 ≥ 0
      ·rw [if_pos c31] at H
       have c31b0 : decide (0 ≤ t540) = true := decide_eq_true c31
       clear c31
       replace H := Option.bind_eq_some_iff.mp H
       obtain ⟨⟨t541, t542⟩, A320, H⟩ := H
       replace H : (turnstoneref03_Round.l1 k2 t541 t542 t530 t531) = some (r1, r2) := H
       have A32 := Aside0.mk A320
       clear A320
       have H' := Aside0.mk H
       clear H
       have hnb33 := NB528_529.out
       have hnc33 := NB529_528.out
       have hnb34 := NB528_534.out
       have hnc34 := NB534_528.out
       have hcz35_0 : wr.cell? ⟨gb528, 0, none⟩ = some (.bool x529000_2) := (blk_cell BK528.out 0).trans rfl
       have hcz35_1 : wr.cell? ⟨gb528, 1, none⟩ = some (u529001) := (blk_cell BK528.out 1).trans rfl
       have hfz35_0 := blk_frozen BK528.out 0
       have hfz35_1 := blk_frozen BK528.out 1
       have hnb36 := NB534_529.out
       have hnc36 := NB529_534.out
       have hcz37_0 : wr.cell? ⟨gb534, 0, none⟩ = some (.bool t530) := (blk_cell BK534.out 0).trans rfl
       have hcz37_1 : wr.cell? ⟨gb534, 1, none⟩ = some (.slice Ao10 t531.length co10) := (blk_cell BK534.out 1).trans rfl
       have hfz37_0 := blk_frozen BK534.out 0
       have hfz37_1 := blk_frozen BK534.out 1
       obtain ⟨Ao38, co38, eo38⟩ := Kd.V_slice HO_529001.out
       subst eo38
       go_wp2_with (first | ((with_reducible refine gate_callee (f := 18) rfl ?_); refine goesL_ (some 13) rfl rfl Try.func18 (by kernel_rfl) rfl #[.agg #[.bool x529000_2, .slice Ao38 x529001_2.length co38], .agg #[.bool t530, .slice Ao10 t531.length co10]] rfl argt ?_; (with_reducible refine (turnstoneref01_Cmp.calls k2 x529000_2 _ _ x529001_2 t530 _ _ t531 t540 _ ?side1 ?side2 ?side3 ?side4 A30.out).mono ?_); (case side1 => repeat (first | exact (Kd.V_reads' HO_529001.out).2.2 | (with_reducible refine Kd.C_alloc ?_ _) | (with_reducible refine Kd.C_drewN ?_ _) | (with_reducible refine Kd.C_drew ?_))); (case side2 => exact (Kd.V_reads' HO_529001.out).2.1); (case side3 => repeat (first | exact (Kd.V_reads' HO_535001.out).2.2 | (with_reducible refine Kd.C_alloc ?_ _) | (with_reducible refine Kd.C_drewN ?_ _) | (with_reducible refine Kd.C_drew ?_))); (case side4 => exact (Kd.V_reads' HO_535001.out).2.1); rintro e w39 ⟨rfl, hb⟩; refine ⟨_, rfl, ?_⟩; have n0_ := vb HO_529001 hb; have n1_ := vb HO_535001 hb; have n2_ := blkb BK528 hb; have n3_ := blkb BK529 hb; have n4_ := blkb BK534 hb; have n5_ := belb HB hb; clear HO_529001; clear HO_535001; clear BK528; clear BK529; clear BK534; clear HB; have HO_529001 := n0_; have HO_535001 := n1_; have BK528 := n2_; have BK529 := n3_; have BK534 := n4_; have HB := n5_; clear n0_ n1_ n2_ n3_ n4_ n5_; (try clear hb); (try clear hb2); (try clear hk); (try clear hi); have hcz40_0 : w39.cell? ⟨gb528, 0, none⟩ = some (.bool x529000_2) := (blk_cell BK528.out 0).trans rfl; have hcz40_1 : w39.cell? ⟨gb528, 1, none⟩ = some (.slice Ao38 x529001_2.length co38) := (blk_cell BK528.out 1).trans rfl; have hfz40_0 := blk_frozen BK528.out 0; have hfz40_1 := blk_frozen BK528.out 1; have hcz41_0 : w39.cell? ⟨gb534, 0, none⟩ = some (.bool t530) := (blk_cell BK534.out 0).trans rfl; have hcz41_1 : w39.cell? ⟨gb534, 1, none⟩ = some (.slice Ao10 t531.length co10) := (blk_cell BK534.out 1).trans rfl; have hfz41_0 := blk_frozen BK534.out 0; have hfz41_1 := blk_frozen BK534.out 1) | ((with_reducible refine gate_callee (f := 43) rfl ?_); refine goesL_ (some 17) rfl rfl Try.func43 (by kernel_rfl) rfl #[.agg #[.bool x529000_2, .slice Ao38 x529001_2.length co38], .agg #[.bool t530, .slice Ao10 t531.length co10]] rfl argt ?_; (with_reducible refine (turnstoneref01_Sub.calls k2 x529000_2 _ _ x529001_2 t530 (fun k_ => ((P0_1_ k_ ∨ w.heap.size ≤ k_) ∧ (k_ ≠ gb528 ∧ (k_ ≠ gb529 ∧ k_ ≠ gb534)))) _ _ t531 t541 t542 _ ?side1 ?side2 ?side3 A32.out).mono ?_); (case side1 => repeat (first | exact (Kd.V_reads' HO_529001.out).2.2 | (with_reducible refine Kd.C_alloc ?_ _) | (with_reducible refine Kd.C_drewN ?_ _) | (with_reducible refine Kd.C_drew ?_))); (case side2 => exact (Kd.V_reads' HO_529001.out).2.1); (case side3 => exact HO_535001.out); rintro e w42 ⟨v543, rfl, ho0, hb⟩; refine ⟨_, rfl, ?_⟩; have n0_ := vb HO_529001 hb; have n1_ := vb HO_535001 hb; have n2_ := Aside0.mk (Kd.V_lower (Kd.V_mono (ok' := fun k_ => (P0_1_ k_ ∨ w.heap.size ≤ k_) ∧ k_ ≠ gb528 ∧ k_ ≠ gb529 ∧ k_ ≠ gb534) ho0 (fun k_ hk_ => ⟨Or.elim hk_ (fun hs_ => hs_.1) (fun hn_ => (.inr (Nat.le_trans (below_size (belt HB)) hn_))), Or.elim hk_ (fun hs_ => hs_.2.1) (fun hn_ => (Kd.freshB (blkt BK528) k_ hn_)), Or.elim hk_ (fun hs_ => hs_.2.2.1) (fun hn_ => (Kd.freshB (blkt BK529) k_ hn_)), Or.elim hk_ (fun hs_ => hs_.2.2.2) (fun hn_ => (Kd.freshB (blkt BK534) k_ hn_))⟩)) (below_size (belt HB))); have n3_ := blkb BK528 hb; have n4_ := blkb BK529 hb; have n5_ := blkb BK534 hb; have n6_ := belb HB hb; clear HO_529001; clear HO_535001; clear BK528; clear BK529; clear BK534; clear HB; have HO_529001 := n0_; have HO_535001 := n1_; have HO544 := n2_; have BK528 := n3_; have BK529 := n4_; have BK534 := n5_; have HB := n6_; clear n0_ n1_ n2_ n3_ n4_ n5_ n6_; (try clear hb); (try clear hb2); (try clear hk); (try clear hi); (try clear ho0); have hcz43_0 : w42.cell? ⟨gb528, 0, none⟩ = some (.bool x529000_2) := (blk_cell BK528.out 0).trans rfl; have hcz43_1 : w42.cell? ⟨gb528, 1, none⟩ = some (.slice Ao38 x529001_2.length co38) := (blk_cell BK528.out 1).trans rfl; have hfz43_0 := blk_frozen BK528.out 0; have hfz43_1 := blk_frozen BK528.out 1; obtain ⟨Ao44, co44, eo44⟩ := Kd.V_slice HO544.out; subst eo44))
       go_roundg k2
       case measure => have := HK1.out; have := HK2.out; omega
       case rel => exact ⟨(t541), (t542), (.slice Ao44 t542.length co44), H', ⟨by have := HK1.out; have := HK2.out; omega⟩, ⟨by (with_reducible repeat (first | apply Kd.V_alloc | apply Kd.V_drewN | apply Kd.V_drew)); exact Kd.V_mono (Kd.V_far (p := ⟨gb528, 1, none⟩) (Kd.V_far (p := ⟨gb528, 0, none⟩) (Kd.V_mono HO544.out (fun k_ hk => (⟨hk, hk.2.1⟩ : _ ∧ k_ ≠ gb528))) (fun _ hk => hk.2) (.bool t541)) (fun _ hk => hk.2) (.slice Ao44 t542.length co44)) (fun _ hk => ⟨hk.1.1, ⟨hk.1.2.1, ⟨hk.1.2.2.1, hk.1.2.2.2⟩⟩⟩)⟩, ⟨by (with_reducible repeat (first | apply Kd.V_alloc | apply Kd.V_drewN | apply Kd.V_drew)); exact Kd.V_mono (Kd.V_far (p := ⟨gb528, 1, none⟩) (Kd.V_far (p := ⟨gb528, 0, none⟩) (Kd.V_mono HO_535001.out (fun k_ hk => (⟨hk, hk.2.1⟩ : _ ∧ k_ ≠ gb528))) (fun _ hk => hk.2) (.bool t541)) (fun _ hk => hk.2) (.slice Ao44 t542.length co44)) (fun _ hk => ⟨hk.1.1, ⟨hk.1.2.1, ⟨hk.1.2.2.1, hk.1.2.2.2⟩⟩⟩)⟩, ⟨by (with_reducible repeat (first | refine blk_drewN ?_ _ | refine blk_drew ?_ | refine blk_alloc ?_ _)); refine blk_put (cs := #[.bool t541, .slice Ao38 x529001_2.length co38]) ?_ 1 _ rfl; (with_reducible repeat (first | refine blk_drewN ?_ _ | refine blk_drew ?_ | refine blk_alloc ?_ _)); refine blk_put (cs := #[.bool x529000_2, .slice Ao38 x529001_2.length co38]) ?_ 0 _ rfl; (with_reducible repeat (first | refine blk_drewN ?_ _ | refine blk_drew ?_ | refine blk_alloc ?_ _)); exact BK528.out⟩, ⟨by (with_reducible repeat (first | refine blk_drewN ?_ _ | refine blk_drew ?_ | refine blk_alloc ?_ _)); refine blk_far ?_ NB529_528.out _; (with_reducible repeat (first | refine blk_drewN ?_ _ | refine blk_drew ?_ | refine blk_alloc ?_ _)); refine blk_far ?_ NB529_528.out _; (with_reducible repeat (first | refine blk_drewN ?_ _ | refine blk_drew ?_ | refine blk_alloc ?_ _)); exact BK529.out⟩, ⟨by (with_reducible repeat (first | refine blk_drewN ?_ _ | refine blk_drew ?_ | refine blk_alloc ?_ _)); refine blk_far ?_ NB534_528.out _; (with_reducible repeat (first | refine blk_drewN ?_ _ | refine blk_drew ?_ | refine blk_alloc ?_ _)); refine blk_far ?_ NB534_528.out _; (with_reducible repeat (first | refine blk_drewN ?_ _ | refine blk_drew ?_ | refine blk_alloc ?_ _)); exact BK534.out⟩, ⟨by repeat (first | (with_reducible first | exact HB.out | apply below_alloc | apply pw_below_drewN | apply below_drew1 | refine below_set ?_ GE528.out | refine below_set ?_ GE529.out | refine below_set ?_ GE534.out) | exact HB.out)⟩⟩
      ·rw [if_neg c31] at H
       have c31b0 : decide (0 ≤ t540) = false := decide_eq_false c31
       clear c31
       simp only [Option.some.injEq, Prod.mk.injEq] at H
       obtain ⟨rfl, rfl⟩ := H
       have hnb45 := NB528_529.out
       have hnc45 := NB529_528.out
       have hnb46 := NB528_534.out
       have hnc46 := NB534_528.out
       have hcz47_0 : wr.cell? ⟨gb528, 0, none⟩ = some (.bool x529000_2) := (blk_cell BK528.out 0).trans rfl
       have hcz47_1 : wr.cell? ⟨gb528, 1, none⟩ = some (u529001) := (blk_cell BK528.out 1).trans rfl
       have hfz47_0 := blk_frozen BK528.out 0
       have hfz47_1 := blk_frozen BK528.out 1
       have hnb48 := NB534_529.out
       have hnc48 := NB529_534.out
       have hcz49_0 : wr.cell? ⟨gb534, 0, none⟩ = some (.bool t530) := (blk_cell BK534.out 0).trans rfl
       have hcz49_1 : wr.cell? ⟨gb534, 1, none⟩ = some (.slice Ao10 t531.length co10) := (blk_cell BK534.out 1).trans rfl
       have hfz49_0 := blk_frozen BK534.out 0
       have hfz49_1 := blk_frozen BK534.out 1
       obtain ⟨Ao50, co50, eo50⟩ := Kd.V_slice HO_529001.out
       subst eo50
       go_wp2_with (first | ((with_reducible refine gate_callee (f := 18) rfl ?_); refine goesL_ (some 13) rfl rfl Try.func18 (by kernel_rfl) rfl #[.agg #[.bool x529000_2, .slice Ao50 x529001_2.length co50], .agg #[.bool t530, .slice Ao10 t531.length co10]] rfl argt ?_; (with_reducible refine (turnstoneref01_Cmp.calls k2 x529000_2 _ _ x529001_2 t530 _ _ t531 t540 _ ?side1 ?side2 ?side3 ?side4 A30.out).mono ?_); (case side1 => repeat (first | exact (Kd.V_reads' HO_529001.out).2.2 | (with_reducible refine Kd.C_alloc ?_ _) | (with_reducible refine Kd.C_drewN ?_ _) | (with_reducible refine Kd.C_drew ?_))); (case side2 => exact (Kd.V_reads' HO_529001.out).2.1); (case side3 => repeat (first | exact (Kd.V_reads' HO_535001.out).2.2 | (with_reducible refine Kd.C_alloc ?_ _) | (with_reducible refine Kd.C_drewN ?_ _) | (with_reducible refine Kd.C_drew ?_))); (case side4 => exact (Kd.V_reads' HO_535001.out).2.1); rintro e w51 ⟨rfl, hb⟩; refine ⟨_, rfl, ?_⟩; have n0_ := vb HO_529001 hb; have n1_ := vb HO_535001 hb; have n2_ := blkb BK528 hb; have n3_ := blkb BK529 hb; have n4_ := blkb BK534 hb; have n5_ := belb HB hb; clear HO_529001; clear HO_535001; clear BK528; clear BK529; clear BK534; clear HB; have HO_529001 := n0_; have HO_535001 := n1_; have BK528 := n2_; have BK529 := n3_; have BK534 := n4_; have HB := n5_; clear n0_ n1_ n2_ n3_ n4_ n5_; (try clear hb); (try clear hb2); (try clear hk); (try clear hi); have hcz52_0 : w51.cell? ⟨gb528, 0, none⟩ = some (.bool x529000_2) := (blk_cell BK528.out 0).trans rfl; have hcz52_1 : w51.cell? ⟨gb528, 1, none⟩ = some (.slice Ao50 x529001_2.length co50) := (blk_cell BK528.out 1).trans rfl; have hfz52_0 := blk_frozen BK528.out 0; have hfz52_1 := blk_frozen BK528.out 1; have hcz53_0 : w51.cell? ⟨gb529, 0, none⟩ = some (.bool false) := (blk_cell BK529.out 0).trans rfl; have hcz53_1 : w51.cell? ⟨gb529, 1, none⟩ = some (.slice none 0 0) := (blk_cell BK529.out 1).trans rfl; have hfz53_0 := blk_frozen BK529.out 0; have hfz53_1 := blk_frozen BK529.out 1))
       refine bodyPost_ret (results_cell_row rfl _ _ gb529 28 #[.bool x529000_2, .slice Ao50 x529001_2.length co50] (0, 0) _ rfl (by (with_reducible repeat (first | refine blk_drewN ?_ _ | refine blk_drew ?_ | refine blk_alloc ?_ _)); refine blk_put (cs := #[.bool x529000_2, .slice none 0 0]) ?_ 1 _ rfl; (with_reducible repeat (first | refine blk_drewN ?_ _ | refine blk_drew ?_ | refine blk_alloc ?_ _)); refine blk_put (cs := #[.bool false, .slice none 0 0]) ?_ 0 _ rfl; (with_reducible repeat (first | refine blk_drewN ?_ _ | refine blk_drew ?_ | refine blk_alloc ?_ _)); exact BK529.out) Try.underlying28 rfl (by kernel_rfl)) rfl ?_
       exact ⟨_, by first | rfl | (simp [errW_none, errW_some] <;> rfl) | (simp [*, errW_none, errW_some] <;> rfl), by (with_reducible repeat (first | apply Kd.V_alloc | apply Kd.V_drewN | apply Kd.V_drew)); exact Kd.V_mono (Kd.V_far (p := ⟨gb529, 1, none⟩) (Kd.V_far (p := ⟨gb529, 0, none⟩) (Kd.V_mono HO_529001.out (fun k_ hk => (⟨hk, hk.2.2.1⟩ : _ ∧ k_ ≠ gb529))) (fun _ hk => hk.2) (.bool x529000_2)) (fun _ hk => hk.2) (.slice Ao50 x529001_2.length co50)) (fun _ hk => hk.1.1), by repeat (first | (with_reducible first | exact HB.out | apply below_alloc | apply pw_below_drewN | apply below_drew1 | refine below_set ?_ GE528.out | refine below_set ?_ GE529.out | refine below_set ?_ GE534.out) | exact HB.out)⟩

end Go.Proofs.Ytimgiiceipjpaaa.Print
