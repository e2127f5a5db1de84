/- What each Go function that is named below answers, as a Lean function, and that its walk comes to just that: for whatever arguments that function gives an answer for. Written by a program of this session (wip/mkpr.py, pr.sh). -/
import Derived.Test.YtccokfebebmaeaaGreatDoorPrint1000
import Derived.Test.YtccokfebebmaeaaGreatDoorPrint1004
namespace Go.Proofs.YtccokfebebmaeaaGreatDoor.Print
open Go.RowKit Go.Proofs.YtccokfebebmaeaaGreatDoorW.PrintWords Go.Proofs.YtccokfebebmaeaaGreatDoorW.PrintLast Go.Proofs.YtccokfebebmaeaaGreatDoorW.PrintMore
attribute [local go_sem] max2_int min2_int max_two min_two max_three min_three max_four min_four   -- for this text's walks alone
open Go.Proofs.YtccokfebebmaeaaGreatDoor.Bits Go.Proofs.YtccokfebebmaeaaGreatDoor.Short
attribute [local go_sem] add64_run0 sub64_run0 add64_run sub64_run
set_option linter.unusedVariables false
set_option linter.unusedSimpArgs false

/-! ### turnstoneref01_Sign: function 32 -/
def turnstoneref01_Sign.f (a0_0 : Bool) (l0_1 : List Int) : Option (Int) := if (l0_1.length : Int) = 0 then (some 0) else (if a0_0 = true then (some (-1)) else (some 1))
set_option maxHeartbeats 8000000 in
set_option maxRecDepth 100000 in
theorem turnstoneref01_Sign.calls (a0_0 : Bool) (A0_1 : Option Addr) (c0_1 : Nat) (l0_1 : List Int) (r : Int) (w : World) (hr0_1 : Kd.C (Kd.int .i64) w A0_1 l0_1.length l0_1) (hc0_1 : l0_1.length ≤ c0_1) (h : turnstoneref01_Sign.f a0_0 l0_1 = some r) :
  Calls Tryz.prog 32 #[.agg #[.bool a0_0, .slice A0_1 l0_1.length c0_1]] w fun e w' => e = .returned (.int .i64 r) ∧ Below w.heap.size w w' := by
 have hu51 := Tryz.underlying51
 have HR0_1 := Aside0.mk hr0_1
 have HC0_1 := Aside0.mk hc0_1
 clear hr0_1 hc0_1
 have HB := Aside0.mk (Below.refl w.heap.size w)
 have H : (if (l0_1.length : Int) = 0 then (some 0) else (if a0_0 = true then (some (-1)) else (some 1))) = some r := h
 clear h
 by_cases c2 : (l0_1.length : Int) = 0
 ·rw [if_pos c2] at H
  have c2b0 : ((l0_1.length : Int) == 0) = true := beq_iff_eq.mpr c2
  have c2b1 : ((l0_1.length : Int) != 0) = false := bne_eq_false_iff_eq.mpr c2
  clear c2
  obtain rfl := Option.some.inj H
  go_enter Tryz.func32, Tryz.ntmps32
  go_wp2_with (first | ((with_reducible refine gate_dst (N := 1) rfl ?_); refine box_event ?hg (N := 1) ?hd (cs := #[.bool a0_0, .slice A0_1 l0_1.length c0_1]) (t := 51) ?hr ?_; (case hd => rfl); (case hg => rfl); (case hr => first | (go_simp; done) | (go_simp; rfl)); intro gb340 hg w3 hbox hb; have BK340 := Aside0.mk (hbox); have GW340 := bels HB hg; have GE340 := bels HB hg; replace HB := belb HB hb; clear hb hbox hg; have hcz4_0 : w3.cell? ⟨gb340, 0, none⟩ = some (.bool a0_0) := bc BK340 0; have hcz4_1 : w3.cell? ⟨gb340, 1, none⟩ = some (.slice A0_1 l0_1.length c0_1) := bc BK340 1; have hfz4_0 := blk_frozen BK340.out 0; have hfz4_1 := blk_frozen BK340.out 1))
  go_ret
  exact ⟨by first | rfl | (simp [errW_none, errW_some] <;> rfl) | (simp [*, errW_none, errW_some] <;> rfl), belt HB⟩
 rw [if_neg c2] at H
 have c2b0 : ((l0_1.length : Int) == 0) = false := beq_eq_false_iff_ne.mpr c2
 have c2b1 : ((l0_1.length : Int) != 0) = true := bne_iff_ne.mpr c2
 have c2b2 : ¬ (l0_1 = []) := fun h_ => c2 (by rw [h_]; rfl)
 by_cases c5 : a0_0 = true
 ·subst c5
  have H1 : (some (-1)) = some r := by rw [if_pos rfl] at H; exact H
  clear H
  have H := H1
  clear H1
  obtain rfl := Option.some.inj H
  go_enter Tryz.func32, Tryz.ntmps32
  go_wp2_with (first | ((with_reducible refine gate_dst (N := 1) rfl ?_); refine box_event ?hg (N := 1) ?hd (cs := #[.bool true, .slice A0_1 l0_1.length c0_1]) (t := 51) ?hr ?_; (case hd => rfl); (case hg => rfl); (case hr => first | (go_simp; done) | (go_simp; rfl)); intro gb340 hg w6 hbox hb; have BK340 := Aside0.mk (hbox); have GW340 := bels HB hg; have GE340 := bels HB hg; replace HB := belb HB hb; clear hb hbox hg; have hcz7_0 : w6.cell? ⟨gb340, 0, none⟩ = some (.bool true) := bc BK340 0; have hcz7_1 : w6.cell? ⟨gb340, 1, none⟩ = some (.slice A0_1 l0_1.length c0_1) := bc BK340 1; have hfz7_0 := blk_frozen BK340.out 0; have hfz7_1 := blk_frozen BK340.out 1))
  go_ret
  exact ⟨by first | rfl | (simp [errW_none, errW_some] <;> rfl) | (simp [*, errW_none, errW_some] <;> rfl), belt HB⟩
 replace c5 := Bool.eq_false_iff.mpr c5
 subst c5
 have H1 : (some 1) = some r := by rw [if_neg (show ¬ (false = true) by decide)] at H; exact H
 clear H
 have H := H1
 clear H1
 obtain rfl := Option.some.inj H
 go_enter Tryz.func32, Tryz.ntmps32
 go_wp2_with (first | ((with_reducible refine gate_dst (N := 1) rfl ?_); refine box_event ?hg (N := 1) ?hd (cs := #[.bool false, .slice A0_1 l0_1.length c0_1]) (t := 51) ?hr ?_; (case hd => rfl); (case hg => rfl); (case hr => first | (go_simp; done) | (go_simp; rfl)); intro gb340 hg w8 hbox hb; have BK340 := Aside0.mk (hbox); have GW340 := bels HB hg; have GE340 := bels HB hg; replace HB := belb HB hb; clear hb hbox hg; have hcz9_0 : w8.cell? ⟨gb340, 0, none⟩ = some (.bool false) := bc BK340 0; have hcz9_1 : w8.cell? ⟨gb340, 1, none⟩ = some (.slice A0_1 l0_1.length c0_1) := bc BK340 1; have hfz9_0 := blk_frozen BK340.out 0; have hfz9_1 := blk_frozen BK340.out 1))
 go_ret
 exact ⟨by first | rfl | (simp [errW_none, errW_some] <;> rfl) | (simp [*, errW_none, errW_some] <;> rfl), belt HB⟩


/-! ### turnstoneref01_Neg: function 88 -/
def turnstoneref01_Neg.f (k : Nat) (a0_0 : Bool) (l0_1 : List Int) : Option (Bool × List Int) := (turnstoneref01_trim.f k (!a0_0) l0_1).bind fun bt343 => (some (bt343.1, bt343.2))
theorem turnstoneref01_Neg.mono : ∀ a0 a1 k, LeO (turnstoneref01_Neg.f k a0 a1) (turnstoneref01_Neg.f (k + 1) a0 a1) := by
 intro a0 a1 k
 unfold turnstoneref01_Neg.f
 repeat' first
   | (with_reducible exact turnstoneref01_trim.mono _ _ _)
   | (with_reducible exact LeO.refl _)
   | (with_reducible exact LeO.none _)
   | (with_reducible refine LeO.ite ?_ ?_)
   | (with_reducible refine LeO.bind ?_ (fun _ => ?_))
   | exact turnstoneref01_trim.mono _ _ _
   | exact LeO.none _
   | refine LeO.ite ?_ ?_
   | refine LeO.bind ?_ (fun _ => ?_)
set_option maxHeartbeats 8000000 in
set_option maxRecDepth 100000 in
theorem turnstoneref01_Neg.calls (k : Nat) (a0_0 : Bool) (P0_1_ : Nat → Prop) (A0_1 : Option Addr) (c0_1 : Nat) (l0_1 : List Int) (r1 : Bool) (r2 : List Int) (w : World) (hs0_1 : Kd.V (Kd.int .i64) 3 w w.heap.size (fun k_ => P0_1_ k_) (.slice A0_1 l0_1.length c0_1) l0_1) (h : turnstoneref01_Neg.f k a0_0 l0_1 = some (r1, r2)) :
  Calls Tryz.prog 88 #[.agg #[.bool a0_0, .slice A0_1 l0_1.length c0_1]] w fun e w' => ∃ v1_ : Value, e = .returned (.agg #[.bool r1, v1_]) ∧ Kd.V (Kd.int .i64) 3 w' w.heap.size (fun k_ => (P0_1_ k_ ∨ w.heap.size ≤ k_)) v1_ r2 ∧ Below w.heap.size w w' := by
 have hu51 := Tryz.underlying51
 have HO0_1 := Aside0.mk (show Kd.V (Kd.int .i64) 3 w w.heap.size (fun k_ => (P0_1_ k_ ∨ w.heap.size ≤ k_)) (.slice A0_1 l0_1.length c0_1) l0_1 from Kd.V_mono hs0_1 (fun k_ hk => .inl hk))
 have HB := Aside0.mk (Below.refl w.heap.size w)
 have H : ((turnstoneref01_trim.f k (!a0_0) l0_1).bind fun bt343 => (some (bt343.1, bt343.2))) = some (r1, r2) := h
 clear h
 replace H := Option.bind_eq_some_iff.mp H
 obtain ⟨⟨t343, t344⟩, A20, H⟩ := H
 replace H : (some (t343, t344)) = some (r1, r2) := H
 have A2 := Aside0.mk A20
 clear A20
 simp only [Option.some.injEq, Prod.mk.injEq] at H
 obtain ⟨rfl, rfl⟩ := H
 go_enter Tryz.func88, Tryz.ntmps88
 go_wp2_with (first | ((with_reducible refine gate_dst (N := 1) rfl ?_); refine box_event ?hg (N := 1) ?hd (cs := #[.bool a0_0, .slice A0_1 l0_1.length c0_1]) (t := 51) ?hr ?_; (case hd => rfl); (case hg => rfl); (case hr => first | (go_simp; done) | (go_simp; rfl)); intro gb341 hg w3 hbox hb; replace HO0_1 := Aside0.mk (Kd.V_below (Kd.V_elderB (vt HO0_1) gb341 (Nat.le_of_eq hg.symm)) hb); have BK341 := Aside0.mk (hbox); have GW341 := bels HB hg; have GE341 := bels HB hg; replace HB := belb HB hb; clear hb hbox hg) | ((with_reducible refine gate_dst (N := 2) rfl ?_); refine box_event ?hg (N := 2) ?hd (cs := #[.bool false, .slice none 0 0]) (t := 51) ?hr ?_; (case hd => rfl); (case hg => rfl); (case hr => first | (go_simp; done) | (go_simp; rfl)); intro gb342 hg w4 hbox hb; replace HO0_1 := Aside0.mk (Kd.V_below (Kd.V_elderB (vt HO0_1) gb342 (Nat.le_of_eq hg.symm)) hb); have BK342 := Aside0.mk (hbox); have GW342 := bels HB hg; have GE342 := bels HB hg; have NB341_342 := blkl BK341 hg; have NB342_341 := blkg BK341 hg; replace BK341 := blkb BK341 hb; replace HB := belb HB hb; clear hb hbox hg; have hnb5 := NB341_342.out; have hnc5 := NB342_341.out; have hcz6_0 : w4.cell? ⟨gb341, 0, none⟩ = some (.bool a0_0) := bc BK341 0; have hcz6_1 : w4.cell? ⟨gb341, 1, none⟩ = some (.slice A0_1 l0_1.length c0_1) := bc BK341 1; have hfz6_0 := blk_frozen BK341.out 0; have hfz6_1 := blk_frozen BK341.out 1) | ((with_reducible refine gate_callee (f := 67) rfl ?_); refine goesL_ (some 9) rfl rfl Tryz.func67 (by kernel_rfl) rfl #[.agg #[.bool (!a0_0), .slice A0_1 l0_1.length c0_1]] rfl argt ?_; (with_reducible refine (turnstoneref01_trim.calls k (!a0_0) (fun k_ => (((P0_1_ k_ ∨ w.heap.size ≤ k_) ∧ k_ ≠ gb341) ∧ k_ ≠ gb342)) _ _ l0_1 t343 t344 _ ?side1 A2.out).mono ?_); (case side1 => exact HO0_1.out); rintro e w7 ⟨v345, rfl, ho0, hb⟩; refine ⟨_, rfl, ?_⟩; replace HO0_1 := vb HO0_1 hb; have HO346 := Aside0.mk (Kd.V_lower (Kd.V_mono (ok' := fun k_ => (P0_1_ k_ ∨ w.heap.size ≤ k_) ∧ k_ ≠ gb341 ∧ k_ ≠ gb342) ho0 (fun k_ hk_ => ⟨Or.elim hk_ (fun hs_ => hs_.1.1) (fun hn_ => (.inr (Nat.le_trans (below_size (belt HB)) hn_))), Or.elim hk_ (fun hs_ => hs_.1.2) (fun hn_ => (Kd.freshB (blkt BK341) k_ hn_)), Or.elim hk_ (fun hs_ => hs_.2) (fun hn_ => (Kd.freshB (blkt BK342) k_ hn_))⟩)) (below_size (belt HB))); replace BK341 := blkb BK341 hb; replace BK342 := blkb BK342 hb; replace HB := belb HB hb; (try clear hb); (try clear hb2); (try clear hk); (try clear hi); (try clear ho0); have hcz8_0 : w7.cell? ⟨gb342, 0, none⟩ = some (.bool false) := bc BK342 0; have hcz8_1 : w7.cell? ⟨gb342, 1, none⟩ = some (.slice none 0 0) := bc BK342 1; have hfz8_0 := blk_frozen BK342.out 0; have hfz8_1 := blk_frozen BK342.out 1; obtain ⟨Ao9, co9, eo9⟩ := Kd.V_slice HO346.out; subst eo9))
 refine bodyPost_ret (results_cell_row rfl _ _ gb342 51 #[.bool t343, .slice Ao9 t344.length co9] (0, 0) _ rfl (by (with_reducible repeat (first | refine blk_drewN ?_ _ | refine blk_drew ?_ | refine blk_alloc ?_ _)); refine blk_put (cs := #[.bool t343, .slice none 0 0]) ?_ 1 _ rfl; (with_reducible repeat (first | refine blk_drewN ?_ _ | refine blk_drew ?_ | refine blk_alloc ?_ _)); refine blk_put (cs := #[.bool false, .slice none 0 0]) ?_ 0 _ rfl; exact blkt BK342) Tryz.underlying51 rfl (by kernel_rfl)) rfl ?_
 exact ⟨_, by first | rfl | (simp [errW_none, errW_some] <;> rfl) | (simp [*, errW_none, errW_some] <;> rfl), by (with_reducible repeat (first | apply Kd.V_alloc | apply Kd.V_drewN | apply Kd.V_drew)); exact Kd.V_mono (Kd.V_far (p := ⟨gb342, 1, none⟩) (Kd.V_far (p := ⟨gb342, 0, none⟩) (Kd.V_mono HO346.out (fun k_ hk => (⟨hk, hk.2.2⟩ : _ ∧ k_ ≠ gb342))) (fun _ hk => hk.2) (.bool t343)) (fun _ hk => hk.2) (.slice Ao9 t344.length co9)) (fun _ hk => hk.1.1), belt HB⟩


/-! ### turnstoneref01_Sub: function 64 -/
def turnstoneref01_Sub.f (k : Nat) (a0_0 : Bool) (l0_1 : List Int) (a1_0 : Bool) (l1_1 : List Int) : Option (Bool × List Int) := (turnstoneref01_Neg.f k a1_0 l1_1).bind fun bt350 => ((turnstoneref01_Add.f k a0_0 l0_1 bt350.1 bt350.2).bind fun bt354 => (some (bt354.1, bt354.2)))
theorem turnstoneref01_Sub.mono : ∀ a0 a1 a2 a3 k, LeO (turnstoneref01_Sub.f k a0 a1 a2 a3) (turnstoneref01_Sub.f (k + 1) a0 a1 a2 a3) := by
 intro a0 a1 a2 a3 k
 unfold turnstoneref01_Sub.f
 repeat' first
   | (with_reducible exact turnstoneref01_Add.mono _ _ _ _ _)
   | (with_reducible exact turnstoneref01_Neg.mono _ _ _)
   | (with_reducible exact LeO.refl _)
   | (with_reducible exact LeO.none _)
   | (with_reducible refine LeO.ite ?_ ?_)
   | (with_reducible refine LeO.bind ?_ (fun _ => ?_))
   | exact turnstoneref01_Add.mono _ _ _ _ _
   | exact turnstoneref01_Neg.mono _ _ _
   | exact LeO.none _
   | refine LeO.ite ?_ ?_
   | refine LeO.bind ?_ (fun _ => ?_)
set_option maxHeartbeats 8000000 in
set_option maxRecDepth 100000 in
theorem turnstoneref01_Sub.calls (k : Nat) (a0_0 : Bool) (A0_1 : Option Addr) (c0_1 : Nat) (l0_1 : List Int) (a1_0 : Bool) (P1_1_ : Nat → Prop) (A1_1 : Option Addr) (c1_1 : Nat) (l1_1 : List Int) (r1 : Bool) (r2 : List Int) (w : World) (hr0_1 : Kd.C (Kd.int .i64) w A0_1 l0_1.length l0_1) (hc0_1 : l0_1.length ≤ c0_1) (hs1_1 : Kd.V (Kd.int .i64) 3 w w.heap.size (fun k_ => P1_1_ k_) (.slice A1_1 l1_1.length c1_1) l1_1) (h : turnstoneref01_Sub.f k a0_0 l0_1 a1_0 l1_1 = some (r1, r2)) :
  Calls Tryz.prog 64 #[.agg #[.bool a0_0, .slice A0_1 l0_1.length c0_1], .agg #[.bool a1_0, .slice A1_1 l1_1.length c1_1]] w fun e w' => ∃ v1_ : Value, e = .returned (.agg #[.bool r1, v1_]) ∧ Kd.V (Kd.int .i64) 3 w' w.heap.size (fun k_ => (P1_1_ k_ ∨ w.heap.size ≤ k_)) v1_ r2 ∧ Below w.heap.size w w' := by
 have hu51 := Tryz.underlying51
 have HR0_1 := Aside0.mk hr0_1
 have HC0_1 := Aside0.mk hc0_1
 clear hr0_1 hc0_1
 have HO1_1 := Aside0.mk (show Kd.V (Kd.int .i64) 3 w w.heap.size (fun k_ => (P1_1_ k_ ∨ w.heap.size ≤ k_)) (.slice A1_1 l1_1.length c1_1) l1_1 from Kd.V_mono hs1_1 (fun k_ hk => .inl hk))
 have HB := Aside0.mk (Below.refl w.heap.size w)
 have H : ((turnstoneref01_Neg.f k a1_0 l1_1).bind fun bt350 => ((turnstoneref01_Add.f k a0_0 l0_1 bt350.1 bt350.2).bind fun bt354 => (some (bt354.1, bt354.2)))) = some (r1, r2) := h
 clear h
 replace H := Option.bind_eq_some_iff.mp H
 obtain ⟨⟨t350, t351⟩, A30, H⟩ := H
 replace H : ((turnstoneref01_Add.f k a0_0 l0_1 t350 t351).bind fun bt354 => (some (bt354.1, bt354.2))) = some (r1, r2) := H
 have A3 := Aside0.mk A30
 clear A30
 replace H := Option.bind_eq_some_iff.mp H
 obtain ⟨⟨t354, t355⟩, A40, H⟩ := H
 replace H : (some (t354, t355)) = some (r1, r2) := H
 have A4 := Aside0.mk A40
 clear A40
 simp only [Option.some.injEq, Prod.mk.injEq] at H
 obtain ⟨rfl, rfl⟩ := H
 go_enter Tryz.func64, Tryz.ntmps64
 try go_wp2_with (first | ((with_reducible refine gate_dst (N := 2) rfl ?_); refine box_event ?hg (N := 2) ?hd (cs := #[.bool a0_0, .slice A0_1 l0_1.length c0_1]) (t := 51) ?hr ?_; (case hd => rfl); (case hg => rfl); (case hr => first | (go_simp; done) | (go_simp; rfl)); intro gb347 hg w5 hbox hb; replace HO1_1 := Aside0.mk (Kd.V_below (Kd.V_elderB (vt HO1_1) gb347 (Nat.le_of_eq hg.symm)) hb); have BK347 := Aside0.mk (hbox); have GW347 := bels HB hg; have GE347 := bels HB hg; replace HB := belb HB hb; clear hb hbox hg) | ((with_reducible refine gate_dst (N := 3) rfl ?_); refine box_event ?hg (N := 3) ?hd (cs := #[.bool a1_0, .slice A1_1 l1_1.length c1_1]) (t := 51) ?hr ?_; (case hd => rfl); (case hg => rfl); (case hr => first | (go_simp; done) | (go_simp; rfl)); intro gb348 hg w6 hbox hb; replace HO1_1 := Aside0.mk (Kd.V_below (Kd.V_elderB (vt HO1_1) gb348 (Nat.le_of_eq hg.symm)) hb); have BK348 := Aside0.mk (hbox); have GW348 := bels HB hg; have GE348 := bels HB hg; have NB347_348 := blkl BK347 hg; have NB348_347 := blkg BK347 hg; replace BK347 := blkb BK347 hb; replace HB := belb HB hb; clear hb hbox hg) | ((with_reducible refine gate_dst (N := 4) rfl ?_); refine box_event ?hg (N := 4) ?hd (cs := #[.bool false, .slice none 0 0]) (t := 51) ?hr ?_; (case hd => rfl); (case hg => rfl); (case hr => first | (go_simp; done) | (go_simp; rfl)); intro gb349 hg w7 hbox hb; replace HO1_1 := Aside0.mk (Kd.V_below (Kd.V_elderB (vt HO1_1) gb349 (Nat.le_of_eq hg.symm)) hb); have BK349 := Aside0.mk (hbox); have GW349 := bels HB hg; have GE349 := bels HB hg; have NB347_349 := blkl BK347 hg; have NB349_347 := blkg BK347 hg; have NB348_349 := blkl BK348 hg; have NB349_348 := blkg BK348 hg; replace BK347 := blkb BK347 hb; replace BK348 := blkb BK348 hb; replace HB := belb HB hb; clear hb hbox hg))
 replace HO1_1 := Aside0.mk (Kd.V_drew HO1_1.out)
 replace BK347 := Aside0.mk (blk_drew BK347.out)
 replace BK348 := Aside0.mk (blk_drew BK348.out)
 replace BK349 := Aside0.mk (blk_drew BK349.out)
 replace HB := Aside0.mk (below_drew1 HB.out)
 refine start_ (n := 5) (S := fun w' => w'.cell? ⟨gb347, 0, none⟩ = some (.bool a0_0) ∧ w'.cell? ⟨gb347, 1, none⟩ = some (.slice A0_1 l0_1.length c0_1) ∧ w'.cell? ⟨gb348, 0, none⟩ = some (.bool a1_0) ∧ w'.cell? ⟨gb348, 1, none⟩ = some (.slice A1_1 l1_1.length c1_1)) (ds := []) #[false, false, false, false, false] (by kernel_rfl) rfl rfl ⟨bc BK347 0, bc BK347 1, bc BK348 0, bc BK348 1⟩ (fun hHeld => ?_)
 generalize w7.drew = w8 at HO1_1 BK347 BK348 BK349 HB hHeld ⊢
 refine take_ (i := 0) (N := some 5) (v := ?_) (a' := ?_) #[true, false, false, false, false] rfl rfl (by kernel_rfl) (fun _ _ _ h => h) (Or.inl ⟨by rfl, ?_⟩) hHeld ?_ ?_
 rotate_left
 ·rintro w' ⟨s0, s1, s2, s3⟩
  go_simp
  with_reducible rfl
 rotate_left
 ·simp only [Act.put, List.setIfInBounds_toArray, List.set_cons_zero, List.set_cons_succ, i64_w, i32_w]
  rfl
 refine take_ (i := 1) (N := some 6) (v := ?_) (a' := ?_) #[true, true, false, false, false] rfl rfl (by kernel_rfl) (fun _ _ _ h => h) (Or.inl ⟨by rfl, ?_⟩) hHeld ?_ ?_
 rotate_left
 ·rintro w' ⟨s0, s1, s2, s3⟩
  go_simp
  with_reducible rfl
 rotate_left
 ·simp only [Act.put, List.setIfInBounds_toArray, List.set_cons_zero, List.set_cons_succ, i64_w, i32_w]
  rfl
 refine one_ (i := 2) (N := some 7) #[true, true, true, false, false] rfl rfl (by kernel_rfl) (by decide) (fun K hK => ?_)
 refine goes_ Tryz.func88 (by kernel_rfl) rfl #[.agg #[.bool a1_0, .slice A1_1 l1_1.length c1_1]] (by rfl) rfl rfl argt ?_
 with_reducible refine (turnstoneref01_Neg.calls k a1_0 (fun k_ => ((((P1_1_ k_ ∨ w.heap.size ≤ k_) ∧ k_ ≠ gb347) ∧ k_ ≠ gb348) ∧ k_ ≠ gb349)) _ _ l1_1 t350 t351 _ ?side1 A3.out).mono ?_
 (case side1 => exact HO1_1.out)
 rintro e w9 ⟨v352, rfl, ho0, hb⟩
 refine ⟨_, rfl, ?_⟩
 replace HO1_1 := vb HO1_1 hb
 have HO353 := Aside0.mk (Kd.V_lower (Kd.V_mono (ok' := fun k_ => (P1_1_ k_ ∨ w.heap.size ≤ k_) ∧ k_ ≠ gb347 ∧ k_ ≠ gb348 ∧ k_ ≠ gb349) ho0 (fun k_ hk_ => ⟨Or.elim hk_ (fun hs_ => hs_.1.1.1) (fun hn_ => (.inr (Nat.le_trans (below_size (belt HB)) hn_))), Or.elim hk_ (fun hs_ => hs_.1.1.2) (fun hn_ => (Kd.freshB (blkt BK347) k_ hn_)), Or.elim hk_ (fun hs_ => hs_.1.2) (fun hn_ => (Kd.freshB (blkt BK348) k_ hn_)), Or.elim hk_ (fun hs_ => hs_.2) (fun hn_ => (Kd.freshB (blkt BK349) k_ hn_))⟩)) (below_size (belt HB)))
 replace BK347 := blkb BK347 hb
 replace BK348 := blkb BK348 hb
 replace BK349 := blkb BK349 hb
 replace HB := belb HB hb
 (try clear hb)
 (try clear hb2)
 (try clear hk)
 (try clear hi)
 (try clear ho0)
 obtain ⟨Ao10, co10, eo10⟩ := Kd.V_slice HO353.out
 (first | subst eo10 | (injection eo10 with f1_ f2_ f3_; have f4_ := f1_.symm; have f5_ := f3_.symm; clear f1_ f2_ f3_; subst f4_; subst f5_))
 refine hK.out _ _ ⟨bc BK347 0, bc BK347 1, bc BK348 0, bc BK348 1⟩ (fun hHeld => ?_)
 clear hK K
 refine norm_ (a' := ?_) ?_ ?_
 rotate_left
 ·show Act.put _ (some 7) _ = _
  simp only [Act.put, List.setIfInBounds_toArray, List.set_cons_zero, List.set_cons_succ, i64_w, i32_w]
  rfl
 refine one_ (i := 3) (N := some 8) #[true, true, true, true, false] rfl rfl (by kernel_rfl) (by decide) (fun K hK => ?_)
 refine goes_ Tryz.func34 (by kernel_rfl) rfl #[.agg #[.bool a0_0, .slice A0_1 l0_1.length c0_1], .agg #[.bool t350, .slice Ao10 t351.length co10]] (by rfl) rfl rfl argt ?_
 with_reducible refine (turnstoneref01_Add.calls k a0_0 _ _ l0_1 t350 _ _ t351 t354 t355 _ ?side1 ?side2 ?side3 ?side4 A4.out).mono ?_
 (case side1 => exact (ct (Kd.C_below HR0_1.out HB.out)))
 (case side2 => exact HC0_1.out)
 (case side3 => repeat (first | exact (Kd.V_reads' HO353.out).2.2 | (with_reducible refine Kd.C_alloc ?_ _) | (with_reducible refine Kd.C_drewN ?_ _) | (with_reducible refine Kd.C_drew ?_)))
 (case side4 => exact (Kd.V_reads' HO353.out).2.1)
 rintro e w11 ⟨v356, rfl, ho0, hb⟩
 refine ⟨_, rfl, ?_⟩
 replace HO1_1 := vb HO1_1 hb
 replace HO353 := vb HO353 hb
 have HO357 := Aside0.mk (Kd.V_lower (Kd.V_mono (ok' := fun k_ => (P1_1_ k_ ∨ w.heap.size ≤ k_) ∧ k_ ≠ gb347 ∧ k_ ≠ gb348 ∧ k_ ≠ gb349) ho0 (fun k_ hk_ => ⟨(.inr (Nat.le_trans (below_size (belt HB)) hk_)), (Kd.freshB (blkt BK347) k_ hk_), (Kd.freshB (blkt BK348) k_ hk_), (Kd.freshB (blkt BK349) k_ hk_)⟩)) (below_size (belt HB)))
 replace BK347 := blkb BK347 hb
 replace BK348 := blkb BK348 hb
 replace BK349 := blkb BK349 hb
 replace HB := belb HB hb
 (try clear hb)
 (try clear hb2)
 (try clear hk)
 (try clear hi)
 (try clear ho0)
 obtain ⟨Ao13, co13, eo13⟩ := Kd.V_slice HO357.out
 (first | subst eo13 | (injection eo13 with f1_ f2_ f3_; have f4_ := f1_.symm; have f5_ := f3_.symm; clear f1_ f2_ f3_; subst f4_; subst f5_))
 refine hK.out _ _ ⟨bc BK347 0, bc BK347 1, bc BK348 0, bc BK348 1⟩ (fun hHeld => ?_)
 clear hK K
 refine norm_ (a' := ?_) ?_ ?_
 rotate_left
 ·show Act.put _ (some 8) _ = _
  simp only [Act.put, List.setIfInBounds_toArray, List.set_cons_zero, List.set_cons_succ, i64_w, i32_w]
  rfl
 refine one_ (i := 4) (N := none) #[true, true, true, true, true] rfl rfl (by kernel_rfl) (by decide) (fun K hK => ?_)
 have hs12 : w11.cell? ⟨gb349, 0, none⟩ = some (.bool false) := bc BK349 0
 have hfs12 := blk_frozen BK349.out 0
 have hns12_0 := NB347_349.out
 have hns12_1 := NB348_349.out
 have hms12_0 := NB349_347.out
 have hms12_1 := NB349_348.out
 have hs14 : w11.cell? ⟨gb349, 1, none⟩ = some (.slice none 0 0) := bc BK349 1
 have hfs14 := blk_frozen BK349.out 1
 have hns14_0 := NB347_349.out
 have hns14_1 := NB348_349.out
 have hms14_0 := NB349_347.out
 have hms14_1 := NB349_348.out
 refine skip_ (w1 := ?_) (by rfl) rfl ?_ ?_
 rotate_left
 ·go_simp
  rfl
 refine hK.out _ _ ⟨((cell_far (p := ⟨gb349, _, none⟩) NB347_349.out _).trans (((cell_far (p := ⟨gb349, _, none⟩) NB347_349.out _).trans (hHeld.1)))), ((cell_far (p := ⟨gb349, _, none⟩) NB347_349.out _).trans (((cell_far (p := ⟨gb349, _, none⟩) NB347_349.out _).trans (hHeld.2.1)))), ((cell_far (p := ⟨gb349, _, none⟩) NB348_349.out _).trans (((cell_far (p := ⟨gb349, _, none⟩) NB348_349.out _).trans (hHeld.2.2.1)))), ((cell_far (p := ⟨gb349, _, none⟩) NB348_349.out _).trans (((cell_far (p := ⟨gb349, _, none⟩) NB348_349.out _).trans (hHeld.2.2.2))))⟩ (fun hHeld => ?_)
 clear hK K
 refine done_ (by kernel_rfl) ?_
 try go_wp2
 refine bodyPost_ret (results_cell_row rfl _ _ gb349 51 #[.bool t354, .slice Ao13 t355.length co13] (0, 0) _ rfl (by (with_reducible repeat (first | refine blk_drewN ?_ _ | refine blk_drew ?_ | refine blk_alloc ?_ _)); refine blk_put (cs := #[.bool t354, .slice none 0 0]) ?_ 1 _ rfl; (with_reducible repeat (first | refine blk_drewN ?_ _ | refine blk_drew ?_ | refine blk_alloc ?_ _)); refine blk_put (cs := #[.bool false, .slice none 0 0]) ?_ 0 _ rfl; exact blkt BK349) Tryz.underlying51 rfl (by kernel_rfl)) rfl ?_
 exact ⟨_, by first | rfl | (simp [errW_none, errW_some] <;> rfl) | (simp [*, errW_none, errW_some] <;> rfl), by (with_reducible repeat (first | apply Kd.V_alloc | apply Kd.V_drewN | apply Kd.V_drew)); exact Kd.V_mono (Kd.V_far (p := ⟨gb349, 1, none⟩) (Kd.V_far (p := ⟨gb349, 0, none⟩) (Kd.V_mono HO357.out (fun k_ hk => (⟨hk, hk.2.2.2⟩ : _ ∧ k_ ≠ gb349))) (fun _ hk => hk.2) (.bool t354)) (fun _ hk => hk.2) (.slice Ao13 t355.length co13)) (fun _ hk => hk.1.1), belt HB⟩


/-! ### turnstoneref01_Cmp: function 36 -/
def turnstoneref01_Cmp.f (k : Nat) (a0_0 : Bool) (l0_1 : List Int) (a1_0 : Bool) (l1_1 : List Int) : Option (Int) := (turnstoneref01_Sub.f k a0_0 l0_1 a1_0 l1_1).bind fun bt360 => ((turnstoneref01_Sign.f bt360.1 bt360.2).bind fun t364 => (some t364))
theorem turnstoneref01_Cmp.mono : ∀ a0 a1 a2 a3 k, LeO (turnstoneref01_Cmp.f k a0 a1 a2 a3) (turnstoneref01_Cmp.f (k + 1) a0 a1 a2 a3) := by
 intro a0 a1 a2 a3 k
 unfold turnstoneref01_Cmp.f
 repeat' first
   | (with_reducible exact turnstoneref01_Sub.mono _ _ _ _ _)
   | (with_reducible exact LeO.refl _)
   | (with_reducible exact LeO.none _)
   | (with_reducible refine LeO.ite ?_ ?_)
   | (with_reducible refine LeO.bind ?_ (fun _ => ?_))
   | exact turnstoneref01_Sub.mono _ _ _ _ _
   | exact LeO.none _
   | refine LeO.ite ?_ ?_
   | refine LeO.bind ?_ (fun _ => ?_)
set_option maxHeartbeats 8000000 in
set_option maxRecDepth 100000 in
theorem turnstoneref01_Cmp.calls (k : Nat) (a0_0 : Bool) (A0_1 : Option Addr) (c0_1 : Nat) (l0_1 : List Int) (a1_0 : Bool) (A1_1 : Option Addr) (c1_1 : Nat) (l1_1 : List Int) (r : Int) (w : World) (hr0_1 : Kd.C (Kd.int .i64) w A0_1 l0_1.length l0_1) (hc0_1 : l0_1.length ≤ c0_1) (hr1_1 : Kd.C (Kd.int .i64) w A1_1 l1_1.length l1_1) (hc1_1 : l1_1.length ≤ c1_1) (h : turnstoneref01_Cmp.f k a0_0 l0_1 a1_0 l1_1 = some r) :
  Calls Tryz.prog 36 #[.agg #[.bool a0_0, .slice A0_1 l0_1.length c0_1], .agg #[.bool a1_0, .slice A1_1 l1_1.length c1_1]] w fun e w' => e = .returned (.int .i64 r) ∧ Below w.heap.size w w' := by
 have hu51 := Tryz.underlying51
 have HR0_1 := Aside0.mk hr0_1
 have HC0_1 := Aside0.mk hc0_1
 clear hr0_1 hc0_1
 have HR1_1 := Aside0.mk hr1_1
 have HC1_1 := Aside0.mk hc1_1
 clear hr1_1 hc1_1
 have HB := Aside0.mk (Below.refl w.heap.size w)
 have H : ((turnstoneref01_Sub.f k a0_0 l0_1 a1_0 l1_1).bind fun bt360 => ((turnstoneref01_Sign.f bt360.1 bt360.2).bind fun t364 => (some t364))) = some r := h
 clear h
 replace H := Option.bind_eq_some_iff.mp H
 obtain ⟨⟨t360, t361⟩, A30, H⟩ := H
 replace H : ((turnstoneref01_Sign.f t360 t361).bind fun t364 => (some t364)) = some r := H
 have A3 := Aside0.mk A30
 clear A30
 replace H := Option.bind_eq_some_iff.mp H
 obtain ⟨t364, A40, H⟩ := H
 replace H : (some t364) = some r := H
 have A4 := Aside0.mk A40
 clear A40
 obtain rfl := Option.some.inj H
 go_enter Tryz.func36, Tryz.ntmps36
 go_wp2_with (first | ((with_reducible refine gate_dst (N := 2) rfl ?_); refine box_event ?hg (N := 2) ?hd (cs := #[.bool a0_0, .slice A0_1 l0_1.length c0_1]) (t := 51) ?hr ?_; (case hd => rfl); (case hg => rfl); (case hr => first | (go_simp; done) | (go_simp; rfl)); intro gb358 hg w5 hbox hb; have BK358 := Aside0.mk (hbox); have GW358 := bels HB hg; have GE358 := bels HB hg; replace HB := belb HB hb; clear hb hbox hg) | ((with_reducible refine gate_dst (N := 3) rfl ?_); refine box_event ?hg (N := 3) ?hd (cs := #[.bool a1_0, .slice A1_1 l1_1.length c1_1]) (t := 51) ?hr ?_; (case hd => rfl); (case hg => rfl); (case hr => first | (go_simp; done) | (go_simp; rfl)); intro gb359 hg w6 hbox hb; have BK359 := Aside0.mk (hbox); have GW359 := bels HB hg; have GE359 := bels HB hg; have NB358_359 := blkl BK358 hg; have NB359_358 := blkg BK358 hg; replace BK358 := blkb BK358 hb; replace HB := belb HB hb; clear hb hbox hg; have hnb7 := NB358_359.out; have hnc7 := NB359_358.out; have hcz8_0 : w6.cell? ⟨gb358, 0, none⟩ = some (.bool a0_0) := bc BK358 0; have hcz8_1 : w6.cell? ⟨gb358, 1, none⟩ = some (.slice A0_1 l0_1.length c0_1) := bc BK358 1; have hfz8_0 := blk_frozen BK358.out 0; have hfz8_1 := blk_frozen BK358.out 1; have hcz9_0 : w6.cell? ⟨gb359, 0, none⟩ = some (.bool a1_0) := bc BK359 0; have hcz9_1 : w6.cell? ⟨gb359, 1, none⟩ = some (.slice A1_1 l1_1.length c1_1) := bc BK359 1; have hfz9_0 := blk_frozen BK359.out 0; have hfz9_1 := blk_frozen BK359.out 1) | ((with_reducible refine gate_callee (f := 64) rfl ?_); refine goesL_ (some 7) rfl rfl Tryz.func64 (by kernel_rfl) rfl #[.agg #[.bool a0_0, .slice A0_1 l0_1.length c0_1], .agg #[.bool a1_0, .slice A1_1 l1_1.length c1_1]] rfl argt ?_; (with_reducible refine (turnstoneref01_Sub.calls k a0_0 _ _ l0_1 a1_0 (fun k_ => k_ < w.heap.size) _ _ l1_1 t360 t361 _ ?side1 ?side2 ?side3 A3.out).mono ?_); (case side1 => exact (ct (Kd.C_below HR0_1.out HB.out))); (case side2 => exact HC0_1.out); (case side3 => exact Kd.V_mk HC1_1.out (Kd.F_below (Kd.C_F (Kd.heap_int .i64) HR1_1.out) (belt HB))); rintro e w10 ⟨v362, rfl, ho0, hb⟩; refine ⟨_, rfl, ?_⟩; have HO363 := Aside0.mk (Kd.V_lower (Kd.V_mono (ok' := fun k_ => k_ ≠ gb358 ∧ k_ ≠ gb359) ho0 (fun k_ hk_ => ⟨Or.elim hk_ (fun hs_ => fun e_ => Nat.not_le.2 hs_ (by rw [e_]; exact GW358.out)) (fun hn_ => (Kd.freshB (blkt BK358) k_ hn_)), Or.elim hk_ (fun hs_ => fun e_ => Nat.not_le.2 hs_ (by rw [e_]; exact GW359.out)) (fun hn_ => (Kd.freshB (blkt BK359) k_ hn_))⟩)) (below_size (belt HB))); replace BK358 := blkb BK358 hb; replace BK359 := blkb BK359 hb; replace HB := belb HB hb; (try clear hb); (try clear hb2); (try clear hk); (try clear hi); (try clear ho0); obtain ⟨Ao11, co11, eo11⟩ := Kd.V_slice HO363.out; subst eo11) | ((with_reducible refine gate_callee (f := 32) rfl ?_); refine goesL_ (some 8) rfl rfl Tryz.func32 (by kernel_rfl) rfl #[.agg #[.bool t360, .slice Ao11 t361.length co11]] rfl argt ?_; (with_reducible refine (turnstoneref01_Sign.calls t360 _ _ t361 t364 _ ?side1 ?side2 A4.out).mono ?_); (case side1 => repeat (first | exact (Kd.V_reads' HO363.out).2.2 | (with_reducible refine Kd.C_alloc ?_ _) | (with_reducible refine Kd.C_drewN ?_ _) | (with_reducible refine Kd.C_drew ?_))); (case side2 => exact (Kd.V_reads' HO363.out).2.1); rintro e w12 ⟨rfl, hb⟩; refine ⟨_, rfl, ?_⟩; replace HO363 := vb HO363 hb; replace BK358 := blkb BK358 hb; replace BK359 := blkb BK359 hb; replace HB := belb HB hb; (try clear hb); (try clear hb2); (try clear hk); (try clear hi)))
 go_ret
 exact ⟨by first | rfl | (simp [errW_none, errW_some] <;> rfl) | (simp [*, errW_none, errW_some] <;> rfl), belt HB⟩


/-! ### turnstonelaw01_Same: function 33 -/
def turnstonelaw01_Same.f (k : Nat) (a0_0 : Int) (a0_1 : Int) (a1_0 : Bool) (l1_1 : List Int) : Option (Bool) := (turnstonelaw01_Of.f k a0_0 a0_1).bind fun bt367 => ((turnstoneref01_Cmp.f k bt367.1 bt367.2 a1_0 l1_1).bind fun t371 => (some (t371 == 0)))
theorem turnstonelaw01_Same.mono : ∀ a0 a1 a2 a3 k, LeO (turnstonelaw01_Same.f k a0 a1 a2 a3) (turnstonelaw01_Same.f (k + 1) a0 a1 a2 a3) := by
 intro a0 a1 a2 a3 k
 unfold turnstonelaw01_Same.f
 repeat' first
   | (with_reducible exact turnstonelaw01_Of.mono _ _ _)
   | (with_reducible exact turnstoneref01_Cmp.mono _ _ _ _ _)
   | (with_reducible exact LeO.refl _)
   | (with_reducible exact LeO.none _)
   | (with_reducible refine LeO.ite ?_ ?_)
   | (with_reducible refine LeO.bind ?_ (fun _ => ?_))
   | exact turnstonelaw01_Of.mono _ _ _
   | exact turnstoneref01_Cmp.mono _ _ _ _ _
   | exact LeO.none _
   | refine LeO.ite ?_ ?_
   | refine LeO.bind ?_ (fun _ => ?_)
set_option maxHeartbeats 8000000 in
set_option maxRecDepth 100000 in
theorem turnstonelaw01_Same.calls (k : Nat) (a0_0 : Int) (a0_1 : Int) (a1_0 : Bool) (A1_1 : Option Addr) (c1_1 : Nat) (l1_1 : List Int) (r : Bool) (w : World) (hr1_1 : Kd.C (Kd.int .i64) w A1_1 l1_1.length l1_1) (hc1_1 : l1_1.length ≤ c1_1) (h : turnstonelaw01_Same.f k a0_0 a0_1 a1_0 l1_1 = some r) :
  Calls Tryz.prog 33 #[.agg #[.int .i64 a0_0, .int .u64 a0_1], .agg #[.bool a1_0, .slice A1_1 l1_1.length c1_1]] w fun e w' => e = .returned (.bool r) ∧ Below w.heap.size w w' := by
 have hu31 := Tryz.underlying31
 have hu51 := Tryz.underlying51
 have HR1_1 := Aside0.mk hr1_1
 have HC1_1 := Aside0.mk hc1_1
 clear hr1_1 hc1_1
 have HB := Aside0.mk (Below.refl w.heap.size w)
 have H : ((turnstonelaw01_Of.f k a0_0 a0_1).bind fun bt367 => ((turnstoneref01_Cmp.f k bt367.1 bt367.2 a1_0 l1_1).bind fun t371 => (some (t371 == 0)))) = some r := h
 clear h
 replace H := Option.bind_eq_some_iff.mp H
 obtain ⟨⟨t367, t368⟩, A30, H⟩ := H
 replace H : ((turnstoneref01_Cmp.f k t367 t368 a1_0 l1_1).bind fun t371 => (some (t371 == 0))) = some r := H
 have A3 := Aside0.mk A30
 clear A30
 replace H := Option.bind_eq_some_iff.mp H
 obtain ⟨t371, A40, H⟩ := H
 replace H : (some (t371 == 0)) = some r := H
 have A4 := Aside0.mk A40
 clear A40
 obtain rfl := Option.some.inj H
 go_enter Tryz.func33, Tryz.ntmps33
 try go_wp2_with (first | ((with_reducible refine gate_dst (N := 2) rfl ?_); refine box_event ?hg (N := 2) ?hd (cs := #[.int .i64 a0_0, .int .u64 a0_1]) (t := 31) ?hr ?_; (case hd => rfl); (case hg => rfl); (case hr => first | (go_simp; done) | (go_simp; rfl)); intro gb365 hg w5 hbox hb; have BK365 := Aside0.mk (hbox); have GW365 := bels HB hg; have GE365 := bels HB hg; replace HB := belb HB hb; clear hb hbox hg) | ((with_reducible refine gate_dst (N := 3) rfl ?_); refine box_event ?hg (N := 3) ?hd (cs := #[.bool a1_0, .slice A1_1 l1_1.length c1_1]) (t := 51) ?hr ?_; (case hd => rfl); (case hg => rfl); (case hr => first | (go_simp; done) | (go_simp; rfl)); intro gb366 hg w6 hbox hb; have BK366 := Aside0.mk (hbox); have GW366 := bels HB hg; have GE366 := bels HB hg; have NB365_366 := blkl BK365 hg; have NB366_365 := blkg BK365 hg; replace BK365 := blkb BK365 hb; replace HB := belb HB hb; clear hb hbox hg))
 replace BK365 := Aside0.mk (blk_drew BK365.out)
 replace BK366 := Aside0.mk (blk_drew BK366.out)
 replace HB := Aside0.mk (below_drew1 HB.out)
 refine start_ (n := 6) (S := fun w' => w'.cell? ⟨gb365, 0, none⟩ = some (.int .i64 a0_0) ∧ w'.cell? ⟨gb365, 1, none⟩ = some (.int .u64 a0_1) ∧ w'.cell? ⟨gb366, 0, none⟩ = some (.bool a1_0) ∧ w'.cell? ⟨gb366, 1, none⟩ = some (.slice A1_1 l1_1.length c1_1)) (ds := []) #[false, false, false, false, false, false] (by kernel_rfl) rfl rfl ⟨bc BK365 0, bc BK365 1, bc BK366 0, bc BK366 1⟩ (fun hHeld => ?_)
 generalize w6.drew = w7 at BK365 BK366 HB hHeld ⊢
 refine take_ (i := 0) (N := some 5) (v := ?_) (a' := ?_) #[true, false, false, false, false, false] rfl rfl (by kernel_rfl) (fun _ _ _ h => h) (Or.inl ⟨by rfl, ?_⟩) hHeld ?_ ?_
 rotate_left
 ·rintro w' ⟨s0, s1, s2, s3⟩
  go_simp
  with_reducible rfl
 rotate_left
 ·simp only [Act.put, List.setIfInBounds_toArray, List.set_cons_zero, List.set_cons_succ, i64_w, i32_w]
  rfl
 refine take_ (i := 2) (N := some 7) (v := ?_) (a' := ?_) #[true, false, true, false, false, false] rfl rfl (by kernel_rfl) (fun _ _ _ h => h) (Or.inl ⟨by rfl, ?_⟩) hHeld ?_ ?_
 rotate_left
 ·rintro w' ⟨s0, s1, s2, s3⟩
  go_simp
  with_reducible rfl
 rotate_left
 ·simp only [Act.put, List.setIfInBounds_toArray, List.set_cons_zero, List.set_cons_succ, i64_w, i32_w]
  rfl
 refine one_ (i := 1) (N := some 6) #[true, true, true, false, false, false] rfl rfl (by kernel_rfl) (by decide) (fun K hK => ?_)
 refine goes_ Tryz.func35 (by kernel_rfl) rfl #[.agg #[.int .i64 a0_0, .int .u64 a0_1]] (by rfl) rfl rfl argt ?_
 with_reducible refine (turnstonelaw01_Of.calls k a0_0 a0_1 t367 t368 _ A3.out).mono ?_
 rintro e w8 ⟨v369, rfl, ho0, hb⟩
 refine ⟨_, rfl, ?_⟩
 have HO370 := Aside0.mk (Kd.V_lower (Kd.V_mono (ok' := fun k_ => k_ ≠ gb365 ∧ k_ ≠ gb366) ho0 (fun k_ hk_ => ⟨(Kd.freshB (blkt BK365) k_ hk_), (Kd.freshB (blkt BK366) k_ hk_)⟩)) (below_size (belt HB)))
 replace BK365 := blkb BK365 hb
 replace BK366 := blkb BK366 hb
 replace HB := belb HB hb
 (try clear hb)
 (try clear hb2)
 (try clear hk)
 (try clear hi)
 (try clear ho0)
 obtain ⟨Ao9, co9, eo9⟩ := Kd.V_slice HO370.out
 (first | subst eo9 | (injection eo9 with f1_ f2_ f3_; have f4_ := f1_.symm; have f5_ := f3_.symm; clear f1_ f2_ f3_; subst f4_; subst f5_))
 refine hK.out _ _ ⟨bc BK365 0, bc BK365 1, bc BK366 0, bc BK366 1⟩ (fun hHeld => ?_)
 clear hK K
 refine norm_ (a' := ?_) ?_ ?_
 rotate_left
 ·show Act.put _ (some 6) _ = _
  simp only [Act.put, List.setIfInBounds_toArray, List.set_cons_zero, List.set_cons_succ, i64_w, i32_w]
  rfl
 refine one_ (i := 3) (N := some 8) #[true, true, true, true, false, false] rfl rfl (by kernel_rfl) (by decide) (fun K hK => ?_)
 refine goes_ Tryz.func36 (by kernel_rfl) rfl #[.agg #[.bool t367, .slice Ao9 t368.length co9], .agg #[.bool a1_0, .slice A1_1 l1_1.length c1_1]] (by rfl) rfl rfl argt ?_
 with_reducible refine (turnstoneref01_Cmp.calls k t367 _ _ t368 a1_0 _ _ l1_1 t371 _ ?side1 ?side2 ?side3 ?side4 A4.out).mono ?_
 (case side1 => repeat (first | exact (Kd.V_reads' HO370.out).2.2 | (with_reducible refine Kd.C_alloc ?_ _) | (with_reducible refine Kd.C_drewN ?_ _) | (with_reducible refine Kd.C_drew ?_)))
 (case side2 => exact (Kd.V_reads' HO370.out).2.1)
 (case side3 => exact (ct (Kd.C_below HR1_1.out HB.out)))
 (case side4 => exact HC1_1.out)
 rintro e w10 ⟨rfl, hb⟩
 refine ⟨_, rfl, ?_⟩
 replace HO370 := vb HO370 hb
 replace BK365 := blkb BK365 hb
 replace BK366 := blkb BK366 hb
 replace HB := belb HB hb
 (try clear hb)
 (try clear hb2)
 (try clear hk)
 (try clear hi)
 refine hK.out _ _ ⟨bc BK365 0, bc BK365 1, bc BK366 0, bc BK366 1⟩ (fun hHeld => ?_)
 clear hK K
 refine norm_ (a' := ?_) ?_ ?_
 rotate_left
 ·show Act.put _ (some 8) _ = _
  simp only [Act.put, List.setIfInBounds_toArray, List.set_cons_zero, List.set_cons_succ, i64_w, i32_w]
  rfl
 refine pure_ (i := 4) (N := some 9) (v := ?_) (a' := ?_) #[true, true, true, true, true, false] rfl rfl (by kernel_rfl) (fun _ _ _ h => h) (Or.inl ⟨by rfl, ?_⟩) ?_ ?_
 rotate_left
 ·intro w'
  go_simp
  with_reducible rfl
 rotate_left
 ·simp only [Act.put, List.setIfInBounds_toArray, List.set_cons_zero, List.set_cons_succ, i64_w, i32_w]
  rfl
 refine pure_ (i := 5) (N := some 4) (v := ?_) (a' := ?_) #[true, true, true, true, true, true] rfl rfl (by kernel_rfl) (fun _ _ _ h => h) (Or.inl ⟨by rfl, ?_⟩) ?_ ?_
 rotate_left
 ·intro w'
  go_simp
  with_reducible rfl
 rotate_left
 ·simp only [Act.put, List.setIfInBounds_toArray, List.set_cons_zero, List.set_cons_succ, i64_w, i32_w]
  rfl
 refine done_ (by kernel_rfl) ?_
 try go_wp2
 go_ret
 exact ⟨by first | rfl | (simp [errW_none, errW_some] <;> rfl) | (simp [*, errW_none, errW_some] <;> rfl), belt HB⟩


/-! ### lag_Nanos: function 38 -/
def lag_Nanos.f (k : Nat) (a0_0 : Int) (a0_1 : Int) : Option (Int × Int) := (wide_Int_Div.f k a0_0 a0_1 1048576).bind fun bt374 => (some (bt374.1, bt374.2.1))
theorem lag_Nanos.mono : ∀ a0 a1 k, LeO (lag_Nanos.f k a0 a1) (lag_Nanos.f (k + 1) a0 a1) := by
 intro a0 a1 k
 unfold lag_Nanos.f
 repeat' first
   | (with_reducible exact wide_Int_Div.mono _ _ _ _)
   | (with_reducible exact LeO.refl _)
   | (with_reducible exact LeO.none _)
   | (with_reducible refine LeO.ite ?_ ?_)
   | (with_reducible refine LeO.bind ?_ (fun _ => ?_))
   | exact wide_Int_Div.mono _ _ _ _
   | exact LeO.none _
   | refine LeO.ite ?_ ?_
   | refine LeO.bind ?_ (fun _ => ?_)
set_option maxHeartbeats 8000000 in
set_option maxRecDepth 100000 in
theorem lag_Nanos.calls (k : Nat) (a0_0 : Int) (a0_1 : Int) (r1 : Int) (r2 : Int) (w : World) (h : lag_Nanos.f k a0_0 a0_1 = some (r1, r2)) :
  Calls Tryz.prog 38 #[.agg #[.int .i64 a0_0, .int .u64 a0_1]] w fun e w' => e = .returned (.agg #[.int .i64 r1, .int .u64 r2]) ∧ Below w.heap.size w w' := by
 have hu31 := Tryz.underlying31
 have HB := Aside0.mk (Below.refl w.heap.size w)
 have H : ((wide_Int_Div.f k a0_0 a0_1 1048576).bind fun bt374 => (some (bt374.1, bt374.2.1))) = some (r1, r2) := h
 clear h
 replace H := Option.bind_eq_some_iff.mp H
 obtain ⟨⟨t374, t375, t376, t377⟩, A20, H⟩ := H
 replace H : (some (t374, t375)) = some (r1, r2) := H
 have A2 := Aside0.mk A20
 clear A20
 simp only [Option.some.injEq, Prod.mk.injEq] at H
 obtain ⟨rfl, rfl⟩ := H
 go_enter Tryz.func38, Tryz.ntmps38
 go_wp2_with (first | ((with_reducible refine gate_dst (N := 1) rfl ?_); refine box_event ?hg (N := 1) ?hd (cs := #[.int .i64 a0_0, .int .u64 a0_1]) (t := 31) ?hr ?_; (case hd => rfl); (case hg => rfl); (case hr => first | (go_simp; done) | (go_simp; rfl)); intro gb372 hg w3 hbox hb; have BK372 := Aside0.mk (hbox); have GW372 := bels HB hg; have GE372 := bels HB hg; replace HB := belb HB hb; clear hb hbox hg) | ((with_reducible refine gate_dst (N := 2) rfl ?_); refine box_event ?hg (N := 2) ?hd (cs := #[.int .i64 0, .int .u64 0]) (t := 31) ?hr ?_; (case hd => rfl); (case hg => rfl); (case hr => first | (go_simp; done) | (go_simp; rfl)); intro gb373 hg w4 hbox hb; have BK373 := Aside0.mk (hbox); have GW373 := bels HB hg; have GE373 := bels HB hg; have NB372_373 := blkl BK372 hg; have NB373_372 := blkg BK372 hg; replace BK372 := blkb BK372 hb; replace HB := belb HB hb; clear hb hbox hg; have hnb5 := NB372_373.out; have hnc5 := NB373_372.out; have hcz6_0 : w4.cell? ⟨gb372, 0, none⟩ = some (.int .i64 a0_0) := bc BK372 0; have hcz6_1 : w4.cell? ⟨gb372, 1, none⟩ = some (.int .u64 a0_1) := bc BK372 1; have hfz6_0 := blk_frozen BK372.out 0; have hfz6_1 := blk_frozen BK372.out 1) | ((with_reducible refine gate_callee (f := 44) rfl ?_); refine goesL_ (some 8) rfl rfl Tryz.func44 (by kernel_rfl) rfl #[.agg #[.int .i64 a0_0, .int .u64 a0_1], .int .u64 1048576] rfl argt ?_; (with_reducible refine (wide_Int_Div.calls k a0_0 a0_1 1048576 t374 t375 t376 t377 _ A2.out).mono ?_); rintro e w7 ⟨rfl, hb⟩; refine ⟨_, rfl, ?_⟩; replace BK372 := blkb BK372 hb; replace BK373 := blkb BK373 hb; replace HB := belb HB hb; (try clear hb); (try clear hb2); (try clear hk); (try clear hi)) | ((with_reducible refine gate_dst (N := 3) rfl ?_); refine box_event ?hg (N := 3) ?hd (cs := #[.int .i64 0, .int .u64 0]) (t := 31) ?hr ?_; (case hd => rfl); (case hg => rfl); (case hr => first | (go_simp; done) | (go_simp; rfl)); intro gb378 hg w8 hbox hb; have BK378 := Aside0.mk (hbox); have GW378 := bels HB hg; have GE378 := bels HB hg; have NB372_378 := blkl BK372 hg; have NB378_372 := blkg BK372 hg; have NB373_378 := blkl BK373 hg; have NB378_373 := blkg BK373 hg; replace BK372 := blkb BK372 hb; replace BK373 := blkb BK373 hb; replace HB := belb HB hb; clear hb hbox hg; have hnb9 := NB378_372.out; have hnc9 := NB372_378.out; have hnb10 := NB378_373.out; have hnc10 := NB373_378.out; have hcz11_0 : w8.cell? ⟨gb378, 0, none⟩ = some (.int .i64 0) := bc BK378 0; have hcz11_1 : w8.cell? ⟨gb378, 1, none⟩ = some (.int .u64 0) := bc BK378 1; have hfz11_0 := blk_frozen BK378.out 0; have hfz11_1 := blk_frozen BK378.out 1; have hcz12_0 : w8.cell? ⟨gb373, 0, none⟩ = some (.int .i64 0) := bc BK373 0; have hcz12_1 : w8.cell? ⟨gb373, 1, none⟩ = some (.int .u64 0) := bc BK373 1; have hfz12_0 := blk_frozen BK373.out 0; have hfz12_1 := blk_frozen BK373.out 1))
 refine bodyPost_ret (results_cell_row rfl _ _ gb373 31 #[.int .i64 t374, .int .u64 t375] (0, 0) _ rfl (by (with_reducible repeat (first | refine blk_drewN ?_ _ | refine blk_drew ?_ | refine blk_alloc ?_ _)); refine blk_put (cs := #[.int .i64 t374, .int .u64 0]) ?_ 1 _ rfl; (with_reducible repeat (first | refine blk_drewN ?_ _ | refine blk_drew ?_ | refine blk_alloc ?_ _)); refine blk_put (cs := #[.int .i64 0, .int .u64 0]) ?_ 0 _ rfl; (with_reducible repeat (first | refine blk_drewN ?_ _ | refine blk_drew ?_ | refine blk_alloc ?_ _)); refine blk_far ?_ NB373_378.out _; (with_reducible repeat (first | refine blk_drewN ?_ _ | refine blk_drew ?_ | refine blk_alloc ?_ _)); refine blk_far ?_ NB373_378.out _; exact blkt BK373) Tryz.underlying31 rfl (by kernel_rfl)) rfl ?_
 exact ⟨by first | rfl | (simp [errW_none, errW_some] <;> rfl) | (simp [*, errW_none, errW_some] <;> rfl), belt HB⟩


/-! ### turnstoneref01_Div: function 66 -/
def turnstoneref01_Div.l0 : Nat → Int → List Int → Int → Int → Bool → List Int → Option (Bool × List Int × Int)
 | 0, _, _, _, _, _, _ => none
 | k + 1, x1, x6, x7, x8, x380000, x380001 => if x8 ≥ 0 then (if 0 ≤ x8 then (if x8 < (x380001.length : Int) then (if x1 = 0 then (none) else (if x8 < (x6.length : Int) then (turnstoneref01_Div.l0 k x1 (x6.set (x8 : Int).toNat (wrap64 (Int.tdiv (wrap64 ((wrap64 (x7 * 10000)) + (rd x380001 x8))) x1))) (Int.tmod (wrap64 ((wrap64 (x7 * 10000)) + (rd x380001 x8))) x1) (wrap64 (x8 - 1)) x380000 x380001) else (none))) else (none)) else (none)) else ((turnstoneref01_trim.f k false x6).bind fun bt386 => (if x380000 = true then (if x7 > 0 then ((turnstoneref01_N.f k 1).bind fun bt391 => ((turnstoneref01_Add.f k bt386.1 bt386.2 bt391.1 bt391.2).bind fun bt395 => ((turnstoneref01_Neg.f k bt395.1 bt395.2).bind fun bt399 => (some (bt399.1, bt399.2, wrap64 (x1 - x7)))))) else ((turnstoneref01_Neg.f k bt386.1 bt386.2).bind fun bt403 => (some (bt403.1, bt403.2, x7)))) else (some (bt386.1, bt386.2, x7))))
def turnstoneref01_Div.f (k : Nat) (a0_0 : Bool) (l0_1 : List Int) (a1 : Int) : Option (Bool × List Int × Int) := if 0 ≤ (l0_1.length : Int) then (if ((l0_1.length : Int) : Int).toNat ≤ 35184372088832 then (turnstoneref01_Div.l0 k a1 (List.replicate ((l0_1.length : Int) : Int).toNat 0) 0 (wrap64 ((l0_1.length : Int) - 1)) a0_0 l0_1) else (none)) else (none)
theorem turnstoneref01_Div.mono_l : ∀ k, (∀ y0 y1 y2 y3 y4 y5, LeO (turnstoneref01_Div.l0 k y0 y1 y2 y3 y4 y5) (turnstoneref01_Div.l0 (k + 1) y0 y1 y2 y3 y4 y5))
 | 0 => fun _ _ _ _ _ _ r h => by simp [turnstoneref01_Div.l0] at h
 | k + 1 => by
  have ih0 := turnstoneref01_Div.mono_l k
  ·intro y0 y1 y2 y3 y4 y5
   unfold turnstoneref01_Div.l0
   repeat' first
   | (with_reducible exact ih0 _ _ _ _ _ _)
   | (with_reducible exact turnstoneref01_Add.mono _ _ _ _ _)
   | (with_reducible exact turnstoneref01_N.mono _ _)
   | (with_reducible exact turnstoneref01_Neg.mono _ _ _)
   | (with_reducible exact turnstoneref01_trim.mono _ _ _)
   | (with_reducible exact LeO.refl _)
   | (with_reducible exact LeO.none _)
   | (with_reducible refine LeO.ite ?_ ?_)
   | (with_reducible refine LeO.bind ?_ (fun _ => ?_))
   | exact ih0 _ _ _ _ _ _
   | exact turnstoneref01_Add.mono _ _ _ _ _
   | exact turnstoneref01_N.mono _ _
   | exact turnstoneref01_Neg.mono _ _ _
   | exact turnstoneref01_trim.mono _ _ _
   | exact LeO.none _
   | refine LeO.ite ?_ ?_
   | refine LeO.bind ?_ (fun _ => ?_)
theorem turnstoneref01_Div.mono : ∀ a0 a1 a2 k, LeO (turnstoneref01_Div.f k a0 a1 a2) (turnstoneref01_Div.f (k + 1) a0 a1 a2) := by
 intro a0 a1 a2 k
 have ih0 := turnstoneref01_Div.mono_l k
 unfold turnstoneref01_Div.f
 repeat' first
   | (with_reducible exact ih0 _ _ _ _ _ _)
   | (with_reducible exact turnstoneref01_Add.mono _ _ _ _ _)
   | (with_reducible exact turnstoneref01_N.mono _ _)
   | (with_reducible exact turnstoneref01_Neg.mono _ _ _)
   | (with_reducible exact turnstoneref01_trim.mono _ _ _)
   | (with_reducible exact LeO.refl _)
   | (with_reducible exact LeO.none _)
   | (with_reducible refine LeO.ite ?_ ?_)
   | (with_reducible refine LeO.bind ?_ (fun _ => ?_))
   | exact ih0 _ _ _ _ _ _
   | exact turnstoneref01_Add.mono _ _ _ _ _
   | exact turnstoneref01_N.mono _ _
   | exact turnstoneref01_Neg.mono _ _ _
   | exact turnstoneref01_trim.mono _ _ _
   | exact LeO.none _
   | refine LeO.ite ?_ ?_
   | refine LeO.bind ?_ (fun _ => ?_)
set_option maxHeartbeats 8000000 in
set_option maxRecDepth 100000 in
theorem turnstoneref01_Div.calls (k : Nat) (a0_0 : Bool) (A0_1 : Option Addr) (c0_1 : Nat) (l0_1 : List Int) (a1 : Int) (r1 : Bool) (r2 : List Int) (r3 : Int) (w : World) (hr0_1 : Kd.C (Kd.int .i64) w A0_1 l0_1.length l0_1) (hc0_1 : l0_1.length ≤ c0_1) (h : turnstoneref01_Div.f k a0_0 l0_1 a1 = some (r1, r2, r3)) :
  Calls Tryz.prog 66 #[.agg #[.bool a0_0, .slice A0_1 l0_1.length c0_1], .int .i64 a1] w fun e w' => ∃ v1_ : Value, e = .returned (.tuple #[.agg #[.bool r1, v1_], .int .i64 r3]) ∧ Kd.V (Kd.int .i64) 3 w' w.heap.size (fun k_ => (w.heap.size ≤ k_)) v1_ r2 ∧ Below w.heap.size w w' := by
 have hu51 := Tryz.underlying51
 have HR0_1 := Aside0.mk hr0_1
 have HC0_1 := Aside0.mk hc0_1
 clear hr0_1 hc0_1
 have HB := Aside0.mk (Below.refl w.heap.size w)
 have H : (if 0 ≤ (l0_1.length : Int) then (if ((l0_1.length : Int) : Int).toNat ≤ 35184372088832 then (turnstoneref01_Div.l0 k a1 (List.replicate ((l0_1.length : Int) : Int).toNat 0) 0 (wrap64 ((l0_1.length : Int) - 1)) a0_0 l0_1) else (none)) else (none)) = some (r1, r2, r3) := h
 clear h
 by_cases c3 : 0 ≤ (l0_1.length : Int)
 ·rw [if_pos c3] at H
  have c3b0 := eq_true c3
  have c3b1 : decide (0 ≤ (l0_1.length : Int)) = true := decide_eq_true c3
  clear c3
  by_cases c4 : ((l0_1.length : Int) : Int).toNat ≤ 35184372088832
  ·rw [if_pos c4] at H
   have c4b0 := eq_true c4
   have c4b1 : decide (((l0_1.length : Int) : Int).toNat ≤ 35184372088832) = true := decide_eq_true c4
   clear c4
   obtain ⟨y381, hy381⟩ : ∃ y_ : List Int, y_ = (List.replicate ((l0_1.length : Int) : Int).toNat 0) := ⟨_, rfl⟩
   replace H : (turnstoneref01_Div.l0 k a1 y381 0 (wrap64 ((l0_1.length : Int) - 1)) a0_0 l0_1) = some (r1, r2, r3) := by first | (rw [hy381]; with_reducible exact H) | (have H2_ := (Option.bind_some _ _).symm.trans H; rw [hy381]; with_reducible exact H2_) | (have H2_ := (Option.bind_some _ _).symm.trans H; with_reducible exact H2_) | with_reducible exact H | (rw [hy381]; exact H) | exact H
   have Ny381 := Aside0.mk hy381
   clear hy381
   have H' := Aside0.mk H
   clear H
   go_enter Tryz.func66, Tryz.ntmps66
   go_wp2_with (first | ((with_reducible refine gate_dst (N := 2) rfl ?_); refine box_event ?hg (N := 2) ?hd (cs := #[.bool a0_0, .slice A0_1 l0_1.length c0_1]) (t := 51) ?hr ?_; (case hd => rfl); (case hg => rfl); (case hr => first | (go_simp; done) | (go_simp; rfl)); intro gb379 hg w5 hbox hb; have BK379 := Aside0.mk (hbox); have GW379 := bels HB hg; have GE379 := bels HB hg; replace HB := belb HB hb; clear hb hbox hg) | ((with_reducible refine gate_dst (N := 4) rfl ?_); refine box_event ?hg (N := 4) ?hd (cs := #[.bool false, .slice none 0 0]) (t := 51) ?hr ?_; (case hd => rfl); (case hg => rfl); (case hr => first | (go_simp; done) | (go_simp; rfl)); intro gb380 hg w6 hbox hb; have BK380 := Aside0.mk (hbox); have GW380 := bels HB hg; have GE380 := bels HB hg; have NB379_380 := blkl BK379 hg; have NB380_379 := blkg BK379 hg; replace BK379 := blkb BK379 hb; replace HB := belb HB hb; clear hb hbox hg; have hnb7 := NB379_380.out; have hnc7 := NB380_379.out; have hcz8_0 : w6.cell? ⟨gb379, 0, none⟩ = some (.bool a0_0) := bc BK379 0; have hcz8_1 : w6.cell? ⟨gb379, 1, none⟩ = some (.slice A0_1 l0_1.length c0_1) := bc BK379 1; have hfz8_0 := blk_frozen BK379.out 0; have hfz8_1 := blk_frozen BK379.out 1) | ((with_reducible refine gate_dst (N := 13) rfl ?_); refine Kd.R_make (Kd.int .i64) _ 3 rfl (N := 13) rfl 49 _ _ rfl (l0_1.length : Int) rfl rfl Tryz.underlying49 (.int .i64 0) 8 info3 rfl (by decide) (by omega) 0 (ok := fun _ => True) (okp := fun _ => True) rfl (fun _ hk => hk) trivial (of_decide_eq_true (by first | (with_reducible assumption) | assumption)) (Nat.le_trans (Nat.mul_le_mul_right _ (of_decide_eq_true (by first | (with_reducible assumption) | assumption) : (l0_1.length : Int).toNat ≤ 35184372088832)) (by omega)) (Below.refl _ _) (Nat.le_refl _) ?_; intro v382 w9 ho10 hb hg_ hnew_; clear hg_ hnew_; (first | rw [← Ny381.out] at ho10 | (simp only [Int.reduceToNat] at ho10; rw [← Ny381.out] at ho10)); have HO383 := Aside0.mk (Kd.R_lower (Kd.R_newM (M := fun k_ => (w.heap.size ≤ k_)) ho10 (below_size (belt HB)) (fun k_ h_ => h_)) (below_size (belt HB))); replace BK379 := blkb BK379 hb; replace BK380 := blkb BK380 hb; replace HB := belb HB hb; clear hb ho10; have hcz11_0 : w9.cell? ⟨gb379, 0, none⟩ = some (.bool a0_0) := bc BK379 0; have hcz11_1 : w9.cell? ⟨gb379, 1, none⟩ = some (.slice A0_1 l0_1.length c0_1) := bc BK379 1; have hfz11_0 := blk_frozen BK379.out 0; have hfz11_1 := blk_frozen BK379.out 1))
   (try simp only [Act.put, List.setIfInBounds_toArray, List.set_cons_zero, List.set_cons_succ])
   go_loopg [7, 8] k (fun kq v7 v8 w' => ∃ (x6_1 : List Int) (x7_1 : Int) (x8_1 : Int), v7 = .int .i64 x7_1 ∧ v8 = .int .i64 x8_1 ∧ Aside0 (turnstoneref01_Div.l0 kq a1 x6_1 x7_1 x8_1 a0_0 l0_1 = some (r1, r2, r3)) ∧ Aside0 (kq ≤ k) ∧ Aside0 (Kd.R (Kd.int .i64) 3 w' w.heap.size (fun k_ => (w.heap.size ≤ k_)) v382 x6_1) ∧ Aside0 (w'.heap[gb379]? = some (.cells #[.bool a0_0, (.slice A0_1 l0_1.length c0_1)] 51 (0, 0))) ∧ Aside0 (w'.heap[gb380]? = some (.cells #[.bool false, (.slice none 0 0)] 51 (0, 0))) ∧ Aside0 (Below w.heap.size w w'))
   case atStart => exact ⟨(y381), (0), (wrap64 ((l0_1.length : Int) - 1)), (by first | rfl | (simp; done) | (simp [*]; done)), (by first | rfl | (simp; done) | (simp [*]; done)), H', ⟨Nat.le_refl _⟩, ⟨by (with_reducible repeat (first | apply Kd.R_alloc | apply Kd.R_drewN | apply Kd.R_drew)); exact Kd.R_mono HO383.out (fun _ hk => hk.1)⟩, ⟨blkt BK379⟩, ⟨blkt BK380⟩, ⟨belt HB⟩⟩
   case round =>
    clear H'
    try clear p2
    try clear c3
    try clear c3b0
    try clear c3b1
    try clear c4
    try clear c4b0
    try clear c4b1
    try clear c6
    try clear p6
    try clear c7
    try clear hcz11_0
    try clear hcz11_1
    try clear hcz8_0
    try clear hcz8_1
    try clear hfz11_0
    try clear hfz11_1
    try clear hfz8_0
    try clear hfz8_1
    obtain ⟨x6_1, x7_1, x8_1, rfl, rfl, HA, HK1, HO_6, BK379, BK380, HB⟩ := hrel
    cases gk with
    | zero => exact absurd HA.out (by simp [turnstoneref01_Div.l0])
    | succ k1 =>
     have H := HA.out
     clear HA
     simp only [turnstoneref01_Div.l0] at H
     by_cases c12 : x8_1 ≥ 0
     ·rw [if_pos c12] at H
      have c12b0 : decide (0 ≤ x8_1) = true := decide_eq_true c12
      clear c12
      by_cases c13 : 0 ≤ x8_1
      ·rw [if_pos c13] at H
       have c13b0 : decide (0 ≤ x8_1) = true := decide_eq_true c13
       clear c13
       by_cases c14 : x8_1 < (l0_1.length : Int)
       ·rw [if_pos c14] at H
        have c14b0 : decide (x8_1 < (l0_1.length : Int)) = true := decide_eq_true c14
        clear c14
        by_cases c15 : a1 = 0
        ·rw [if_pos c15] at H
         exact absurd H (by simp)
        rw [if_neg c15] at H
        have c15b0 : (a1 == 0) = false := beq_eq_false_iff_ne.mpr c15
        have c15b1 : (a1 != 0) = true := bne_iff_ne.mpr c15
        by_cases c16 : x8_1 < (x6_1.length : Int)
        ·rw [if_pos c16] at H
         have c16b0 : decide (x8_1 < (x6_1.length : Int)) = true := decide_eq_true c16
         clear c16
         obtain ⟨y385, hy385⟩ : ∃ y_ : List Int, y_ = (x6_1.set (x8_1 : Int).toNat (wrap64 (Int.tdiv (wrap64 ((wrap64 (x7_1 * 10000)) + (rd l0_1 x8_1))) a1))) := ⟨_, rfl⟩
         replace H : (turnstoneref01_Div.l0 k1 a1 y385 (Int.tmod (wrap64 ((wrap64 (x7_1 * 10000)) + (rd l0_1 x8_1))) a1) (wrap64 (x8_1 - 1)) a0_0 l0_1) = some (r1, r2, r3) := by first | (rw [hy385]; with_reducible exact H) | (have H2_ := (Option.bind_some _ _).symm.trans H; rw [hy385]; with_reducible exact H2_) | (have H2_ := (Option.bind_some _ _).symm.trans H; with_reducible exact H2_) | with_reducible exact H | (rw [hy385]; exact H) | exact H
         have Ny385 := Aside0.mk hy385
         clear hy385
         have H' := Aside0.mk H
         clear H
         have hnb18 := NB379_380.out
         have hnc18 := NB380_379.out
         have hcz19_0 : wr.cell? ⟨gb379, 0, none⟩ = some (.bool a0_0) := bc BK379 0
         have hcz19_1 : wr.cell? ⟨gb379, 1, none⟩ = some (.slice A0_1 l0_1.length c0_1) := bc BK379 1
         have hfz19_0 := blk_frozen BK379.out 0
         have hfz19_1 := blk_frozen BK379.out 1
         have p384 : 0 ≤ (x8_1 : Int) := of_decide_eq_true (by first | (with_reducible assumption) | assumption)
         have q384 : x8_1 < (l0_1.length : Int) := of_decide_eq_true (by first | (with_reducible assumption) | assumption)
         obtain ⟨ad384, e384, hx384_0⟩ := Kd.at_int HR0_1.out x8_1 p384 q384
         cases e384
         replace hx384_0 := (HB.out.cell (World.block_lt_of_cell? w _ hx384_0)).trans hx384_0
         replace p384 := eq_true p384
         replace q384 := eq_true q384
         have p17 : 0 ≤ (x8_1 : Int) := of_decide_eq_true (by first | (with_reducible assumption) | assumption)
         have q17 : (x8_1 : Int) < ((x6_1.length : Int) : Int) := of_decide_eq_true (by first | (with_reducible assumption) | assumption)
         obtain ⟨go17, co17, eo17, gb17, gl17, cl17, HG17⟩ := Kd.R_form HO_6.out (by omega)
         (first | cases eo17 | (injection eo17 with ea_ en_ ec_; (first | subst ea_ | (injection ea_ with ea_; subst ea_)); subst ec_; clear en_))
         have GB17 := Aside0.mk gb17
         have GG17 := Aside0.mk HG17
         clear gb17 gl17 HG17
         obtain ⟨hx17_0, hf17_0⟩ := Kd.R_celln 0 HO_6.out (x8_1 : Int) p17 q17
         replace p17 := eq_true p17
         replace q17 := eq_true q17
         have HP20 := Kd.R_putg HO_6.out (x8_1 : Int) (wrap64 (Int.tdiv (wrap64 ((wrap64 (x7_1 * 10000)) + (rd l0_1 x8_1))) a1))
         go_wp2_with (first | ((with_reducible refine gate_store (t := 3) (p := 35) rfl ?_); refine store_event (t := 3) (p := 35) (v := ?vo_w21) (w1 := (wr.setCell ⟨go17, (x8_1 : Int).toNat, none⟩ (.int .i64 (wrap64 (Int.tdiv (wrap64 ((wrap64 (x7_1 * 10000)) + (rd l0_1 x8_1))) a1))))) ?hg ?ho ?hn ?hr ?_; (case ho => rfl); (case hg => rfl); (case hn => rfl); (case hr => first | (go_simp; done) | (go_simp; rfl)); intro w21 hw; have hg : wr.grownBy w21 (some go17) := (by rw [hw]; exact HP20.2); have hp_ : Kd.R (Kd.int .i64) 3 w21 w.heap.size (fun k_ => (w.heap.size ≤ k_)) (.slice (some ⟨go17, 0, none⟩) x6_1.length co17) y385 := (by rw [hw, Ny385.out]; exact HP20.1); clear HP20; replace BK379 := Aside0.mk (blk_grown (blkt BK379) hg (Kd.R_ne HO_6.out BK379.out (by decide))); replace BK380 := Aside0.mk (blk_grown (blkt BK380) hg (Kd.R_ne HO_6.out BK380.out (by decide))); replace HB := Aside0.mk ((by rw [hw]; exact below_set (HB.out) GB17.out : Below w.heap.size w w21)); replace HO_6 := Aside0.mk (hp_); clear hg hw hp_))
         go_roundg k1
         case measure => have := HK1.out; omega
         case rel => exact ⟨(y385), (Int.tmod (wrap64 ((wrap64 (x7_1 * 10000)) + (rd l0_1 x8_1))) a1), (wrap64 (x8_1 - 1)), (by first | rfl | (simp; done) | (simp [*]; done)), (by first | rfl | (simp; done) | (simp [*]; done)), H', ⟨by have := HK1.out; omega⟩, ⟨by (with_reducible repeat (first | apply Kd.R_alloc | apply Kd.R_drewN | apply Kd.R_drew)); exact HO_6.out⟩, ⟨blkt BK379⟩, ⟨blkt BK380⟩, ⟨belt HB⟩⟩
        rw [if_neg c16] at H
        exact absurd H (by simp)
       rw [if_neg c14] at H
       exact absurd H (by simp)
      rw [if_neg c13] at H
      exact absurd H (by simp)
     rw [if_neg c12] at H
     have c12b0 : decide (0 ≤ x8_1) = false := decide_eq_false c12
     clear c12
     replace H := Option.bind_eq_some_iff.mp H
     obtain ⟨⟨t386, t387⟩, A220, H⟩ := H
     replace H : (if a0_0 = true then (if x7_1 > 0 then ((turnstoneref01_N.f k1 1).bind fun bt391 => ((turnstoneref01_Add.f k1 t386 t387 bt391.1 bt391.2).bind fun bt395 => ((turnstoneref01_Neg.f k1 bt395.1 bt395.2).bind fun bt399 => (some (bt399.1, bt399.2, wrap64 (a1 - x7_1)))))) else ((turnstoneref01_Neg.f k1 t386 t387).bind fun bt403 => (some (bt403.1, bt403.2, x7_1)))) else (some (t386, t387, x7_1))) = some (r1, r2, r3) := H
     have A22 := Aside0.mk A220
     clear A220
     by_cases c23 : a0_0 = true
     ·subst c23
      have H1 : (if x7_1 > 0 then ((turnstoneref01_N.f k1 1).bind fun bt391 => ((turnstoneref01_Add.f k1 t386 t387 bt391.1 bt391.2).bind fun bt395 => ((turnstoneref01_Neg.f k1 bt395.1 bt395.2).bind fun bt399 => (some (bt399.1, bt399.2, wrap64 (a1 - x7_1)))))) else ((turnstoneref01_Neg.f k1 t386 t387).bind fun bt403 => (some (bt403.1, bt403.2, x7_1)))) = some (r1, r2, r3) := by rw [if_pos rfl] at H; exact H
      clear H
      have H := H1
      clear H1
      by_cases c24 : x7_1 > 0
      ·rw [if_pos c24] at H
       have c24b0 : decide (0 < x7_1) = true := decide_eq_true c24
       clear c24
       replace H := Option.bind_eq_some_iff.mp H
       obtain ⟨⟨t391, t392⟩, A250, H⟩ := H
       replace H : ((turnstoneref01_Add.f k1 t386 t387 t391 t392).bind fun bt395 => ((turnstoneref01_Neg.f k1 bt395.1 bt395.2).bind fun bt399 => (some (bt399.1, bt399.2, wrap64 (a1 - x7_1))))) = some (r1, r2, r3) := H
       have A25 := Aside0.mk A250
       clear A250
       replace H := Option.bind_eq_some_iff.mp H
       obtain ⟨⟨t395, t396⟩, A260, H⟩ := H
       replace H : ((turnstoneref01_Neg.f k1 t395 t396).bind fun bt399 => (some (bt399.1, bt399.2, wrap64 (a1 - x7_1)))) = some (r1, r2, r3) := H
       have A26 := Aside0.mk A260
       clear A260
       replace H := Option.bind_eq_some_iff.mp H
       obtain ⟨⟨t399, t400⟩, A270, H⟩ := H
       replace H : (some (t399, t400, wrap64 (a1 - x7_1))) = some (r1, r2, r3) := H
       have A27 := Aside0.mk A270
       clear A270
       simp only [Option.some.injEq, Prod.mk.injEq] at H
       obtain ⟨rfl, rfl, rfl⟩ := H
       obtain ⟨Ao28, co28, eo28⟩ := Kd.R_slice HO_6.out
       subst eo28
       try go_wp2_with (first | ((with_reducible refine gate_callee (f := 67) rfl ?_); refine goesL_ (some 41) rfl rfl Tryz.func67 (by kernel_rfl) rfl #[.agg #[.bool false, .slice Ao28 x6_1.length co28]] rfl argt ?_; (with_reducible refine (turnstoneref01_trim.calls k1 false (fun k_ => some k_ = (.slice Ao28 x6_1.length co28 : Value).ownBlock) _ _ x6_1 t386 t387 _ ?side1 A22.out).mono ?_); (case side1 => exact Kd.R_V (Kd.R_tight rfl (Kd.R_types (Kd.R_types (HO_6.out) BK379.out (by decide)) BK380.out (by decide)))); rintro e w29 ⟨v388, rfl, ho0, hb⟩; refine ⟨_, rfl, ?_⟩; have HO389 := Aside0.mk (Kd.V_lower (Kd.V_mono (ok' := fun k_ => (w.heap.size ≤ k_) ∧ k_ ≠ gb379 ∧ k_ ≠ gb380) ho0 (fun k_ hk_ => ⟨Or.elim hk_ (fun hs_ => ((Kd.R_types (Kd.R_types (HO_6.out) BK379.out (by decide)) BK380.out (by decide)).1 k_ hs_.symm).1.1) (fun hn_ => (Nat.le_trans (below_size (belt HB)) hn_)), Or.elim hk_ (fun hs_ => ((Kd.R_types (Kd.R_types (HO_6.out) BK379.out (by decide)) BK380.out (by decide)).1 k_ hs_.symm).1.2) (fun hn_ => (Kd.freshB (blkt BK379) k_ hn_)), Or.elim hk_ (fun hs_ => ((Kd.R_types (Kd.R_types (HO_6.out) BK379.out (by decide)) BK380.out (by decide)).1 k_ hs_.symm).2) (fun hn_ => (Kd.freshB (blkt BK380) k_ hn_))⟩)) (below_size (belt HB))); replace HO_6 := rb HO_6 hb; replace BK379 := blkb BK379 hb; replace BK380 := blkb BK380 hb; replace HB := belb HB hb; (try clear hb); (try clear hb2); (try clear hk); (try clear hi); (try clear ho0)) | ((with_reducible refine gate_dst (N := 9) rfl ?_); refine box_event ?hg (N := 9) ?hd (cs := #[.bool false, .slice none 0 0]) (t := 51) ?hr ?_; (case hd => rfl); (case hg => rfl); (case hr => first | (go_simp; done) | (go_simp; rfl)); intro gb390 hg w30 hbox hb; replace HO_6 := rb HO_6 hb; replace HO389 := Aside0.mk (Kd.V_below (Kd.V_elderB (vt HO389) gb390 (Nat.le_of_eq hg.symm)) hb); have BK390 := Aside0.mk (hbox); have GW390 := bels HB hg; have GE390 := bels HB hg; have NB379_390 := blkl BK379 hg; have NB390_379 := blkg BK379 hg; have NB380_390 := blkl BK380 hg; have NB390_380 := blkg BK380 hg; replace BK379 := blkb BK379 hb; replace BK380 := blkb BK380 hb; replace HB := belb HB hb; clear hb hbox hg; have hnb31 := NB390_379.out; have hnc31 := NB379_390.out; have hnb32 := NB390_380.out; have hnc32 := NB380_390.out; have hcz33_0 : w30.cell? ⟨gb390, 0, none⟩ = some (.bool false) := bc BK390 0; have hcz33_1 : w30.cell? ⟨gb390, 1, none⟩ = some (.slice none 0 0) := bc BK390 1; have hfz33_0 := blk_frozen BK390.out 0; have hfz33_1 := blk_frozen BK390.out 1; obtain ⟨Ao34, co34, eo34⟩ := Kd.V_slice HO389.out; subst eo34; have hnb35 := NB379_380.out; have hnc35 := NB380_379.out; have hcz36_0 : w30.cell? ⟨gb379, 0, none⟩ = some (.bool true) := bc BK379 0; have hcz36_1 : w30.cell? ⟨gb379, 1, none⟩ = some (.slice A0_1 l0_1.length c0_1) := bc BK379 1; have hfz36_0 := blk_frozen BK379.out 0; have hfz36_1 := blk_frozen BK379.out 1))
       have n0_ : Aside0 (Kd.R (Kd.int .i64) 3 ((w30.setCell ⟨gb390, 0, none⟩ (.bool t386)).setCell ⟨gb390, 1, none⟩ (.slice Ao34 t387.length co34)) w.heap.size (fun k_ => (w.heap.size ≤ k_)) (.slice Ao28 x6_1.length co28) x6_1) := ⟨by (with_reducible repeat (first | apply Kd.R_alloc | apply Kd.R_drewN | apply Kd.R_drew)); exact Kd.R_mono (Kd.R_far (p := ⟨gb390, 1, none⟩) (Kd.R_far (p := ⟨gb390, 0, none⟩) (Kd.R_types HO_6.out BK390.out (by decide)) (fun _ hk => hk.2) (.bool t386)) (fun _ hk => hk.2) (.slice Ao34 t387.length co34)) (fun _ hk => hk.1)⟩
       have n1_ : Aside0 (Kd.V (Kd.int .i64) 3 ((w30.setCell ⟨gb390, 0, none⟩ (.bool t386)).setCell ⟨gb390, 1, none⟩ (.slice Ao34 t387.length co34)) w.heap.size (fun k_ => (w.heap.size ≤ k_) ∧ k_ ≠ gb379 ∧ k_ ≠ gb380 ∧ k_ ≠ gb390) (.slice Ao34 t387.length co34) t387) := ⟨by (with_reducible repeat (first | apply Kd.V_alloc | apply Kd.V_drewN | apply Kd.V_drew)); exact Kd.V_mono (Kd.V_far (p := ⟨gb390, 1, none⟩) (Kd.V_far (p := ⟨gb390, 0, none⟩) (Kd.V_mono HO389.out (fun k_ hk => (⟨hk, hk.2⟩ : _ ∧ k_ ≠ gb390))) (fun _ hk => hk.2) (.bool t386)) (fun _ hk => hk.2) (.slice Ao34 t387.length co34)) (fun _ hk => ⟨hk.1.1.1, ⟨hk.1.1.2.1, ⟨hk.1.1.2.2, hk.1.2⟩⟩⟩)⟩
       have n2_ : Aside0 (((w30.setCell ⟨gb390, 0, none⟩ (.bool t386)).setCell ⟨gb390, 1, none⟩ (.slice Ao34 t387.length co34)).heap[gb379]? = some (.cells #[.bool true, .slice A0_1 l0_1.length c0_1] 51 (0, 0))) := ⟨by (with_reducible repeat (first | refine blk_drewN ?_ _ | refine blk_drew ?_ | refine blk_alloc ?_ _)); refine blk_far ?_ NB379_390.out _; (with_reducible repeat (first | refine blk_drewN ?_ _ | refine blk_drew ?_ | refine blk_alloc ?_ _)); refine blk_far ?_ NB379_390.out _; exact blkt BK379⟩
       have n3_ : Aside0 (((w30.setCell ⟨gb390, 0, none⟩ (.bool t386)).setCell ⟨gb390, 1, none⟩ (.slice Ao34 t387.length co34)).heap[gb380]? = some (.cells #[.bool false, .slice none 0 0] 51 (0, 0))) := ⟨by (with_reducible repeat (first | refine blk_drewN ?_ _ | refine blk_drew ?_ | refine blk_alloc ?_ _)); refine blk_far ?_ NB380_390.out _; (with_reducible repeat (first | refine blk_drewN ?_ _ | refine blk_drew ?_ | refine blk_alloc ?_ _)); refine blk_far ?_ NB380_390.out _; exact blkt BK380⟩
       have n4_ : Aside0 (((w30.setCell ⟨gb390, 0, none⟩ (.bool t386)).setCell ⟨gb390, 1, none⟩ (.slice Ao34 t387.length co34)).heap[gb390]? = some (.cells #[.bool t386, .slice Ao34 t387.length co34] 51 (0, 0))) := ⟨by (with_reducible repeat (first | refine blk_drewN ?_ _ | refine blk_drew ?_ | refine blk_alloc ?_ _)); refine blk_put (cs := #[.bool t386, .slice none 0 0]) ?_ 1 _ rfl; (with_reducible repeat (first | refine blk_drewN ?_ _ | refine blk_drew ?_ | refine blk_alloc ?_ _)); refine blk_put (cs := #[.bool false, .slice none 0 0]) ?_ 0 _ rfl; exact blkt BK390⟩
       have n5_ : Aside0 (Below w.heap.size w ((w30.setCell ⟨gb390, 0, none⟩ (.bool t386)).setCell ⟨gb390, 1, none⟩ (.slice Ao34 t387.length co34))) := ⟨belt HB⟩
       (try clear HO_6)
       (try clear HO389)
       (try clear BK379)
       (try clear BK380)
       (try clear BK390)
       (try clear HB)
       generalize ((w30.setCell ⟨gb390, 0, none⟩ (.bool t386)).setCell ⟨gb390, 1, none⟩ (.slice Ao34 t387.length co34)) = w37 at n0_ n1_ n2_ n3_ n4_ n5_ ⊢
       have HO_6 := n0_
       have HO389 := n1_
       have BK379 := n2_
       have BK380 := n3_
       have BK390 := n4_
       have HB := n5_
       clear n0_ n1_ n2_ n3_ n4_ n5_
       replace HO_6 := Aside0.mk (Kd.R_drew HO_6.out)
       replace HO389 := Aside0.mk (Kd.V_drew HO389.out)
       replace BK379 := Aside0.mk (blk_drew BK379.out)
       replace BK380 := Aside0.mk (blk_drew BK380.out)
       replace BK390 := Aside0.mk (blk_drew BK390.out)
       replace HB := Aside0.mk (below_drew1 HB.out)
       refine start_ (n := 4) (S := fun w' => w'.cell? ⟨gb390, 0, none⟩ = some (.bool t386) ∧ w'.cell? ⟨gb390, 1, none⟩ = some (.slice Ao34 t387.length co34)) (ds := [3]) #[false, false, false, false] (by kernel_rfl) rfl rfl ⟨bc BK390 0, bc BK390 1⟩ (fun hHeld => ?_)
       generalize w37.drew = w38 at HO_6 HO389 BK379 BK380 BK390 HB hHeld ⊢
       refine take_ (i := 0) (N := some 49) (v := ?_) (a' := ?_) #[true, false, false, false] rfl rfl (by kernel_rfl) (fun _ _ _ h => h) (Or.inl ⟨by rfl, ?_⟩) hHeld ?_ ?_
       rotate_left
       ·rintro w' ⟨s0, s1⟩
        go_simp
        with_reducible rfl
       rotate_left
       ·simp only [Act.put, List.setIfInBounds_toArray, List.set_cons_zero, List.set_cons_succ, i64_w, i32_w]
        rfl
       refine one_ (i := 1) (N := some 50) #[true, true, false, false] rfl rfl (by kernel_rfl) (by decide) (fun K hK => ?_)
       refine goes_ Tryz.func37 (by kernel_rfl) rfl #[.int .i64 1] (by rfl) rfl rfl argt ?_
       with_reducible refine (turnstoneref01_N.calls k1 1 t391 t392 _ A25.out).mono ?_
       rintro e w39 ⟨v393, rfl, ho0, hb⟩
       refine ⟨_, rfl, ?_⟩
       replace HO389 := Aside0.mk (Kd.V_elder' (vt HO389) (Kd.R_base ho0) hb)
       have HO394 := Aside0.mk (Kd.R_lower (Kd.R_new' (Kd.R_newM (M := fun k_ => (w.heap.size ≤ k_)) ho0 (below_size (belt HB)) (fun k_ h_ => h_)) (Kd.R_lt (rt HO_6))) (below_size (belt HB)))
       replace BK379 := blkb BK379 hb
       replace BK380 := blkb BK380 hb
       replace BK390 := blkb BK390 hb
       replace HO_6 := Aside0.mk (Kd.R_elder' (rt HO_6) (Kd.R_base ho0) hb)
       replace HB := belb HB hb
       (try clear hb)
       (try clear hb2)
       (try clear hk)
       (try clear hi)
       (try clear ho0)
       obtain ⟨Ao40, co40, eo40⟩ := Kd.R_slice HO394.out
       (first | subst eo40 | (injection eo40 with f1_ f2_ f3_; have f4_ := f1_.symm; have f5_ := f3_.symm; clear f1_ f2_ f3_; subst f4_; subst f5_))
       refine hK.out _ _ ⟨bc BK390 0, bc BK390 1⟩ (fun hHeld => ?_)
       clear hK K
       refine norm_ (a' := ?_) ?_ ?_
       rotate_left
       ·show Act.put _ (some 50) _ = _
        simp only [Act.put, List.setIfInBounds_toArray, List.set_cons_zero, List.set_cons_succ, i64_w, i32_w]
        rfl
       refine one_ (i := 2) (N := some 51) #[true, true, true, false] rfl rfl (by kernel_rfl) (by decide) (fun K hK => ?_)
       refine goes_ Tryz.func34 (by kernel_rfl) rfl #[.agg #[.bool t386, .slice Ao34 t387.length co34], .agg #[.bool t391, .slice Ao40 t392.length co40]] (by rfl) rfl rfl argt ?_
       with_reducible refine (turnstoneref01_Add.calls k1 t386 _ _ t387 t391 _ _ t392 t395 t396 _ ?side1 ?side2 ?side3 ?side4 A26.out).mono ?_
       (case side1 => repeat (first | exact (Kd.V_reads' HO389.out).2.2 | (with_reducible refine Kd.C_alloc ?_ _) | (with_reducible refine Kd.C_drewN ?_ _) | (with_reducible refine Kd.C_drew ?_)))
       (case side2 => exact (Kd.V_reads' HO389.out).2.1)
       (case side3 => repeat (first | exact (Kd.R_reads' HO394.out).2.2 | (with_reducible refine Kd.C_alloc ?_ _) | (with_reducible refine Kd.C_drewN ?_ _) | (with_reducible refine Kd.C_drew ?_)))
       (case side4 => exact (Kd.R_reads' HO394.out).2.1)
       rintro e w41 ⟨v397, rfl, ho0, hb⟩
       refine ⟨_, rfl, ?_⟩
       replace HO389 := vb HO389 hb
       have HO398 := Aside0.mk (Kd.V_lower (Kd.V_mono (ok' := fun k_ => (w.heap.size ≤ k_) ∧ some k_ ≠ (.slice Ao28 x6_1.length co28 : Value).ownBlock ∧ some k_ ≠ (.slice Ao40 t392.length co40 : Value).ownBlock ∧ k_ ≠ gb379 ∧ k_ ≠ gb380 ∧ k_ ≠ gb390) ho0 (fun k_ hk_ => ⟨(Nat.le_trans (below_size (belt HB)) hk_), (Kd.fresh' (Kd.R_lt (rt HO_6)) k_ hk_), (Kd.fresh' (Kd.R_lt (rt HO394)) k_ hk_), (Kd.freshB (blkt BK379) k_ hk_), (Kd.freshB (blkt BK380) k_ hk_), (Kd.freshB (blkt BK390) k_ hk_)⟩)) (below_size (belt HB)))
       replace HO_6 := rb HO_6 hb
       replace HO394 := rb HO394 hb
       replace BK379 := blkb BK379 hb
       replace BK380 := blkb BK380 hb
       replace BK390 := blkb BK390 hb
       replace HB := belb HB hb
       (try clear hb)
       (try clear hb2)
       (try clear hk)
       (try clear hi)
       (try clear ho0)
       obtain ⟨Ao43, co43, eo43⟩ := Kd.V_slice HO398.out
       (first | subst eo43 | (injection eo43 with f1_ f2_ f3_; have f4_ := f1_.symm; have f5_ := f3_.symm; clear f1_ f2_ f3_; subst f4_; subst f5_))
       refine hK.out _ _ ⟨bc BK390 0, bc BK390 1⟩ (fun hHeld => ?_)
       clear hK K
       refine norm_ (a' := ?_) ?_ ?_
       rotate_left
       ·show Act.put _ (some 51) _ = _
        simp only [Act.put, List.setIfInBounds_toArray, List.set_cons_zero, List.set_cons_succ, i64_w, i32_w]
        rfl
       refine last_ (i := 3) (N := none) #[true, true, true, true] rfl rfl (by kernel_rfl) (by decide) (fun K hK => ?_)
       have hs42 : w41.cell? ⟨gb390, 0, none⟩ = some (.bool t386) := bc BK390 0
       have hfs42 := blk_frozen BK390.out 0
       have hns42_0 := NB379_390.out
       have hns42_1 := NB380_390.out
       have hms42_0 := NB390_379.out
       have hms42_1 := NB390_380.out
       have hs44 : w41.cell? ⟨gb390, 1, none⟩ = some (.slice Ao34 t387.length co34) := bc BK390 1
       have hfs44 := blk_frozen BK390.out 1
       have hns44_0 := NB379_390.out
       have hns44_1 := NB380_390.out
       have hms44_0 := NB390_379.out
       have hms44_1 := NB390_380.out
       refine skip_ (w1 := ?_) (by rfl) rfl ?_ ?_
       rotate_left
       ·go_simp
        rfl
       refine hK.out _ _ ?_
       clear hK K
       refine done_ (by kernel_rfl) ?_
       have n0_ : Aside0 (Kd.R (Kd.int .i64) 3 ((w41.setCell ⟨gb390, 0, none⟩ (.bool t395)).setCell ⟨gb390, 1, none⟩ (.slice Ao43 t396.length co43)) w.heap.size (fun k_ => (w.heap.size ≤ k_) ∧ some k_ ≠ (.slice Ao40 t392.length co40 : Value).ownBlock) (.slice Ao28 x6_1.length co28) x6_1) := ⟨by (with_reducible repeat (first | apply Kd.R_alloc | apply Kd.R_drewN | apply Kd.R_drew)); exact Kd.R_mono (Kd.R_far (p := ⟨gb390, 1, none⟩) (Kd.R_far (p := ⟨gb390, 0, none⟩) (Kd.R_types HO_6.out BK390.out (by decide)) (fun _ hk => hk.2) (.bool t395)) (fun _ hk => hk.2) (.slice Ao43 t396.length co43)) (fun _ hk => ⟨hk.1.1, hk.1.2⟩)⟩
       have n1_ : Aside0 (Kd.V (Kd.int .i64) 3 ((w41.setCell ⟨gb390, 0, none⟩ (.bool t395)).setCell ⟨gb390, 1, none⟩ (.slice Ao43 t396.length co43)) w.heap.size (fun k_ => (w.heap.size ≤ k_) ∧ some k_ ≠ (.slice Ao40 t392.length co40 : Value).ownBlock ∧ k_ ≠ gb379 ∧ k_ ≠ gb380 ∧ k_ ≠ gb390) (.slice Ao34 t387.length co34) t387) := ⟨by (with_reducible repeat (first | apply Kd.V_alloc | apply Kd.V_drewN | apply Kd.V_drew)); exact Kd.V_mono (Kd.V_far (p := ⟨gb390, 1, none⟩) (Kd.V_far (p := ⟨gb390, 0, none⟩) (Kd.V_mono HO389.out (fun k_ hk => (⟨hk, hk.1.2.2.2⟩ : _ ∧ k_ ≠ gb390))) (fun _ hk => hk.2) (.bool t395)) (fun _ hk => hk.2) (.slice Ao43 t396.length co43)) (fun _ hk => ⟨hk.1.1.1, ⟨hk.1.2, ⟨hk.1.1.2.1, ⟨hk.1.1.2.2.1, hk.1.1.2.2.2⟩⟩⟩⟩)⟩
       have n2_ : Aside0 (Kd.R (Kd.int .i64) 3 ((w41.setCell ⟨gb390, 0, none⟩ (.bool t395)).setCell ⟨gb390, 1, none⟩ (.slice Ao43 t396.length co43)) w.heap.size (fun k_ => (w.heap.size ≤ k_) ∧ some k_ ≠ (.slice Ao28 x6_1.length co28 : Value).ownBlock) (.slice Ao40 t392.length co40) t392) := ⟨by (with_reducible repeat (first | apply Kd.R_alloc | apply Kd.R_drewN | apply Kd.R_drew)); exact Kd.R_mono (Kd.R_far (p := ⟨gb390, 1, none⟩) (Kd.R_far (p := ⟨gb390, 0, none⟩) (Kd.R_types HO394.out BK390.out (by decide)) (fun _ hk => hk.2) (.bool t395)) (fun _ hk => hk.2) (.slice Ao43 t396.length co43)) (fun _ hk => ⟨hk.1.1.1, hk.1.2⟩)⟩
       have n3_ : Aside0 (Kd.V (Kd.int .i64) 3 ((w41.setCell ⟨gb390, 0, none⟩ (.bool t395)).setCell ⟨gb390, 1, none⟩ (.slice Ao43 t396.length co43)) w.heap.size (fun k_ => (w.heap.size ≤ k_) ∧ some k_ ≠ (.slice Ao28 x6_1.length co28 : Value).ownBlock ∧ some k_ ≠ (.slice Ao40 t392.length co40 : Value).ownBlock ∧ k_ ≠ gb379 ∧ k_ ≠ gb380 ∧ k_ ≠ gb390) (.slice Ao43 t396.length co43) t396) := ⟨by (with_reducible repeat (first | apply Kd.V_alloc | apply Kd.V_drewN | apply Kd.V_drew)); exact Kd.V_mono (Kd.V_far (p := ⟨gb390, 1, none⟩) (Kd.V_far (p := ⟨gb390, 0, none⟩) (Kd.V_mono HO398.out (fun k_ hk => (⟨hk, hk.2.2.2.2.2⟩ : _ ∧ k_ ≠ gb390))) (fun _ hk => hk.2) (.bool t395)) (fun _ hk => hk.2) (.slice Ao43 t396.length co43)) (fun _ hk => ⟨hk.1.1, ⟨hk.1.2.1, ⟨hk.1.2.2.1, ⟨hk.1.2.2.2.1, ⟨hk.1.2.2.2.2.1, hk.1.2.2.2.2.2⟩⟩⟩⟩⟩)⟩
       have n4_ : Aside0 (((w41.setCell ⟨gb390, 0, none⟩ (.bool t395)).setCell ⟨gb390, 1, none⟩ (.slice Ao43 t396.length co43)).heap[gb379]? = some (.cells #[.bool true, .slice A0_1 l0_1.length c0_1] 51 (0, 0))) := ⟨by (with_reducible repeat (first | refine blk_drewN ?_ _ | refine blk_drew ?_ | refine blk_alloc ?_ _)); refine blk_far ?_ NB379_390.out _; (with_reducible repeat (first | refine blk_drewN ?_ _ | refine blk_drew ?_ | refine blk_alloc ?_ _)); refine blk_far ?_ NB379_390.out _; exact blkt BK379⟩
       have n5_ : Aside0 (((w41.setCell ⟨gb390, 0, none⟩ (.bool t395)).setCell ⟨gb390, 1, none⟩ (.slice Ao43 t396.length co43)).heap[gb380]? = some (.cells #[.bool false, .slice none 0 0] 51 (0, 0))) := ⟨by (with_reducible repeat (first | refine blk_drewN ?_ _ | refine blk_drew ?_ | refine blk_alloc ?_ _)); refine blk_far ?_ NB380_390.out _; (with_reducible repeat (first | refine blk_drewN ?_ _ | refine blk_drew ?_ | refine blk_alloc ?_ _)); refine blk_far ?_ NB380_390.out _; exact blkt BK380⟩
       have n6_ : Aside0 (((w41.setCell ⟨gb390, 0, none⟩ (.bool t395)).setCell ⟨gb390, 1, none⟩ (.slice Ao43 t396.length co43)).heap[gb390]? = some (.cells #[.bool t395, .slice Ao43 t396.length co43] 51 (0, 0))) := ⟨by (with_reducible repeat (first | refine blk_drewN ?_ _ | refine blk_drew ?_ | refine blk_alloc ?_ _)); refine blk_put (cs := #[.bool t395, .slice Ao34 t387.length co34]) ?_ 1 _ rfl; (with_reducible repeat (first | refine blk_drewN ?_ _ | refine blk_drew ?_ | refine blk_alloc ?_ _)); refine blk_put (cs := #[.bool t386, .slice Ao34 t387.length co34]) ?_ 0 _ rfl; exact blkt BK390⟩
       have n7_ : Aside0 (Below w.heap.size w ((w41.setCell ⟨gb390, 0, none⟩ (.bool t395)).setCell ⟨gb390, 1, none⟩ (.slice Ao43 t396.length co43))) := ⟨belt HB⟩
       (try clear HO_6)
       (try clear HO389)
       (try clear HO394)
       (try clear HO398)
       (try clear BK379)
       (try clear BK380)
       (try clear BK390)
       (try clear HB)
       generalize ((w41.setCell ⟨gb390, 0, none⟩ (.bool t395)).setCell ⟨gb390, 1, none⟩ (.slice Ao43 t396.length co43)) = w45 at n0_ n1_ n2_ n3_ n4_ n5_ n6_ n7_ ⊢
       have HO_6 := n0_
       have HO389 := n1_
       have HO394 := n2_
       have HO398 := n3_
       have BK379 := n4_
       have BK380 := n5_
       have BK390 := n6_
       have HB := n7_
       clear n0_ n1_ n2_ n3_ n4_ n5_ n6_ n7_
       have hcz46_0 : w45.cell? ⟨gb390, 0, none⟩ = some (.bool t395) := bc BK390 0
       have hcz46_1 : w45.cell? ⟨gb390, 1, none⟩ = some (.slice Ao43 t396.length co43) := bc BK390 1
       have hfz46_0 := blk_frozen BK390.out 0
       have hfz46_1 := blk_frozen BK390.out 1
       try go_wp2_with (first | ((with_reducible refine gate_callee (f := 88) rfl ?_); refine goesL_ (some 56) rfl rfl Tryz.func88 (by kernel_rfl) rfl #[.agg #[.bool t395, .slice Ao43 t396.length co43]] rfl argt ?_; (with_reducible refine (turnstoneref01_Neg.calls k1 t395 (fun k_ => ((w.heap.size ≤ k_) ∧ (some k_ ≠ (.slice Ao28 x6_1.length co28 : Value).ownBlock ∧ (some k_ ≠ (.slice Ao40 t392.length co40 : Value).ownBlock ∧ (k_ ≠ gb379 ∧ (k_ ≠ gb380 ∧ k_ ≠ gb390)))))) _ _ t396 t399 t400 _ ?side1 A27.out).mono ?_); (case side1 => exact HO398.out); rintro e w47 ⟨v401, rfl, ho0, hb⟩; refine ⟨_, rfl, ?_⟩; replace HO389 := vb HO389 hb; replace HO398 := vb HO398 hb; have HO402 := Aside0.mk (Kd.V_lower (Kd.V_mono (ok' := fun k_ => (w.heap.size ≤ k_) ∧ some k_ ≠ (.slice Ao28 x6_1.length co28 : Value).ownBlock ∧ some k_ ≠ (.slice Ao40 t392.length co40 : Value).ownBlock ∧ k_ ≠ gb379 ∧ k_ ≠ gb380 ∧ k_ ≠ gb390) ho0 (fun k_ hk_ => ⟨Or.elim hk_ (fun hs_ => hs_.1) (fun hn_ => (Nat.le_trans (below_size (belt HB)) hn_)), Or.elim hk_ (fun hs_ => hs_.2.1) (fun hn_ => (Kd.fresh' (Kd.R_lt (rt HO_6)) k_ hn_)), Or.elim hk_ (fun hs_ => hs_.2.2.1) (fun hn_ => (Kd.fresh' (Kd.R_lt (rt HO394)) k_ hn_)), Or.elim hk_ (fun hs_ => hs_.2.2.2.1) (fun hn_ => (Kd.freshB (blkt BK379) k_ hn_)), Or.elim hk_ (fun hs_ => hs_.2.2.2.2.1) (fun hn_ => (Kd.freshB (blkt BK380) k_ hn_)), Or.elim hk_ (fun hs_ => hs_.2.2.2.2.2) (fun hn_ => (Kd.freshB (blkt BK390) k_ hn_))⟩)) (below_size (belt HB))); replace HO_6 := rb HO_6 hb; replace HO394 := rb HO394 hb; replace BK379 := blkb BK379 hb; replace BK380 := blkb BK380 hb; replace BK390 := blkb BK390 hb; replace HB := belb HB hb; (try clear hb); (try clear hb2); (try clear hk); (try clear hi); (try clear ho0); have hcz48_0 : w47.cell? ⟨gb380, 0, none⟩ = some (.bool false) := bc BK380 0; have hcz48_1 : w47.cell? ⟨gb380, 1, none⟩ = some (.slice none 0 0) := bc BK380 1; have hfz48_0 := blk_frozen BK380.out 0; have hfz48_1 := blk_frozen BK380.out 1; obtain ⟨Ao49, co49, eo49⟩ := Kd.V_slice HO402.out; subst eo49))
       refine bodyPost_ret (results_ct rfl _ _ gb380 51 #[.bool t399, .slice Ao49 t400.length co49] (0, 0) _ rfl (by (with_reducible repeat (first | refine blk_drewN ?_ _ | refine blk_drew ?_ | refine blk_alloc ?_ _)); refine blk_put (cs := #[.bool t399, .slice none 0 0]) ?_ 1 _ rfl; (with_reducible repeat (first | refine blk_drewN ?_ _ | refine blk_drew ?_ | refine blk_alloc ?_ _)); refine blk_put (cs := #[.bool false, .slice none 0 0]) ?_ 0 _ rfl; exact blkt BK380) Tryz.underlying51 rfl (by kernel_rfl)) rfl ?_
       exact ⟨_, by first | rfl | (simp [errW_none, errW_some] <;> rfl) | (simp [*, errW_none, errW_some] <;> rfl), by (with_reducible repeat (first | apply Kd.V_alloc | apply Kd.V_drewN | apply Kd.V_drew)); exact Kd.V_mono (Kd.V_far (p := ⟨gb380, 1, none⟩) (Kd.V_far (p := ⟨gb380, 0, none⟩) (Kd.V_mono HO402.out (fun k_ hk => (⟨hk, hk.2.2.2.2.1⟩ : _ ∧ k_ ≠ gb380))) (fun _ hk => hk.2) (.bool t399)) (fun _ hk => hk.2) (.slice Ao49 t400.length co49)) (fun _ hk => hk.1.1), belt HB⟩
      rw [if_neg c24] at H
      have c24b0 : decide (0 < x7_1) = false := decide_eq_false c24
      clear c24
      replace H := Option.bind_eq_some_iff.mp H
      obtain ⟨⟨t403, t404⟩, A500, H⟩ := H
      replace H : (some (t403, t404, x7_1)) = some (r1, r2, r3) := H
      have A50 := Aside0.mk A500
      clear A500
      simp only [Option.some.injEq, Prod.mk.injEq] at H
      obtain ⟨rfl, rfl, rfl⟩ := H
      obtain ⟨Ao51, co51, eo51⟩ := Kd.R_slice HO_6.out
      subst eo51
      go_wp2_with (first | ((with_reducible refine gate_callee (f := 67) rfl ?_); refine goesL_ (some 41) rfl rfl Tryz.func67 (by kernel_rfl) rfl #[.agg #[.bool false, .slice Ao51 x6_1.length co51]] rfl argt ?_; (with_reducible refine (turnstoneref01_trim.calls k1 false (fun k_ => some k_ = (.slice Ao51 x6_1.length co51 : Value).ownBlock) _ _ x6_1 t386 t387 _ ?side1 A22.out).mono ?_); (case side1 => exact Kd.R_V (Kd.R_tight rfl (Kd.R_types (Kd.R_types (HO_6.out) BK379.out (by decide)) BK380.out (by decide)))); rintro e w52 ⟨v388, rfl, ho0, hb⟩; refine ⟨_, rfl, ?_⟩; have HO389 := Aside0.mk (Kd.V_lower (Kd.V_mono (ok' := fun k_ => (w.heap.size ≤ k_) ∧ k_ ≠ gb379 ∧ k_ ≠ gb380) ho0 (fun k_ hk_ => ⟨Or.elim hk_ (fun hs_ => ((Kd.R_types (Kd.R_types (HO_6.out) BK379.out (by decide)) BK380.out (by decide)).1 k_ hs_.symm).1.1) (fun hn_ => (Nat.le_trans (below_size (belt HB)) hn_)), Or.elim hk_ (fun hs_ => ((Kd.R_types (Kd.R_types (HO_6.out) BK379.out (by decide)) BK380.out (by decide)).1 k_ hs_.symm).1.2) (fun hn_ => (Kd.freshB (blkt BK379) k_ hn_)), Or.elim hk_ (fun hs_ => ((Kd.R_types (Kd.R_types (HO_6.out) BK379.out (by decide)) BK380.out (by decide)).1 k_ hs_.symm).2) (fun hn_ => (Kd.freshB (blkt BK380) k_ hn_))⟩)) (below_size (belt HB))); replace HO_6 := rb HO_6 hb; replace BK379 := blkb BK379 hb; replace BK380 := blkb BK380 hb; replace HB := belb HB hb; (try clear hb); (try clear hb2); (try clear hk); (try clear hi); (try clear ho0)) | ((with_reducible refine gate_dst (N := 9) rfl ?_); refine box_event ?hg (N := 9) ?hd (cs := #[.bool false, .slice none 0 0]) (t := 51) ?hr ?_; (case hd => rfl); (case hg => rfl); (case hr => first | (go_simp; done) | (go_simp; rfl)); intro gb390 hg w53 hbox hb; replace HO_6 := rb HO_6 hb; replace HO389 := Aside0.mk (Kd.V_below (Kd.V_elderB (vt HO389) gb390 (Nat.le_of_eq hg.symm)) hb); have BK390 := Aside0.mk (hbox); have GW390 := bels HB hg; have GE390 := bels HB hg; have NB379_390 := blkl BK379 hg; have NB390_379 := blkg BK379 hg; have NB380_390 := blkl BK380 hg; have NB390_380 := blkg BK380 hg; replace BK379 := blkb BK379 hb; replace BK380 := blkb BK380 hb; replace HB := belb HB hb; clear hb hbox hg; have hnb54 := NB390_379.out; have hnc54 := NB379_390.out; have hnb55 := NB390_380.out; have hnc55 := NB380_390.out; have hcz56_0 : w53.cell? ⟨gb390, 0, none⟩ = some (.bool false) := bc BK390 0; have hcz56_1 : w53.cell? ⟨gb390, 1, none⟩ = some (.slice none 0 0) := bc BK390 1; have hfz56_0 := blk_frozen BK390.out 0; have hfz56_1 := blk_frozen BK390.out 1; obtain ⟨Ao57, co57, eo57⟩ := Kd.V_slice HO389.out; subst eo57) | ((with_reducible refine gate_store (t := 51) (p := 9) rfl ?_); refine store_event (t := 51) (p := 9) (v := ?vo_w58) (w1 := ((w53.setCell ⟨gb390, 0, none⟩ (.bool t386)).setCell ⟨gb390, 1, none⟩ (.slice Ao57 t387.length co57))) ?hg ?ho ?hn ?hr ?_; (case ho => rfl); (case hg => rfl); (case hn => rfl); (case hr => first | (go_simp; done) | (go_simp; rfl)); intro w58 hw; replace HO_6 : Aside0 (Kd.R (Kd.int .i64) 3 w58 w.heap.size (fun k_ => (w.heap.size ≤ k_)) (.slice Ao51 x6_1.length co51) x6_1) := ⟨(by rw [hw]; exact (by (with_reducible repeat (first | apply Kd.R_alloc | apply Kd.R_drewN | apply Kd.R_drew)); exact Kd.R_mono (Kd.R_far (p := ⟨gb390, 1, none⟩) (Kd.R_far (p := ⟨gb390, 0, none⟩) (Kd.R_types HO_6.out BK390.out (by decide)) (fun _ hk => hk.2) (.bool t386)) (fun _ hk => hk.2) (.slice Ao57 t387.length co57)) (fun _ hk => hk.1)))⟩; replace HO389 : Aside0 (Kd.V (Kd.int .i64) 3 w58 w.heap.size (fun k_ => (w.heap.size ≤ k_) ∧ k_ ≠ gb379 ∧ k_ ≠ gb380 ∧ k_ ≠ gb390) (.slice Ao57 t387.length co57) t387) := ⟨(by rw [hw]; exact (by (with_reducible repeat (first | apply Kd.V_alloc | apply Kd.V_drewN | apply Kd.V_drew)); exact Kd.V_mono (Kd.V_far (p := ⟨gb390, 1, none⟩) (Kd.V_far (p := ⟨gb390, 0, none⟩) (Kd.V_mono HO389.out (fun k_ hk => (⟨hk, hk.2⟩ : _ ∧ k_ ≠ gb390))) (fun _ hk => hk.2) (.bool t386)) (fun _ hk => hk.2) (.slice Ao57 t387.length co57)) (fun _ hk => ⟨hk.1.1.1, ⟨hk.1.1.2.1, ⟨hk.1.1.2.2, hk.1.2⟩⟩⟩)))⟩; replace BK379 : Aside0 (w58.heap[gb379]? = some (.cells #[.bool true, .slice A0_1 l0_1.length c0_1] 51 (0, 0))) := ⟨(by rw [hw]; exact (by (with_reducible repeat (first | refine blk_drewN ?_ _ | refine blk_drew ?_ | refine blk_alloc ?_ _)); refine blk_far ?_ NB379_390.out _; (with_reducible repeat (first | refine blk_drewN ?_ _ | refine blk_drew ?_ | refine blk_alloc ?_ _)); refine blk_far ?_ NB379_390.out _; exact blkt BK379))⟩; replace BK380 : Aside0 (w58.heap[gb380]? = some (.cells #[.bool false, .slice none 0 0] 51 (0, 0))) := ⟨(by rw [hw]; exact (by (with_reducible repeat (first | refine blk_drewN ?_ _ | refine blk_drew ?_ | refine blk_alloc ?_ _)); refine blk_far ?_ NB380_390.out _; (with_reducible repeat (first | refine blk_drewN ?_ _ | refine blk_drew ?_ | refine blk_alloc ?_ _)); refine blk_far ?_ NB380_390.out _; exact blkt BK380))⟩; replace HB : Aside0 (Below w.heap.size w w58) := ⟨(by rw [hw]; exact (belt HB))⟩; replace BK390 : Aside0 (w58.heap[gb390]? = some (.cells #[.bool t386, .slice Ao57 t387.length co57] 51 (0, 0))) := ⟨(by rw [hw]; exact (by (with_reducible repeat (first | refine blk_drewN ?_ _ | refine blk_drew ?_ | refine blk_alloc ?_ _)); refine blk_put (cs := #[.bool t386, .slice none 0 0]) ?_ 1 _ rfl; (with_reducible repeat (first | refine blk_drewN ?_ _ | refine blk_drew ?_ | refine blk_alloc ?_ _)); refine blk_put (cs := #[.bool false, .slice none 0 0]) ?_ 0 _ rfl; exact blkt BK390))⟩; clear hw; have hnb59 := NB379_380.out; have hnc59 := NB380_379.out; have hcz60_0 : w58.cell? ⟨gb379, 0, none⟩ = some (.bool true) := bc BK379 0; have hcz60_1 : w58.cell? ⟨gb379, 1, none⟩ = some (.slice A0_1 l0_1.length c0_1) := bc BK379 1; have hfz60_0 := blk_frozen BK379.out 0; have hfz60_1 := blk_frozen BK379.out 1; have hcz61_0 : w58.cell? ⟨gb390, 0, none⟩ = some (.bool t386) := bc BK390 0; have hcz61_1 : w58.cell? ⟨gb390, 1, none⟩ = some (.slice Ao57 t387.length co57) := bc BK390 1; have hfz61_0 := blk_frozen BK390.out 0; have hfz61_1 := blk_frozen BK390.out 1) | ((with_reducible refine gate_callee (f := 88) rfl ?_); refine goesL_ (some 56) rfl rfl Tryz.func88 (by kernel_rfl) rfl #[.agg #[.bool t386, .slice Ao57 t387.length co57]] rfl argt ?_; (with_reducible refine (turnstoneref01_Neg.calls k1 t386 (fun k_ => ((w.heap.size ≤ k_) ∧ (k_ ≠ gb379 ∧ (k_ ≠ gb380 ∧ k_ ≠ gb390)))) _ _ t387 t403 t404 _ ?side1 A50.out).mono ?_); (case side1 => exact HO389.out); rintro e w62 ⟨v405, rfl, ho0, hb⟩; refine ⟨_, rfl, ?_⟩; replace HO_6 := rb HO_6 hb; replace HO389 := vb HO389 hb; have HO406 := Aside0.mk (Kd.V_lower (Kd.V_mono (ok' := fun k_ => (w.heap.size ≤ k_) ∧ k_ ≠ gb379 ∧ k_ ≠ gb380 ∧ k_ ≠ gb390) ho0 (fun k_ hk_ => ⟨Or.elim hk_ (fun hs_ => hs_.1) (fun hn_ => (Nat.le_trans (below_size (belt HB)) hn_)), Or.elim hk_ (fun hs_ => hs_.2.1) (fun hn_ => (Kd.freshB (blkt BK379) k_ hn_)), Or.elim hk_ (fun hs_ => hs_.2.2.1) (fun hn_ => (Kd.freshB (blkt BK380) k_ hn_)), Or.elim hk_ (fun hs_ => hs_.2.2.2) (fun hn_ => (Kd.freshB (blkt BK390) k_ hn_))⟩)) (below_size (belt HB))); replace BK379 := blkb BK379 hb; replace BK380 := blkb BK380 hb; replace BK390 := blkb BK390 hb; replace HB := belb HB hb; (try clear hb); (try clear hb2); (try clear hk); (try clear hi); (try clear ho0); have hcz63_0 : w62.cell? ⟨gb380, 0, none⟩ = some (.bool false) := bc BK380 0; have hcz63_1 : w62.cell? ⟨gb380, 1, none⟩ = some (.slice none 0 0) := bc BK380 1; have hfz63_0 := blk_frozen BK380.out 0; have hfz63_1 := blk_frozen BK380.out 1; obtain ⟨Ao64, co64, eo64⟩ := Kd.V_slice HO406.out; subst eo64))
      refine bodyPost_ret (results_ct rfl _ _ gb380 51 #[.bool t403, .slice Ao64 t404.length co64] (0, 0) _ rfl (by (with_reducible repeat (first | refine blk_drewN ?_ _ | refine blk_drew ?_ | refine blk_alloc ?_ _)); refine blk_put (cs := #[.bool t403, .slice none 0 0]) ?_ 1 _ rfl; (with_reducible repeat (first | refine blk_drewN ?_ _ | refine blk_drew ?_ | refine blk_alloc ?_ _)); refine blk_put (cs := #[.bool false, .slice none 0 0]) ?_ 0 _ rfl; exact blkt BK380) Tryz.underlying51 rfl (by kernel_rfl)) rfl ?_
      exact ⟨_, by first | rfl | (simp [errW_none, errW_some] <;> rfl) | (simp [*, errW_none, errW_some] <;> rfl), by (with_reducible repeat (first | apply Kd.V_alloc | apply Kd.V_drewN | apply Kd.V_drew)); exact Kd.V_mono (Kd.V_far (p := ⟨gb380, 1, none⟩) (Kd.V_far (p := ⟨gb380, 0, none⟩) (Kd.V_mono HO406.out (fun k_ hk => (⟨hk, hk.2.2.1⟩ : _ ∧ k_ ≠ gb380))) (fun _ hk => hk.2) (.bool t403)) (fun _ hk => hk.2) (.slice Ao64 t404.length co64)) (fun _ hk => hk.1.1), belt HB⟩
     replace c23 := Bool.eq_false_iff.mpr c23
     subst c23
     have H1 : (some (t386, t387, x7_1)) = some (r1, r2, r3) := by rw [if_neg (show ¬ (false = true) by decide)] at H; exact H
     clear H
     have H := H1
     clear H1
     simp only [Option.some.injEq, Prod.mk.injEq] at H
     obtain ⟨rfl, rfl, rfl⟩ := H
     obtain ⟨Ao65, co65, eo65⟩ := Kd.R_slice HO_6.out
     subst eo65
     go_wp2_with (first | ((with_reducible refine gate_callee (f := 67) rfl ?_); refine goesL_ (some 41) rfl rfl Tryz.func67 (by kernel_rfl) rfl #[.agg #[.bool false, .slice Ao65 x6_1.length co65]] rfl argt ?_; (with_reducible refine (turnstoneref01_trim.calls k1 false (fun k_ => some k_ = (.slice Ao65 x6_1.length co65 : Value).ownBlock) _ _ x6_1 t386 t387 _ ?side1 A22.out).mono ?_); (case side1 => exact Kd.R_V (Kd.R_tight rfl (Kd.R_types (Kd.R_types (HO_6.out) BK379.out (by decide)) BK380.out (by decide)))); rintro e w66 ⟨v388, rfl, ho0, hb⟩; refine ⟨_, rfl, ?_⟩; have HO389 := Aside0.mk (Kd.V_lower (Kd.V_mono (ok' := fun k_ => (w.heap.size ≤ k_) ∧ k_ ≠ gb379 ∧ k_ ≠ gb380) ho0 (fun k_ hk_ => ⟨Or.elim hk_ (fun hs_ => ((Kd.R_types (Kd.R_types (HO_6.out) BK379.out (by decide)) BK380.out (by decide)).1 k_ hs_.symm).1.1) (fun hn_ => (Nat.le_trans (below_size (belt HB)) hn_)), Or.elim hk_ (fun hs_ => ((Kd.R_types (Kd.R_types (HO_6.out) BK379.out (by decide)) BK380.out (by decide)).1 k_ hs_.symm).1.2) (fun hn_ => (Kd.freshB (blkt BK379) k_ hn_)), Or.elim hk_ (fun hs_ => ((Kd.R_types (Kd.R_types (HO_6.out) BK379.out (by decide)) BK380.out (by decide)).1 k_ hs_.symm).2) (fun hn_ => (Kd.freshB (blkt BK380) k_ hn_))⟩)) (below_size (belt HB))); replace HO_6 := rb HO_6 hb; replace BK379 := blkb BK379 hb; replace BK380 := blkb BK380 hb; replace HB := belb HB hb; (try clear hb); (try clear hb2); (try clear hk); (try clear hi); (try clear ho0)) | ((with_reducible refine gate_dst (N := 9) rfl ?_); refine box_event ?hg (N := 9) ?hd (cs := #[.bool false, .slice none 0 0]) (t := 51) ?hr ?_; (case hd => rfl); (case hg => rfl); (case hr => first | (go_simp; done) | (go_simp; rfl)); intro gb390 hg w67 hbox hb; replace HO_6 := rb HO_6 hb; replace HO389 := Aside0.mk (Kd.V_below (Kd.V_elderB (vt HO389) gb390 (Nat.le_of_eq hg.symm)) hb); have BK390 := Aside0.mk (hbox); have GW390 := bels HB hg; have GE390 := bels HB hg; have NB379_390 := blkl BK379 hg; have NB390_379 := blkg BK379 hg; have NB380_390 := blkl BK380 hg; have NB390_380 := blkg BK380 hg; replace BK379 := blkb BK379 hb; replace BK380 := blkb BK380 hb; replace HB := belb HB hb; clear hb hbox hg; have hnb68 := NB390_379.out; have hnc68 := NB379_390.out; have hnb69 := NB390_380.out; have hnc69 := NB380_390.out; have hcz70_0 : w67.cell? ⟨gb390, 0, none⟩ = some (.bool false) := bc BK390 0; have hcz70_1 : w67.cell? ⟨gb390, 1, none⟩ = some (.slice none 0 0) := bc BK390 1; have hfz70_0 := blk_frozen BK390.out 0; have hfz70_1 := blk_frozen BK390.out 1; obtain ⟨Ao71, co71, eo71⟩ := Kd.V_slice HO389.out; subst eo71; have hnb72 := NB379_380.out; have hnc72 := NB380_379.out; have hcz73_0 : w67.cell? ⟨gb379, 0, none⟩ = some (.bool false) := bc BK379 0; have hcz73_1 : w67.cell? ⟨gb379, 1, none⟩ = some (.slice A0_1 l0_1.length c0_1) := bc BK379 1; have hfz73_0 := blk_frozen BK379.out 0; have hfz73_1 := blk_frozen BK379.out 1; have hcz74_0 : w67.cell? ⟨gb380, 0, none⟩ = some (.bool false) := bc BK380 0; have hcz74_1 : w67.cell? ⟨gb380, 1, none⟩ = some (.slice none 0 0) := bc BK380 1; have hfz74_0 := blk_frozen BK380.out 0; have hfz74_1 := blk_frozen BK380.out 1))
     refine bodyPost_ret (results_ct rfl _ _ gb380 51 #[.bool t386, .slice Ao71 t387.length co71] (0, 0) _ rfl (by (with_reducible repeat (first | refine blk_drewN ?_ _ | refine blk_drew ?_ | refine blk_alloc ?_ _)); refine blk_put (cs := #[.bool t386, .slice none 0 0]) ?_ 1 _ rfl; (with_reducible repeat (first | refine blk_drewN ?_ _ | refine blk_drew ?_ | refine blk_alloc ?_ _)); refine blk_put (cs := #[.bool false, .slice none 0 0]) ?_ 0 _ rfl; (with_reducible repeat (first | refine blk_drewN ?_ _ | refine blk_drew ?_ | refine blk_alloc ?_ _)); refine blk_far ?_ NB380_390.out _; (with_reducible repeat (first | refine blk_drewN ?_ _ | refine blk_drew ?_ | refine blk_alloc ?_ _)); refine blk_far ?_ NB380_390.out _; exact blkt BK380) Tryz.underlying51 rfl (by kernel_rfl)) rfl ?_
     exact ⟨_, by first | rfl | (simp [errW_none, errW_some] <;> rfl) | (simp [*, errW_none, errW_some] <;> rfl), by (with_reducible repeat (first | apply Kd.V_alloc | apply Kd.V_drewN | apply Kd.V_drew)); exact Kd.V_mono (Kd.V_far (p := ⟨gb380, 1, none⟩) (Kd.V_far (p := ⟨gb380, 0, none⟩) (Kd.V_far (p := ⟨gb390, 1, none⟩) (Kd.V_far (p := ⟨gb390, 0, none⟩) (Kd.V_mono (Kd.V_mono HO389.out (fun k_ hk => (⟨hk, hk.2⟩ : _ ∧ k_ ≠ gb390))) (fun k_ hk => (⟨hk, hk.1.1.2.2⟩ : _ ∧ k_ ≠ gb380))) (fun _ hk => hk.1.2) (.bool t386)) (fun _ hk => hk.1.2) (.slice Ao71 t387.length co71)) (fun _ hk => hk.2) (.bool t386)) (fun _ hk => hk.2) (.slice Ao71 t387.length co71)) (fun _ hk => hk.1.1.1.1), belt HB⟩
  rw [if_neg c4] at H
  exact absurd H (by simp)
 rw [if_neg c3] at H
 exact absurd H (by simp)


/-! ### turnstoneref09_Nanos: function 39 -/
def turnstoneref09_Nanos.f (k : Nat) (a0_0 : Bool) (l0_1 : List Int) : Option (Bool × List Int) := (turnstoneref01_Div.f k a0_0 l0_1 1048576).bind fun bt409 => (some (bt409.1, bt409.2.1))
theorem turnstoneref09_Nanos.mono : ∀ a0 a1 k, LeO (turnstoneref09_Nanos.f k a0 a1) (turnstoneref09_Nanos.f (k + 1) a0 a1) := by
 intro a0 a1 k
 unfold turnstoneref09_Nanos.f
 repeat' first
   | (with_reducible exact turnstoneref01_Div.mono _ _ _ _)
   | (with_reducible exact LeO.refl _)
   | (with_reducible exact LeO.none _)
   | (with_reducible refine LeO.ite ?_ ?_)
   | (with_reducible refine LeO.bind ?_ (fun _ => ?_))
   | exact turnstoneref01_Div.mono _ _ _ _
   | exact LeO.none _
   | refine LeO.ite ?_ ?_
   | refine LeO.bind ?_ (fun _ => ?_)
set_option maxHeartbeats 8000000 in
set_option maxRecDepth 100000 in
theorem turnstoneref09_Nanos.calls (k : Nat) (a0_0 : Bool) (A0_1 : Option Addr) (c0_1 : Nat) (l0_1 : List Int) (r1 : Bool) (r2 : List Int) (w : World) (hr0_1 : Kd.C (Kd.int .i64) w A0_1 l0_1.length l0_1) (hc0_1 : l0_1.length ≤ c0_1) (h : turnstoneref09_Nanos.f k a0_0 l0_1 = some (r1, r2)) :
  Calls Tryz.prog 39 #[.agg #[.bool a0_0, .slice A0_1 l0_1.length c0_1]] w fun e w' => ∃ v1_ : Value, e = .returned (.agg #[.bool r1, v1_]) ∧ Kd.V (Kd.int .i64) 3 w' w.heap.size (fun k_ => (w.heap.size ≤ k_)) v1_ r2 ∧ Below w.heap.size w w' := by
 have hu51 := Tryz.underlying51
 have HR0_1 := Aside0.mk hr0_1
 have HC0_1 := Aside0.mk hc0_1
 clear hr0_1 hc0_1
 have HB := Aside0.mk (Below.refl w.heap.size w)
 have H : ((turnstoneref01_Div.f k a0_0 l0_1 1048576).bind fun bt409 => (some (bt409.1, bt409.2.1))) = some (r1, r2) := h
 clear h
 replace H := Option.bind_eq_some_iff.mp H
 obtain ⟨⟨t409, t410, t413⟩, A20, H⟩ := H
 replace H : (some (t409, t410)) = some (r1, r2) := H
 have A2 := Aside0.mk A20
 clear A20
 simp only [Option.some.injEq, Prod.mk.injEq] at H
 obtain ⟨rfl, rfl⟩ := H
 go_enter Tryz.func39, Tryz.ntmps39
 go_wp2_with (first | ((with_reducible refine gate_dst (N := 1) rfl ?_); refine box_event ?hg (N := 1) ?hd (cs := #[.bool a0_0, .slice A0_1 l0_1.length c0_1]) (t := 51) ?hr ?_; (case hd => rfl); (case hg => rfl); (case hr => first | (go_simp; done) | (go_simp; rfl)); intro gb407 hg w3 hbox hb; have BK407 := Aside0.mk (hbox); have GW407 := bels HB hg; have GE407 := bels HB hg; replace HB := belb HB hb; clear hb hbox hg) | ((with_reducible refine gate_dst (N := 2) rfl ?_); refine box_event ?hg (N := 2) ?hd (cs := #[.bool false, .slice none 0 0]) (t := 51) ?hr ?_; (case hd => rfl); (case hg => rfl); (case hr => first | (go_simp; done) | (go_simp; rfl)); intro gb408 hg w4 hbox hb; have BK408 := Aside0.mk (hbox); have GW408 := bels HB hg; have GE408 := bels HB hg; have NB407_408 := blkl BK407 hg; have NB408_407 := blkg BK407 hg; replace BK407 := blkb BK407 hb; replace HB := belb HB hb; clear hb hbox hg; have hnb5 := NB407_408.out; have hnc5 := NB408_407.out; have hcz6_0 : w4.cell? ⟨gb407, 0, none⟩ = some (.bool a0_0) := bc BK407 0; have hcz6_1 : w4.cell? ⟨gb407, 1, none⟩ = some (.slice A0_1 l0_1.length c0_1) := bc BK407 1; have hfz6_0 := blk_frozen BK407.out 0; have hfz6_1 := blk_frozen BK407.out 1) | ((with_reducible refine gate_callee (f := 66) rfl ?_); refine goesL_ (some 7) rfl rfl Tryz.func66 (by kernel_rfl) rfl #[.agg #[.bool a0_0, .slice A0_1 l0_1.length c0_1], .int .i64 1048576] rfl argt ?_; (with_reducible refine (turnstoneref01_Div.calls k a0_0 _ _ l0_1 1048576 t409 t410 t413 _ ?side1 ?side2 A2.out).mono ?_); (case side1 => exact (ct (Kd.C_below HR0_1.out HB.out))); (case side2 => exact HC0_1.out); rintro e w7 ⟨v411, rfl, ho0, hb⟩; refine ⟨_, rfl, ?_⟩; have HO412 := Aside0.mk (Kd.V_lower (Kd.V_mono (ok' := fun k_ => (w.heap.size ≤ k_) ∧ k_ ≠ gb407 ∧ k_ ≠ gb408) ho0 (fun k_ hk_ => ⟨(Nat.le_trans (below_size (belt HB)) hk_), (Kd.freshB (blkt BK407) k_ hk_), (Kd.freshB (blkt BK408) k_ hk_)⟩)) (below_size (belt HB))); replace BK407 := blkb BK407 hb; replace BK408 := blkb BK408 hb; replace HB := belb HB hb; (try clear hb); (try clear hb2); (try clear hk); (try clear hi); (try clear ho0)) | ((with_reducible refine gate_dst (N := 3) rfl ?_); refine box_event ?hg (N := 3) ?hd (cs := #[.bool false, .slice none 0 0]) (t := 51) ?hr ?_; (case hd => rfl); (case hg => rfl); (case hr => first | (go_simp; done) | (go_simp; rfl)); intro gb414 hg w8 hbox hb; replace HO412 := Aside0.mk (Kd.V_below (Kd.V_elderB (vt HO412) gb414 (Nat.le_of_eq hg.symm)) hb); have BK414 := Aside0.mk (hbox); have GW414 := bels HB hg; have GE414 := bels HB hg; have NB407_414 := blkl BK407 hg; have NB414_407 := blkg BK407 hg; have NB408_414 := blkl BK408 hg; have NB414_408 := blkg BK408 hg; replace BK407 := blkb BK407 hb; replace BK408 := blkb BK408 hb; replace HB := belb HB hb; clear hb hbox hg; have hnb9 := NB414_407.out; have hnc9 := NB407_414.out; have hnb10 := NB414_408.out; have hnc10 := NB408_414.out; have hcz11_0 : w8.cell? ⟨gb414, 0, none⟩ = some (.bool false) := bc BK414 0; have hcz11_1 : w8.cell? ⟨gb414, 1, none⟩ = some (.slice none 0 0) := bc BK414 1; have hfz11_0 := blk_frozen BK414.out 0; have hfz11_1 := blk_frozen BK414.out 1; obtain ⟨Ao12, co12, eo12⟩ := Kd.V_slice HO412.out; subst eo12; have hcz13_0 : w8.cell? ⟨gb408, 0, none⟩ = some (.bool false) := bc BK408 0; have hcz13_1 : w8.cell? ⟨gb408, 1, none⟩ = some (.slice none 0 0) := bc BK408 1; have hfz13_0 := blk_frozen BK408.out 0; have hfz13_1 := blk_frozen BK408.out 1))
 refine bodyPost_ret (results_cell_row rfl _ _ gb408 51 #[.bool t409, .slice Ao12 t410.length co12] (0, 0) _ rfl (by (with_reducible repeat (first | refine blk_drewN ?_ _ | refine blk_drew ?_ | refine blk_alloc ?_ _)); refine blk_put (cs := #[.bool t409, .slice none 0 0]) ?_ 1 _ rfl; (with_reducible repeat (first | refine blk_drewN ?_ _ | refine blk_drew ?_ | refine blk_alloc ?_ _)); refine blk_put (cs := #[.bool false, .slice none 0 0]) ?_ 0 _ rfl; (with_reducible repeat (first | refine blk_drewN ?_ _ | refine blk_drew ?_ | refine blk_alloc ?_ _)); refine blk_far ?_ NB408_414.out _; (with_reducible repeat (first | refine blk_drewN ?_ _ | refine blk_drew ?_ | refine blk_alloc ?_ _)); refine blk_far ?_ NB408_414.out _; exact blkt BK408) Tryz.underlying51 rfl (by kernel_rfl)) rfl ?_
 exact ⟨_, by first | rfl | (simp [errW_none, errW_some] <;> rfl) | (simp [*, errW_none, errW_some] <;> rfl), by (with_reducible repeat (first | apply Kd.V_alloc | apply Kd.V_drewN | apply Kd.V_drew)); exact Kd.V_mono (Kd.V_far (p := ⟨gb408, 1, none⟩) (Kd.V_far (p := ⟨gb408, 0, none⟩) (Kd.V_far (p := ⟨gb414, 1, none⟩) (Kd.V_far (p := ⟨gb414, 0, none⟩) (Kd.V_mono (Kd.V_mono HO412.out (fun k_ hk => (⟨hk, hk.2⟩ : _ ∧ k_ ≠ gb414))) (fun k_ hk => (⟨hk, hk.1.1.2.2⟩ : _ ∧ k_ ≠ gb408))) (fun _ hk => hk.1.2) (.bool t409)) (fun _ hk => hk.1.2) (.slice Ao12 t410.length co12)) (fun _ hk => hk.2) (.bool t409)) (fun _ hk => hk.2) (.slice Ao12 t410.length co12)) (fun _ hk => hk.1.1.1.1), belt HB⟩

end Go.Proofs.YtccokfebebmaeaaGreatDoor.Print
