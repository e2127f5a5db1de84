/- What each Go function that is named below answers, as a Lean function, and that its walk comes to just that: for whatever arguments that function gives an answer for. Written by a program of this session (wip/mkpr.py, pr.sh). -/
import Derived.Test.YtimgiiceipjpaaaPrint1000
import Derived.Test.YtimgiiceipjpaaaPrint1003
import Derived.Test.YtimgiiceipjpaaaPrint1007
namespace Go.Proofs.Ytimgiiceipjpaaa.Print
open Go.RowKit Go.Proofs.YtimgiiceipjpaaaW.PrintWords Go.Proofs.YtimgiiceipjpaaaW.PrintLast Go.Proofs.YtimgiiceipjpaaaW.PrintMore
attribute [local go_sem] max2_int min2_int max_two min_two max_three min_three max_four min_four   -- for this text's walks alone
open Go.Proofs.Ytimgiiceipjpaaa.Bits Go.Proofs.Ytimgiiceipjpaaa.Short
attribute [local go_sem] add64_run0 sub64_run0 add64_run sub64_run
set_option linter.unusedVariables false
set_option linter.unusedSimpArgs false

/-! ### turnstonelaw04_PosFloors: function 14 -/
mutual
def turnstonelaw04_PosFloors.l0 : Nat → Int → Int → Int → List (S67) → Int → Int → Bool → List Int → Bool → List Int → Option (Bool)
 | 0, _, _, _, _, _, _, _, _, _, _ => none
 | k + 1, x0, x5, x6, x23, x24, x25, x331000, x331001, x332000, x332001 => if x25 < x24 then (if 0 ≤ x25 then (if x25 < (x23.length : Int) then ((turnstoneref03_Since.f k ((rd_T67 x23 x25).f0) x0).bind fun bt334 => (if x25 = 0 then (turnstonelaw04_PosFloors.j1 k x0 x5 x6 x25 x23 x24 x25 true x331000 x331001 x332000 x332001 bt334.1 bt334.2) else ((turnstoneref01_Cmp.f k bt334.1 bt334.2 x331000 x331001).bind fun t339 => (turnstonelaw04_PosFloors.j1 k x0 x5 x6 x25 x23 x24 x25 (decide (t339 < 0)) x331000 x331001 x332000 x332001 bt334.1 bt334.2)))) else (none)) else (none)) else ((turnstoneref01_N.f k x5).bind fun bt342 => ((turnstoneref01_Cmp.f k bt342.1 bt342.2 x331000 x331001).bind fun t346 => (if t346 = 0 then ((turnstoneref01_N.f k x6).bind fun bt347 => ((turnstoneref01_Cmp.f k bt347.1 bt347.2 x332000 x332001).bind fun t351 => (some (t351 == 0)))) else (none))))
def turnstonelaw04_PosFloors.j1 : Nat → Int → Int → Int → Int → List (S67) → Int → Int → Bool → Bool → List Int → Bool → List Int → Bool → List Int → Option (Bool)
 | 0, _, _, _, _, _, _, _, _, _, _, _, _, _, _ => none
 | k + 1, x0, x5, x6, x9, x23, x24, x25, x41, x331000, x331001, x332000, x332001, x339000, x339001 => if x41 = true then (if x9 = 0 then (turnstonelaw04_PosFloors.l0 k x0 x5 x6 x23 x24 (wrap64 (x25 + 1)) x339000 x339001 x339000 x339001) else ((turnstoneref01_Cmp.f k x339000 x339001 x332000 x332001).bind fun t340 => (if t340 > 0 then (turnstonelaw04_PosFloors.l0 k x0 x5 x6 x23 x24 (wrap64 (x25 + 1)) x339000 x339001 x339000 x339001) else (turnstonelaw04_PosFloors.l0 k x0 x5 x6 x23 x24 (wrap64 (x25 + 1)) x339000 x339001 x332000 x332001)))) else (if x9 = 0 then (turnstonelaw04_PosFloors.l0 k x0 x5 x6 x23 x24 (wrap64 (x25 + 1)) x331000 x331001 x339000 x339001) else ((turnstoneref01_Cmp.f k x339000 x339001 x332000 x332001).bind fun t341 => (if t341 > 0 then (turnstonelaw04_PosFloors.l0 k x0 x5 x6 x23 x24 (wrap64 (x25 + 1)) x331000 x331001 x339000 x339001) else (turnstonelaw04_PosFloors.l0 k x0 x5 x6 x23 x24 (wrap64 (x25 + 1)) x331000 x331001 x332000 x332001))))
end
def turnstonelaw04_PosFloors.f (k : Nat) (a0 : Int) (l1 : List (S67)) : Option (Bool) := (turnstonelaw04_awake.f).bind fun t327 => (if t327 = true then (if (l1.length : Int) > 100 then (some true) else ((pos_Floors.f k a0 l1).bind fun bt328 => (turnstonelaw04_PosFloors.l0 k a0 bt328.1 bt328.2 l1 (l1.length : Int) 0 false ([] : List Int) false ([] : List Int)))) else (none))
theorem turnstonelaw04_PosFloors.mono_l : ∀ k, (∀ y0 y1 y2 y3 y4 y5 y6 y7 y8 y9, LeO (turnstonelaw04_PosFloors.l0 k y0 y1 y2 y3 y4 y5 y6 y7 y8 y9) (turnstonelaw04_PosFloors.l0 (k + 1) y0 y1 y2 y3 y4 y5 y6 y7 y8 y9)) ∧ (∀ y0 y1 y2 y3 y4 y5 y6 y7 y8 y9 y10 y11 y12 y13, LeO (turnstonelaw04_PosFloors.j1 k y0 y1 y2 y3 y4 y5 y6 y7 y8 y9 y10 y11 y12 y13) (turnstonelaw04_PosFloors.j1 (k + 1) y0 y1 y2 y3 y4 y5 y6 y7 y8 y9 y10 y11 y12 y13))
 | 0 => ⟨fun _ _ _ _ _ _ _ _ _ _ r h => by simp [turnstonelaw04_PosFloors.l0] at h, fun _ _ _ _ _ _ _ _ _ _ _ _ _ _ r h => by simp [turnstonelaw04_PosFloors.j1] at h⟩
 | k + 1 => by
  obtain ⟨ih0, ih1⟩ := turnstonelaw04_PosFloors.mono_l k
  refine ⟨?_, ?_⟩
  ·intro y0 y1 y2 y3 y4 y5 y6 y7 y8 y9
   unfold turnstonelaw04_PosFloors.l0
   repeat' first
   | (with_reducible exact ih0 _ _ _ _ _ _ _ _ _ _)
   | (with_reducible exact ih1 _ _ _ _ _ _ _ _ _ _ _ _ _ _)
   | (with_reducible exact pos_Floors.mono _ _ _)
   | (with_reducible exact turnstoneref01_Cmp.mono _ _ _ _ _)
   | (with_reducible exact turnstoneref01_N.mono _ _)
   | (with_reducible exact turnstoneref03_Since.mono _ _ _)
   | (with_reducible exact LeO.refl _)
   | (with_reducible exact LeO.none _)
   | (with_reducible refine LeO.ite ?_ ?_)
   | (with_reducible refine LeO.bind ?_ (fun _ => ?_))
   | exact ih0 _ _ _ _ _ _ _ _ _ _
   | exact ih1 _ _ _ _ _ _ _ _ _ _ _ _ _ _
   | exact pos_Floors.mono _ _ _
   | exact turnstoneref01_Cmp.mono _ _ _ _ _
   | exact turnstoneref01_N.mono _ _
   | exact turnstoneref03_Since.mono _ _ _
   | exact LeO.none _
   | refine LeO.ite ?_ ?_
   | refine LeO.bind ?_ (fun _ => ?_)
  intro y0 y1 y2 y3 y4 y5 y6 y7 y8 y9 y10 y11 y12 y13
  unfold turnstonelaw04_PosFloors.j1
  repeat' first
  | (with_reducible exact ih0 _ _ _ _ _ _ _ _ _ _)
  | (with_reducible exact ih1 _ _ _ _ _ _ _ _ _ _ _ _ _ _)
  | (with_reducible exact pos_Floors.mono _ _ _)
  | (with_reducible exact turnstoneref01_Cmp.mono _ _ _ _ _)
  | (with_reducible exact turnstoneref01_N.mono _ _)
  | (with_reducible exact turnstoneref03_Since.mono _ _ _)
  | (with_reducible exact LeO.refl _)
  | (with_reducible exact LeO.none _)
  | (with_reducible refine LeO.ite ?_ ?_)
  | (with_reducible refine LeO.bind ?_ (fun _ => ?_))
  | exact ih0 _ _ _ _ _ _ _ _ _ _
  | exact ih1 _ _ _ _ _ _ _ _ _ _ _ _ _ _
  | exact pos_Floors.mono _ _ _
  | exact turnstoneref01_Cmp.mono _ _ _ _ _
  | exact turnstoneref01_N.mono _ _
  | exact turnstoneref03_Since.mono _ _ _
  | exact LeO.none _
  | refine LeO.ite ?_ ?_
  | refine LeO.bind ?_ (fun _ => ?_)
theorem turnstonelaw04_PosFloors.mono : ∀ a0 a1 k, LeO (turnstonelaw04_PosFloors.f k a0 a1) (turnstonelaw04_PosFloors.f (k + 1) a0 a1) := by
 intro a0 a1 k
 obtain ⟨ih0, ih1⟩ := turnstonelaw04_PosFloors.mono_l k
 unfold turnstonelaw04_PosFloors.f
 repeat' first
   | (with_reducible exact ih0 _ _ _ _ _ _ _ _ _ _)
   | (with_reducible exact ih1 _ _ _ _ _ _ _ _ _ _ _ _ _ _)
   | (with_reducible exact pos_Floors.mono _ _ _)
   | (with_reducible exact turnstoneref01_Cmp.mono _ _ _ _ _)
   | (with_reducible exact turnstoneref01_N.mono _ _)
   | (with_reducible exact turnstoneref03_Since.mono _ _ _)
   | (with_reducible exact LeO.refl _)
   | (with_reducible exact LeO.none _)
   | (with_reducible refine LeO.ite ?_ ?_)
   | (with_reducible refine LeO.bind ?_ (fun _ => ?_))
   | exact ih0 _ _ _ _ _ _ _ _ _ _
   | exact ih1 _ _ _ _ _ _ _ _ _ _ _ _ _ _
   | exact pos_Floors.mono _ _ _
   | exact turnstoneref01_Cmp.mono _ _ _ _ _
   | exact turnstoneref01_N.mono _ _
   | exact turnstoneref03_Since.mono _ _ _
   | exact LeO.none _
   | refine LeO.ite ?_ ?_
   | refine LeO.bind ?_ (fun _ => ?_)
def turnstonelaw04_PosFloors.T16 : Bool × List (List Nat × List Nat) := (true, [([], []), ([0], [0]), ([], []), ([1, 2, 1], [1, 2]), ([3], [3]), ([4, 3], [4]), ([5], [5]), ([6, 5, 5], [5, 6]), ([5], [5]), ([7, 8, 7, 5], [5, 7, 8]), ([9, 5], [5, 9]), ([5, 10], [5, 10]), ([11, 9, 0, 1, 2, 3, 4, 5, 6, 7, 8, 9, 10, 11], [11])])
def turnstonelaw04_PosFloors.B16 : List Nat := [0, 1, 0, 7, 15, 31, 63, 127, 63, 511, 1023, 2047, 4095]
theorem turnstonelaw04_PosFloors.tab16 : rtab .any (opsOf Try.f14 16) = turnstonelaw04_PosFloors.T16 := by kernel_rfl
theorem turnstonelaw04_PosFloors.bits16 : waitsOk turnstonelaw04_PosFloors.T16.2 turnstonelaw04_PosFloors.B16 = true := by kernel_rfl
set_option maxHeartbeats 8000000 in
set_option maxRecDepth 100000 in
theorem turnstonelaw04_PosFloors.calls (k : Nat) (a0 : Int) (A1 : Option Addr) (c1 : Nat) (l1 : List (S67)) (r : Bool) (w : World) (hr1 : Kd.C k67 w A1 l1.length l1) (hc1 : l1.length ≤ c1) (h : turnstonelaw04_PosFloors.f k a0 l1 = some r) :
  Calls Try.prog 14 #[.int .u64 a0, .slice A1 l1.length c1] w fun e w' => e = .returned (.bool r) ∧ Below w.heap.size w w' := by
 have hu28 := Try.underlying28
 have hu67 := Try.underlying67
 have HR1 := Aside0.mk hr1
 have HC1 := Aside0.mk hc1
 clear hr1 hc1
 have HB := Aside0.mk (Below.refl w.heap.size w)
 have H : ((turnstonelaw04_awake.f).bind fun t327 => (if t327 = true then (if (l1.length : Int) > 100 then (some true) else ((pos_Floors.f k a0 l1).bind fun bt328 => (turnstonelaw04_PosFloors.l0 k a0 bt328.1 bt328.2 l1 (l1.length : Int) 0 false ([] : List Int) false ([] : List Int)))) else (none))) = some r := h
 clear h
 replace H := Option.bind_eq_some_iff.mp H
 obtain ⟨t327, A30, H⟩ := H
 replace H : (if t327 = true then (if (l1.length : Int) > 100 then (some true) else ((pos_Floors.f k a0 l1).bind fun bt328 => (turnstonelaw04_PosFloors.l0 k a0 bt328.1 bt328.2 l1 (l1.length : Int) 0 false ([] : List Int) false ([] : List Int)))) else (none)) = some r := H
 have A3 := Aside0.mk A30
 clear A30
 by_cases c4 : t327 = true
 ·subst c4
  have H1 : (if (l1.length : Int) > 100 then (some true) else ((pos_Floors.f k a0 l1).bind fun bt328 => (turnstonelaw04_PosFloors.l0 k a0 bt328.1 bt328.2 l1 (l1.length : Int) 0 false ([] : List Int) false ([] : List Int)))) = some r := by rw [if_pos rfl] at H; exact H
  clear H
  have H := H1
  clear H1
  by_cases c5 : (l1.length : Int) > 100
  ·rw [if_pos c5] at H
   have c5b0 : decide (100 < (l1.length : Int)) = true := decide_eq_true c5
   have c5b1 : decide (100 < l1.length) = true := decide_eq_true (by omega)
   clear c5
   obtain rfl := Option.some.inj H
   go_enter Try.func14, Try.ntmps14
   go_wp2_with (first | ((with_reducible refine gate_callee (f := 44) rfl ?_); refine goesL_ (some 12) rfl rfl Try.func44 (by kernel_rfl) rfl #[] rfl argt ?_; (with_reducible refine (turnstonelaw04_awake.calls  true _ A3.out).mono ?_); rintro e w6 ⟨rfl, hb⟩; refine ⟨_, rfl, ?_⟩; replace HB := belb HB hb; (try clear hb); (try clear hb2); (try clear hk); (try clear hi)))
   go_ret
   exact ⟨by first | rfl | (simp [errW_none, errW_some] <;> rfl) | (simp [*, errW_none, errW_some] <;> rfl), belt HB⟩
  rw [if_neg c5] at H
  have c5b0 : decide (100 < (l1.length : Int)) = false := decide_eq_false c5
  have c5b1 : decide (100 < l1.length) = false := decide_eq_false (by omega)
  clear c5
  replace H := Option.bind_eq_some_iff.mp H
  obtain ⟨⟨t328, t329⟩, A70, H⟩ := H
  replace H : (turnstonelaw04_PosFloors.l0 k a0 t328 t329 l1 (l1.length : Int) 0 false ([] : List Int) false ([] : List Int)) = some r := H
  have A7 := Aside0.mk A70
  clear A70
  have H' := Aside0.mk H
  clear H
  go_enter Try.func14, Try.ntmps14
  go_wp2_with (first | ((with_reducible refine gate_callee (f := 44) rfl ?_); refine goesL_ (some 12) rfl rfl Try.func44 (by kernel_rfl) rfl #[] rfl argt ?_; (with_reducible refine (turnstonelaw04_awake.calls  true _ A3.out).mono ?_); rintro e w8 ⟨rfl, hb⟩; refine ⟨_, rfl, ?_⟩; replace HB := belb HB hb; (try clear hb); (try clear hb2); (try clear hk); (try clear hi)) | ((with_reducible refine gate_callee (f := 49) rfl ?_); refine goesL_ (some 20) rfl rfl Try.func49 (by kernel_rfl) rfl #[.int .u64 a0, .slice A1 l1.length c1] rfl argt ?_; (with_reducible refine (pos_Floors.calls k a0 _ _ l1 t328 t329 _ ?side1 ?side2 A7.out).mono ?_); (case side1 => exact (ct (Kd.C_below HR1.out HB.out))); (case side2 => exact HC1.out); rintro e w9 ⟨rfl, hb⟩; refine ⟨_, rfl, ?_⟩; replace HB := belb HB hb; (try clear hb); (try clear hb2); (try clear hk); (try clear hi)) | ((with_reducible refine gate_dst (N := 7) rfl ?_); refine box_event ?hg (N := 7) ?hd (cs := #[.bool false, .slice none 0 0]) (t := 28) ?hr ?_; (case hd => rfl); (case hg => rfl); (case hr => first | (go_simp; done) | (go_simp; rfl)); intro gb330 hg w10 hbox hb; have BK330 := Aside0.mk (hbox); have GW330 := bels HB hg; have GE330 := bels HB hg; replace HB := belb HB hb; clear hb hbox hg) | ((with_reducible refine gate_dst (N := 8) rfl ?_); refine box_event ?hg (N := 8) ?hd (cs := #[.bool false, .slice none 0 0]) (t := 28) ?hr ?_; (case hd => rfl); (case hg => rfl); (case hr => first | (go_simp; done) | (go_simp; rfl)); intro gb331 hg w11 hbox hb; have BK331 := Aside0.mk (hbox); have GW331 := bels HB hg; have GE331 := bels HB hg; have NB330_331 := blkl BK330 hg; have NB331_330 := blkg BK330 hg; replace BK330 := blkb BK330 hb; replace HB := belb HB hb; clear hb hbox hg))
  (try simp only [Act.put, List.setIfInBounds_toArray, List.set_cons_zero, List.set_cons_succ])
  go_loopg [25] k (fun kq v25 w' => ∃ (x25_1 : Int) (x331000_1 : Bool) (x331001_1 : List Int) (x332000_1 : Bool) (x332001_1 : List Int) (u331001 : Value) (u332001 : Value), v25 = .int .i64 x25_1 ∧ Aside0 (turnstonelaw04_PosFloors.l0 kq a0 t328 t329 l1 (l1.length : Int) x25_1 x331000_1 x331001_1 x332000_1 x332001_1 = some r) ∧ Aside0 (kq ≤ k) ∧ Aside0 (Kd.V (Kd.int .i64) 3 w' w.heap.size (fun k_ => k_ ≠ gb330 ∧ k_ ≠ gb331) u331001 x331001_1) ∧ Aside0 (Kd.V (Kd.int .i64) 3 w' w.heap.size (fun k_ => k_ ≠ gb330 ∧ k_ ≠ gb331) u332001 x332001_1) ∧ Aside0 (w'.heap[gb330]? = some (.cells #[.bool x331000_1, u331001] 28 (0, 0))) ∧ Aside0 (w'.heap[gb331]? = some (.cells #[.bool x332000_1, u332001] 28 (0, 0))) ∧ Aside0 (Below w.heap.size w w'))
  case atStart => exact ⟨(0), (false), (([] : List Int)), (false), (([] : List Int)), (.slice none 0 0), (.slice none 0 0), (by first | rfl | (simp; done) | (simp [*]; done)), H', ⟨Nat.le_refl _⟩, ⟨Kd.V_nil _ _ _ _ _⟩, ⟨Kd.V_nil _ _ _ _ _⟩, ⟨blkt BK330⟩, ⟨blkt BK331⟩, ⟨belt HB⟩⟩
  case round =>
   clear H'
   try clear c1
   try clear p2
   try clear c4
   try clear c5
   try clear c5b0
   try clear c5b1
   obtain ⟨x25_1, x331000_1, x331001_1, x332000_1, x332001_1, u331001, u332001, rfl, HA, HK1, HO_331001, HO_332001, BK330, BK331, HB⟩ := hrel
   cases gk with
   | zero => exact absurd HA.out (by simp [turnstonelaw04_PosFloors.l0])
   | succ k1 =>
    have H := HA.out
    clear HA
    simp only [turnstonelaw04_PosFloors.l0] at H
    by_cases c12 : x25_1 < (l1.length : Int)
    ·rw [if_pos c12] at H
     have c12b0 : decide (x25_1 < (l1.length : Int)) = true := decide_eq_true c12
     clear c12
     by_cases c13 : 0 ≤ x25_1
     ·rw [if_pos c13] at H
      have c13b0 : decide (0 ≤ x25_1) = true := decide_eq_true c13
      clear c13
      by_cases c14 : x25_1 < (l1.length : Int)
      ·rw [if_pos c14] at H
       have c14b0 : decide (x25_1 < (l1.length : Int)) = true := decide_eq_true c14
       clear c14
       replace H := Option.bind_eq_some_iff.mp H
       obtain ⟨⟨t334, t335⟩, A150, H⟩ := H
       replace H : (if x25_1 = 0 then (turnstonelaw04_PosFloors.j1 k1 a0 t328 t329 x25_1 l1 (l1.length : Int) x25_1 true x331000_1 x331001_1 x332000_1 x332001_1 t334 t335) else ((turnstoneref01_Cmp.f k1 t334 t335 x331000_1 x331001_1).bind fun t339 => (turnstonelaw04_PosFloors.j1 k1 a0 t328 t329 x25_1 l1 (l1.length : Int) x25_1 (decide (t339 < 0)) x331000_1 x331001_1 x332000_1 x332001_1 t334 t335))) = some r := H
       have A15 := Aside0.mk A150
       clear A150
       have HC16 := Aside0.mk H
       clear H
       have p332 : 0 ≤ (x25_1 : Int) := of_decide_eq_true (by first | (with_reducible assumption) | assumption)
       have q332 : x25_1 < (l1.length : Int) := of_decide_eq_true (by first | (with_reducible assumption) | assumption)
       obtain ⟨ad332, e332, hx332_0, hx332_1, hx332_2⟩ := at_T67 HR1.out x25_1 p332 q332
       cases e332
       replace hx332_0 := (HB.out.cell (World.block_lt_of_cell? w _ hx332_0)).trans hx332_0
       replace hx332_1 := (HB.out.cell (World.block_lt_of_cell? w _ hx332_1)).trans hx332_1
       replace hx332_2 := (HB.out.cell (World.block_lt_of_cell? w _ hx332_2)).trans hx332_2
       replace p332 := eq_true p332
       replace q332 := eq_true q332
       go_upto_region 11 with (first | ((with_reducible refine gate_dst (N := 10) rfl ?_); refine box_event ?hg (N := 10) ?hd (cs := #[.int .u64 0, .int .u32 0, .int .u32 0]) (t := 67) ?hr ?_; (case hd => rfl); (case hg => rfl); (case hr => first | (go_simp; done) | (go_simp; rfl)); intro gb333 hg w17 hbox hb; replace HO_331001 := Aside0.mk (Kd.V_below (Kd.V_elderB (vt HO_331001) gb333 (Nat.le_of_eq hg.symm)) hb); replace HO_332001 := Aside0.mk (Kd.V_below (Kd.V_elderB (vt HO_332001) gb333 (Nat.le_of_eq hg.symm)) hb); have BK333 := Aside0.mk (hbox); have GW333 := bels HB hg; have GE333 := bels HB hg; have NB330_333 := blkl BK330 hg; have NB333_330 := blkg BK330 hg; have NB331_333 := blkl BK331 hg; have NB333_331 := blkg BK331 hg; replace BK330 := blkb BK330 hb; replace BK331 := blkb BK331 hb; replace HB := belb HB hb; clear hb hbox hg; have hnb18 := NB333_330.out; have hnc18 := NB330_333.out; have hnb19 := NB333_331.out; have hnc19 := NB331_333.out; have hcz20_0 : w17.cell? ⟨gb333, 0, none⟩ = some (.int .u64 0) := bc BK333 0; have hcz20_1 : w17.cell? ⟨gb333, 1, none⟩ = some (.int .u32 0) := bc BK333 1; have hcz20_2 : w17.cell? ⟨gb333, 2, none⟩ = some (.int .u32 0) := bc BK333 2; have hfz20_0 := blk_frozen BK333.out 0; have hfz20_1 := blk_frozen BK333.out 1; have hfz20_2 := blk_frozen BK333.out 2) | ((with_reducible refine gate_callee (f := 21) rfl ?_); refine goesL_ (some 33) rfl rfl Try.func21 (by kernel_rfl) rfl #[.int .u64 ((rd_T67 l1 x25_1).f0), .int .u64 a0] rfl argt ?_; (with_reducible refine (turnstoneref03_Since.calls k1 ((rd_T67 l1 x25_1).f0) a0 t334 t335 _ A15.out).mono ?_); rintro e w21 ⟨v336, rfl, ho0, hb⟩; refine ⟨_, rfl, ?_⟩; replace HO_331001 := Aside0.mk (Kd.V_below (by (with_reducible repeat (first | apply Kd.V_alloc | apply Kd.V_drewN | apply Kd.V_drew)); exact (Kd.V_mono (Kd.V_far (p := ⟨gb333, 2, none⟩) (Kd.V_far (p := ⟨gb333, 1, none⟩) (Kd.V_far (p := ⟨gb333, 0, none⟩) (Kd.V_mono HO_331001.out (fun k_ hk => (⟨hk, hk.2⟩ : _ ∧ k_ ≠ gb333))) (fun _ hk => hk.2) (.int .u64 ((rd_T67 l1 x25_1).f0))) (fun _ hk => hk.2) (.int .u32 ((rd_T67 l1 x25_1).f1))) (fun _ hk => hk.2) (.int .u32 ((rd_T67 l1 x25_1).f2))) (fun _ h_ => h_.1))) hb); replace HO_332001 := Aside0.mk (Kd.V_below (by (with_reducible repeat (first | apply Kd.V_alloc | apply Kd.V_drewN | apply Kd.V_drew)); exact (Kd.V_mono (Kd.V_far (p := ⟨gb333, 2, none⟩) (Kd.V_far (p := ⟨gb333, 1, none⟩) (Kd.V_far (p := ⟨gb333, 0, none⟩) (Kd.V_mono HO_332001.out (fun k_ hk => (⟨hk, hk.2⟩ : _ ∧ k_ ≠ gb333))) (fun _ hk => hk.2) (.int .u64 ((rd_T67 l1 x25_1).f0))) (fun _ hk => hk.2) (.int .u32 ((rd_T67 l1 x25_1).f1))) (fun _ hk => hk.2) (.int .u32 ((rd_T67 l1 x25_1).f2))) (fun _ h_ => h_.1))) hb); have HO337 := Aside0.mk (Kd.V_lower (Kd.V_mono (ok' := fun k_ => k_ ≠ gb330 ∧ k_ ≠ gb331 ∧ k_ ≠ gb333) ho0 (fun k_ hk_ => ⟨(Kd.freshB (g := gb330) (o := .cells #[.bool x331000_1, u331001] 28 (0, 0)) (by (with_reducible repeat (first | refine blk_drewN ?_ _ | refine blk_drew ?_ | refine blk_alloc ?_ _)); refine blk_far ?_ NB330_333.out _; (with_reducible repeat (first | refine blk_drewN ?_ _ | refine blk_drew ?_ | refine blk_alloc ?_ _)); refine blk_far ?_ NB330_333.out _; (with_reducible repeat (first | refine blk_drewN ?_ _ | refine blk_drew ?_ | refine blk_alloc ?_ _)); refine blk_far ?_ NB330_333.out _; exact blkt BK330) k_ hk_), (Kd.freshB (g := gb331) (o := .cells #[.bool x332000_1, u332001] 28 (0, 0)) (by (with_reducible repeat (first | refine blk_drewN ?_ _ | refine blk_drew ?_ | refine blk_alloc ?_ _)); refine blk_far ?_ NB331_333.out _; (with_reducible repeat (first | refine blk_drewN ?_ _ | refine blk_drew ?_ | refine blk_alloc ?_ _)); refine blk_far ?_ NB331_333.out _; (with_reducible repeat (first | refine blk_drewN ?_ _ | refine blk_drew ?_ | refine blk_alloc ?_ _)); refine blk_far ?_ NB331_333.out _; exact blkt BK331) k_ hk_), (Kd.freshB (g := gb333) (o := .cells #[.int .u64 ((rd_T67 l1 x25_1).f0), .int .u32 ((rd_T67 l1 x25_1).f1), .int .u32 ((rd_T67 l1 x25_1).f2)] 67 (0, 0)) (by (with_reducible repeat (first | refine blk_drewN ?_ _ | refine blk_drew ?_ | refine blk_alloc ?_ _)); refine blk_put (cs := #[.int .u64 ((rd_T67 l1 x25_1).f0), .int .u32 ((rd_T67 l1 x25_1).f1), .int .u32 0]) ?_ 2 _ rfl; (with_reducible repeat (first | refine blk_drewN ?_ _ | refine blk_drew ?_ | refine blk_alloc ?_ _)); refine blk_put (cs := #[.int .u64 ((rd_T67 l1 x25_1).f0), .int .u32 0, .int .u32 0]) ?_ 1 _ rfl; (with_reducible repeat (first | refine blk_drewN ?_ _ | refine blk_drew ?_ | refine blk_alloc ?_ _)); refine blk_put (cs := #[.int .u64 0, .int .u32 0, .int .u32 0]) ?_ 0 _ rfl; exact blkt BK333) k_ hk_)⟩)) (below_size (belt HB))); replace BK330 := Aside0.mk (blk_below (g := gb330) (o := .cells #[.bool x331000_1, u331001] 28 (0, 0)) (by (with_reducible repeat (first | refine blk_drewN ?_ _ | refine blk_drew ?_ | refine blk_alloc ?_ _)); refine blk_far ?_ NB330_333.out _; (with_reducible repeat (first | refine blk_drewN ?_ _ | refine blk_drew ?_ | refine blk_alloc ?_ _)); refine blk_far ?_ NB330_333.out _; (with_reducible repeat (first | refine blk_drewN ?_ _ | refine blk_drew ?_ | refine blk_alloc ?_ _)); refine blk_far ?_ NB330_333.out _; exact blkt BK330) hb); replace BK331 := Aside0.mk (blk_below (g := gb331) (o := .cells #[.bool x332000_1, u332001] 28 (0, 0)) (by (with_reducible repeat (first | refine blk_drewN ?_ _ | refine blk_drew ?_ | refine blk_alloc ?_ _)); refine blk_far ?_ NB331_333.out _; (with_reducible repeat (first | refine blk_drewN ?_ _ | refine blk_drew ?_ | refine blk_alloc ?_ _)); refine blk_far ?_ NB331_333.out _; (with_reducible repeat (first | refine blk_drewN ?_ _ | refine blk_drew ?_ | refine blk_alloc ?_ _)); refine blk_far ?_ NB331_333.out _; exact blkt BK331) hb); replace BK333 := Aside0.mk (blk_below (g := gb333) (o := .cells #[.int .u64 ((rd_T67 l1 x25_1).f0), .int .u32 ((rd_T67 l1 x25_1).f1), .int .u32 ((rd_T67 l1 x25_1).f2)] 67 (0, 0)) (by (with_reducible repeat (first | refine blk_drewN ?_ _ | refine blk_drew ?_ | refine blk_alloc ?_ _)); refine blk_put (cs := #[.int .u64 ((rd_T67 l1 x25_1).f0), .int .u32 ((rd_T67 l1 x25_1).f1), .int .u32 0]) ?_ 2 _ rfl; (with_reducible repeat (first | refine blk_drewN ?_ _ | refine blk_drew ?_ | refine blk_alloc ?_ _)); refine blk_put (cs := #[.int .u64 ((rd_T67 l1 x25_1).f0), .int .u32 0, .int .u32 0]) ?_ 1 _ rfl; (with_reducible repeat (first | refine blk_drewN ?_ _ | refine blk_drew ?_ | refine blk_alloc ?_ _)); refine blk_put (cs := #[.int .u64 0, .int .u32 0, .int .u32 0]) ?_ 0 _ rfl; exact blkt BK333) hb); replace HB := belb HB hb; (try clear hb); (try clear hb2); (try clear hk); (try clear hi); (try clear ho0)) | ((with_reducible refine gate_dst (N := 11) rfl ?_); refine box_event ?hg (N := 11) ?hd (cs := #[.bool false, .slice none 0 0]) (t := 28) ?hr ?_; (case hd => rfl); (case hg => rfl); (case hr => first | (go_simp; done) | (go_simp; rfl)); intro gb338 hg w22 hbox hb; replace HO_331001 := Aside0.mk (Kd.V_below (Kd.V_elderB (vt HO_331001) gb338 (Nat.le_of_eq hg.symm)) hb); replace HO_332001 := Aside0.mk (Kd.V_below (Kd.V_elderB (vt HO_332001) gb338 (Nat.le_of_eq hg.symm)) hb); replace HO337 := Aside0.mk (Kd.V_below (Kd.V_elderB (vt HO337) gb338 (Nat.le_of_eq hg.symm)) hb); have BK338 := Aside0.mk (hbox); have GW338 := bels HB hg; have GE338 := bels HB hg; have NB330_338 := blkl BK330 hg; have NB338_330 := blkg BK330 hg; have NB331_338 := blkl BK331 hg; have NB338_331 := blkg BK331 hg; have NB333_338 := blkl BK333 hg; have NB338_333 := blkg BK333 hg; replace BK330 := blkb BK330 hb; replace BK331 := blkb BK331 hb; replace BK333 := blkb BK333 hb; replace HB := belb HB hb; clear hb hbox hg; have hnb23 := NB338_330.out; have hnc23 := NB330_338.out; have hnb24 := NB338_331.out; have hnc24 := NB331_338.out; have hnb25 := NB338_333.out; have hnc25 := NB333_338.out; have hcz26_0 : w22.cell? ⟨gb338, 0, none⟩ = some (.bool false) := bc BK338 0; have hcz26_1 : w22.cell? ⟨gb338, 1, none⟩ = some (.slice none 0 0) := bc BK338 1; have hfz26_0 := blk_frozen BK338.out 0; have hfz26_1 := blk_frozen BK338.out 1; obtain ⟨Ao27, co27, eo27⟩ := Kd.V_slice HO337.out; subst eo27))
       (try simp only [Act.put, List.setIfInBounds_toArray, List.set_cons_zero, List.set_cons_succ])
       go_cut [41] (fun v41 wc => ∃ (kq : Nat) (x41_15 : Bool), v41 = .bool x41_15 ∧ Aside0 (turnstonelaw04_PosFloors.j1 kq a0 t328 t329 x25_1 l1 (l1.length : Int) x25_1 x41_15 x331000_1 x331001_1 x332000_1 x332001_1 t334 t335 = some r) ∧ Aside0 (kq ≤ k1) ∧ Aside0 (Kd.V (Kd.int .i64) 3 wc w.heap.size (fun k_ => k_ ≠ gb330 ∧ k_ ≠ gb331 ∧ k_ ≠ gb333 ∧ k_ ≠ gb338) u331001 x331001_1) ∧ Aside0 (Kd.V (Kd.int .i64) 3 wc w.heap.size (fun k_ => k_ ≠ gb330 ∧ k_ ≠ gb331 ∧ k_ ≠ gb333 ∧ k_ ≠ gb338) u332001 x332001_1) ∧ Aside0 (Kd.V (Kd.int .i64) 3 wc w.heap.size (fun k_ => k_ ≠ gb330 ∧ k_ ≠ gb331 ∧ k_ ≠ gb333 ∧ k_ ≠ gb338) (.slice Ao27 t335.length co27) t335) ∧ Aside0 (wc.heap[gb330]? = some (.cells #[.bool x331000_1, u331001] 28 (0, 0))) ∧ Aside0 (wc.heap[gb331]? = some (.cells #[.bool x332000_1, u332001] 28 (0, 0))) ∧ Aside0 (wc.heap[gb333]? = some (.cells #[.int .u64 ((rd_T67 l1 x25_1).f0), .int .u32 ((rd_T67 l1 x25_1).f1), .int .u32 ((rd_T67 l1 x25_1).f2)] 67 (0, 0))) ∧ Aside0 (wc.heap[gb338]? = some (.cells #[.bool t334, (.slice Ao27 t335.length co27)] 28 (0, 0))) ∧ Aside0 (Below w.heap.size w wc))
       case first =>
        have H := HC16.out
        clear HC16
        by_cases c28 : x25_1 = 0
        ·rw [if_pos c28] at H
         have c28b0 : (x25_1 == 0) = true := beq_iff_eq.mpr c28
         have c28b1 : (x25_1 != 0) = false := bne_eq_false_iff_eq.mpr c28
         clear c28
         (first | rw [c28b0] | (simp only [i64_w, i32_w]; rw [c28b0]) | skip)
         have H' := Aside0.mk H
         clear H
         go_wp2
         go_meet
         case rel => exact ⟨_, (true), (by first | rfl | (simp; done) | (simp [*]; done)), H', ⟨by have := HK1.out; first | omega | exact Nat.le_refl _⟩, ⟨by (with_reducible repeat (first | apply Kd.V_alloc | apply Kd.V_drewN | apply Kd.V_drew)); exact Kd.V_mono (Kd.V_far (p := ⟨gb338, 1, none⟩) (Kd.V_far (p := ⟨gb338, 0, none⟩) (Kd.V_mono HO_331001.out (fun k_ hk => (⟨hk, hk.2⟩ : _ ∧ k_ ≠ gb338))) (fun _ hk => hk.2) (.bool t334)) (fun _ hk => hk.2) (.slice Ao27 t335.length co27)) (fun _ hk => ⟨hk.1.1.1.1, ⟨hk.1.1.1.2, ⟨hk.1.1.2, hk.1.2⟩⟩⟩)⟩, ⟨by (with_reducible repeat (first | apply Kd.V_alloc | apply Kd.V_drewN | apply Kd.V_drew)); exact Kd.V_mono (Kd.V_far (p := ⟨gb338, 1, none⟩) (Kd.V_far (p := ⟨gb338, 0, none⟩) (Kd.V_mono HO_332001.out (fun k_ hk => (⟨hk, hk.2⟩ : _ ∧ k_ ≠ gb338))) (fun _ hk => hk.2) (.bool t334)) (fun _ hk => hk.2) (.slice Ao27 t335.length co27)) (fun _ hk => ⟨hk.1.1.1.1, ⟨hk.1.1.1.2, ⟨hk.1.1.2, hk.1.2⟩⟩⟩)⟩, ⟨by (with_reducible repeat (first | apply Kd.V_alloc | apply Kd.V_drewN | apply Kd.V_drew)); exact Kd.V_mono (Kd.V_far (p := ⟨gb338, 1, none⟩) (Kd.V_far (p := ⟨gb338, 0, none⟩) (Kd.V_mono HO337.out (fun k_ hk => (⟨hk, hk.2⟩ : _ ∧ k_ ≠ gb338))) (fun _ hk => hk.2) (.bool t334)) (fun _ hk => hk.2) (.slice Ao27 t335.length co27)) (fun _ hk => ⟨hk.1.1.1, ⟨hk.1.1.2.1, ⟨hk.1.1.2.2, hk.1.2⟩⟩⟩)⟩, ⟨by (with_reducible repeat (first | refine blk_drewN ?_ _ | refine blk_drew ?_ | refine blk_alloc ?_ _)); refine blk_far ?_ NB330_338.out _; (with_reducible repeat (first | refine blk_drewN ?_ _ | refine blk_drew ?_ | refine blk_alloc ?_ _)); refine blk_far ?_ NB330_338.out _; exact blkt BK330⟩, ⟨by (with_reducible repeat (first | refine blk_drewN ?_ _ | refine blk_drew ?_ | refine blk_alloc ?_ _)); refine blk_far ?_ NB331_338.out _; (with_reducible repeat (first | refine blk_drewN ?_ _ | refine blk_drew ?_ | refine blk_alloc ?_ _)); refine blk_far ?_ NB331_338.out _; exact blkt BK331⟩, ⟨by (with_reducible repeat (first | refine blk_drewN ?_ _ | refine blk_drew ?_ | refine blk_alloc ?_ _)); refine blk_far ?_ NB333_338.out _; (with_reducible repeat (first | refine blk_drewN ?_ _ | refine blk_drew ?_ | refine blk_alloc ?_ _)); refine blk_far ?_ NB333_338.out _; exact blkt BK333⟩, ⟨by (with_reducible repeat (first | refine blk_drewN ?_ _ | refine blk_drew ?_ | refine blk_alloc ?_ _)); refine blk_put (cs := #[.bool t334, .slice none 0 0]) ?_ 1 _ rfl; (with_reducible repeat (first | refine blk_drewN ?_ _ | refine blk_drew ?_ | refine blk_alloc ?_ _)); refine blk_put (cs := #[.bool false, .slice none 0 0]) ?_ 0 _ rfl; exact blkt BK338⟩, ⟨belt HB⟩⟩
        rw [if_neg c28] at H
        have c28b0 : (x25_1 == 0) = false := beq_eq_false_iff_ne.mpr c28
        have c28b1 : (x25_1 != 0) = true := bne_iff_ne.mpr c28
        (first | rw [c28b0] | (simp only [i64_w, i32_w]; rw [c28b0]) | skip)
        replace H := Option.bind_eq_some_iff.mp H
        obtain ⟨t339, A290, H⟩ := H
        replace H : (turnstonelaw04_PosFloors.j1 k1 a0 t328 t329 x25_1 l1 (l1.length : Int) x25_1 (decide (t339 < 0)) x331000_1 x331001_1 x332000_1 x332001_1 t334 t335) = some r := H
        have A29 := Aside0.mk A290
        clear A290
        have H' := Aside0.mk H
        clear H
        have hnb30 := NB338_330.out
        have hnc30 := NB330_338.out
        have hnb31 := NB338_331.out
        have hnc31 := NB331_338.out
        have hnb32 := NB338_333.out
        have hnc32 := NB333_338.out
        have hcz33_0 : w22.cell? ⟨gb338, 0, none⟩ = some (.bool false) := bc BK338 0
        have hcz33_1 : w22.cell? ⟨gb338, 1, none⟩ = some (.slice none 0 0) := bc BK338 1
        have hfz33_0 := blk_frozen BK338.out 0
        have hfz33_1 := blk_frozen BK338.out 1
        have hnb34 := NB330_331.out
        have hnc34 := NB331_330.out
        have hnb35 := NB330_333.out
        have hnc35 := NB333_330.out
        have hcz36_0 : w22.cell? ⟨gb330, 0, none⟩ = some (.bool x331000_1) := bc BK330 0
        have hcz36_1 : w22.cell? ⟨gb330, 1, none⟩ = some (u331001) := bc BK330 1
        have hfz36_0 := blk_frozen BK330.out 0
        have hfz36_1 := blk_frozen BK330.out 1
        obtain ⟨Ao37, co37, eo37⟩ := Kd.V_slice HO_331001.out
        subst eo37
        go_wp2_with (first | (go_at_call 18; (with_reducible refine (turnstoneref01_Cmp.calls k1 t334 _ _ t335 x331000_1 _ _ x331001_1 t339 _ ?side1 ?side2 ?side3 ?side4 A29.out).mono ?_); (case side1 => refine (Kd.V_reads' (e := 3) (base := w.heap.size) (ok := fun k_ => ((k_ ≠ gb330 ∧ (k_ ≠ gb331 ∧ k_ ≠ gb333)) ∧ k_ ≠ gb338)) (n := t335.length) (c := co27) ?_).2.2; exact (by (with_reducible repeat (first | apply Kd.V_alloc | apply Kd.V_drewN | apply Kd.V_drew)); exact (Kd.V_mono (Kd.V_far (p := ⟨gb338, 1, none⟩) (Kd.V_far (p := ⟨gb338, 0, none⟩) (Kd.V_mono HO337.out (fun k_ hk => (⟨hk, hk.2⟩ : _ ∧ k_ ≠ gb338))) (fun _ hk => hk.2) (.bool t334)) (fun _ hk => hk.2) (.slice Ao27 t335.length co27)) (fun _ h_ => h_.1)))); (case side2 => exact (Kd.V_reads' HO337.out).2.1); (case side3 => refine (Kd.V_reads' (e := 3) (base := w.heap.size) (ok := fun k_ => (((k_ ≠ gb330 ∧ k_ ≠ gb331) ∧ k_ ≠ gb333) ∧ k_ ≠ gb338)) (n := x331001_1.length) (c := co37) ?_).2.2; exact (by (with_reducible repeat (first | apply Kd.V_alloc | apply Kd.V_drewN | apply Kd.V_drew)); exact (Kd.V_mono (Kd.V_far (p := ⟨gb338, 1, none⟩) (Kd.V_far (p := ⟨gb338, 0, none⟩) (Kd.V_mono HO_331001.out (fun k_ hk => (⟨hk, hk.2⟩ : _ ∧ k_ ≠ gb338))) (fun _ hk => hk.2) (.bool t334)) (fun _ hk => hk.2) (.slice Ao27 t335.length co27)) (fun _ h_ => h_.1)))); (case side4 => exact (Kd.V_reads' HO_331001.out).2.1); rintro e w38 ⟨rfl, hb⟩; replace HO_331001 := Aside0.mk (Kd.V_below (by (with_reducible repeat (first | apply Kd.V_alloc | apply Kd.V_drewN | apply Kd.V_drew)); exact (Kd.V_mono (Kd.V_far (p := ⟨gb338, 1, none⟩) (Kd.V_far (p := ⟨gb338, 0, none⟩) (Kd.V_mono HO_331001.out (fun k_ hk => (⟨hk, hk.2⟩ : _ ∧ k_ ≠ gb338))) (fun _ hk => hk.2) (.bool t334)) (fun _ hk => hk.2) (.slice Ao27 t335.length co27)) (fun _ h_ => h_.1))) hb); replace HO_332001 := Aside0.mk (Kd.V_below (by (with_reducible repeat (first | apply Kd.V_alloc | apply Kd.V_drewN | apply Kd.V_drew)); exact (Kd.V_mono (Kd.V_far (p := ⟨gb338, 1, none⟩) (Kd.V_far (p := ⟨gb338, 0, none⟩) (Kd.V_mono HO_332001.out (fun k_ hk => (⟨hk, hk.2⟩ : _ ∧ k_ ≠ gb338))) (fun _ hk => hk.2) (.bool t334)) (fun _ hk => hk.2) (.slice Ao27 t335.length co27)) (fun _ h_ => h_.1))) hb); replace HO337 := Aside0.mk (Kd.V_below (by (with_reducible repeat (first | apply Kd.V_alloc | apply Kd.V_drewN | apply Kd.V_drew)); exact (Kd.V_mono (Kd.V_far (p := ⟨gb338, 1, none⟩) (Kd.V_far (p := ⟨gb338, 0, none⟩) (Kd.V_mono HO337.out (fun k_ hk => (⟨hk, hk.2⟩ : _ ∧ k_ ≠ gb338))) (fun _ hk => hk.2) (.bool t334)) (fun _ hk => hk.2) (.slice Ao27 t335.length co27)) (fun _ h_ => h_.1))) hb); replace BK330 := Aside0.mk (blk_below (g := gb330) (o := .cells #[.bool x331000_1, .slice Ao37 x331001_1.length co37] 28 (0, 0)) (by (with_reducible repeat (first | refine blk_drewN ?_ _ | refine blk_drew ?_ | refine blk_alloc ?_ _)); refine blk_far ?_ NB330_338.out _; (with_reducible repeat (first | refine blk_drewN ?_ _ | refine blk_drew ?_ | refine blk_alloc ?_ _)); refine blk_far ?_ NB330_338.out _; exact blkt BK330) hb); replace BK331 := Aside0.mk (blk_below (g := gb331) (o := .cells #[.bool x332000_1, u332001] 28 (0, 0)) (by (with_reducible repeat (first | refine blk_drewN ?_ _ | refine blk_drew ?_ | refine blk_alloc ?_ _)); refine blk_far ?_ NB331_338.out _; (with_reducible repeat (first | refine blk_drewN ?_ _ | refine blk_drew ?_ | refine blk_alloc ?_ _)); refine blk_far ?_ NB331_338.out _; exact blkt BK331) hb); replace BK333 := Aside0.mk (blk_below (g := gb333) (o := .cells #[.int .u64 ((rd_T67 l1 x25_1).f0), .int .u32 ((rd_T67 l1 x25_1).f1), .int .u32 ((rd_T67 l1 x25_1).f2)] 67 (0, 0)) (by (with_reducible repeat (first | refine blk_drewN ?_ _ | refine blk_drew ?_ | refine blk_alloc ?_ _)); refine blk_far ?_ NB333_338.out _; (with_reducible repeat (first | refine blk_drewN ?_ _ | refine blk_drew ?_ | refine blk_alloc ?_ _)); refine blk_far ?_ NB333_338.out _; exact blkt BK333) hb); replace BK338 := Aside0.mk (blk_below (g := gb338) (o := .cells #[.bool t334, .slice Ao27 t335.length co27] 28 (0, 0)) (by (with_reducible repeat (first | refine blk_drewN ?_ _ | refine blk_drew ?_ | refine blk_alloc ?_ _)); refine blk_put (cs := #[.bool t334, .slice none 0 0]) ?_ 1 _ rfl; (with_reducible repeat (first | refine blk_drewN ?_ _ | refine blk_drew ?_ | refine blk_alloc ?_ _)); refine blk_put (cs := #[.bool false, .slice none 0 0]) ?_ 0 _ rfl; exact blkt BK338) hb); replace HB := belb HB hb; (try clear hb); (try clear hb2); (try clear hk); (try clear hi)))
        go_meet
        case rel => exact ⟨_, (decide (t339 < 0)), (by first | rfl | (simp; done) | (simp [*]; done)), H', ⟨by have := HK1.out; first | omega | exact Nat.le_refl _⟩, ⟨by (with_reducible repeat (first | apply Kd.V_alloc | apply Kd.V_drewN | apply Kd.V_drew)); exact Kd.V_mono HO_331001.out (fun _ hk => ⟨hk.1.1.1, ⟨hk.1.1.2, ⟨hk.1.2, hk.2⟩⟩⟩)⟩, ⟨by (with_reducible repeat (first | apply Kd.V_alloc | apply Kd.V_drewN | apply Kd.V_drew)); exact Kd.V_mono HO_332001.out (fun _ hk => ⟨hk.1.1.1, ⟨hk.1.1.2, ⟨hk.1.2, hk.2⟩⟩⟩)⟩, ⟨by (with_reducible repeat (first | apply Kd.V_alloc | apply Kd.V_drewN | apply Kd.V_drew)); exact Kd.V_mono HO337.out (fun _ hk => ⟨hk.1.1, ⟨hk.1.2.1, ⟨hk.1.2.2, hk.2⟩⟩⟩)⟩, ⟨blkt BK330⟩, ⟨blkt BK331⟩, ⟨blkt BK333⟩, ⟨blkt BK338⟩, ⟨belt HB⟩⟩
       case rest =>
        clear HC16
        try clear c1
        try clear c2
        try clear p2
        try clear c3
        try clear p3
        try clear q3
        try clear hx3
        try clear c4
        try clear c5
        try clear c5b0
        try clear c5b1
        try clear c12
        try clear c12b0
        try clear c13
        try clear c13b0
        try clear c14
        try clear c14b0
        try clear c18
        try clear c19
        try clear c21
        try clear c23
        try clear c24
        try clear c25
        try clear c28
        try clear c28b0
        try clear c28b1
        try clear c30
        try clear c31
        try clear c32
        try clear p33
        try clear q33
        try clear hx33
        try clear c34
        try clear c35
        try clear hcz20_0
        try clear hcz20_1
        try clear hcz20_2
        try clear hcz26_0
        try clear hcz26_1
        try clear hcz33_0
        try clear hcz33_1
        try clear hcz36_0
        try clear hcz36_1
        try clear hfz20_0
        try clear hfz20_1
        try clear hfz20_2
        try clear hfz26_0
        try clear hfz26_1
        try clear hfz33_0
        try clear hfz33_1
        try clear hfz36_0
        try clear hfz36_1
        try clear hx332_0
        try clear hx332_1
        try clear hx332_2
        try clear p2
        try clear p332
        try clear q332
        obtain ⟨kq, x41_15, rfl, HA, HJ15, HO_331001, HO_332001, HO_339001, BK330, BK331, BK333, BK338, HB⟩ := hcut
        cases kq with
        | zero => exact absurd HA.out (by simp [turnstonelaw04_PosFloors.j1])
        | succ kj15 =>
         have H := HA.out
         clear HA
         simp only [turnstonelaw04_PosFloors.j1] at H
         by_cases c39 : x41_15 = true
         ·subst c39
          have H1 : (if x25_1 = 0 then (turnstonelaw04_PosFloors.l0 kj15 a0 t328 t329 l1 (l1.length : Int) (wrap64 (x25_1 + 1)) t334 t335 t334 t335) else ((turnstoneref01_Cmp.f kj15 t334 t335 x332000_1 x332001_1).bind fun t340 => (if t340 > 0 then (turnstonelaw04_PosFloors.l0 kj15 a0 t328 t329 l1 (l1.length : Int) (wrap64 (x25_1 + 1)) t334 t335 t334 t335) else (turnstonelaw04_PosFloors.l0 kj15 a0 t328 t329 l1 (l1.length : Int) (wrap64 (x25_1 + 1)) t334 t335 x332000_1 x332001_1)))) = some r := by rw [if_pos rfl] at H; exact H
          clear H
          have H := H1
          clear H1
          by_cases c40 : x25_1 = 0
          ·rw [if_pos c40] at H
           have c40b0 : (x25_1 == 0) = true := beq_iff_eq.mpr c40
           have c40b1 : (x25_1 != 0) = false := bne_eq_false_iff_eq.mpr c40
           clear c40
           have H' := Aside0.mk H
           clear H
           have hnb41 := NB338_330.out
           have hnc41 := NB330_338.out
           have hnb42 := NB338_331.out
           have hnc42 := NB331_338.out
           have hnb43 := NB338_333.out
           have hnc43 := NB333_338.out
           have hcz44_0 : wc.cell? ⟨gb338, 0, none⟩ = some (.bool t334) := bc BK338 0
           have hcz44_1 : wc.cell? ⟨gb338, 1, none⟩ = some (.slice Ao27 t335.length co27) := bc BK338 1
           have hfz44_0 := blk_frozen BK338.out 0
           have hfz44_1 := blk_frozen BK338.out 1
           have hnb45 := NB330_331.out
           have hnc45 := NB331_330.out
           have hnb46 := NB330_333.out
           have hnc46 := NB333_330.out
           have hcz47_0 : wc.cell? ⟨gb330, 0, none⟩ = some (.bool x331000_1) := bc BK330 0
           have hcz47_1 : wc.cell? ⟨gb330, 1, none⟩ = some (u331001) := bc BK330 1
           have hfz47_0 := blk_frozen BK330.out 0
           have hfz47_1 := blk_frozen BK330.out 1
           have hnb48 := NB331_333.out
           have hnc48 := NB333_331.out
           have hcz49_0 : wc.cell? ⟨gb331, 0, none⟩ = some (.bool x332000_1) := bc BK331 0
           have hcz49_1 : wc.cell? ⟨gb331, 1, none⟩ = some (u332001) := bc BK331 1
           have hfz49_0 := blk_frozen BK331.out 0
           have hfz49_1 := blk_frozen BK331.out 1
           go_wp2
           go_roundg kj15
           case measure => have := HK1.out; have := HJ15.out; omega
           case rel => exact ⟨(wrap64 (x25_1 + 1)), (t334), (t335), (t334), (t335), (.slice Ao27 t335.length co27), (.slice Ao27 t335.length co27), (by first | rfl | (simp; done) | (simp [*]; done)), H', ⟨by have := HK1.out; have := HJ15.out; omega⟩, ⟨by (with_reducible repeat (first | apply Kd.V_alloc | apply Kd.V_drewN | apply Kd.V_drew)); exact Kd.V_mono (Kd.V_far (p := ⟨gb331, 1, none⟩) (Kd.V_far (p := ⟨gb331, 0, none⟩) (Kd.V_far (p := ⟨gb330, 1, none⟩) (Kd.V_far (p := ⟨gb330, 0, none⟩) (Kd.V_mono (Kd.V_mono HO_339001.out (fun k_ hk => (⟨hk, hk.1⟩ : _ ∧ k_ ≠ gb330))) (fun k_ hk => (⟨hk, hk.1.2.1⟩ : _ ∧ k_ ≠ gb331))) (fun _ hk => hk.1.2) (.bool t334)) (fun _ hk => hk.1.2) (.slice Ao27 t335.length co27)) (fun _ hk => hk.2) (.bool t334)) (fun _ hk => hk.2) (.slice Ao27 t335.length co27)) (fun _ hk => ⟨hk.1.1.1, hk.1.1.2.1⟩)⟩, ⟨by (with_reducible repeat (first | apply Kd.V_alloc | apply Kd.V_drewN | apply Kd.V_drew)); exact Kd.V_mono (Kd.V_far (p := ⟨gb331, 1, none⟩) (Kd.V_far (p := ⟨gb331, 0, none⟩) (Kd.V_far (p := ⟨gb330, 1, none⟩) (Kd.V_far (p := ⟨gb330, 0, none⟩) (Kd.V_mono (Kd.V_mono HO_339001.out (fun k_ hk => (⟨hk, hk.1⟩ : _ ∧ k_ ≠ gb330))) (fun k_ hk => (⟨hk, hk.1.2.1⟩ : _ ∧ k_ ≠ gb331))) (fun _ hk => hk.1.2) (.bool t334)) (fun _ hk => hk.1.2) (.slice Ao27 t335.length co27)) (fun _ hk => hk.2) (.bool t334)) (fun _ hk => hk.2) (.slice Ao27 t335.length co27)) (fun _ hk => ⟨hk.1.1.1, hk.1.1.2.1⟩)⟩, ⟨by (with_reducible repeat (first | refine blk_drewN ?_ _ | refine blk_drew ?_ | refine blk_alloc ?_ _)); refine blk_far ?_ NB330_331.out _; (with_reducible repeat (first | refine blk_drewN ?_ _ | refine blk_drew ?_ | refine blk_alloc ?_ _)); refine blk_far ?_ NB330_331.out _; (with_reducible repeat (first | refine blk_drewN ?_ _ | refine blk_drew ?_ | refine blk_alloc ?_ _)); refine blk_put (cs := #[.bool t334, u331001]) ?_ 1 _ rfl; (with_reducible repeat (first | refine blk_drewN ?_ _ | refine blk_drew ?_ | refine blk_alloc ?_ _)); refine blk_put (cs := #[.bool x331000_1, u331001]) ?_ 0 _ rfl; exact blkt BK330⟩, ⟨by (with_reducible repeat (first | refine blk_drewN ?_ _ | refine blk_drew ?_ | refine blk_alloc ?_ _)); refine blk_put (cs := #[.bool t334, u332001]) ?_ 1 _ rfl; (with_reducible repeat (first | refine blk_drewN ?_ _ | refine blk_drew ?_ | refine blk_alloc ?_ _)); refine blk_put (cs := #[.bool x332000_1, u332001]) ?_ 0 _ rfl; (with_reducible repeat (first | refine blk_drewN ?_ _ | refine blk_drew ?_ | refine blk_alloc ?_ _)); refine blk_far ?_ NB331_330.out _; (with_reducible repeat (first | refine blk_drewN ?_ _ | refine blk_drew ?_ | refine blk_alloc ?_ _)); refine blk_far ?_ NB331_330.out _; exact blkt BK331⟩, ⟨belt HB⟩⟩
          rw [if_neg c40] at H
          have c40b0 : (x25_1 == 0) = false := beq_eq_false_iff_ne.mpr c40
          have c40b1 : (x25_1 != 0) = true := bne_iff_ne.mpr c40
          replace H := Option.bind_eq_some_iff.mp H
          obtain ⟨t340, A500, H⟩ := H
          replace H : (if t340 > 0 then (turnstonelaw04_PosFloors.l0 kj15 a0 t328 t329 l1 (l1.length : Int) (wrap64 (x25_1 + 1)) t334 t335 t334 t335) else (turnstonelaw04_PosFloors.l0 kj15 a0 t328 t329 l1 (l1.length : Int) (wrap64 (x25_1 + 1)) t334 t335 x332000_1 x332001_1)) = some r := H
          have A50 := Aside0.mk A500
          clear A500
          by_cases c51 : t340 > 0
          ·rw [if_pos c51] at H
           have c51b0 : decide (0 < t340) = true := decide_eq_true c51
           clear c51
           have H' := Aside0.mk H
           clear H
           have hnb52 := NB338_330.out
           have hnc52 := NB330_338.out
           have hnb53 := NB338_331.out
           have hnc53 := NB331_338.out
           have hnb54 := NB338_333.out
           have hnc54 := NB333_338.out
           have hcz55_0 : wc.cell? ⟨gb338, 0, none⟩ = some (.bool t334) := bc BK338 0
           have hcz55_1 : wc.cell? ⟨gb338, 1, none⟩ = some (.slice Ao27 t335.length co27) := bc BK338 1
           have hfz55_0 := blk_frozen BK338.out 0
           have hfz55_1 := blk_frozen BK338.out 1
           have hnb56 := NB330_331.out
           have hnc56 := NB331_330.out
           have hnb57 := NB330_333.out
           have hnc57 := NB333_330.out
           have hcz58_0 : wc.cell? ⟨gb330, 0, none⟩ = some (.bool x331000_1) := bc BK330 0
           have hcz58_1 : wc.cell? ⟨gb330, 1, none⟩ = some (u331001) := bc BK330 1
           have hfz58_0 := blk_frozen BK330.out 0
           have hfz58_1 := blk_frozen BK330.out 1
           have hnb59 := NB331_333.out
           have hnc59 := NB333_331.out
           have hcz60_0 : wc.cell? ⟨gb331, 0, none⟩ = some (.bool x332000_1) := bc BK331 0
           have hcz60_1 : wc.cell? ⟨gb331, 1, none⟩ = some (u332001) := bc BK331 1
           have hfz60_0 := blk_frozen BK331.out 0
           have hfz60_1 := blk_frozen BK331.out 1
           obtain ⟨Ao61, co61, eo61⟩ := Kd.V_slice HO_332001.out
           subst eo61
           go_wp2_with (first | (go_at_call 18; (with_reducible refine (turnstoneref01_Cmp.calls kj15 t334 _ _ t335 x332000_1 _ _ x332001_1 t340 _ ?side1 ?side2 ?side3 ?side4 A50.out).mono ?_); (case side1 => refine (Kd.V_reads' (e := 3) (base := w.heap.size) (ok := fun k_ => (k_ ≠ gb330 ∧ (k_ ≠ gb331 ∧ (k_ ≠ gb333 ∧ k_ ≠ gb338)))) (n := t335.length) (c := co27) ?_).2.2; exact (by (with_reducible repeat (first | apply Kd.V_alloc | apply Kd.V_drewN | apply Kd.V_drew)); exact (Kd.V_mono (Kd.V_far (p := ⟨gb330, 1, none⟩) (Kd.V_far (p := ⟨gb330, 0, none⟩) (Kd.V_mono HO_339001.out (fun k_ hk => (⟨hk, hk.1⟩ : _ ∧ k_ ≠ gb330))) (fun _ hk => hk.2) (.bool t334)) (fun _ hk => hk.2) (.slice Ao27 t335.length co27)) (fun _ h_ => h_.1)))); (case side2 => exact (Kd.V_reads' HO_339001.out).2.1); (case side3 => refine (Kd.V_reads' (e := 3) (base := w.heap.size) (ok := fun k_ => (k_ ≠ gb330 ∧ (k_ ≠ gb331 ∧ (k_ ≠ gb333 ∧ k_ ≠ gb338)))) (n := x332001_1.length) (c := co61) ?_).2.2; exact (by (with_reducible repeat (first | apply Kd.V_alloc | apply Kd.V_drewN | apply Kd.V_drew)); exact (Kd.V_mono (Kd.V_far (p := ⟨gb330, 1, none⟩) (Kd.V_far (p := ⟨gb330, 0, none⟩) (Kd.V_mono HO_332001.out (fun k_ hk => (⟨hk, hk.1⟩ : _ ∧ k_ ≠ gb330))) (fun _ hk => hk.2) (.bool t334)) (fun _ hk => hk.2) (.slice Ao27 t335.length co27)) (fun _ h_ => h_.1)))); (case side4 => exact (Kd.V_reads' HO_332001.out).2.1); rintro e w62 ⟨rfl, hb⟩; replace HO_331001 := Aside0.mk (Kd.V_below (by (with_reducible repeat (first | apply Kd.V_alloc | apply Kd.V_drewN | apply Kd.V_drew)); exact (Kd.V_mono (Kd.V_far (p := ⟨gb330, 1, none⟩) (Kd.V_far (p := ⟨gb330, 0, none⟩) (Kd.V_mono HO_331001.out (fun k_ hk => (⟨hk, hk.1⟩ : _ ∧ k_ ≠ gb330))) (fun _ hk => hk.2) (.bool t334)) (fun _ hk => hk.2) (.slice Ao27 t335.length co27)) (fun _ h_ => h_.1))) hb); replace HO_332001 := Aside0.mk (Kd.V_below (by (with_reducible repeat (first | apply Kd.V_alloc | apply Kd.V_drewN | apply Kd.V_drew)); exact (Kd.V_mono (Kd.V_far (p := ⟨gb330, 1, none⟩) (Kd.V_far (p := ⟨gb330, 0, none⟩) (Kd.V_mono HO_332001.out (fun k_ hk => (⟨hk, hk.1⟩ : _ ∧ k_ ≠ gb330))) (fun _ hk => hk.2) (.bool t334)) (fun _ hk => hk.2) (.slice Ao27 t335.length co27)) (fun _ h_ => h_.1))) hb); replace HO_339001 := Aside0.mk (Kd.V_below (by (with_reducible repeat (first | apply Kd.V_alloc | apply Kd.V_drewN | apply Kd.V_drew)); exact (Kd.V_mono (Kd.V_far (p := ⟨gb330, 1, none⟩) (Kd.V_far (p := ⟨gb330, 0, none⟩) (Kd.V_mono HO_339001.out (fun k_ hk => (⟨hk, hk.1⟩ : _ ∧ k_ ≠ gb330))) (fun _ hk => hk.2) (.bool t334)) (fun _ hk => hk.2) (.slice Ao27 t335.length co27)) (fun _ h_ => h_.1))) hb); replace BK330 := Aside0.mk (blk_below (g := gb330) (o := .cells #[.bool t334, .slice Ao27 t335.length co27] 28 (0, 0)) (by (with_reducible repeat (first | refine blk_drewN ?_ _ | refine blk_drew ?_ | refine blk_alloc ?_ _)); refine blk_put (cs := #[.bool t334, u331001]) ?_ 1 _ rfl; (with_reducible repeat (first | refine blk_drewN ?_ _ | refine blk_drew ?_ | refine blk_alloc ?_ _)); refine blk_put (cs := #[.bool x331000_1, u331001]) ?_ 0 _ rfl; exact blkt BK330) hb); replace BK331 := Aside0.mk (blk_below (g := gb331) (o := .cells #[.bool x332000_1, .slice Ao61 x332001_1.length co61] 28 (0, 0)) (by (with_reducible repeat (first | refine blk_drewN ?_ _ | refine blk_drew ?_ | refine blk_alloc ?_ _)); refine blk_far ?_ NB331_330.out _; (with_reducible repeat (first | refine blk_drewN ?_ _ | refine blk_drew ?_ | refine blk_alloc ?_ _)); refine blk_far ?_ NB331_330.out _; exact blkt BK331) hb); replace BK333 := Aside0.mk (blk_below (g := gb333) (o := .cells #[.int .u64 ((rd_T67 l1 x25_1).f0), .int .u32 ((rd_T67 l1 x25_1).f1), .int .u32 ((rd_T67 l1 x25_1).f2)] 67 (0, 0)) (by (with_reducible repeat (first | refine blk_drewN ?_ _ | refine blk_drew ?_ | refine blk_alloc ?_ _)); refine blk_far ?_ NB333_330.out _; (with_reducible repeat (first | refine blk_drewN ?_ _ | refine blk_drew ?_ | refine blk_alloc ?_ _)); refine blk_far ?_ NB333_330.out _; exact blkt BK333) hb); replace BK338 := Aside0.mk (blk_below (g := gb338) (o := .cells #[.bool t334, .slice Ao27 t335.length co27] 28 (0, 0)) (by (with_reducible repeat (first | refine blk_drewN ?_ _ | refine blk_drew ?_ | refine blk_alloc ?_ _)); refine blk_far ?_ NB338_330.out _; (with_reducible repeat (first | refine blk_drewN ?_ _ | refine blk_drew ?_ | refine blk_alloc ?_ _)); refine blk_far ?_ NB338_330.out _; exact blkt BK338) hb); replace HB := belb HB hb; (try clear hb); (try clear hb2); (try clear hk); (try clear hi); have hcz63_0 : w62.cell? ⟨gb338, 0, none⟩ = some (.bool t334) := bc BK338 0; have hcz63_1 : w62.cell? ⟨gb338, 1, none⟩ = some (.slice Ao27 t335.length co27) := bc BK338 1; have hfz63_0 := blk_frozen BK338.out 0; have hfz63_1 := blk_frozen BK338.out 1; have hcz64_0 : w62.cell? ⟨gb331, 0, none⟩ = some (.bool x332000_1) := bc BK331 0; have hcz64_1 : w62.cell? ⟨gb331, 1, none⟩ = some (.slice Ao61 x332001_1.length co61) := bc BK331 1; have hfz64_0 := blk_frozen BK331.out 0; have hfz64_1 := blk_frozen BK331.out 1))
           go_roundg kj15
           case measure => have := HK1.out; have := HJ15.out; omega
           case rel => exact ⟨(wrap64 (x25_1 + 1)), (t334), (t335), (t334), (t335), (.slice Ao27 t335.length co27), (.slice Ao27 t335.length co27), (by first | rfl | (simp; done) | (simp [*]; done)), H', ⟨by have := HK1.out; have := HJ15.out; omega⟩, ⟨by (with_reducible repeat (first | apply Kd.V_alloc | apply Kd.V_drewN | apply Kd.V_drew)); exact Kd.V_mono (Kd.V_far (p := ⟨gb331, 1, none⟩) (Kd.V_far (p := ⟨gb331, 0, none⟩) (Kd.V_mono HO_339001.out (fun k_ hk => (⟨hk, hk.2.1⟩ : _ ∧ k_ ≠ gb331))) (fun _ hk => hk.2) (.bool t334)) (fun _ hk => hk.2) (.slice Ao27 t335.length co27)) (fun _ hk => ⟨hk.1.1, hk.1.2.1⟩)⟩, ⟨by (with_reducible repeat (first | apply Kd.V_alloc | apply Kd.V_drewN | apply Kd.V_drew)); exact Kd.V_mono (Kd.V_far (p := ⟨gb331, 1, none⟩) (Kd.V_far (p := ⟨gb331, 0, none⟩) (Kd.V_mono HO_339001.out (fun k_ hk => (⟨hk, hk.2.1⟩ : _ ∧ k_ ≠ gb331))) (fun _ hk => hk.2) (.bool t334)) (fun _ hk => hk.2) (.slice Ao27 t335.length co27)) (fun _ hk => ⟨hk.1.1, hk.1.2.1⟩)⟩, ⟨by (with_reducible repeat (first | refine blk_drewN ?_ _ | refine blk_drew ?_ | refine blk_alloc ?_ _)); refine blk_far ?_ NB330_331.out _; (with_reducible repeat (first | refine blk_drewN ?_ _ | refine blk_drew ?_ | refine blk_alloc ?_ _)); refine blk_far ?_ NB330_331.out _; exact blkt BK330⟩, ⟨by (with_reducible repeat (first | refine blk_drewN ?_ _ | refine blk_drew ?_ | refine blk_alloc ?_ _)); refine blk_put (cs := #[.bool t334, .slice Ao61 x332001_1.length co61]) ?_ 1 _ rfl; (with_reducible repeat (first | refine blk_drewN ?_ _ | refine blk_drew ?_ | refine blk_alloc ?_ _)); refine blk_put (cs := #[.bool x332000_1, .slice Ao61 x332001_1.length co61]) ?_ 0 _ rfl; exact blkt BK331⟩, ⟨belt HB⟩⟩
          rw [if_neg c51] at H
          have c51b0 : decide (0 < t340) = false := decide_eq_false c51
          clear c51
          have H' := Aside0.mk H
          clear H
          have hnb65 := NB338_330.out
          have hnc65 := NB330_338.out
          have hnb66 := NB338_331.out
          have hnc66 := NB331_338.out
          have hnb67 := NB338_333.out
          have hnc67 := NB333_338.out
          have hcz68_0 : wc.cell? ⟨gb338, 0, none⟩ = some (.bool t334) := bc BK338 0
          have hcz68_1 : wc.cell? ⟨gb338, 1, none⟩ = some (.slice Ao27 t335.length co27) := bc BK338 1
          have hfz68_0 := blk_frozen BK338.out 0
          have hfz68_1 := blk_frozen BK338.out 1
          have hnb69 := NB330_331.out
          have hnc69 := NB331_330.out
          have hnb70 := NB330_333.out
          have hnc70 := NB333_330.out
          have hcz71_0 : wc.cell? ⟨gb330, 0, none⟩ = some (.bool x331000_1) := bc BK330 0
          have hcz71_1 : wc.cell? ⟨gb330, 1, none⟩ = some (u331001) := bc BK330 1
          have hfz71_0 := blk_frozen BK330.out 0
          have hfz71_1 := blk_frozen BK330.out 1
          have hnb72 := NB331_333.out
          have hnc72 := NB333_331.out
          have hcz73_0 : wc.cell? ⟨gb331, 0, none⟩ = some (.bool x332000_1) := bc BK331 0
          have hcz73_1 : wc.cell? ⟨gb331, 1, none⟩ = some (u332001) := bc BK331 1
          have hfz73_0 := blk_frozen BK331.out 0
          have hfz73_1 := blk_frozen BK331.out 1
          obtain ⟨Ao74, co74, eo74⟩ := Kd.V_slice HO_332001.out
          subst eo74
          go_wp2_with (first | (go_at_call 18; (with_reducible refine (turnstoneref01_Cmp.calls kj15 t334 _ _ t335 x332000_1 _ _ x332001_1 t340 _ ?side1 ?side2 ?side3 ?side4 A50.out).mono ?_); (case side1 => refine (Kd.V_reads' (e := 3) (base := w.heap.size) (ok := fun k_ => (k_ ≠ gb330 ∧ (k_ ≠ gb331 ∧ (k_ ≠ gb333 ∧ k_ ≠ gb338)))) (n := t335.length) (c := co27) ?_).2.2; exact (by (with_reducible repeat (first | apply Kd.V_alloc | apply Kd.V_drewN | apply Kd.V_drew)); exact (Kd.V_mono (Kd.V_far (p := ⟨gb330, 1, none⟩) (Kd.V_far (p := ⟨gb330, 0, none⟩) (Kd.V_mono HO_339001.out (fun k_ hk => (⟨hk, hk.1⟩ : _ ∧ k_ ≠ gb330))) (fun _ hk => hk.2) (.bool t334)) (fun _ hk => hk.2) (.slice Ao27 t335.length co27)) (fun _ h_ => h_.1)))); (case side2 => exact (Kd.V_reads' HO_339001.out).2.1); (case side3 => refine (Kd.V_reads' (e := 3) (base := w.heap.size) (ok := fun k_ => (k_ ≠ gb330 ∧ (k_ ≠ gb331 ∧ (k_ ≠ gb333 ∧ k_ ≠ gb338)))) (n := x332001_1.length) (c := co74) ?_).2.2; exact (by (with_reducible repeat (first | apply Kd.V_alloc | apply Kd.V_drewN | apply Kd.V_drew)); exact (Kd.V_mono (Kd.V_far (p := ⟨gb330, 1, none⟩) (Kd.V_far (p := ⟨gb330, 0, none⟩) (Kd.V_mono HO_332001.out (fun k_ hk => (⟨hk, hk.1⟩ : _ ∧ k_ ≠ gb330))) (fun _ hk => hk.2) (.bool t334)) (fun _ hk => hk.2) (.slice Ao27 t335.length co27)) (fun _ h_ => h_.1)))); (case side4 => exact (Kd.V_reads' HO_332001.out).2.1); rintro e w75 ⟨rfl, hb⟩; replace HO_331001 := Aside0.mk (Kd.V_below (by (with_reducible repeat (first | apply Kd.V_alloc | apply Kd.V_drewN | apply Kd.V_drew)); exact (Kd.V_mono (Kd.V_far (p := ⟨gb330, 1, none⟩) (Kd.V_far (p := ⟨gb330, 0, none⟩) (Kd.V_mono HO_331001.out (fun k_ hk => (⟨hk, hk.1⟩ : _ ∧ k_ ≠ gb330))) (fun _ hk => hk.2) (.bool t334)) (fun _ hk => hk.2) (.slice Ao27 t335.length co27)) (fun _ h_ => h_.1))) hb); replace HO_332001 := Aside0.mk (Kd.V_below (by (with_reducible repeat (first | apply Kd.V_alloc | apply Kd.V_drewN | apply Kd.V_drew)); exact (Kd.V_mono (Kd.V_far (p := ⟨gb330, 1, none⟩) (Kd.V_far (p := ⟨gb330, 0, none⟩) (Kd.V_mono HO_332001.out (fun k_ hk => (⟨hk, hk.1⟩ : _ ∧ k_ ≠ gb330))) (fun _ hk => hk.2) (.bool t334)) (fun _ hk => hk.2) (.slice Ao27 t335.length co27)) (fun _ h_ => h_.1))) hb); replace HO_339001 := Aside0.mk (Kd.V_below (by (with_reducible repeat (first | apply Kd.V_alloc | apply Kd.V_drewN | apply Kd.V_drew)); exact (Kd.V_mono (Kd.V_far (p := ⟨gb330, 1, none⟩) (Kd.V_far (p := ⟨gb330, 0, none⟩) (Kd.V_mono HO_339001.out (fun k_ hk => (⟨hk, hk.1⟩ : _ ∧ k_ ≠ gb330))) (fun _ hk => hk.2) (.bool t334)) (fun _ hk => hk.2) (.slice Ao27 t335.length co27)) (fun _ h_ => h_.1))) hb); replace BK330 := Aside0.mk (blk_below (g := gb330) (o := .cells #[.bool t334, .slice Ao27 t335.length co27] 28 (0, 0)) (by (with_reducible repeat (first | refine blk_drewN ?_ _ | refine blk_drew ?_ | refine blk_alloc ?_ _)); refine blk_put (cs := #[.bool t334, u331001]) ?_ 1 _ rfl; (with_reducible repeat (first | refine blk_drewN ?_ _ | refine blk_drew ?_ | refine blk_alloc ?_ _)); refine blk_put (cs := #[.bool x331000_1, u331001]) ?_ 0 _ rfl; exact blkt BK330) hb); replace BK331 := Aside0.mk (blk_below (g := gb331) (o := .cells #[.bool x332000_1, .slice Ao74 x332001_1.length co74] 28 (0, 0)) (by (with_reducible repeat (first | refine blk_drewN ?_ _ | refine blk_drew ?_ | refine blk_alloc ?_ _)); refine blk_far ?_ NB331_330.out _; (with_reducible repeat (first | refine blk_drewN ?_ _ | refine blk_drew ?_ | refine blk_alloc ?_ _)); refine blk_far ?_ NB331_330.out _; exact blkt BK331) hb); replace BK333 := Aside0.mk (blk_below (g := gb333) (o := .cells #[.int .u64 ((rd_T67 l1 x25_1).f0), .int .u32 ((rd_T67 l1 x25_1).f1), .int .u32 ((rd_T67 l1 x25_1).f2)] 67 (0, 0)) (by (with_reducible repeat (first | refine blk_drewN ?_ _ | refine blk_drew ?_ | refine blk_alloc ?_ _)); refine blk_far ?_ NB333_330.out _; (with_reducible repeat (first | refine blk_drewN ?_ _ | refine blk_drew ?_ | refine blk_alloc ?_ _)); refine blk_far ?_ NB333_330.out _; exact blkt BK333) hb); replace BK338 := Aside0.mk (blk_below (g := gb338) (o := .cells #[.bool t334, .slice Ao27 t335.length co27] 28 (0, 0)) (by (with_reducible repeat (first | refine blk_drewN ?_ _ | refine blk_drew ?_ | refine blk_alloc ?_ _)); refine blk_far ?_ NB338_330.out _; (with_reducible repeat (first | refine blk_drewN ?_ _ | refine blk_drew ?_ | refine blk_alloc ?_ _)); refine blk_far ?_ NB338_330.out _; exact blkt BK338) hb); replace HB := belb HB hb; (try clear hb); (try clear hb2); (try clear hk); (try clear hi)))
          go_roundg kj15
          case measure => have := HK1.out; have := HJ15.out; omega
          case rel => exact ⟨(wrap64 (x25_1 + 1)), (t334), (t335), (x332000_1), (x332001_1), (.slice Ao27 t335.length co27), (.slice Ao74 x332001_1.length co74), (by first | rfl | (simp; done) | (simp [*]; done)), H', ⟨by have := HK1.out; have := HJ15.out; omega⟩, ⟨by (with_reducible repeat (first | apply Kd.V_alloc | apply Kd.V_drewN | apply Kd.V_drew)); exact Kd.V_mono HO_339001.out (fun _ hk => ⟨hk.1, hk.2.1⟩)⟩, ⟨by (with_reducible repeat (first | apply Kd.V_alloc | apply Kd.V_drewN | apply Kd.V_drew)); exact Kd.V_mono HO_332001.out (fun _ hk => ⟨hk.1, hk.2.1⟩)⟩, ⟨blkt BK330⟩, ⟨blkt BK331⟩, ⟨belt HB⟩⟩
         replace c39 := Bool.eq_false_iff.mpr c39
         subst c39
         have H1 : (if x25_1 = 0 then (turnstonelaw04_PosFloors.l0 kj15 a0 t328 t329 l1 (l1.length : Int) (wrap64 (x25_1 + 1)) x331000_1 x331001_1 t334 t335) else ((turnstoneref01_Cmp.f kj15 t334 t335 x332000_1 x332001_1).bind fun t341 => (if t341 > 0 then (turnstonelaw04_PosFloors.l0 kj15 a0 t328 t329 l1 (l1.length : Int) (wrap64 (x25_1 + 1)) x331000_1 x331001_1 t334 t335) else (turnstonelaw04_PosFloors.l0 kj15 a0 t328 t329 l1 (l1.length : Int) (wrap64 (x25_1 + 1)) x331000_1 x331001_1 x332000_1 x332001_1)))) = some r := by rw [if_neg (show ¬ (false = true) by decide)] at H; exact H
         clear H
         have H := H1
         clear H1
         by_cases c76 : x25_1 = 0
         ·rw [if_pos c76] at H
          have c76b0 : (x25_1 == 0) = true := beq_iff_eq.mpr c76
          have c76b1 : (x25_1 != 0) = false := bne_eq_false_iff_eq.mpr c76
          clear c76
          have H' := Aside0.mk H
          clear H
          have hnb77 := NB338_330.out
          have hnc77 := NB330_338.out
          have hnb78 := NB338_331.out
          have hnc78 := NB331_338.out
          have hnb79 := NB338_333.out
          have hnc79 := NB333_338.out
          have hcz80_0 : wc.cell? ⟨gb338, 0, none⟩ = some (.bool t334) := bc BK338 0
          have hcz80_1 : wc.cell? ⟨gb338, 1, none⟩ = some (.slice Ao27 t335.length co27) := bc BK338 1
          have hfz80_0 := blk_frozen BK338.out 0
          have hfz80_1 := blk_frozen BK338.out 1
          have hnb81 := NB331_330.out
          have hnc81 := NB330_331.out
          have hnb82 := NB331_333.out
          have hnc82 := NB333_331.out
          have hcz83_0 : wc.cell? ⟨gb331, 0, none⟩ = some (.bool x332000_1) := bc BK331 0
          have hcz83_1 : wc.cell? ⟨gb331, 1, none⟩ = some (u332001) := bc BK331 1
          have hfz83_0 := blk_frozen BK331.out 0
          have hfz83_1 := blk_frozen BK331.out 1
          go_wp2
          go_roundg kj15
          case measure => have := HK1.out; have := HJ15.out; omega
          case rel => exact ⟨(wrap64 (x25_1 + 1)), (x331000_1), (x331001_1), (t334), (t335), (u331001), (.slice Ao27 t335.length co27), (by first | rfl | (simp; done) | (simp [*]; done)), H', ⟨by have := HK1.out; have := HJ15.out; omega⟩, ⟨by (with_reducible repeat (first | apply Kd.V_alloc | apply Kd.V_drewN | apply Kd.V_drew)); exact Kd.V_mono (Kd.V_far (p := ⟨gb331, 1, none⟩) (Kd.V_far (p := ⟨gb331, 0, none⟩) (Kd.V_mono HO_331001.out (fun k_ hk => (⟨hk, hk.2.1⟩ : _ ∧ k_ ≠ gb331))) (fun _ hk => hk.2) (.bool t334)) (fun _ hk => hk.2) (.slice Ao27 t335.length co27)) (fun _ hk => ⟨hk.1.1, hk.1.2.1⟩)⟩, ⟨by (with_reducible repeat (first | apply Kd.V_alloc | apply Kd.V_drewN | apply Kd.V_drew)); exact Kd.V_mono (Kd.V_far (p := ⟨gb331, 1, none⟩) (Kd.V_far (p := ⟨gb331, 0, none⟩) (Kd.V_mono HO_339001.out (fun k_ hk => (⟨hk, hk.2.1⟩ : _ ∧ k_ ≠ gb331))) (fun _ hk => hk.2) (.bool t334)) (fun _ hk => hk.2) (.slice Ao27 t335.length co27)) (fun _ hk => ⟨hk.1.1, hk.1.2.1⟩)⟩, ⟨by (with_reducible repeat (first | refine blk_drewN ?_ _ | refine blk_drew ?_ | refine blk_alloc ?_ _)); refine blk_far ?_ NB330_331.out _; (with_reducible repeat (first | refine blk_drewN ?_ _ | refine blk_drew ?_ | refine blk_alloc ?_ _)); refine blk_far ?_ NB330_331.out _; exact blkt BK330⟩, ⟨by (with_reducible repeat (first | refine blk_drewN ?_ _ | refine blk_drew ?_ | refine blk_alloc ?_ _)); refine blk_put (cs := #[.bool t334, u332001]) ?_ 1 _ rfl; (with_reducible repeat (first | refine blk_drewN ?_ _ | refine blk_drew ?_ | refine blk_alloc ?_ _)); refine blk_put (cs := #[.bool x332000_1, u332001]) ?_ 0 _ rfl; exact blkt BK331⟩, ⟨belt HB⟩⟩
         rw [if_neg c76] at H
         have c76b0 : (x25_1 == 0) = false := beq_eq_false_iff_ne.mpr c76
         have c76b1 : (x25_1 != 0) = true := bne_iff_ne.mpr c76
         replace H := Option.bind_eq_some_iff.mp H
         obtain ⟨t341, A840, H⟩ := H
         replace H : (if t341 > 0 then (turnstonelaw04_PosFloors.l0 kj15 a0 t328 t329 l1 (l1.length : Int) (wrap64 (x25_1 + 1)) x331000_1 x331001_1 t334 t335) else (turnstonelaw04_PosFloors.l0 kj15 a0 t328 t329 l1 (l1.length : Int) (wrap64 (x25_1 + 1)) x331000_1 x331001_1 x332000_1 x332001_1)) = some r := H
         have A84 := Aside0.mk A840
         clear A840
         by_cases c85 : t341 > 0
         ·rw [if_pos c85] at H
          have c85b0 : decide (0 < t341) = true := decide_eq_true c85
          clear c85
          have H' := Aside0.mk H
          clear H
          have hnb86 := NB338_330.out
          have hnc86 := NB330_338.out
          have hnb87 := NB338_331.out
          have hnc87 := NB331_338.out
          have hnb88 := NB338_333.out
          have hnc88 := NB333_338.out
          have hcz89_0 : wc.cell? ⟨gb338, 0, none⟩ = some (.bool t334) := bc BK338 0
          have hcz89_1 : wc.cell? ⟨gb338, 1, none⟩ = some (.slice Ao27 t335.length co27) := bc BK338 1
          have hfz89_0 := blk_frozen BK338.out 0
          have hfz89_1 := blk_frozen BK338.out 1
          have hnb90 := NB331_330.out
          have hnc90 := NB330_331.out
          have hnb91 := NB331_333.out
          have hnc91 := NB333_331.out
          have hcz92_0 : wc.cell? ⟨gb331, 0, none⟩ = some (.bool x332000_1) := bc BK331 0
          have hcz92_1 : wc.cell? ⟨gb331, 1, none⟩ = some (u332001) := bc BK331 1
          have hfz92_0 := blk_frozen BK331.out 0
          have hfz92_1 := blk_frozen BK331.out 1
          obtain ⟨Ao93, co93, eo93⟩ := Kd.V_slice HO_332001.out
          subst eo93
          go_wp2_with (first | (go_at_call 18; (with_reducible refine (turnstoneref01_Cmp.calls kj15 t334 _ _ t335 x332000_1 _ _ x332001_1 t341 _ ?side1 ?side2 ?side3 ?side4 A84.out).mono ?_); (case side1 => repeat (first | exact (Kd.V_reads' HO_339001.out).2.2 | (with_reducible refine Kd.C_alloc ?_ _) | (with_reducible refine Kd.C_drewN ?_ _) | (with_reducible refine Kd.C_drew ?_))); (case side2 => exact (Kd.V_reads' HO_339001.out).2.1); (case side3 => repeat (first | exact (Kd.V_reads' HO_332001.out).2.2 | (with_reducible refine Kd.C_alloc ?_ _) | (with_reducible refine Kd.C_drewN ?_ _) | (with_reducible refine Kd.C_drew ?_))); (case side4 => exact (Kd.V_reads' HO_332001.out).2.1); rintro e w94 ⟨rfl, hb⟩; replace HO_331001 := vb HO_331001 hb; replace HO_332001 := vb HO_332001 hb; replace HO_339001 := vb HO_339001 hb; replace BK330 := blkb BK330 hb; replace BK331 := blkb BK331 hb; replace BK333 := blkb BK333 hb; replace BK338 := blkb BK338 hb; replace HB := belb HB hb; (try clear hb); (try clear hb2); (try clear hk); (try clear hi); have hcz95_0 : w94.cell? ⟨gb338, 0, none⟩ = some (.bool t334) := bc BK338 0; have hcz95_1 : w94.cell? ⟨gb338, 1, none⟩ = some (.slice Ao27 t335.length co27) := bc BK338 1; have hfz95_0 := blk_frozen BK338.out 0; have hfz95_1 := blk_frozen BK338.out 1; have hcz96_0 : w94.cell? ⟨gb331, 0, none⟩ = some (.bool x332000_1) := bc BK331 0; have hcz96_1 : w94.cell? ⟨gb331, 1, none⟩ = some (.slice Ao93 x332001_1.length co93) := bc BK331 1; have hfz96_0 := blk_frozen BK331.out 0; have hfz96_1 := blk_frozen BK331.out 1))
          go_roundg kj15
          case measure => have := HK1.out; have := HJ15.out; omega
          case rel => exact ⟨(wrap64 (x25_1 + 1)), (x331000_1), (x331001_1), (t334), (t335), (u331001), (.slice Ao27 t335.length co27), (by first | rfl | (simp; done) | (simp [*]; done)), H', ⟨by have := HK1.out; have := HJ15.out; omega⟩, ⟨by (with_reducible repeat (first | apply Kd.V_alloc | apply Kd.V_drewN | apply Kd.V_drew)); exact Kd.V_mono (Kd.V_far (p := ⟨gb331, 1, none⟩) (Kd.V_far (p := ⟨gb331, 0, none⟩) (Kd.V_mono HO_331001.out (fun k_ hk => (⟨hk, hk.2.1⟩ : _ ∧ k_ ≠ gb331))) (fun _ hk => hk.2) (.bool t334)) (fun _ hk => hk.2) (.slice Ao27 t335.length co27)) (fun _ hk => ⟨hk.1.1, hk.1.2.1⟩)⟩, ⟨by (with_reducible repeat (first | apply Kd.V_alloc | apply Kd.V_drewN | apply Kd.V_drew)); exact Kd.V_mono (Kd.V_far (p := ⟨gb331, 1, none⟩) (Kd.V_far (p := ⟨gb331, 0, none⟩) (Kd.V_mono HO_339001.out (fun k_ hk => (⟨hk, hk.2.1⟩ : _ ∧ k_ ≠ gb331))) (fun _ hk => hk.2) (.bool t334)) (fun _ hk => hk.2) (.slice Ao27 t335.length co27)) (fun _ hk => ⟨hk.1.1, hk.1.2.1⟩)⟩, ⟨by (with_reducible repeat (first | refine blk_drewN ?_ _ | refine blk_drew ?_ | refine blk_alloc ?_ _)); refine blk_far ?_ NB330_331.out _; (with_reducible repeat (first | refine blk_drewN ?_ _ | refine blk_drew ?_ | refine blk_alloc ?_ _)); refine blk_far ?_ NB330_331.out _; exact blkt BK330⟩, ⟨by (with_reducible repeat (first | refine blk_drewN ?_ _ | refine blk_drew ?_ | refine blk_alloc ?_ _)); refine blk_put (cs := #[.bool t334, .slice Ao93 x332001_1.length co93]) ?_ 1 _ rfl; (with_reducible repeat (first | refine blk_drewN ?_ _ | refine blk_drew ?_ | refine blk_alloc ?_ _)); refine blk_put (cs := #[.bool x332000_1, .slice Ao93 x332001_1.length co93]) ?_ 0 _ rfl; exact blkt BK331⟩, ⟨belt HB⟩⟩
         rw [if_neg c85] at H
         have c85b0 : decide (0 < t341) = false := decide_eq_false c85
         clear c85
         have H' := Aside0.mk H
         clear H
         have hnb97 := NB338_330.out
         have hnc97 := NB330_338.out
         have hnb98 := NB338_331.out
         have hnc98 := NB331_338.out
         have hnb99 := NB338_333.out
         have hnc99 := NB333_338.out
         have hcz100_0 : wc.cell? ⟨gb338, 0, none⟩ = some (.bool t334) := bc BK338 0
         have hcz100_1 : wc.cell? ⟨gb338, 1, none⟩ = some (.slice Ao27 t335.length co27) := bc BK338 1
         have hfz100_0 := blk_frozen BK338.out 0
         have hfz100_1 := blk_frozen BK338.out 1
         have hnb101 := NB331_330.out
         have hnc101 := NB330_331.out
         have hnb102 := NB331_333.out
         have hnc102 := NB333_331.out
         have hcz103_0 : wc.cell? ⟨gb331, 0, none⟩ = some (.bool x332000_1) := bc BK331 0
         have hcz103_1 : wc.cell? ⟨gb331, 1, none⟩ = some (u332001) := bc BK331 1
         have hfz103_0 := blk_frozen BK331.out 0
         have hfz103_1 := blk_frozen BK331.out 1
         obtain ⟨Ao104, co104, eo104⟩ := Kd.V_slice HO_332001.out
         subst eo104
         go_wp2_with (first | (go_at_call 18; (with_reducible refine (turnstoneref01_Cmp.calls kj15 t334 _ _ t335 x332000_1 _ _ x332001_1 t341 _ ?side1 ?side2 ?side3 ?side4 A84.out).mono ?_); (case side1 => repeat (first | exact (Kd.V_reads' HO_339001.out).2.2 | (with_reducible refine Kd.C_alloc ?_ _) | (with_reducible refine Kd.C_drewN ?_ _) | (with_reducible refine Kd.C_drew ?_))); (case side2 => exact (Kd.V_reads' HO_339001.out).2.1); (case side3 => repeat (first | exact (Kd.V_reads' HO_332001.out).2.2 | (with_reducible refine Kd.C_alloc ?_ _) | (with_reducible refine Kd.C_drewN ?_ _) | (with_reducible refine Kd.C_drew ?_))); (case side4 => exact (Kd.V_reads' HO_332001.out).2.1); rintro e w105 ⟨rfl, hb⟩; replace HO_331001 := vb HO_331001 hb; replace HO_332001 := vb HO_332001 hb; replace HO_339001 := vb HO_339001 hb; replace BK330 := blkb BK330 hb; replace BK331 := blkb BK331 hb; replace BK333 := blkb BK333 hb; replace BK338 := blkb BK338 hb; replace HB := belb HB hb; (try clear hb); (try clear hb2); (try clear hk); (try clear hi)))
         go_roundg kj15
         case measure => have := HK1.out; have := HJ15.out; omega
         case rel => exact ⟨(wrap64 (x25_1 + 1)), (x331000_1), (x331001_1), (x332000_1), (x332001_1), (u331001), (.slice Ao104 x332001_1.length co104), (by first | rfl | (simp; done) | (simp [*]; done)), H', ⟨by have := HK1.out; have := HJ15.out; omega⟩, ⟨by (with_reducible repeat (first | apply Kd.V_alloc | apply Kd.V_drewN | apply Kd.V_drew)); exact Kd.V_mono HO_331001.out (fun _ hk => ⟨hk.1, hk.2.1⟩)⟩, ⟨by (with_reducible repeat (first | apply Kd.V_alloc | apply Kd.V_drewN | apply Kd.V_drew)); exact Kd.V_mono HO_332001.out (fun _ hk => ⟨hk.1, hk.2.1⟩)⟩, ⟨blkt BK330⟩, ⟨blkt BK331⟩, ⟨belt HB⟩⟩
      rw [if_neg c14] at H
      exact absurd H (by simp)
     rw [if_neg c13] at H
     exact absurd H (by simp)
    rw [if_neg c12] at H
    have c12b0 : decide (x25_1 < (l1.length : Int)) = false := decide_eq_false c12
    clear c12
    replace H := Option.bind_eq_some_iff.mp H
    obtain ⟨⟨t342, t343⟩, A1060, H⟩ := H
    replace H : ((turnstoneref01_Cmp.f k1 t342 t343 x331000_1 x331001_1).bind fun t346 => (if t346 = 0 then ((turnstoneref01_N.f k1 t329).bind fun bt347 => ((turnstoneref01_Cmp.f k1 bt347.1 bt347.2 x332000_1 x332001_1).bind fun t351 => (some (t351 == 0)))) else (none))) = some r := H
    have A106 := Aside0.mk A1060
    clear A1060
    replace H := Option.bind_eq_some_iff.mp H
    obtain ⟨t346, A1070, H⟩ := H
    replace H : (if t346 = 0 then ((turnstoneref01_N.f k1 t329).bind fun bt347 => ((turnstoneref01_Cmp.f k1 bt347.1 bt347.2 x332000_1 x332001_1).bind fun t351 => (some (t351 == 0)))) else (none)) = some r := H
    have A107 := Aside0.mk A1070
    clear A1070
    by_cases c108 : t346 = 0
    ·rw [if_pos c108] at H
     have c108b0 : (t346 == 0) = true := beq_iff_eq.mpr c108
     have c108b1 : (t346 != 0) = false := bne_eq_false_iff_eq.mpr c108
     clear c108
     replace H := Option.bind_eq_some_iff.mp H
     obtain ⟨⟨t347, t348⟩, A1090, H⟩ := H
     replace H : ((turnstoneref01_Cmp.f k1 t347 t348 x332000_1 x332001_1).bind fun t351 => (some (t351 == 0))) = some r := H
     have A109 := Aside0.mk A1090
     clear A1090
     replace H := Option.bind_eq_some_iff.mp H
     obtain ⟨t351, A1100, H⟩ := H
     replace H : (some (t351 == 0)) = some r := H
     have A110 := Aside0.mk A1100
     clear A1100
     obtain rfl := Option.some.inj H
     try go_wp2
     replace HO_331001 := Aside0.mk (Kd.V_drew HO_331001.out)
     replace HO_332001 := Aside0.mk (Kd.V_drew HO_332001.out)
     replace BK330 := Aside0.mk (blk_drew BK330.out)
     replace BK331 := Aside0.mk (blk_drew BK331.out)
     replace HB := Aside0.mk (below_drew1 HB.out)
     refine start_ (n := 13) (S := fun w' => w'.cell? ⟨gb330, 0, none⟩ = some (.bool x331000_1) ∧ w'.cell? ⟨gb330, 1, none⟩ = some (u331001) ∧ w'.cell? ⟨gb331, 0, none⟩ = some (.bool x332000_1) ∧ w'.cell? ⟨gb331, 1, none⟩ = some (u332001)) (ds := []) #[false, false, false, false, false, false, false, false, false, false, false, false, false] (by kernel_rfl) rfl rfl ⟨bc BK330 0, bc BK330 1, bc BK331 0, bc BK331 1⟩ (fun hHeld => ?_); refine with_tabW turnstonelaw04_PosFloors.tab16 turnstonelaw04_PosFloors.bits16 (fun HT_ HW_ => ?_)
     generalize wr.drew = w111 at HO_331001 HO_332001 BK330 BK331 HB hHeld ⊢
     refine pure_ (i := 0) (N := some 53) (v := ?_) (a' := ?_) #[true, false, false, false, false, false, false, false, false, false, false, false, false] rfl rfl (any_of HT_.out (by kernel_rfl)) (fun _ _ _ h => h) (Or.inl ⟨by rfl, ?_⟩) ?_ ?_
     rotate_left
     ·intro w'
      go_simp
      with_reducible rfl
     rotate_left
     ·simp only [Act.put, List.setIfInBounds_toArray, List.set_cons_zero, List.set_cons_succ, i64_w, i32_w]
      rfl
     refine take_ (i := 2) (N := some 55) (v := ?_) (a' := ?_) #[true, false, true, false, false, false, false, false, false, false, false, false, false] rfl rfl (take_ofW HT_.out HW_.out (by kernel_rfl)) (fun _ _ _ h => h) (Or.inl ⟨by rfl, ?_⟩) hHeld ?_ ?_
     rotate_left
     ·rintro w' ⟨s0, s1, s2, s3⟩
      go_simp
      with_reducible rfl
     rotate_left
     ·simp only [Act.put, List.setIfInBounds_toArray, List.set_cons_zero, List.set_cons_succ, i64_w, i32_w]
      rfl
     refine one_ (i := 1) (N := some 54) #[true, true, true, false, false, false, false, false, false, false, false, false, false] rfl rfl (one_of HT_.out (by kernel_rfl)) (by decide) (fun K hK => ?_)
     refine goes_ Try.func19 (by kernel_rfl) rfl #[.int .i64 t328] (by rfl) rfl rfl argt ?_
     with_reducible refine (turnstoneref01_N.calls k1 t328 t342 t343 _ A106.out).mono ?_
     rintro e w112 ⟨v344, rfl, ho0, hb⟩
     refine ⟨_, rfl, ?_⟩
     replace HO_331001 := Aside0.mk (Kd.V_elder' (vt HO_331001) (Kd.R_base ho0) hb)
     replace HO_332001 := Aside0.mk (Kd.V_elder' (vt HO_332001) (Kd.R_base ho0) hb)
     have HO345 := Aside0.mk (Kd.R_lower ho0 (below_size (belt HB)))
     replace BK330 := blkb BK330 hb
     replace BK331 := blkb BK331 hb
     replace HB := belb HB hb
     (try clear hb)
     (try clear hb2)
     (try clear hk)
     (try clear hi)
     (try clear ho0)
     obtain ⟨Ao113, co113, eo113⟩ := Kd.R_slice HO345.out
     (first | subst eo113 | (injection eo113 with f1_ f2_ f3_; have f4_ := f1_.symm; have f5_ := f3_.symm; clear f1_ f2_ f3_; subst f4_; subst f5_))
     obtain ⟨Ao114, co114, eo114⟩ := Kd.V_slice HO_331001.out
     (first | subst eo114 | (injection eo114 with f1_ f2_ f3_; have f4_ := f1_.symm; have f5_ := f3_.symm; clear f1_ f2_ f3_; subst f4_; subst f5_))
     refine hK.out _ _ ⟨bc BK330 0, bc BK330 1, bc BK331 0, bc BK331 1⟩ (fun hHeld => ?_)
     clear hK K
     refine norm_ (a' := ?_) ?_ ?_
     rotate_left
     ·show Act.put _ (some 54) _ = _
      simp only [Act.put, List.setIfInBounds_toArray, List.set_cons_zero, List.set_cons_succ, i64_w, i32_w]
      rfl
     refine one_ (i := 3) (N := some 56) #[true, true, true, true, false, false, false, false, false, false, false, false, false] rfl rfl (one_of HT_.out (by kernel_rfl)) (by decide) (fun K hK => ?_)
     refine goes_ Try.func18 (by kernel_rfl) rfl #[.agg #[.bool t342, .slice Ao113 t343.length co113], .agg #[.bool x331000_1, .slice Ao114 x331001_1.length co114]] (by rfl) rfl rfl argt ?_
     with_reducible refine (turnstoneref01_Cmp.calls k1 t342 _ _ t343 x331000_1 _ _ x331001_1 t346 _ ?side1 ?side2 ?side3 ?side4 A107.out).mono ?_
     (case side1 => repeat (first | exact (Kd.R_reads' HO345.out).2.2 | (with_reducible refine Kd.C_alloc ?_ _) | (with_reducible refine Kd.C_drewN ?_ _) | (with_reducible refine Kd.C_drew ?_)))
     (case side2 => exact (Kd.R_reads' HO345.out).2.1)
     (case side3 => repeat (first | exact (Kd.V_reads' HO_331001.out).2.2 | (with_reducible refine Kd.C_alloc ?_ _) | (with_reducible refine Kd.C_drewN ?_ _) | (with_reducible refine Kd.C_drew ?_)))
     (case side4 => exact (Kd.V_reads' HO_331001.out).2.1)
     rintro e w115 ⟨rfl, hb⟩
     refine ⟨_, rfl, ?_⟩
     replace HO_331001 := vb HO_331001 hb
     replace HO_332001 := vb HO_332001 hb
     replace HO345 := rb HO345 hb
     replace BK330 := blkb BK330 hb
     replace BK331 := blkb BK331 hb
     replace HB := belb HB hb
     (try clear hb)
     (try clear hb2)
     (try clear hk)
     (try clear hi)
     refine hK.out _ _ ⟨bc BK330 0, bc BK330 1, bc BK331 0, bc BK331 1⟩ (fun hHeld => ?_)
     clear hK K
     refine norm_ (a' := ?_) ?_ ?_
     rotate_left
     ·show Act.put _ (some 56) _ = _
      simp only [Act.put, List.setIfInBounds_toArray, List.set_cons_zero, List.set_cons_succ, i64_w, i32_w]
      rfl
     refine pure_ (i := 4) (N := some 57) (v := ?_) (a' := ?_) #[true, true, true, true, true, false, false, false, false, false, false, false, false] rfl rfl (any_of HT_.out (by kernel_rfl)) (fun _ _ _ h => h) (Or.inl ⟨by rfl, ?_⟩) ?_ ?_
     rotate_left
     ·intro w'
      go_simp
      with_reducible rfl
     rotate_left
     ·simp only [Act.put, List.setIfInBounds_toArray, List.set_cons_zero, List.set_cons_succ, i64_w, i32_w]
      rfl
     refine pure_ (i := 5) (N := some 58) (v := ?_) (a' := ?_) #[true, true, true, true, true, true, false, false, false, false, false, false, false] rfl rfl (any_of HT_.out (by kernel_rfl)) (fun _ _ _ h => h) (Or.inl ⟨by rfl, ?_⟩) ?_ ?_
     rotate_left
     ·intro w'
      go_simp
      with_reducible rfl
     rotate_left
     ·simp only [Act.put, List.setIfInBounds_toArray, List.set_cons_zero, List.set_cons_succ, i64_w, i32_w]
      rfl
     refine pure_ (i := 6) (N := some 59) (v := ?_) (a' := ?_) #[true, true, true, true, true, true, true, false, false, false, false, false, false] rfl rfl (any_of HT_.out (by kernel_rfl)) (fun _ _ _ h => h) (Or.inl ⟨by rfl, ?_⟩) ?_ ?_
     rotate_left
     ·intro w'
      go_simp
      with_reducible rfl
     rotate_left
     ·simp only [Act.put, List.setIfInBounds_toArray, List.set_cons_zero, List.set_cons_succ, i64_w, i32_w]
      rfl
     refine take_ (i := 8) (N := some 61) (v := ?_) (a' := ?_) #[true, true, true, true, true, true, true, false, true, false, false, false, false] rfl rfl (take_ofW HT_.out HW_.out (by kernel_rfl)) (fun _ _ _ h => h) (Or.inl ⟨by rfl, ?_⟩) hHeld ?_ ?_
     rotate_left
     ·rintro w' ⟨s0, s1, s2, s3⟩
      go_simp
      with_reducible rfl
     rotate_left
     ·simp only [Act.put, List.setIfInBounds_toArray, List.set_cons_zero, List.set_cons_succ, i64_w, i32_w]
      rfl
     refine one_ (i := 7) (N := some 60) #[true, true, true, true, true, true, true, true, true, false, false, false, false] rfl rfl (one_of HT_.out (by kernel_rfl)) (by decide) (fun K hK => ?_)
     refine goes_ Try.func19 (by kernel_rfl) rfl #[.int .i64 t329] (by rfl) rfl rfl argt ?_
     with_reducible refine (turnstoneref01_N.calls k1 t329 t347 t348 _ A109.out).mono ?_
     rintro e w116 ⟨v349, rfl, ho0, hb⟩
     refine ⟨_, rfl, ?_⟩
     replace HO_331001 := Aside0.mk (Kd.V_elder' (vt HO_331001) (Kd.R_base ho0) hb)
     replace HO_332001 := Aside0.mk (Kd.V_elder' (vt HO_332001) (Kd.R_base ho0) hb)
     have HO350 := Aside0.mk (Kd.R_lower (Kd.R_new' ho0 (Kd.R_lt (rt HO345))) (below_size (belt HB)))
     replace BK330 := blkb BK330 hb
     replace BK331 := blkb BK331 hb
     replace HO345 := Aside0.mk (Kd.R_elder' (rt HO345) (Kd.R_base ho0) hb)
     replace HB := belb HB hb
     (try clear hb)
     (try clear hb2)
     (try clear hk)
     (try clear hi)
     (try clear ho0)
     obtain ⟨Ao117, co117, eo117⟩ := Kd.R_slice HO350.out
     (first | subst eo117 | (injection eo117 with f1_ f2_ f3_; have f4_ := f1_.symm; have f5_ := f3_.symm; clear f1_ f2_ f3_; subst f4_; subst f5_))
     obtain ⟨Ao118, co118, eo118⟩ := Kd.V_slice HO_332001.out
     (first | subst eo118 | (injection eo118 with f1_ f2_ f3_; have f4_ := f1_.symm; have f5_ := f3_.symm; clear f1_ f2_ f3_; subst f4_; subst f5_))
     refine hK.out _ _ ⟨bc BK330 0, bc BK330 1, bc BK331 0, bc BK331 1⟩ (fun hHeld => ?_)
     clear hK K
     refine norm_ (a' := ?_) ?_ ?_
     rotate_left
     ·show Act.put _ (some 60) _ = _
      simp only [Act.put, List.setIfInBounds_toArray, List.set_cons_zero, List.set_cons_succ, i64_w, i32_w]
      rfl
     refine one_ (i := 9) (N := some 62) #[true, true, true, true, true, true, true, true, true, true, false, false, false] rfl rfl (one_of HT_.out (by kernel_rfl)) (by decide) (fun K hK => ?_)
     refine goes_ Try.func18 (by kernel_rfl) rfl #[.agg #[.bool t347, .slice Ao117 t348.length co117], .agg #[.bool x332000_1, .slice Ao118 x332001_1.length co118]] (by rfl) rfl rfl argt ?_
     with_reducible refine (turnstoneref01_Cmp.calls k1 t347 _ _ t348 x332000_1 _ _ x332001_1 t351 _ ?side1 ?side2 ?side3 ?side4 A110.out).mono ?_
     (case side1 => repeat (first | exact (Kd.R_reads' HO350.out).2.2 | (with_reducible refine Kd.C_alloc ?_ _) | (with_reducible refine Kd.C_drewN ?_ _) | (with_reducible refine Kd.C_drew ?_)))
     (case side2 => exact (Kd.R_reads' HO350.out).2.1)
     (case side3 => repeat (first | exact (Kd.V_reads' HO_332001.out).2.2 | (with_reducible refine Kd.C_alloc ?_ _) | (with_reducible refine Kd.C_drewN ?_ _) | (with_reducible refine Kd.C_drew ?_)))
     (case side4 => exact (Kd.V_reads' HO_332001.out).2.1)
     rintro e w119 ⟨rfl, hb⟩
     refine ⟨_, rfl, ?_⟩
     replace HO_331001 := vb HO_331001 hb
     replace HO_332001 := vb HO_332001 hb
     replace HO345 := rb HO345 hb
     replace HO350 := rb HO350 hb
     replace BK330 := blkb BK330 hb
     replace BK331 := blkb BK331 hb
     replace HB := belb HB hb
     (try clear hb)
     (try clear hb2)
     (try clear hk)
     (try clear hi)
     refine hK.out _ _ ⟨bc BK330 0, bc BK330 1, bc BK331 0, bc BK331 1⟩ (fun hHeld => ?_)
     clear hK K
     refine norm_ (a' := ?_) ?_ ?_
     rotate_left
     ·show Act.put _ (some 62) _ = _
      simp only [Act.put, List.setIfInBounds_toArray, List.set_cons_zero, List.set_cons_succ, i64_w, i32_w]
      rfl
     refine pure_ (i := 10) (N := some 63) (v := ?_) (a' := ?_) #[true, true, true, true, true, true, true, true, true, true, true, false, false] rfl rfl (any_of HT_.out (by kernel_rfl)) (fun _ _ _ h => h) (Or.inl ⟨by rfl, ?_⟩) ?_ ?_
     rotate_left
     ·intro w'
      go_simp
      with_reducible rfl
     rotate_left
     ·simp only [Act.put, List.setIfInBounds_toArray, List.set_cons_zero, List.set_cons_succ, i64_w, i32_w]
      rfl
     refine pure_ (i := 11) (N := some 64) (v := ?_) (a' := ?_) #[true, true, true, true, true, true, true, true, true, true, true, true, false] rfl rfl (any_of HT_.out (by kernel_rfl)) (fun _ _ _ h => h) (Or.inl ⟨by rfl, ?_⟩) ?_ ?_
     rotate_left
     ·intro w'
      go_simp
      with_reducible rfl
     rotate_left
     ·simp only [Act.put, List.setIfInBounds_toArray, List.set_cons_zero, List.set_cons_succ, i64_w, i32_w]
      rfl
     refine pure_ (i := 12) (N := some 4) (v := ?_) (a' := ?_) #[true, true, true, true, true, true, true, true, true, true, true, true, true] rfl rfl (any_of HT_.out (by kernel_rfl)) (fun _ _ _ h => h) (Or.inl ⟨by rfl, ?_⟩) ?_ ?_
     rotate_left
     ·intro w'
      go_simp
      with_reducible rfl
     rotate_left
     ·simp only [Act.put, List.setIfInBounds_toArray, List.set_cons_zero, List.set_cons_succ, i64_w, i32_w]
      rfl
     refine done_ (done_of HT_.out (by kernel_rfl)) ?_
     try go_wp2
     go_ret
     exact ⟨by first | rfl | (simp [errW_none, errW_some] <;> rfl) | (simp [*, errW_none, errW_some] <;> rfl), belt HB⟩
    rw [if_neg c108] at H
    have c108b0 : (t346 == 0) = false := beq_eq_false_iff_ne.mpr c108
    have c108b1 : (t346 != 0) = true := bne_iff_ne.mpr c108
    exact absurd H (by simp)
 replace c4 := Bool.eq_false_iff.mpr c4
 subst c4
 have H1 : (none) = some r := by rw [if_neg (show ¬ (false = true) by decide)] at H; exact H
 clear H
 have H := H1
 clear H1
 exact absurd H (by simp)

/-- THE ONE PURE STATEMENT of turnstonelaw04_PosFloors. -/
def turnstonelaw04_PosFloors.Pure : Prop := ∀ (a0 : Int) (l1 : List (S67)), (Lit.int .u64 a0).wf = true → l1.length ≤ maxLen → (∀ x ∈ l1, wfS67 x) → ∃ k, turnstonelaw04_PosFloors.f k a0 l1 = some true
theorem turnstonelaw04_PosFloors.walk (P : turnstonelaw04_PosFloors.Pure) (a0 : Int) (A1 : Option Addr) (c1 : Nat) (l1 : List (S67)) (w : World) (w0 : (Lit.int .u64 a0).wf = true) (hr1 : Kd.C k67 w A1 l1.length l1) (hc1 : l1.length ≤ c1) (hm1 : l1.length ≤ maxLen) (hw1 : ∀ x ∈ l1, wfS67 x) :
  Calls Try.prog 14 #[.int .u64 a0, .slice A1 l1.length c1] w fun e w' => e = .returned (.bool true) ∧ Below w.heap.size w w' := by
 obtain ⟨k, h⟩ := P a0 l1 w0 hm1 hw1
 refine (turnstonelaw04_PosFloors.calls k a0 _ _ l1 true w hr1 hc1 h).mono ?_
 rintro e w' ⟨rfl, hd⟩
 exact ⟨rfl, hd⟩

end Go.Proofs.Ytimgiiceipjpaaa.Print
