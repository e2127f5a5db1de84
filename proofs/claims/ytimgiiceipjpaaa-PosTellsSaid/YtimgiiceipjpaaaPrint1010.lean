/- What each Go function that is named below answers, as a Lean function, and that its walk comes to just that: for whatever arguments that function gives an answer for. Written by a program of this session (wip/mkpr.py, pr.sh). -/
import Derived.Test.YtimgiiceipjpaaaPrint1000
import Derived.Test.YtimgiiceipjpaaaPrint1005
import Derived.Test.YtimgiiceipjpaaaPrint1006
namespace Go.Proofs.Ytimgiiceipjpaaa.Print
open Go.RowKit Go.Proofs.YtimgiiceipjpaaaW.PrintWords Go.Proofs.YtimgiiceipjpaaaW.PrintLast Go.Proofs.YtimgiiceipjpaaaW.PrintMore
attribute [local go_sem] max2_int min2_int max_two min_two max_three min_three max_four min_four   -- for this text's walks alone
open Go.Proofs.Ytimgiiceipjpaaa.Bits Go.Proofs.Ytimgiiceipjpaaa.Short
attribute [local go_sem] add64_run0 sub64_run0 add64_run sub64_run
set_option linter.unusedVariables false
set_option linter.unusedSimpArgs false

/-! ### turnstonelaw04_PosTells: function 16 -/
mutual
def turnstonelaw04_PosTells.j0 : Nat → Int → Bool → Int → Int → Int → Int → Int → Int → Option (Bool)
 | 0, _, _, _, _, _, _, _, _ => none
 | k + 1, x3, x28, x628000, x628001, x628002, x629000, x629001, x629002 => if x28 = true then (none) else ((pos_Pos_Shift.f x628000 x628001 x628002 x3).bind fun bt645 => (if bt645.2.1 = x628001 then (if bt645.2.2 = x628002 then (turnstonelaw04_PosTells.j1 k (bt645.1 != (IntKind.u64.wrap (x628000 + x3))) x628000 x628001 x628002 x629000 x629001 x629002) else (turnstonelaw04_PosTells.j1 k true x628000 x628001 x628002 x629000 x629001 x629002)) else (turnstonelaw04_PosTells.j1 k true x628000 x628001 x628002 x629000 x629001 x629002)))
def turnstonelaw04_PosTells.j1 : Nat → Bool → Int → Int → Int → Int → Int → Int → Option (Bool)
 | 0, _, _, _, _, _, _, _ => none
 | k + 1, x52, x628000, x628001, x628002, x629000, x629001, x629002 => if x52 = true then (none) else ((turnstonelaw04_Of.f x628000 x628001 x628002).bind fun bt649 => ((turnstoneref04_Right.f bt649.1 bt649.2.1 bt649.2.2).bind fun t652 => (if t652 = true then ((turnstonelaw04_Of.f x629000 x629001 x629002).bind fun bt653 => ((turnstoneref04_Right.f bt653.1 bt653.2.1 bt653.2.2).bind fun t656 => (if t656 = true then ((pos_Pos_Cmp.f k x628000 x628001 x628002 x629000 x629001 x629002).bind fun t657 => ((turnstonelaw04_Of.f x628000 x628001 x628002).bind fun bt658 => ((turnstonelaw04_Of.f x629000 x629001 x629002).bind fun bt661 => ((turnstoneref04_Cmp.f k bt658.1 bt658.2.1 bt658.2.2 bt661.1 bt661.2.1 bt661.2.2).bind fun t664 => (some (t657 == t664)))))) else (some true)))) else (some true))))
end
def turnstonelaw04_PosTells.f (k : Nat) (a0_0 : Int) (a0_1 : Int) (a0_2 : Int) (a1_0 : Int) (a1_1 : Int) (a1_2 : Int) (a2 : Int) (a3 : Int) : Option (Bool) := (turnstonelaw04_awake.f).bind fun t629 => (if t629 = true then ((pos_Pos_Right.f a0_0 a0_1 a0_2).bind fun t630 => ((turnstonelaw04_Of.f a0_0 a0_1 a0_2).bind fun bt631 => ((turnstoneref04_Right.f bt631.1 bt631.2.1 bt631.2.2).bind fun t634 => (if (t630 != t634) = true then (turnstonelaw04_PosTells.j0 k a3 true a0_0 a0_1 a0_2 a1_0 a1_1 a1_2) else ((pos_Pos_Distance.f k a0_0 a0_1 a0_2 a2).bind fun bt635 => ((turnstonelaw04_Of.f a0_0 a0_1 a0_2).bind fun bt637 => ((turnstoneref04_Distance.f k bt637.1 bt637.2.1 bt637.2.2 a2).bind fun bt640 => ((turnstonelaw01_Same.f k bt635.1 bt635.2 bt640.1 bt640.2).bind fun t644 => (turnstonelaw04_PosTells.j0 k a3 (!t644) a0_0 a0_1 a0_2 a1_0 a1_1 a1_2))))))))) else (none))
theorem turnstonelaw04_PosTells.mono_l : ∀ k, (∀ y0 y1 y2 y3 y4 y5 y6 y7, LeO (turnstonelaw04_PosTells.j0 k y0 y1 y2 y3 y4 y5 y6 y7) (turnstonelaw04_PosTells.j0 (k + 1) y0 y1 y2 y3 y4 y5 y6 y7)) ∧ (∀ y0 y1 y2 y3 y4 y5 y6, LeO (turnstonelaw04_PosTells.j1 k y0 y1 y2 y3 y4 y5 y6) (turnstonelaw04_PosTells.j1 (k + 1) y0 y1 y2 y3 y4 y5 y6))
 | 0 => ⟨fun _ _ _ _ _ _ _ _ r h => by simp [turnstonelaw04_PosTells.j0] at h, fun _ _ _ _ _ _ _ r h => by simp [turnstonelaw04_PosTells.j1] at h⟩
 | k + 1 => by
  obtain ⟨ih0, ih1⟩ := turnstonelaw04_PosTells.mono_l k
  refine ⟨?_, ?_⟩
  ·intro y0 y1 y2 y3 y4 y5 y6 y7
   unfold turnstonelaw04_PosTells.j0
   repeat' first
   | (with_reducible exact ih0 _ _ _ _ _ _ _ _)
   | (with_reducible exact ih1 _ _ _ _ _ _ _)
   | (with_reducible exact pos_Pos_Cmp.mono _ _ _ _ _ _ _)
   | (with_reducible exact pos_Pos_Distance.mono _ _ _ _ _)
   | (with_reducible exact turnstonelaw01_Same.mono _ _ _ _ _)
   | (with_reducible exact turnstoneref04_Cmp.mono _ _ _ _ _ _ _)
   | (with_reducible exact turnstoneref04_Distance.mono _ _ _ _ _)
   | (with_reducible exact LeO.refl _)
   | (with_reducible exact LeO.none _)
   | (with_reducible refine LeO.ite ?_ ?_)
   | (with_reducible refine LeO.bind ?_ (fun _ => ?_))
   | exact ih0 _ _ _ _ _ _ _ _
   | exact ih1 _ _ _ _ _ _ _
   | exact pos_Pos_Cmp.mono _ _ _ _ _ _ _
   | exact pos_Pos_Distance.mono _ _ _ _ _
   | exact turnstonelaw01_Same.mono _ _ _ _ _
   | exact turnstoneref04_Cmp.mono _ _ _ _ _ _ _
   | exact turnstoneref04_Distance.mono _ _ _ _ _
   | exact LeO.none _
   | refine LeO.ite ?_ ?_
   | refine LeO.bind ?_ (fun _ => ?_)
  intro y0 y1 y2 y3 y4 y5 y6
  unfold turnstonelaw04_PosTells.j1
  repeat' first
  | (with_reducible exact ih0 _ _ _ _ _ _ _ _)
  | (with_reducible exact ih1 _ _ _ _ _ _ _)
  | (with_reducible exact pos_Pos_Cmp.mono _ _ _ _ _ _ _)
  | (with_reducible exact pos_Pos_Distance.mono _ _ _ _ _)
  | (with_reducible exact turnstonelaw01_Same.mono _ _ _ _ _)
  | (with_reducible exact turnstoneref04_Cmp.mono _ _ _ _ _ _ _)
  | (with_reducible exact turnstoneref04_Distance.mono _ _ _ _ _)
  | (with_reducible exact LeO.refl _)
  | (with_reducible exact LeO.none _)
  | (with_reducible refine LeO.ite ?_ ?_)
  | (with_reducible refine LeO.bind ?_ (fun _ => ?_))
  | exact ih0 _ _ _ _ _ _ _ _
  | exact ih1 _ _ _ _ _ _ _
  | exact pos_Pos_Cmp.mono _ _ _ _ _ _ _
  | exact pos_Pos_Distance.mono _ _ _ _ _
  | exact turnstonelaw01_Same.mono _ _ _ _ _
  | exact turnstoneref04_Cmp.mono _ _ _ _ _ _ _
  | exact turnstoneref04_Distance.mono _ _ _ _ _
  | exact LeO.none _
  | refine LeO.ite ?_ ?_
  | refine LeO.bind ?_ (fun _ => ?_)
theorem turnstonelaw04_PosTells.mono : ∀ a0 a1 a2 a3 a4 a5 a6 a7 k, LeO (turnstonelaw04_PosTells.f k a0 a1 a2 a3 a4 a5 a6 a7) (turnstonelaw04_PosTells.f (k + 1) a0 a1 a2 a3 a4 a5 a6 a7) := by
 intro a0 a1 a2 a3 a4 a5 a6 a7 k
 obtain ⟨ih0, ih1⟩ := turnstonelaw04_PosTells.mono_l k
 unfold turnstonelaw04_PosTells.f
 repeat' first
   | (with_reducible exact ih0 _ _ _ _ _ _ _ _)
   | (with_reducible exact ih1 _ _ _ _ _ _ _)
   | (with_reducible exact pos_Pos_Cmp.mono _ _ _ _ _ _ _)
   | (with_reducible exact pos_Pos_Distance.mono _ _ _ _ _)
   | (with_reducible exact turnstonelaw01_Same.mono _ _ _ _ _)
   | (with_reducible exact turnstoneref04_Cmp.mono _ _ _ _ _ _ _)
   | (with_reducible exact turnstoneref04_Distance.mono _ _ _ _ _)
   | (with_reducible exact LeO.refl _)
   | (with_reducible exact LeO.none _)
   | (with_reducible refine LeO.ite ?_ ?_)
   | (with_reducible refine LeO.bind ?_ (fun _ => ?_))
   | exact ih0 _ _ _ _ _ _ _ _
   | exact ih1 _ _ _ _ _ _ _
   | exact pos_Pos_Cmp.mono _ _ _ _ _ _ _
   | exact pos_Pos_Distance.mono _ _ _ _ _
   | exact turnstonelaw01_Same.mono _ _ _ _ _
   | exact turnstoneref04_Cmp.mono _ _ _ _ _ _ _
   | exact turnstoneref04_Distance.mono _ _ _ _ _
   | exact LeO.none _
   | refine LeO.ite ?_ ?_
   | refine LeO.bind ?_ (fun _ => ?_)
def turnstonelaw04_PosTells.T3 : Bool × List (List Nat × List Nat) := (true, [([], []), ([0], [0]), ([], []), ([2, 1], [2]), ([3, 3], [3]), ([1, 4], [1, 4]), ([5, 4], [5]), ([6], [6]), ([6], [6]), ([7, 8, 6, 6], [6, 7, 8]), ([6], [6]), ([10, 9, 6], [6, 10]), ([6], [6]), ([11, 12, 11, 6], [6, 11, 12]), ([9, 13, 13, 6], [6, 9, 13]), ([14, 6], [6, 14]), ([6, 15], [6, 15])])
def turnstonelaw04_PosTells.B3 : List Nat := [0, 1, 0, 7, 15, 31, 63, 127, 127, 511, 127, 2047, 127, 8191, 16383, 32767, 65535]
theorem turnstonelaw04_PosTells.tab3 : rtab .any (opsOf Try.f16 3) = turnstonelaw04_PosTells.T3 := by kernel_rfl
theorem turnstonelaw04_PosTells.bits3 : waitsOk turnstonelaw04_PosTells.T3.2 turnstonelaw04_PosTells.B3 = true := by kernel_rfl
def turnstonelaw04_PosTells.T8 : Bool × List (List Nat × List Nat) := (true, [([], []), ([0], [0]), ([1, 1], [1]), ([2], [2]), ([3, 2], [3]), ([4], [4]), ([5, 4, 4], [4, 5]), ([6, 6, 4], [4, 6]), ([7, 4], [4, 7]), ([4, 8], [4, 8]), ([9, 7], [9]), ([10], [10]), ([10], [10]), ([11, 12, 10, 10], [10, 11, 12]), ([10], [10]), ([14, 13, 10], [10, 14]), ([10], [10]), ([16, 15, 10], [10, 16]), ([15, 17, 17, 10], [10, 15, 17]), ([13, 18, 10], [10, 13, 18]), ([10, 19], [10, 19]), ([20, 18, 0, 1, 2, 3, 4, 5, 6, 7, 8, 9, 10, 11, 12, 13, 14, 15, 16, 17, 18, 19, 20], [20])])
def turnstonelaw04_PosTells.B8 : List Nat := [0, 1, 3, 7, 15, 31, 63, 127, 255, 511, 1023, 2047, 2047, 8191, 2047, 32767, 2047, 131071, 262143, 524287, 1048575, 2097151]
theorem turnstonelaw04_PosTells.tab8 : rtab .any (opsOf Try.f16 8) = turnstonelaw04_PosTells.T8 := by kernel_rfl
theorem turnstonelaw04_PosTells.bits8 : waitsOk turnstonelaw04_PosTells.T8.2 turnstonelaw04_PosTells.B8 = true := by kernel_rfl
set_option maxHeartbeats 8000000 in
set_option maxRecDepth 100000 in
theorem turnstonelaw04_PosTells.calls (k : Nat) (a0_0 : Int) (a0_1 : Int) (a0_2 : Int) (a1_0 : Int) (a1_1 : Int) (a1_2 : Int) (a2 : Int) (a3 : Int) (r : Bool) (w : World) (h : turnstonelaw04_PosTells.f k a0_0 a0_1 a0_2 a1_0 a1_1 a1_2 a2 a3 = some r) :
  Calls Try.prog 16 #[.agg #[.int .u64 a0_0, .int .u32 a0_1, .int .u32 a0_2], .agg #[.int .u64 a1_0, .int .u32 a1_1, .int .u32 a1_2], .int .u64 a2, .int .u64 a3] w fun e w' => e = .returned (.bool r) ∧ Below w.heap.size w w' := by
 have hu67 := Try.underlying67
 have HB := Aside0.mk (Below.refl w.heap.size w)
 have H : ((turnstonelaw04_awake.f).bind fun t629 => (if t629 = true then ((pos_Pos_Right.f a0_0 a0_1 a0_2).bind fun t630 => ((turnstonelaw04_Of.f a0_0 a0_1 a0_2).bind fun bt631 => ((turnstoneref04_Right.f bt631.1 bt631.2.1 bt631.2.2).bind fun t634 => (if (t630 != t634) = true then (turnstonelaw04_PosTells.j0 k a3 true a0_0 a0_1 a0_2 a1_0 a1_1 a1_2) else ((pos_Pos_Distance.f k a0_0 a0_1 a0_2 a2).bind fun bt635 => ((turnstonelaw04_Of.f a0_0 a0_1 a0_2).bind fun bt637 => ((turnstoneref04_Distance.f k bt637.1 bt637.2.1 bt637.2.2 a2).bind fun bt640 => ((turnstonelaw01_Same.f k bt635.1 bt635.2 bt640.1 bt640.2).bind fun t644 => (turnstonelaw04_PosTells.j0 k a3 (!t644) a0_0 a0_1 a0_2 a1_0 a1_1 a1_2))))))))) else (none))) = some r := h
 clear h
 replace H := Option.bind_eq_some_iff.mp H
 obtain ⟨t629, A50, H⟩ := H
 replace H : (if t629 = true then ((pos_Pos_Right.f a0_0 a0_1 a0_2).bind fun t630 => ((turnstonelaw04_Of.f a0_0 a0_1 a0_2).bind fun bt631 => ((turnstoneref04_Right.f bt631.1 bt631.2.1 bt631.2.2).bind fun t634 => (if (t630 != t634) = true then (turnstonelaw04_PosTells.j0 k a3 true a0_0 a0_1 a0_2 a1_0 a1_1 a1_2) else ((pos_Pos_Distance.f k a0_0 a0_1 a0_2 a2).bind fun bt635 => ((turnstonelaw04_Of.f a0_0 a0_1 a0_2).bind fun bt637 => ((turnstoneref04_Distance.f k bt637.1 bt637.2.1 bt637.2.2 a2).bind fun bt640 => ((turnstonelaw01_Same.f k bt635.1 bt635.2 bt640.1 bt640.2).bind fun t644 => (turnstonelaw04_PosTells.j0 k a3 (!t644) a0_0 a0_1 a0_2 a1_0 a1_1 a1_2))))))))) else (none)) = some r := H
 have A5 := Aside0.mk A50
 clear A50
 by_cases c6 : t629 = true
 ·subst c6
  have H1 : ((pos_Pos_Right.f a0_0 a0_1 a0_2).bind fun t630 => ((turnstonelaw04_Of.f a0_0 a0_1 a0_2).bind fun bt631 => ((turnstoneref04_Right.f bt631.1 bt631.2.1 bt631.2.2).bind fun t634 => (if (t630 != t634) = true then (turnstonelaw04_PosTells.j0 k a3 true a0_0 a0_1 a0_2 a1_0 a1_1 a1_2) else ((pos_Pos_Distance.f k a0_0 a0_1 a0_2 a2).bind fun bt635 => ((turnstonelaw04_Of.f a0_0 a0_1 a0_2).bind fun bt637 => ((turnstoneref04_Distance.f k bt637.1 bt637.2.1 bt637.2.2 a2).bind fun bt640 => ((turnstonelaw01_Same.f k bt635.1 bt635.2 bt640.1 bt640.2).bind fun t644 => (turnstonelaw04_PosTells.j0 k a3 (!t644) a0_0 a0_1 a0_2 a1_0 a1_1 a1_2))))))))) = some r := by rw [if_pos rfl] at H; exact H
  clear H
  have H := H1
  clear H1
  have HC7 := Aside0.mk H
  clear H
  go_enter Try.func16, Try.ntmps16
  go_upto_region 3 with (first | ((with_reducible refine gate_dst (N := 4) rfl ?_); refine box_event ?hg (N := 4) ?hd (cs := #[.int .u64 a0_0, .int .u32 a0_1, .int .u32 a0_2]) (t := 67) ?hr ?_; (case hd => rfl); (case hg => rfl); (case hr => first | (go_simp; done) | (go_simp; rfl)); intro gb627 hg w8 hbox hb; have BK627 := Aside0.mk (hbox); have GW627 := bels HB hg; have GE627 := bels HB hg; replace HB := belb HB hb; clear hb hbox hg) | ((with_reducible refine gate_dst (N := 5) rfl ?_); refine box_event ?hg (N := 5) ?hd (cs := #[.int .u64 a1_0, .int .u32 a1_1, .int .u32 a1_2]) (t := 67) ?hr ?_; (case hd => rfl); (case hg => rfl); (case hr => first | (go_simp; done) | (go_simp; rfl)); intro gb628 hg w9 hbox hb; have BK628 := Aside0.mk (hbox); have GW628 := bels HB hg; have GE628 := bels HB hg; have NB627_628 := blkl BK627 hg; have NB628_627 := blkg BK627 hg; replace BK627 := blkb BK627 hb; replace HB := belb HB hb; clear hb hbox hg) | ((with_reducible refine gate_callee (f := 44) rfl ?_); refine goesL_ (some 10) rfl rfl Try.func44 (by kernel_rfl) rfl #[] rfl argt ?_; (with_reducible refine (turnstonelaw04_awake.calls  true _ A5.out).mono ?_); rintro e w10 ⟨rfl, hb⟩; refine ⟨_, rfl, ?_⟩; replace BK627 := blkb BK627 hb; replace BK628 := blkb BK628 hb; replace HB := belb HB hb; (try clear hb); (try clear hb2); (try clear hk); (try clear hi)))
  (try simp only [Act.put, List.setIfInBounds_toArray, List.set_cons_zero, List.set_cons_succ])
  go_cut [28] (fun v28 wc => ∃ (kq : Nat) (x28_6 : Bool), v28 = .bool x28_6 ∧ Aside0 (turnstonelaw04_PosTells.j0 kq a3 x28_6 a0_0 a0_1 a0_2 a1_0 a1_1 a1_2 = some r) ∧ Aside0 (kq ≤ k) ∧ Aside0 (wc.heap[gb627]? = some (.cells #[.int .u64 a0_0, .int .u32 a0_1, .int .u32 a0_2] 67 (0, 0))) ∧ Aside0 (wc.heap[gb628]? = some (.cells #[.int .u64 a1_0, .int .u32 a1_1, .int .u32 a1_2] 67 (0, 0))) ∧ Aside0 (Below w.heap.size w wc))
  case first =>
   have H := HC7.out
   clear HC7
   replace H := Option.bind_eq_some_iff.mp H
   obtain ⟨t630, A110, H⟩ := H
   replace H : ((turnstonelaw04_Of.f a0_0 a0_1 a0_2).bind fun bt631 => ((turnstoneref04_Right.f bt631.1 bt631.2.1 bt631.2.2).bind fun t634 => (if (t630 != t634) = true then (turnstonelaw04_PosTells.j0 k a3 true a0_0 a0_1 a0_2 a1_0 a1_1 a1_2) else ((pos_Pos_Distance.f k a0_0 a0_1 a0_2 a2).bind fun bt635 => ((turnstonelaw04_Of.f a0_0 a0_1 a0_2).bind fun bt637 => ((turnstoneref04_Distance.f k bt637.1 bt637.2.1 bt637.2.2 a2).bind fun bt640 => ((turnstonelaw01_Same.f k bt635.1 bt635.2 bt640.1 bt640.2).bind fun t644 => (turnstonelaw04_PosTells.j0 k a3 (!t644) a0_0 a0_1 a0_2 a1_0 a1_1 a1_2)))))))) = some r := H
   have A11 := Aside0.mk A110
   clear A110
   replace H := Option.bind_eq_some_iff.mp H
   obtain ⟨⟨t631, t632, t633⟩, A120, H⟩ := H
   replace H : ((turnstoneref04_Right.f t631 t632 t633).bind fun t634 => (if (t630 != t634) = true then (turnstonelaw04_PosTells.j0 k a3 true a0_0 a0_1 a0_2 a1_0 a1_1 a1_2) else ((pos_Pos_Distance.f k a0_0 a0_1 a0_2 a2).bind fun bt635 => ((turnstonelaw04_Of.f a0_0 a0_1 a0_2).bind fun bt637 => ((turnstoneref04_Distance.f k bt637.1 bt637.2.1 bt637.2.2 a2).bind fun bt640 => ((turnstonelaw01_Same.f k bt635.1 bt635.2 bt640.1 bt640.2).bind fun t644 => (turnstonelaw04_PosTells.j0 k a3 (!t644) a0_0 a0_1 a0_2 a1_0 a1_1 a1_2))))))) = some r := H
   have A12 := Aside0.mk A120
   clear A120
   replace H := Option.bind_eq_some_iff.mp H
   obtain ⟨t634, A130, H⟩ := H
   replace H : (if (t630 != t634) = true then (turnstonelaw04_PosTells.j0 k a3 true a0_0 a0_1 a0_2 a1_0 a1_1 a1_2) else ((pos_Pos_Distance.f k a0_0 a0_1 a0_2 a2).bind fun bt635 => ((turnstonelaw04_Of.f a0_0 a0_1 a0_2).bind fun bt637 => ((turnstoneref04_Distance.f k bt637.1 bt637.2.1 bt637.2.2 a2).bind fun bt640 => ((turnstonelaw01_Same.f k bt635.1 bt635.2 bt640.1 bt640.2).bind fun t644 => (turnstonelaw04_PosTells.j0 k a3 (!t644) a0_0 a0_1 a0_2 a1_0 a1_1 a1_2)))))) = some r := H
   have A13 := Aside0.mk A130
   clear A130
   by_cases c14 : (t630 != t634) = true
   ·rw [if_pos c14] at H
    have c14b0 : (t630 != t634) = true := c14
    (try (have c14b1 : decide (t630 = t634) = false := by simpa using c14))
    (try (have c14b2 : (t630 == t634) = false := by simpa using c14))
    (try (have c14b3 : ¬ (t630 = t634) := by simpa using c14))
    clear c14
    (first | rw [c14b0] | (simp only [i64_w, i32_w]; rw [c14b0]) | skip)
    have H' := Aside0.mk H
    clear H
    try go_wp2
    replace BK627 := Aside0.mk (blk_drew BK627.out)
    replace BK628 := Aside0.mk (blk_drew BK628.out)
    replace HB := Aside0.mk (below_drew1 HB.out)
    refine start_ (n := 17) (S := fun w' => w'.cell? ⟨gb627, 0, none⟩ = some (.int .u64 a0_0) ∧ w'.cell? ⟨gb627, 1, none⟩ = some (.int .u32 a0_1) ∧ w'.cell? ⟨gb627, 2, none⟩ = some (.int .u32 a0_2)) (ds := []) #[false, false, false, false, false, false, false, false, false, false, false, false, false, false, false, false, false] (by kernel_rfl) rfl rfl ⟨bc BK627 0, bc BK627 1, bc BK627 2⟩ (fun hHeld => ?_); refine with_tabW turnstonelaw04_PosTells.tab3 turnstonelaw04_PosTells.bits3 (fun HT_ HW_ => ?_)
    generalize w10.drew = w15 at BK627 BK628 HB hHeld ⊢
    refine take_ (i := 0) (N := some 12) (v := ?_) (a' := ?_) #[true, false, false, false, false, false, false, false, false, false, false, false, false, false, false, false, false] rfl rfl (take_ofW HT_.out HW_.out (by kernel_rfl)) (fun _ _ _ h => h) (Or.inl ⟨by rfl, ?_⟩) hHeld ?_ ?_
    rotate_left
    ·rintro w' ⟨s0, s1, s2⟩
     go_simp
     with_reducible rfl
    rotate_left
    ·simp only [Act.put, List.setIfInBounds_toArray, List.set_cons_zero, List.set_cons_succ, i64_w, i32_w]
     rfl
    refine take_ (i := 2) (N := some 14) (v := ?_) (a' := ?_) #[true, false, true, false, false, false, false, false, false, false, false, false, false, false, false, false, false] rfl rfl (take_ofW HT_.out HW_.out (by kernel_rfl)) (fun _ _ _ h => h) (Or.inl ⟨by rfl, ?_⟩) hHeld ?_ ?_
    rotate_left
    ·rintro w' ⟨s0, s1, s2⟩
     go_simp
     with_reducible rfl
    rotate_left
    ·simp only [Act.put, List.setIfInBounds_toArray, List.set_cons_zero, List.set_cons_succ, i64_w, i32_w]
     rfl
    refine one_ (i := 1) (N := some 13) #[true, true, true, false, false, false, false, false, false, false, false, false, false, false, false, false, false] rfl rfl (one_of HT_.out (by kernel_rfl)) (by decide) (fun K hK => ?_)
    refine goes_ Try.func50 (by kernel_rfl) rfl #[.agg #[.int .u64 a0_0, .int .u32 a0_1, .int .u32 a0_2]] (by rfl) rfl rfl argt ?_
    with_reducible refine (pos_Pos_Right.calls a0_0 a0_1 a0_2 t630 _ A11.out).mono ?_
    rintro e w16 ⟨rfl, hb⟩
    refine ⟨_, rfl, ?_⟩
    replace BK627 := blkb BK627 hb
    replace BK628 := blkb BK628 hb
    replace HB := belb HB hb
    (try clear hb)
    (try clear hb2)
    (try clear hk)
    (try clear hi)
    refine hK.out _ _ ⟨bc BK627 0, bc BK627 1, bc BK627 2⟩ (fun hHeld => ?_)
    clear hK K
    refine norm_ (a' := ?_) ?_ ?_
    rotate_left
    ·show Act.put _ (some 13) _ = _
     simp only [Act.put, List.setIfInBounds_toArray, List.set_cons_zero, List.set_cons_succ, i64_w, i32_w]
     rfl
    refine one_ (i := 3) (N := some 15) #[true, true, true, true, false, false, false, false, false, false, false, false, false, false, false, false, false] rfl rfl (one_of HT_.out (by kernel_rfl)) (by decide) (fun K hK => ?_)
    refine goes_ Try.func48 (by kernel_rfl) rfl #[.agg #[.int .u64 a0_0, .int .u32 a0_1, .int .u32 a0_2]] (by rfl) rfl rfl argt ?_
    with_reducible refine (turnstonelaw04_Of.calls a0_0 a0_1 a0_2 t631 t632 t633 _ A12.out).mono ?_
    rintro e w17 ⟨rfl, hb⟩
    refine ⟨_, rfl, ?_⟩
    replace BK627 := blkb BK627 hb
    replace BK628 := blkb BK628 hb
    replace HB := belb HB hb
    (try clear hb)
    (try clear hb2)
    (try clear hk)
    (try clear hi)
    refine hK.out _ _ ⟨bc BK627 0, bc BK627 1, bc BK627 2⟩ (fun hHeld => ?_)
    clear hK K
    refine norm_ (a' := ?_) ?_ ?_
    rotate_left
    ·show Act.put _ (some 15) _ = _
     simp only [Act.put, List.setIfInBounds_toArray, List.set_cons_zero, List.set_cons_succ, i64_w, i32_w]
     rfl
    refine one_ (i := 4) (N := some 16) #[true, true, true, true, true, false, false, false, false, false, false, false, false, false, false, false, false] rfl rfl (one_of HT_.out (by kernel_rfl)) (by decide) (fun K hK => ?_)
    refine goes_ Try.func52 (by kernel_rfl) rfl #[.agg #[.int .u64 t631, .int .u32 t632, .int .u32 t633]] (by rfl) rfl rfl argt ?_
    with_reducible refine (turnstoneref04_Right.calls t631 t632 t633 t634 _ A13.out).mono ?_
    rintro e w18 ⟨rfl, hb⟩
    refine ⟨_, rfl, ?_⟩
    replace BK627 := blkb BK627 hb
    replace BK628 := blkb BK628 hb
    replace HB := belb HB hb
    (try clear hb)
    (try clear hb2)
    (try clear hk)
    (try clear hi)
    refine hK.out _ _ ⟨bc BK627 0, bc BK627 1, bc BK627 2⟩ (fun hHeld => ?_)
    clear hK K
    refine norm_ (a' := ?_) ?_ ?_
    rotate_left
    ·show Act.put _ (some 16) _ = _
     simp only [Act.put, List.setIfInBounds_toArray, List.set_cons_zero, List.set_cons_succ, i64_w, i32_w]
     rfl
    refine pure_ (i := 5) (N := some 17) (v := ?_) (a' := ?_) #[true, true, true, true, true, true, false, false, false, false, false, false, false, false, false, false, false] rfl rfl (any_of HT_.out (by kernel_rfl)) (fun _ _ _ h => h) (Or.inl ⟨by rfl, ?_⟩) ?_ ?_
    rotate_left
    ·intro w'
     go_simp
     with_reducible rfl
    rotate_left
    ·simp only [Act.put, List.setIfInBounds_toArray, List.set_cons_zero, List.set_cons_succ, i64_w, i32_w]
     rfl
    refine pure_ (i := 6) (N := some 18) (v := ?_) (a' := ?_) #[true, true, true, true, true, true, true, false, false, false, false, false, false, false, false, false, false] rfl rfl (any_of HT_.out (by kernel_rfl)) (fun _ _ _ h => h) (Or.inl ⟨by rfl, ?_⟩) ?_ ?_
    rotate_left
    ·intro w'
     go_simp
     with_reducible rfl
    rotate_left
    ·simp only [Act.put, List.setIfInBounds_toArray, List.set_cons_zero, List.set_cons_succ, i64_w, i32_w]
     rfl
    refine pure_ (i := 7) (N := some 19) (v := undef) (a' := ?_) #[true, true, true, true, true, true, true, true, false, false, false, false, false, false, false, false, false] rfl rfl (any_of HT_.out (by kernel_rfl)) (fun _ _ _ h => h) (Or.inr ⟨by rfl, rfl⟩) ?_ ?_
    rotate_left
    ·simp only [Act.put, List.setIfInBounds_toArray, List.set_cons_zero, List.set_cons_succ, i64_w, i32_w]
     rfl
    refine pure_ (i := 8) (N := some 20) (v := undef) (a' := ?_) #[true, true, true, true, true, true, true, true, true, false, false, false, false, false, false, false, false] rfl rfl (any_of HT_.out (by kernel_rfl)) (fun _ _ _ h => h) (Or.inr ⟨by rfl, rfl⟩) ?_ ?_
    rotate_left
    ·simp only [Act.put, List.setIfInBounds_toArray, List.set_cons_zero, List.set_cons_succ, i64_w, i32_w]
     rfl
    refine pure_ (i := 9) (N := some 21) (v := undef) (a' := ?_) #[true, true, true, true, true, true, true, true, true, true, false, false, false, false, false, false, false] rfl rfl (any_of HT_.out (by kernel_rfl)) (fun _ _ _ h => h) (Or.inr ⟨by rfl, rfl⟩) ?_ ?_
    rotate_left
    ·simp only [Act.put, List.setIfInBounds_toArray, List.set_cons_zero, List.set_cons_succ, i64_w, i32_w]
     rfl
    refine pure_ (i := 10) (N := some 22) (v := undef) (a' := ?_) #[true, true, true, true, true, true, true, true, true, true, true, false, false, false, false, false, false] rfl rfl (any_of HT_.out (by kernel_rfl)) (fun _ _ _ h => h) (Or.inr ⟨by rfl, rfl⟩) ?_ ?_
    rotate_left
    ·simp only [Act.put, List.setIfInBounds_toArray, List.set_cons_zero, List.set_cons_succ, i64_w, i32_w]
     rfl
    refine pure_ (i := 11) (N := some 23) (v := undef) (a' := ?_) #[true, true, true, true, true, true, true, true, true, true, true, true, false, false, false, false, false] rfl rfl (any_of HT_.out (by kernel_rfl)) (fun _ _ _ h => h) (Or.inr ⟨by rfl, rfl⟩) ?_ ?_
    rotate_left
    ·simp only [Act.put, List.setIfInBounds_toArray, List.set_cons_zero, List.set_cons_succ, i64_w, i32_w]
     rfl
    refine pure_ (i := 12) (N := some 24) (v := undef) (a' := ?_) #[true, true, true, true, true, true, true, true, true, true, true, true, true, false, false, false, false] rfl rfl (any_of HT_.out (by kernel_rfl)) (fun _ _ _ h => h) (Or.inr ⟨by rfl, rfl⟩) ?_ ?_
    rotate_left
    ·simp only [Act.put, List.setIfInBounds_toArray, List.set_cons_zero, List.set_cons_succ, i64_w, i32_w]
     rfl
    refine pure_ (i := 13) (N := some 25) (v := undef) (a' := ?_) #[true, true, true, true, true, true, true, true, true, true, true, true, true, true, false, false, false] rfl rfl (any_of HT_.out (by kernel_rfl)) (fun _ _ _ h => h) (Or.inr ⟨by rfl, rfl⟩) ?_ ?_
    rotate_left
    ·simp only [Act.put, List.setIfInBounds_toArray, List.set_cons_zero, List.set_cons_succ, i64_w, i32_w]
     rfl
    refine pure_ (i := 14) (N := some 26) (v := undef) (a' := ?_) #[true, true, true, true, true, true, true, true, true, true, true, true, true, true, true, false, false] rfl rfl (any_of HT_.out (by kernel_rfl)) (fun _ _ _ h => h) (Or.inr ⟨by rfl, rfl⟩) ?_ ?_
    rotate_left
    ·simp only [Act.put, List.setIfInBounds_toArray, List.set_cons_zero, List.set_cons_succ, i64_w, i32_w]
     rfl
    refine pure_ (i := 15) (N := some 27) (v := undef) (a' := ?_) #[true, true, true, true, true, true, true, true, true, true, true, true, true, true, true, true, false] rfl rfl (any_of HT_.out (by kernel_rfl)) (fun _ _ _ h => h) (Or.inr ⟨by rfl, rfl⟩) ?_ ?_
    rotate_left
    ·simp only [Act.put, List.setIfInBounds_toArray, List.set_cons_zero, List.set_cons_succ, i64_w, i32_w]
     rfl
    refine pure_ (i := 16) (N := some 28) (v := ?_) (a' := ?_) #[true, true, true, true, true, true, true, true, true, true, true, true, true, true, true, true, true] rfl rfl (any_of HT_.out (by kernel_rfl)) (fun _ _ _ h => h) (Or.inl ⟨by rfl, ?_⟩) ?_ ?_
    rotate_left
    ·intro w'
     go_simp
     with_reducible rfl
    rotate_left
    ·simp only [Act.put, List.setIfInBounds_toArray, List.set_cons_zero, List.set_cons_succ, i64_w, i32_w]
     rfl
    refine done_ (done_of HT_.out (by kernel_rfl)) ?_
    try go_wp2
    go_meet
    case rel => exact ⟨_, (true), (by first | rfl | (simp; done) | (simp [*]; done)), H', ⟨by first | omega | exact Nat.le_refl _⟩, ⟨blkt BK627⟩, ⟨blkt BK628⟩, ⟨belt HB⟩⟩
   rw [if_neg c14] at H
   have c14b0 : (t630 != t634) = false := by simpa using c14
   (try (have c14b1 : decide (t630 = t634) = true := by simpa using c14))
   (try (have c14b2 : (t630 == t634) = true := by simpa using c14))
   clear c14
   (first | rw [c14b0] | (simp only [i64_w, i32_w]; rw [c14b0]) | skip)
   replace H := Option.bind_eq_some_iff.mp H
   obtain ⟨⟨t635, t636⟩, A190, H⟩ := H
   replace H : ((turnstonelaw04_Of.f a0_0 a0_1 a0_2).bind fun bt637 => ((turnstoneref04_Distance.f k bt637.1 bt637.2.1 bt637.2.2 a2).bind fun bt640 => ((turnstonelaw01_Same.f k t635 t636 bt640.1 bt640.2).bind fun t644 => (turnstonelaw04_PosTells.j0 k a3 (!t644) a0_0 a0_1 a0_2 a1_0 a1_1 a1_2)))) = some r := H
   have A19 := Aside0.mk A190
   clear A190
   replace H := Option.bind_eq_some_iff.mp H
   obtain ⟨⟨t637, t638, t639⟩, A200, H⟩ := H
   replace H : ((turnstoneref04_Distance.f k t637 t638 t639 a2).bind fun bt640 => ((turnstonelaw01_Same.f k t635 t636 bt640.1 bt640.2).bind fun t644 => (turnstonelaw04_PosTells.j0 k a3 (!t644) a0_0 a0_1 a0_2 a1_0 a1_1 a1_2))) = some r := H
   have A20 := Aside0.mk A200
   clear A200
   replace H := Option.bind_eq_some_iff.mp H
   obtain ⟨⟨t640, t641⟩, A210, H⟩ := H
   replace H : ((turnstonelaw01_Same.f k t635 t636 t640 t641).bind fun t644 => (turnstonelaw04_PosTells.j0 k a3 (!t644) a0_0 a0_1 a0_2 a1_0 a1_1 a1_2)) = some r := H
   have A21 := Aside0.mk A210
   clear A210
   replace H := Option.bind_eq_some_iff.mp H
   obtain ⟨t644, A220, H⟩ := H
   replace H : (turnstonelaw04_PosTells.j0 k a3 (!t644) a0_0 a0_1 a0_2 a1_0 a1_1 a1_2) = some r := H
   have A22 := Aside0.mk A220
   clear A220
   have H' := Aside0.mk H
   clear H
   try go_wp2
   replace BK627 := Aside0.mk (blk_drew BK627.out)
   replace BK628 := Aside0.mk (blk_drew BK628.out)
   replace HB := Aside0.mk (below_drew1 HB.out)
   refine start_ (n := 17) (S := fun w' => w'.cell? ⟨gb627, 0, none⟩ = some (.int .u64 a0_0) ∧ w'.cell? ⟨gb627, 1, none⟩ = some (.int .u32 a0_1) ∧ w'.cell? ⟨gb627, 2, none⟩ = some (.int .u32 a0_2)) (ds := []) #[false, false, false, false, false, false, false, false, false, false, false, false, false, false, false, false, false] (by kernel_rfl) rfl rfl ⟨bc BK627 0, bc BK627 1, bc BK627 2⟩ (fun hHeld => ?_); refine with_tabW turnstonelaw04_PosTells.tab3 turnstonelaw04_PosTells.bits3 (fun HT_ HW_ => ?_)
   generalize w10.drew = w23 at BK627 BK628 HB hHeld ⊢
   refine take_ (i := 0) (N := some 12) (v := ?_) (a' := ?_) #[true, false, false, false, false, false, false, false, false, false, false, false, false, false, false, false, false] rfl rfl (take_ofW HT_.out HW_.out (by kernel_rfl)) (fun _ _ _ h => h) (Or.inl ⟨by rfl, ?_⟩) hHeld ?_ ?_
   rotate_left
   ·rintro w' ⟨s0, s1, s2⟩
    go_simp
    with_reducible rfl
   rotate_left
   ·simp only [Act.put, List.setIfInBounds_toArray, List.set_cons_zero, List.set_cons_succ, i64_w, i32_w]
    rfl
   refine take_ (i := 2) (N := some 14) (v := ?_) (a' := ?_) #[true, false, true, false, false, false, false, false, false, false, false, false, false, false, false, false, false] rfl rfl (take_ofW HT_.out HW_.out (by kernel_rfl)) (fun _ _ _ h => h) (Or.inl ⟨by rfl, ?_⟩) hHeld ?_ ?_
   rotate_left
   ·rintro w' ⟨s0, s1, s2⟩
    go_simp
    with_reducible rfl
   rotate_left
   ·simp only [Act.put, List.setIfInBounds_toArray, List.set_cons_zero, List.set_cons_succ, i64_w, i32_w]
    rfl
   refine one_ (i := 1) (N := some 13) #[true, true, true, false, false, false, false, false, false, false, false, false, false, false, false, false, false] rfl rfl (one_of HT_.out (by kernel_rfl)) (by decide) (fun K hK => ?_)
   refine goes_ Try.func50 (by kernel_rfl) rfl #[.agg #[.int .u64 a0_0, .int .u32 a0_1, .int .u32 a0_2]] (by rfl) rfl rfl argt ?_
   with_reducible refine (pos_Pos_Right.calls a0_0 a0_1 a0_2 t630 _ A11.out).mono ?_
   rintro e w24 ⟨rfl, hb⟩
   refine ⟨_, rfl, ?_⟩
   replace BK627 := blkb BK627 hb
   replace BK628 := blkb BK628 hb
   replace HB := belb HB hb
   (try clear hb)
   (try clear hb2)
   (try clear hk)
   (try clear hi)
   refine hK.out _ _ ⟨bc BK627 0, bc BK627 1, bc BK627 2⟩ (fun hHeld => ?_)
   clear hK K
   refine norm_ (a' := ?_) ?_ ?_
   rotate_left
   ·show Act.put _ (some 13) _ = _
    simp only [Act.put, List.setIfInBounds_toArray, List.set_cons_zero, List.set_cons_succ, i64_w, i32_w]
    rfl
   refine one_ (i := 3) (N := some 15) #[true, true, true, true, false, false, false, false, false, false, false, false, false, false, false, false, false] rfl rfl (one_of HT_.out (by kernel_rfl)) (by decide) (fun K hK => ?_)
   refine goes_ Try.func48 (by kernel_rfl) rfl #[.agg #[.int .u64 a0_0, .int .u32 a0_1, .int .u32 a0_2]] (by rfl) rfl rfl argt ?_
   with_reducible refine (turnstonelaw04_Of.calls a0_0 a0_1 a0_2 t631 t632 t633 _ A12.out).mono ?_
   rintro e w25 ⟨rfl, hb⟩
   refine ⟨_, rfl, ?_⟩
   replace BK627 := blkb BK627 hb
   replace BK628 := blkb BK628 hb
   replace HB := belb HB hb
   (try clear hb)
   (try clear hb2)
   (try clear hk)
   (try clear hi)
   refine hK.out _ _ ⟨bc BK627 0, bc BK627 1, bc BK627 2⟩ (fun hHeld => ?_)
   clear hK K
   refine norm_ (a' := ?_) ?_ ?_
   rotate_left
   ·show Act.put _ (some 15) _ = _
    simp only [Act.put, List.setIfInBounds_toArray, List.set_cons_zero, List.set_cons_succ, i64_w, i32_w]
    rfl
   refine one_ (i := 4) (N := some 16) #[true, true, true, true, true, false, false, false, false, false, false, false, false, false, false, false, false] rfl rfl (one_of HT_.out (by kernel_rfl)) (by decide) (fun K hK => ?_)
   refine goes_ Try.func52 (by kernel_rfl) rfl #[.agg #[.int .u64 t631, .int .u32 t632, .int .u32 t633]] (by rfl) rfl rfl argt ?_
   with_reducible refine (turnstoneref04_Right.calls t631 t632 t633 t634 _ A13.out).mono ?_
   rintro e w26 ⟨rfl, hb⟩
   refine ⟨_, rfl, ?_⟩
   replace BK627 := blkb BK627 hb
   replace BK628 := blkb BK628 hb
   replace HB := belb HB hb
   (try clear hb)
   (try clear hb2)
   (try clear hk)
   (try clear hi)
   refine hK.out _ _ ⟨bc BK627 0, bc BK627 1, bc BK627 2⟩ (fun hHeld => ?_)
   clear hK K
   refine norm_ (a' := ?_) ?_ ?_
   rotate_left
   ·show Act.put _ (some 16) _ = _
    simp only [Act.put, List.setIfInBounds_toArray, List.set_cons_zero, List.set_cons_succ, i64_w, i32_w]
    rfl
   refine pure_ (i := 5) (N := some 17) (v := ?_) (a' := ?_) #[true, true, true, true, true, true, false, false, false, false, false, false, false, false, false, false, false] rfl rfl (any_of HT_.out (by kernel_rfl)) (fun _ _ _ h => h) (Or.inl ⟨by rfl, ?_⟩) ?_ ?_
   rotate_left
   ·intro w'
    go_simp
    with_reducible rfl
   rotate_left
   ·simp only [Act.put, List.setIfInBounds_toArray, List.set_cons_zero, List.set_cons_succ, i64_w, i32_w]
    rfl
   refine pure_ (i := 6) (N := some 18) (v := ?_) (a' := ?_) #[true, true, true, true, true, true, true, false, false, false, false, false, false, false, false, false, false] rfl rfl (any_of HT_.out (by kernel_rfl)) (fun _ _ _ h => h) (Or.inl ⟨by rfl, ?_⟩) ?_ ?_
   rotate_left
   ·intro w'
    go_simp
    with_reducible rfl
   rotate_left
   ·simp only [Act.put, List.setIfInBounds_toArray, List.set_cons_zero, List.set_cons_succ, i64_w, i32_w]
    rfl
   refine pure_ (i := 8) (N := some 20) (v := ?_) (a' := ?_) #[true, true, true, true, true, true, true, false, true, false, false, false, false, false, false, false, false] rfl rfl (any_of HT_.out (by kernel_rfl)) (fun _ _ _ h => h) (Or.inl ⟨by rfl, ?_⟩) ?_ ?_
   rotate_left
   ·intro w'
    go_simp
    with_reducible rfl
   rotate_left
   ·simp only [Act.put, List.setIfInBounds_toArray, List.set_cons_zero, List.set_cons_succ, i64_w, i32_w]
    rfl
   refine pure_ (i := 12) (N := some 24) (v := ?_) (a' := ?_) #[true, true, true, true, true, true, true, false, true, false, false, false, true, false, false, false, false] rfl rfl (any_of HT_.out (by kernel_rfl)) (fun _ _ _ h => h) (Or.inl ⟨by rfl, ?_⟩) ?_ ?_
   rotate_left
   ·intro w'
    go_simp
    with_reducible rfl
   rotate_left
   ·simp only [Act.put, List.setIfInBounds_toArray, List.set_cons_zero, List.set_cons_succ, i64_w, i32_w]
    rfl
   refine take_ (i := 7) (N := some 19) (v := ?_) (a' := ?_) #[true, true, true, true, true, true, true, true, true, false, false, false, true, false, false, false, false] rfl rfl (take_ofW HT_.out HW_.out (by kernel_rfl)) (fun _ _ _ h => h) (Or.inl ⟨by rfl, ?_⟩) hHeld ?_ ?_
   rotate_left
   ·rintro w' ⟨s0, s1, s2⟩
    go_simp
    with_reducible rfl
   rotate_left
   ·simp only [Act.put, List.setIfInBounds_toArray, List.set_cons_zero, List.set_cons_succ, i64_w, i32_w]
    rfl
   refine take_ (i := 10) (N := some 22) (v := ?_) (a' := ?_) #[true, true, true, true, true, true, true, true, true, false, true, false, true, false, false, false, false] rfl rfl (take_ofW HT_.out HW_.out (by kernel_rfl)) (fun _ _ _ h => h) (Or.inl ⟨by rfl, ?_⟩) hHeld ?_ ?_
   rotate_left
   ·rintro w' ⟨s0, s1, s2⟩
    go_simp
    with_reducible rfl
   rotate_left
   ·simp only [Act.put, List.setIfInBounds_toArray, List.set_cons_zero, List.set_cons_succ, i64_w, i32_w]
    rfl
   refine one_ (i := 9) (N := some 21) #[true, true, true, true, true, true, true, true, true, true, true, false, true, false, false, false, false] rfl rfl (one_of HT_.out (by kernel_rfl)) (by decide) (fun K hK => ?_)
   refine goes_ Try.func54 (by kernel_rfl) rfl #[.agg #[.int .u64 a0_0, .int .u32 a0_1, .int .u32 a0_2], .int .u64 a2] (by rfl) rfl rfl argt ?_
   with_reducible refine (pos_Pos_Distance.calls k a0_0 a0_1 a0_2 a2 t635 t636 _ A19.out).mono ?_
   rintro e w27 ⟨rfl, hb⟩
   refine ⟨_, rfl, ?_⟩
   replace BK627 := blkb BK627 hb
   replace BK628 := blkb BK628 hb
   replace HB := belb HB hb
   (try clear hb)
   (try clear hb2)
   (try clear hk)
   (try clear hi)
   refine hK.out _ _ ⟨bc BK627 0, bc BK627 1, bc BK627 2⟩ (fun hHeld => ?_)
   clear hK K
   refine norm_ (a' := ?_) ?_ ?_
   rotate_left
   ·show Act.put _ (some 21) _ = _
    simp only [Act.put, List.setIfInBounds_toArray, List.set_cons_zero, List.set_cons_succ, i64_w, i32_w]
    rfl
   refine one_ (i := 11) (N := some 23) #[true, true, true, true, true, true, true, true, true, true, true, true, true, false, false, false, false] rfl rfl (one_of HT_.out (by kernel_rfl)) (by decide) (fun K hK => ?_)
   refine goes_ Try.func48 (by kernel_rfl) rfl #[.agg #[.int .u64 a0_0, .int .u32 a0_1, .int .u32 a0_2]] (by rfl) rfl rfl argt ?_
   with_reducible refine (turnstonelaw04_Of.calls a0_0 a0_1 a0_2 t637 t638 t639 _ A20.out).mono ?_
   rintro e w28 ⟨rfl, hb⟩
   refine ⟨_, rfl, ?_⟩
   replace BK627 := blkb BK627 hb
   replace BK628 := blkb BK628 hb
   replace HB := belb HB hb
   (try clear hb)
   (try clear hb2)
   (try clear hk)
   (try clear hi)
   refine hK.out _ _ ⟨bc BK627 0, bc BK627 1, bc BK627 2⟩ (fun hHeld => ?_)
   clear hK K
   refine norm_ (a' := ?_) ?_ ?_
   rotate_left
   ·show Act.put _ (some 23) _ = _
    simp only [Act.put, List.setIfInBounds_toArray, List.set_cons_zero, List.set_cons_succ, i64_w, i32_w]
    rfl
   refine one_ (i := 13) (N := some 25) #[true, true, true, true, true, true, true, true, true, true, true, true, true, true, false, false, false] rfl rfl (one_of HT_.out (by kernel_rfl)) (by decide) (fun K hK => ?_)
   refine goes_ Try.func55 (by kernel_rfl) rfl #[.agg #[.int .u64 t637, .int .u32 t638, .int .u32 t639], .int .u64 a2] (by rfl) rfl rfl argt ?_
   with_reducible refine (turnstoneref04_Distance.calls k t637 t638 t639 a2 t640 t641 _ A21.out).mono ?_
   rintro e w29 ⟨v642, rfl, ho0, hb⟩
   refine ⟨_, rfl, ?_⟩
   have HO643 := Aside0.mk (Kd.V_lower (Kd.V_mono (ok' := fun k_ => k_ ≠ gb627 ∧ k_ ≠ gb628) ho0 (fun k_ hk_ => ⟨(Kd.freshB (blkt BK627) k_ hk_), (Kd.freshB (blkt BK628) k_ hk_)⟩)) (below_size (belt HB)))
   replace BK627 := blkb BK627 hb
   replace BK628 := blkb BK628 hb
   replace HB := belb HB hb
   (try clear hb)
   (try clear hb2)
   (try clear hk)
   (try clear hi)
   (try clear ho0)
   obtain ⟨Ao30, co30, eo30⟩ := Kd.V_slice HO643.out
   (first | subst eo30 | (injection eo30 with f1_ f2_ f3_; have f4_ := f1_.symm; have f5_ := f3_.symm; clear f1_ f2_ f3_; subst f4_; subst f5_))
   refine hK.out _ _ ⟨bc BK627 0, bc BK627 1, bc BK627 2⟩ (fun hHeld => ?_)
   clear hK K
   refine norm_ (a' := ?_) ?_ ?_
   rotate_left
   ·show Act.put _ (some 25) _ = _
    simp only [Act.put, List.setIfInBounds_toArray, List.set_cons_zero, List.set_cons_succ, i64_w, i32_w]
    rfl
   refine one_ (i := 14) (N := some 26) #[true, true, true, true, true, true, true, true, true, true, true, true, true, true, true, false, false] rfl rfl (one_of HT_.out (by kernel_rfl)) (by decide) (fun K hK => ?_)
   refine goes_ Try.func53 (by kernel_rfl) rfl #[.agg #[.int .i64 t635, .int .u64 t636], .agg #[.bool t640, .slice Ao30 t641.length co30]] (by rfl) rfl rfl argt ?_
   with_reducible refine (turnstonelaw01_Same.calls k t635 t636 t640 _ _ t641 t644 _ ?side1 ?side2 A22.out).mono ?_
   (case side1 => repeat (first | exact (Kd.V_reads' HO643.out).2.2 | (with_reducible refine Kd.C_alloc ?_ _) | (with_reducible refine Kd.C_drewN ?_ _) | (with_reducible refine Kd.C_drew ?_)))
   (case side2 => exact (Kd.V_reads' HO643.out).2.1)
   rintro e w31 ⟨rfl, hb⟩
   refine ⟨_, rfl, ?_⟩
   replace HO643 := vb HO643 hb
   replace BK627 := blkb BK627 hb
   replace BK628 := blkb BK628 hb
   replace HB := belb HB hb
   (try clear hb)
   (try clear hb2)
   (try clear hk)
   (try clear hi)
   refine hK.out _ _ ⟨bc BK627 0, bc BK627 1, bc BK627 2⟩ (fun hHeld => ?_)
   clear hK K
   refine norm_ (a' := ?_) ?_ ?_
   rotate_left
   ·show Act.put _ (some 26) _ = _
    simp only [Act.put, List.setIfInBounds_toArray, List.set_cons_zero, List.set_cons_succ, i64_w, i32_w]
    rfl
   refine pure_ (i := 15) (N := some 27) (v := ?_) (a' := ?_) #[true, true, true, true, true, true, true, true, true, true, true, true, true, true, true, true, false] rfl rfl (any_of HT_.out (by kernel_rfl)) (fun _ _ _ h => h) (Or.inl ⟨by rfl, ?_⟩) ?_ ?_
   rotate_left
   ·intro w'
    go_simp
    with_reducible rfl
   rotate_left
   ·simp only [Act.put, List.setIfInBounds_toArray, List.set_cons_zero, List.set_cons_succ, i64_w, i32_w]
    rfl
   refine pure_ (i := 16) (N := some 28) (v := ?_) (a' := ?_) #[true, true, true, true, true, true, true, true, true, true, true, true, true, true, true, true, true] rfl rfl (any_of HT_.out (by kernel_rfl)) (fun _ _ _ h => h) (Or.inl ⟨by rfl, ?_⟩) ?_ ?_
   rotate_left
   ·intro w'
    go_simp
    with_reducible rfl
   rotate_left
   ·simp only [Act.put, List.setIfInBounds_toArray, List.set_cons_zero, List.set_cons_succ, i64_w, i32_w]
    rfl
   refine done_ (done_of HT_.out (by kernel_rfl)) ?_
   try go_wp2
   go_meet
   case rel => exact ⟨_, (!t644), (by first | rfl | (simp; done) | (simp [*]; done)), H', ⟨by first | omega | exact Nat.le_refl _⟩, ⟨blkt BK627⟩, ⟨blkt BK628⟩, ⟨belt HB⟩⟩
  case rest =>
   clear HC7
   try clear c1
   try clear p2
   try clear c4
   try clear c5
   try clear c6
   try clear c14
   try clear c14b0
   try clear c14b1
   try clear c14b2
   try clear c16
   obtain ⟨kq, x28_6, rfl, HA, HJ6, BK627, BK628, HB⟩ := hcut
   cases kq with
   | zero => exact absurd HA.out (by simp [turnstonelaw04_PosTells.j0])
   | succ kj6 =>
    have H := HA.out
    clear HA
    simp only [turnstonelaw04_PosTells.j0] at H
    by_cases c32 : x28_6 = true
    ·subst c32
     have H1 : (none) = some r := by rw [if_pos rfl] at H; exact H
     clear H
     have H := H1
     clear H1
     exact absurd H (by simp)
    replace c32 := Bool.eq_false_iff.mpr c32
    subst c32
    have H1 : ((pos_Pos_Shift.f a0_0 a0_1 a0_2 a3).bind fun bt645 => (if bt645.2.1 = a0_1 then (if bt645.2.2 = a0_2 then (turnstonelaw04_PosTells.j1 kj6 (bt645.1 != (IntKind.u64.wrap (a0_0 + a3))) a0_0 a0_1 a0_2 a1_0 a1_1 a1_2) else (turnstonelaw04_PosTells.j1 kj6 true a0_0 a0_1 a0_2 a1_0 a1_1 a1_2)) else (turnstonelaw04_PosTells.j1 kj6 true a0_0 a0_1 a0_2 a1_0 a1_1 a1_2))) = some r := by rw [if_neg (show ¬ (false = true) by decide)] at H; exact H
    clear H
    have H := H1
    clear H1
    replace H := Option.bind_eq_some_iff.mp H
    obtain ⟨⟨t645, t646, t647⟩, A330, H⟩ := H
    replace H : (if t646 = a0_1 then (if t647 = a0_2 then (turnstonelaw04_PosTells.j1 kj6 (t645 != (IntKind.u64.wrap (a0_0 + a3))) a0_0 a0_1 a0_2 a1_0 a1_1 a1_2) else (turnstonelaw04_PosTells.j1 kj6 true a0_0 a0_1 a0_2 a1_0 a1_1 a1_2)) else (turnstonelaw04_PosTells.j1 kj6 true a0_0 a0_1 a0_2 a1_0 a1_1 a1_2)) = some r := H
    have A33 := Aside0.mk A330
    clear A330
    have HC34 := Aside0.mk H
    clear H
    have hnb35 := NB627_628.out
    have hnc35 := NB628_627.out
    have hcz36_0 : wc.cell? ⟨gb627, 0, none⟩ = some (.int .u64 a0_0) := bc BK627 0
    have hcz36_1 : wc.cell? ⟨gb627, 1, none⟩ = some (.int .u32 a0_1) := bc BK627 1
    have hcz36_2 : wc.cell? ⟨gb627, 2, none⟩ = some (.int .u32 a0_2) := bc BK627 2
    have hfz36_0 := blk_frozen BK627.out 0
    have hfz36_1 := blk_frozen BK627.out 1
    have hfz36_2 := blk_frozen BK627.out 2
    go_upto_region 6 with (first | ((with_reducible refine gate_callee (f := 56) rfl ?_); refine goesL_ (some 31) rfl rfl Try.func56 (by kernel_rfl) rfl #[.agg #[.int .u64 a0_0, .int .u32 a0_1, .int .u32 a0_2], .int .u64 a3] rfl argt ?_; (with_reducible refine (pos_Pos_Shift.calls a0_0 a0_1 a0_2 a3 t645 t646 t647 _ A33.out).mono ?_); rintro e w37 ⟨rfl, hb⟩; refine ⟨_, rfl, ?_⟩; replace BK627 := blkb BK627 hb; replace BK628 := blkb BK628 hb; replace HB := belb HB hb; (try clear hb); (try clear hb2); (try clear hk); (try clear hi)) | ((with_reducible refine gate_dst (N := 9) rfl ?_); refine box_event ?hg (N := 9) ?hd (cs := #[.int .u64 0, .int .u32 0, .int .u32 0]) (t := 67) ?hr ?_; (case hd => rfl); (case hg => rfl); (case hr => first | (go_simp; done) | (go_simp; rfl)); intro gb648 hg w38 hbox hb; have BK648 := Aside0.mk (hbox); have GW648 := bels HB hg; have GE648 := bels HB hg; have NB627_648 := blkl BK627 hg; have NB648_627 := blkg BK627 hg; have NB628_648 := blkl BK628 hg; have NB648_628 := blkg BK628 hg; replace BK627 := blkb BK627 hb; replace BK628 := blkb BK628 hb; replace HB := belb HB hb; clear hb hbox hg; have hnb39 := NB648_627.out; have hnc39 := NB627_648.out; have hnb40 := NB648_628.out; have hnc40 := NB628_648.out; have hcz41_0 : w38.cell? ⟨gb648, 0, none⟩ = some (.int .u64 0) := bc BK648 0; have hcz41_1 : w38.cell? ⟨gb648, 1, none⟩ = some (.int .u32 0) := bc BK648 1; have hcz41_2 : w38.cell? ⟨gb648, 2, none⟩ = some (.int .u32 0) := bc BK648 2; have hfz41_0 := blk_frozen BK648.out 0; have hfz41_1 := blk_frozen BK648.out 1; have hfz41_2 := blk_frozen BK648.out 2))
    (try simp only [Act.put, List.setIfInBounds_toArray, List.set_cons_zero, List.set_cons_succ])
    go_cut [52] (fun v52 wc => ∃ (kq : Nat) (x52_33 : Bool), v52 = .bool x52_33 ∧ Aside0 (turnstonelaw04_PosTells.j1 kq x52_33 a0_0 a0_1 a0_2 a1_0 a1_1 a1_2 = some r) ∧ Aside0 (kq ≤ kj6) ∧ Aside0 (wc.heap[gb627]? = some (.cells #[.int .u64 a0_0, .int .u32 a0_1, .int .u32 a0_2] 67 (0, 0))) ∧ Aside0 (wc.heap[gb628]? = some (.cells #[.int .u64 a1_0, .int .u32 a1_1, .int .u32 a1_2] 67 (0, 0))) ∧ Aside0 (wc.heap[gb648]? = some (.cells #[.int .u64 t645, .int .u32 t646, .int .u32 t647] 67 (0, 0))) ∧ Aside0 (Below w.heap.size w wc))
    case first =>
     have H := HC34.out
     clear HC34
     by_cases c42 : t646 = a0_1
     ·rw [if_pos c42] at H
      have c42b0 : (t646 == a0_1) = true := beq_iff_eq.mpr c42
      have c42b1 : (t646 != a0_1) = false := bne_eq_false_iff_eq.mpr c42
      clear c42
      (first | rw [c42b0] | (simp only [i64_w, i32_w]; rw [c42b0]) | skip)
      by_cases c43 : t647 = a0_2
      ·rw [if_pos c43] at H
       have c43b0 : (t647 == a0_2) = true := beq_iff_eq.mpr c43
       have c43b1 : (t647 != a0_2) = false := bne_eq_false_iff_eq.mpr c43
       clear c43
       have H' := Aside0.mk H
       clear H
       have hnb44 := NB648_627.out
       have hnc44 := NB627_648.out
       have hnb45 := NB648_628.out
       have hnc45 := NB628_648.out
       have hcz46_0 : w38.cell? ⟨gb648, 0, none⟩ = some (.int .u64 0) := bc BK648 0
       have hcz46_1 : w38.cell? ⟨gb648, 1, none⟩ = some (.int .u32 0) := bc BK648 1
       have hcz46_2 : w38.cell? ⟨gb648, 2, none⟩ = some (.int .u32 0) := bc BK648 2
       have hfz46_0 := blk_frozen BK648.out 0
       have hfz46_1 := blk_frozen BK648.out 1
       have hfz46_2 := blk_frozen BK648.out 2
       have hnb47 := NB627_628.out
       have hnc47 := NB628_627.out
       have hcz48_0 : w38.cell? ⟨gb627, 0, none⟩ = some (.int .u64 a0_0) := bc BK627 0
       have hcz48_1 : w38.cell? ⟨gb627, 1, none⟩ = some (.int .u32 a0_1) := bc BK627 1
       have hcz48_2 : w38.cell? ⟨gb627, 2, none⟩ = some (.int .u32 a0_2) := bc BK627 2
       have hfz48_0 := blk_frozen BK627.out 0
       have hfz48_1 := blk_frozen BK627.out 1
       have hfz48_2 := blk_frozen BK627.out 2
       go_wp2
       go_meet
       case rel => exact ⟨_, ((t645 != (IntKind.u64.wrap (a0_0 + a3)))), (by first | rfl | (simp; done) | (simp [*]; done)), H', ⟨by have := HJ6.out; first | omega | exact Nat.le_refl _⟩, ⟨by (with_reducible repeat (first | refine blk_drewN ?_ _ | refine blk_drew ?_ | refine blk_alloc ?_ _)); refine blk_far ?_ NB627_648.out _; (with_reducible repeat (first | refine blk_drewN ?_ _ | refine blk_drew ?_ | refine blk_alloc ?_ _)); refine blk_far ?_ NB627_648.out _; (with_reducible repeat (first | refine blk_drewN ?_ _ | refine blk_drew ?_ | refine blk_alloc ?_ _)); refine blk_far ?_ NB627_648.out _; exact blkt BK627⟩, ⟨by (with_reducible repeat (first | refine blk_drewN ?_ _ | refine blk_drew ?_ | refine blk_alloc ?_ _)); refine blk_far ?_ NB628_648.out _; (with_reducible repeat (first | refine blk_drewN ?_ _ | refine blk_drew ?_ | refine blk_alloc ?_ _)); refine blk_far ?_ NB628_648.out _; (with_reducible repeat (first | refine blk_drewN ?_ _ | refine blk_drew ?_ | refine blk_alloc ?_ _)); refine blk_far ?_ NB628_648.out _; exact blkt BK628⟩, ⟨by (with_reducible repeat (first | refine blk_drewN ?_ _ | refine blk_drew ?_ | refine blk_alloc ?_ _)); refine blk_put (cs := #[.int .u64 t645, .int .u32 t646, .int .u32 0]) ?_ 2 _ rfl; (with_reducible repeat (first | refine blk_drewN ?_ _ | refine blk_drew ?_ | refine blk_alloc ?_ _)); refine blk_put (cs := #[.int .u64 t645, .int .u32 0, .int .u32 0]) ?_ 1 _ rfl; (with_reducible repeat (first | refine blk_drewN ?_ _ | refine blk_drew ?_ | refine blk_alloc ?_ _)); refine blk_put (cs := #[.int .u64 0, .int .u32 0, .int .u32 0]) ?_ 0 _ rfl; exact blkt BK648⟩, ⟨belt HB⟩⟩
      rw [if_neg c43] at H
      have c43b0 : (t647 == a0_2) = false := beq_eq_false_iff_ne.mpr c43
      have c43b1 : (t647 != a0_2) = true := bne_iff_ne.mpr c43
      have H' := Aside0.mk H
      clear H
      have hnb49 := NB648_627.out
      have hnc49 := NB627_648.out
      have hnb50 := NB648_628.out
      have hnc50 := NB628_648.out
      have hcz51_0 : w38.cell? ⟨gb648, 0, none⟩ = some (.int .u64 0) := bc BK648 0
      have hcz51_1 : w38.cell? ⟨gb648, 1, none⟩ = some (.int .u32 0) := bc BK648 1
      have hcz51_2 : w38.cell? ⟨gb648, 2, none⟩ = some (.int .u32 0) := bc BK648 2
      have hfz51_0 := blk_frozen BK648.out 0
      have hfz51_1 := blk_frozen BK648.out 1
      have hfz51_2 := blk_frozen BK648.out 2
      have hnb52 := NB627_628.out
      have hnc52 := NB628_627.out
      have hcz53_0 : w38.cell? ⟨gb627, 0, none⟩ = some (.int .u64 a0_0) := bc BK627 0
      have hcz53_1 : w38.cell? ⟨gb627, 1, none⟩ = some (.int .u32 a0_1) := bc BK627 1
      have hcz53_2 : w38.cell? ⟨gb627, 2, none⟩ = some (.int .u32 a0_2) := bc BK627 2
      have hfz53_0 := blk_frozen BK627.out 0
      have hfz53_1 := blk_frozen BK627.out 1
      have hfz53_2 := blk_frozen BK627.out 2
      go_wp2
      go_meet
      case rel => exact ⟨_, (true), (by first | rfl | (simp; done) | (simp [*]; done)), H', ⟨by have := HJ6.out; first | omega | exact Nat.le_refl _⟩, ⟨by (with_reducible repeat (first | refine blk_drewN ?_ _ | refine blk_drew ?_ | refine blk_alloc ?_ _)); refine blk_far ?_ NB627_648.out _; (with_reducible repeat (first | refine blk_drewN ?_ _ | refine blk_drew ?_ | refine blk_alloc ?_ _)); refine blk_far ?_ NB627_648.out _; (with_reducible repeat (first | refine blk_drewN ?_ _ | refine blk_drew ?_ | refine blk_alloc ?_ _)); refine blk_far ?_ NB627_648.out _; exact blkt BK627⟩, ⟨by (with_reducible repeat (first | refine blk_drewN ?_ _ | refine blk_drew ?_ | refine blk_alloc ?_ _)); refine blk_far ?_ NB628_648.out _; (with_reducible repeat (first | refine blk_drewN ?_ _ | refine blk_drew ?_ | refine blk_alloc ?_ _)); refine blk_far ?_ NB628_648.out _; (with_reducible repeat (first | refine blk_drewN ?_ _ | refine blk_drew ?_ | refine blk_alloc ?_ _)); refine blk_far ?_ NB628_648.out _; exact blkt BK628⟩, ⟨by (with_reducible repeat (first | refine blk_drewN ?_ _ | refine blk_drew ?_ | refine blk_alloc ?_ _)); refine blk_put (cs := #[.int .u64 t645, .int .u32 t646, .int .u32 0]) ?_ 2 _ rfl; (with_reducible repeat (first | refine blk_drewN ?_ _ | refine blk_drew ?_ | refine blk_alloc ?_ _)); refine blk_put (cs := #[.int .u64 t645, .int .u32 0, .int .u32 0]) ?_ 1 _ rfl; (with_reducible repeat (first | refine blk_drewN ?_ _ | refine blk_drew ?_ | refine blk_alloc ?_ _)); refine blk_put (cs := #[.int .u64 0, .int .u32 0, .int .u32 0]) ?_ 0 _ rfl; exact blkt BK648⟩, ⟨belt HB⟩⟩
     rw [if_neg c42] at H
     have c42b0 : (t646 == a0_1) = false := beq_eq_false_iff_ne.mpr c42
     have c42b1 : (t646 != a0_1) = true := bne_iff_ne.mpr c42
     (first | rw [c42b0] | (simp only [i64_w, i32_w]; rw [c42b0]) | skip)
     have H' := Aside0.mk H
     clear H
     have hnb54 := NB648_627.out
     have hnc54 := NB627_648.out
     have hnb55 := NB648_628.out
     have hnc55 := NB628_648.out
     have hcz56_0 : w38.cell? ⟨gb648, 0, none⟩ = some (.int .u64 0) := bc BK648 0
     have hcz56_1 : w38.cell? ⟨gb648, 1, none⟩ = some (.int .u32 0) := bc BK648 1
     have hcz56_2 : w38.cell? ⟨gb648, 2, none⟩ = some (.int .u32 0) := bc BK648 2
     have hfz56_0 := blk_frozen BK648.out 0
     have hfz56_1 := blk_frozen BK648.out 1
     have hfz56_2 := blk_frozen BK648.out 2
     have hnb57 := NB627_628.out
     have hnc57 := NB628_627.out
     have hcz58_0 : w38.cell? ⟨gb627, 0, none⟩ = some (.int .u64 a0_0) := bc BK627 0
     have hcz58_1 : w38.cell? ⟨gb627, 1, none⟩ = some (.int .u32 a0_1) := bc BK627 1
     have hcz58_2 : w38.cell? ⟨gb627, 2, none⟩ = some (.int .u32 a0_2) := bc BK627 2
     have hfz58_0 := blk_frozen BK627.out 0
     have hfz58_1 := blk_frozen BK627.out 1
     have hfz58_2 := blk_frozen BK627.out 2
     go_wp2
     go_meet
     case rel => exact ⟨_, (true), (by first | rfl | (simp; done) | (simp [*]; done)), H', ⟨by have := HJ6.out; first | omega | exact Nat.le_refl _⟩, ⟨by (with_reducible repeat (first | refine blk_drewN ?_ _ | refine blk_drew ?_ | refine blk_alloc ?_ _)); refine blk_far ?_ NB627_648.out _; (with_reducible repeat (first | refine blk_drewN ?_ _ | refine blk_drew ?_ | refine blk_alloc ?_ _)); refine blk_far ?_ NB627_648.out _; (with_reducible repeat (first | refine blk_drewN ?_ _ | refine blk_drew ?_ | refine blk_alloc ?_ _)); refine blk_far ?_ NB627_648.out _; exact blkt BK627⟩, ⟨by (with_reducible repeat (first | refine blk_drewN ?_ _ | refine blk_drew ?_ | refine blk_alloc ?_ _)); refine blk_far ?_ NB628_648.out _; (with_reducible repeat (first | refine blk_drewN ?_ _ | refine blk_drew ?_ | refine blk_alloc ?_ _)); refine blk_far ?_ NB628_648.out _; (with_reducible repeat (first | refine blk_drewN ?_ _ | refine blk_drew ?_ | refine blk_alloc ?_ _)); refine blk_far ?_ NB628_648.out _; exact blkt BK628⟩, ⟨by (with_reducible repeat (first | refine blk_drewN ?_ _ | refine blk_drew ?_ | refine blk_alloc ?_ _)); refine blk_put (cs := #[.int .u64 t645, .int .u32 t646, .int .u32 0]) ?_ 2 _ rfl; (with_reducible repeat (first | refine blk_drewN ?_ _ | refine blk_drew ?_ | refine blk_alloc ?_ _)); refine blk_put (cs := #[.int .u64 t645, .int .u32 0, .int .u32 0]) ?_ 1 _ rfl; (with_reducible repeat (first | refine blk_drewN ?_ _ | refine blk_drew ?_ | refine blk_alloc ?_ _)); refine blk_put (cs := #[.int .u64 0, .int .u32 0, .int .u32 0]) ?_ 0 _ rfl; exact blkt BK648⟩, ⟨belt HB⟩⟩
    case rest =>
     clear HC34
     try clear c1
     try clear p2
     try clear c3
     try clear c4
     try clear c5
     try clear c6
     try clear c14
     try clear c14b0
     try clear c14b1
     try clear c14b2
     try clear c16
     try clear c32
     try clear c35
     try clear c39
     try clear c40
     try clear c42
     try clear c42b0
     try clear c42b1
     try clear c43
     try clear c43b0
     try clear c43b1
     try clear c44
     try clear c45
     try clear c47
     try clear c48
     try clear c49
     try clear c50
     try clear c52
     try clear c53
     try clear c54
     try clear c55
     try clear c56
     try clear c57
     try clear hcz36_0
     try clear hcz36_1
     try clear hcz36_2
     try clear hcz41_0
     try clear hcz41_1
     try clear hcz41_2
     try clear hcz46_0
     try clear hcz46_1
     try clear hcz46_2
     try clear hcz48_0
     try clear hcz48_1
     try clear hcz48_2
     try clear hcz51_0
     try clear hcz51_1
     try clear hcz51_2
     try clear hcz53_0
     try clear hcz53_1
     try clear hcz53_2
     try clear hcz56_0
     try clear hcz56_1
     try clear hcz56_2
     try clear hcz58_0
     try clear hcz58_1
     try clear hcz58_2
     try clear hfz36_0
     try clear hfz36_1
     try clear hfz36_2
     try clear hfz41_0
     try clear hfz41_1
     try clear hfz41_2
     try clear hfz46_0
     try clear hfz46_1
     try clear hfz46_2
     try clear hfz48_0
     try clear hfz48_1
     try clear hfz48_2
     try clear hfz51_0
     try clear hfz51_1
     try clear hfz51_2
     try clear hfz53_0
     try clear hfz53_1
     try clear hfz53_2
     try clear hfz56_0
     try clear hfz56_1
     try clear hfz56_2
     try clear hfz58_0
     try clear hfz58_1
     try clear hfz58_2
     try clear p2
     obtain ⟨kq, x52_33, rfl, HA, HJ33, BK627, BK628, BK648, HB⟩ := hcut
     cases kq with
     | zero => exact absurd HA.out (by simp [turnstonelaw04_PosTells.j1])
     | succ kj33 =>
      have H := HA.out
      clear HA
      simp only [turnstonelaw04_PosTells.j1] at H
      by_cases c59 : x52_33 = true
      ·subst c59
       have H1 : (none) = some r := by rw [if_pos rfl] at H; exact H
       clear H
       have H := H1
       clear H1
       exact absurd H (by simp)
      replace c59 := Bool.eq_false_iff.mpr c59
      subst c59
      have H1 : ((turnstonelaw04_Of.f a0_0 a0_1 a0_2).bind fun bt649 => ((turnstoneref04_Right.f bt649.1 bt649.2.1 bt649.2.2).bind fun t652 => (if t652 = true then ((turnstonelaw04_Of.f a1_0 a1_1 a1_2).bind fun bt653 => ((turnstoneref04_Right.f bt653.1 bt653.2.1 bt653.2.2).bind fun t656 => (if t656 = true then ((pos_Pos_Cmp.f kj33 a0_0 a0_1 a0_2 a1_0 a1_1 a1_2).bind fun t657 => ((turnstonelaw04_Of.f a0_0 a0_1 a0_2).bind fun bt658 => ((turnstonelaw04_Of.f a1_0 a1_1 a1_2).bind fun bt661 => ((turnstoneref04_Cmp.f kj33 bt658.1 bt658.2.1 bt658.2.2 bt661.1 bt661.2.1 bt661.2.2).bind fun t664 => (some (t657 == t664)))))) else (some true)))) else (some true)))) = some r := by rw [if_neg (show ¬ (false = true) by decide)] at H; exact H
      clear H
      have H := H1
      clear H1
      replace H := Option.bind_eq_some_iff.mp H
      obtain ⟨⟨t649, t650, t651⟩, A600, H⟩ := H
      replace H : ((turnstoneref04_Right.f t649 t650 t651).bind fun t652 => (if t652 = true then ((turnstonelaw04_Of.f a1_0 a1_1 a1_2).bind fun bt653 => ((turnstoneref04_Right.f bt653.1 bt653.2.1 bt653.2.2).bind fun t656 => (if t656 = true then ((pos_Pos_Cmp.f kj33 a0_0 a0_1 a0_2 a1_0 a1_1 a1_2).bind fun t657 => ((turnstonelaw04_Of.f a0_0 a0_1 a0_2).bind fun bt658 => ((turnstonelaw04_Of.f a1_0 a1_1 a1_2).bind fun bt661 => ((turnstoneref04_Cmp.f kj33 bt658.1 bt658.2.1 bt658.2.2 bt661.1 bt661.2.1 bt661.2.2).bind fun t664 => (some (t657 == t664)))))) else (some true)))) else (some true))) = some r := H
      have A60 := Aside0.mk A600
      clear A600
      replace H := Option.bind_eq_some_iff.mp H
      obtain ⟨t652, A610, H⟩ := H
      replace H : (if t652 = true then ((turnstonelaw04_Of.f a1_0 a1_1 a1_2).bind fun bt653 => ((turnstoneref04_Right.f bt653.1 bt653.2.1 bt653.2.2).bind fun t656 => (if t656 = true then ((pos_Pos_Cmp.f kj33 a0_0 a0_1 a0_2 a1_0 a1_1 a1_2).bind fun t657 => ((turnstonelaw04_Of.f a0_0 a0_1 a0_2).bind fun bt658 => ((turnstonelaw04_Of.f a1_0 a1_1 a1_2).bind fun bt661 => ((turnstoneref04_Cmp.f kj33 bt658.1 bt658.2.1 bt658.2.2 bt661.1 bt661.2.1 bt661.2.2).bind fun t664 => (some (t657 == t664)))))) else (some true)))) else (some true)) = some r := H
      have A61 := Aside0.mk A610
      clear A610
      by_cases c62 : t652 = true
      ·subst c62
       have H1 : ((turnstonelaw04_Of.f a1_0 a1_1 a1_2).bind fun bt653 => ((turnstoneref04_Right.f bt653.1 bt653.2.1 bt653.2.2).bind fun t656 => (if t656 = true then ((pos_Pos_Cmp.f kj33 a0_0 a0_1 a0_2 a1_0 a1_1 a1_2).bind fun t657 => ((turnstonelaw04_Of.f a0_0 a0_1 a0_2).bind fun bt658 => ((turnstonelaw04_Of.f a1_0 a1_1 a1_2).bind fun bt661 => ((turnstoneref04_Cmp.f kj33 bt658.1 bt658.2.1 bt658.2.2 bt661.1 bt661.2.1 bt661.2.2).bind fun t664 => (some (t657 == t664)))))) else (some true)))) = some r := by rw [if_pos rfl] at H; exact H
       clear H
       have H := H1
       clear H1
       replace H := Option.bind_eq_some_iff.mp H
       obtain ⟨⟨t653, t654, t655⟩, A630, H⟩ := H
       replace H : ((turnstoneref04_Right.f t653 t654 t655).bind fun t656 => (if t656 = true then ((pos_Pos_Cmp.f kj33 a0_0 a0_1 a0_2 a1_0 a1_1 a1_2).bind fun t657 => ((turnstonelaw04_Of.f a0_0 a0_1 a0_2).bind fun bt658 => ((turnstonelaw04_Of.f a1_0 a1_1 a1_2).bind fun bt661 => ((turnstoneref04_Cmp.f kj33 bt658.1 bt658.2.1 bt658.2.2 bt661.1 bt661.2.1 bt661.2.2).bind fun t664 => (some (t657 == t664)))))) else (some true))) = some r := H
       have A63 := Aside0.mk A630
       clear A630
       replace H := Option.bind_eq_some_iff.mp H
       obtain ⟨t656, A640, H⟩ := H
       replace H : (if t656 = true then ((pos_Pos_Cmp.f kj33 a0_0 a0_1 a0_2 a1_0 a1_1 a1_2).bind fun t657 => ((turnstonelaw04_Of.f a0_0 a0_1 a0_2).bind fun bt658 => ((turnstonelaw04_Of.f a1_0 a1_1 a1_2).bind fun bt661 => ((turnstoneref04_Cmp.f kj33 bt658.1 bt658.2.1 bt658.2.2 bt661.1 bt661.2.1 bt661.2.2).bind fun t664 => (some (t657 == t664)))))) else (some true)) = some r := H
       have A64 := Aside0.mk A640
       clear A640
       by_cases c65 : t656 = true
       ·subst c65
        have H1 : ((pos_Pos_Cmp.f kj33 a0_0 a0_1 a0_2 a1_0 a1_1 a1_2).bind fun t657 => ((turnstonelaw04_Of.f a0_0 a0_1 a0_2).bind fun bt658 => ((turnstonelaw04_Of.f a1_0 a1_1 a1_2).bind fun bt661 => ((turnstoneref04_Cmp.f kj33 bt658.1 bt658.2.1 bt658.2.2 bt661.1 bt661.2.1 bt661.2.2).bind fun t664 => (some (t657 == t664)))))) = some r := by rw [if_pos rfl] at H; exact H
        clear H
        have H := H1
        clear H1
        replace H := Option.bind_eq_some_iff.mp H
        obtain ⟨t657, A660, H⟩ := H
        replace H : ((turnstonelaw04_Of.f a0_0 a0_1 a0_2).bind fun bt658 => ((turnstonelaw04_Of.f a1_0 a1_1 a1_2).bind fun bt661 => ((turnstoneref04_Cmp.f kj33 bt658.1 bt658.2.1 bt658.2.2 bt661.1 bt661.2.1 bt661.2.2).bind fun t664 => (some (t657 == t664))))) = some r := H
        have A66 := Aside0.mk A660
        clear A660
        replace H := Option.bind_eq_some_iff.mp H
        obtain ⟨⟨t658, t659, t660⟩, A670, H⟩ := H
        replace H : ((turnstonelaw04_Of.f a1_0 a1_1 a1_2).bind fun bt661 => ((turnstoneref04_Cmp.f kj33 t658 t659 t660 bt661.1 bt661.2.1 bt661.2.2).bind fun t664 => (some (t657 == t664)))) = some r := H
        have A67 := Aside0.mk A670
        clear A670
        replace H := Option.bind_eq_some_iff.mp H
        obtain ⟨⟨t661, t662, t663⟩, A680, H⟩ := H
        replace H : ((turnstoneref04_Cmp.f kj33 t658 t659 t660 t661 t662 t663).bind fun t664 => (some (t657 == t664))) = some r := H
        have A68 := Aside0.mk A680
        clear A680
        replace H := Option.bind_eq_some_iff.mp H
        obtain ⟨t664, A690, H⟩ := H
        replace H : (some (t657 == t664)) = some r := H
        have A69 := Aside0.mk A690
        clear A690
        obtain rfl := Option.some.inj H
        try go_wp2
        replace BK627 := Aside0.mk (blk_drew BK627.out)
        replace BK628 := Aside0.mk (blk_drew BK628.out)
        replace BK648 := Aside0.mk (blk_drew BK648.out)
        replace HB := Aside0.mk (below_drew1 HB.out)
        refine start_ (n := 22) (S := fun w' => w'.cell? ⟨gb627, 0, none⟩ = some (.int .u64 a0_0) ∧ w'.cell? ⟨gb627, 1, none⟩ = some (.int .u32 a0_1) ∧ w'.cell? ⟨gb627, 2, none⟩ = some (.int .u32 a0_2) ∧ w'.cell? ⟨gb628, 0, none⟩ = some (.int .u64 a1_0) ∧ w'.cell? ⟨gb628, 1, none⟩ = some (.int .u32 a1_1) ∧ w'.cell? ⟨gb628, 2, none⟩ = some (.int .u32 a1_2)) (ds := []) #[false, false, false, false, false, false, false, false, false, false, false, false, false, false, false, false, false, false, false, false, false, false] (by kernel_rfl) rfl rfl ⟨bc BK627 0, bc BK627 1, bc BK627 2, bc BK628 0, bc BK628 1, bc BK628 2⟩ (fun hHeld => ?_); refine with_tabW turnstonelaw04_PosTells.tab8 turnstonelaw04_PosTells.bits8 (fun HT_ HW_ => ?_)
        generalize wc.drew = w70 at BK627 BK628 BK648 HB hHeld ⊢
        refine take_ (i := 0) (N := some 53) (v := ?_) (a' := ?_) #[true, false, false, false, false, false, false, false, false, false, false, false, false, false, false, false, false, false, false, false, false, false] rfl rfl (take_ofW HT_.out HW_.out (by kernel_rfl)) (fun _ _ _ h => h) (Or.inl ⟨by rfl, ?_⟩) hHeld ?_ ?_
        rotate_left
        ·rintro w' ⟨s0, s1, s2, s3, s4, s5⟩
         go_simp
         with_reducible rfl
        rotate_left
        ·simp only [Act.put, List.setIfInBounds_toArray, List.set_cons_zero, List.set_cons_succ, i64_w, i32_w]
         rfl
        refine one_ (i := 1) (N := some 54) #[true, true, false, false, false, false, false, false, false, false, false, false, false, false, false, false, false, false, false, false, false, false] rfl rfl (one_of HT_.out (by kernel_rfl)) (by decide) (fun K hK => ?_)
        refine goes_ Try.func48 (by kernel_rfl) rfl #[.agg #[.int .u64 a0_0, .int .u32 a0_1, .int .u32 a0_2]] (by rfl) rfl rfl argt ?_
        with_reducible refine (turnstonelaw04_Of.calls a0_0 a0_1 a0_2 t649 t650 t651 _ A60.out).mono ?_
        rintro e w71 ⟨rfl, hb⟩
        refine ⟨_, rfl, ?_⟩
        replace BK627 := blkb BK627 hb
        replace BK628 := blkb BK628 hb
        replace BK648 := blkb BK648 hb
        replace HB := belb HB hb
        (try clear hb)
        (try clear hb2)
        (try clear hk)
        (try clear hi)
        refine hK.out _ _ ⟨bc BK627 0, bc BK627 1, bc BK627 2, bc BK628 0, bc BK628 1, bc BK628 2⟩ (fun hHeld => ?_)
        clear hK K
        refine norm_ (a' := ?_) ?_ ?_
        rotate_left
        ·show Act.put _ (some 54) _ = _
         simp only [Act.put, List.setIfInBounds_toArray, List.set_cons_zero, List.set_cons_succ, i64_w, i32_w]
         rfl
        refine one_ (i := 2) (N := some 55) #[true, true, true, false, false, false, false, false, false, false, false, false, false, false, false, false, false, false, false, false, false, false] rfl rfl (one_of HT_.out (by kernel_rfl)) (by decide) (fun K hK => ?_)
        refine goes_ Try.func52 (by kernel_rfl) rfl #[.agg #[.int .u64 t649, .int .u32 t650, .int .u32 t651]] (by rfl) rfl rfl argt ?_
        with_reducible refine (turnstoneref04_Right.calls t649 t650 t651 true _ A61.out).mono ?_
        rintro e w72 ⟨rfl, hb⟩
        refine ⟨_, rfl, ?_⟩
        replace BK627 := blkb BK627 hb
        replace BK628 := blkb BK628 hb
        replace BK648 := blkb BK648 hb
        replace HB := belb HB hb
        (try clear hb)
        (try clear hb2)
        (try clear hk)
        (try clear hi)
        refine hK.out _ _ ⟨bc BK627 0, bc BK627 1, bc BK627 2, bc BK628 0, bc BK628 1, bc BK628 2⟩ (fun hHeld => ?_)
        clear hK K
        refine norm_ (a' := ?_) ?_ ?_
        rotate_left
        ·show Act.put _ (some 55) _ = _
         simp only [Act.put, List.setIfInBounds_toArray, List.set_cons_zero, List.set_cons_succ, i64_w, i32_w]
         rfl
        refine pure_ (i := 3) (N := some 56) (v := ?_) (a' := ?_) #[true, true, true, true, false, false, false, false, false, false, false, false, false, false, false, false, false, false, false, false, false, false] rfl rfl (any_of HT_.out (by kernel_rfl)) (fun _ _ _ h => h) (Or.inl ⟨by rfl, ?_⟩) ?_ ?_
        rotate_left
        ·intro w'
         go_simp
         with_reducible rfl
        rotate_left
        ·simp only [Act.put, List.setIfInBounds_toArray, List.set_cons_zero, List.set_cons_succ, i64_w, i32_w]
         rfl
        refine pure_ (i := 4) (N := some 57) (v := ?_) (a' := ?_) #[true, true, true, true, true, false, false, false, false, false, false, false, false, false, false, false, false, false, false, false, false, false] rfl rfl (any_of HT_.out (by kernel_rfl)) (fun _ _ _ h => h) (Or.inl ⟨by rfl, ?_⟩) ?_ ?_
        rotate_left
        ·intro w'
         go_simp
         with_reducible rfl
        rotate_left
        ·simp only [Act.put, List.setIfInBounds_toArray, List.set_cons_zero, List.set_cons_succ, i64_w, i32_w]
         rfl
        refine take_ (i := 5) (N := some 58) (v := ?_) (a' := ?_) #[true, true, true, true, true, true, false, false, false, false, false, false, false, false, false, false, false, false, false, false, false, false] rfl rfl (take_ofW HT_.out HW_.out (by kernel_rfl)) (fun _ _ _ h => h) (Or.inl ⟨by rfl, ?_⟩) hHeld ?_ ?_
        rotate_left
        ·rintro w' ⟨s0, s1, s2, s3, s4, s5⟩
         go_simp
         with_reducible rfl
        rotate_left
        ·simp only [Act.put, List.setIfInBounds_toArray, List.set_cons_zero, List.set_cons_succ, i64_w, i32_w]
         rfl
        refine one_ (i := 6) (N := some 59) #[true, true, true, true, true, true, true, false, false, false, false, false, false, false, false, false, false, false, false, false, false, false] rfl rfl (one_of HT_.out (by kernel_rfl)) (by decide) (fun K hK => ?_)
        refine goes_ Try.func48 (by kernel_rfl) rfl #[.agg #[.int .u64 a1_0, .int .u32 a1_1, .int .u32 a1_2]] (by rfl) rfl rfl argt ?_
        with_reducible refine (turnstonelaw04_Of.calls a1_0 a1_1 a1_2 t653 t654 t655 _ A63.out).mono ?_
        rintro e w73 ⟨rfl, hb⟩
        refine ⟨_, rfl, ?_⟩
        replace BK627 := blkb BK627 hb
        replace BK628 := blkb BK628 hb
        replace BK648 := blkb BK648 hb
        replace HB := belb HB hb
        (try clear hb)
        (try clear hb2)
        (try clear hk)
        (try clear hi)
        refine hK.out _ _ ⟨bc BK627 0, bc BK627 1, bc BK627 2, bc BK628 0, bc BK628 1, bc BK628 2⟩ (fun hHeld => ?_)
        clear hK K
        refine norm_ (a' := ?_) ?_ ?_
        rotate_left
        ·show Act.put _ (some 59) _ = _
         simp only [Act.put, List.setIfInBounds_toArray, List.set_cons_zero, List.set_cons_succ, i64_w, i32_w]
         rfl
        refine one_ (i := 7) (N := some 60) #[true, true, true, true, true, true, true, true, false, false, false, false, false, false, false, false, false, false, false, false, false, false] rfl rfl (one_of HT_.out (by kernel_rfl)) (by decide) (fun K hK => ?_)
        refine goes_ Try.func52 (by kernel_rfl) rfl #[.agg #[.int .u64 t653, .int .u32 t654, .int .u32 t655]] (by rfl) rfl rfl argt ?_
        with_reducible refine (turnstoneref04_Right.calls t653 t654 t655 true _ A64.out).mono ?_
        rintro e w74 ⟨rfl, hb⟩
        refine ⟨_, rfl, ?_⟩
        replace BK627 := blkb BK627 hb
        replace BK628 := blkb BK628 hb
        replace BK648 := blkb BK648 hb
        replace HB := belb HB hb
        (try clear hb)
        (try clear hb2)
        (try clear hk)
        (try clear hi)
        refine hK.out _ _ ⟨bc BK627 0, bc BK627 1, bc BK627 2, bc BK628 0, bc BK628 1, bc BK628 2⟩ (fun hHeld => ?_)
        clear hK K
        refine norm_ (a' := ?_) ?_ ?_
        rotate_left
        ·show Act.put _ (some 60) _ = _
         simp only [Act.put, List.setIfInBounds_toArray, List.set_cons_zero, List.set_cons_succ, i64_w, i32_w]
         rfl
        refine pure_ (i := 8) (N := some 61) (v := ?_) (a' := ?_) #[true, true, true, true, true, true, true, true, true, false, false, false, false, false, false, false, false, false, false, false, false, false] rfl rfl (any_of HT_.out (by kernel_rfl)) (fun _ _ _ h => h) (Or.inl ⟨by rfl, ?_⟩) ?_ ?_
        rotate_left
        ·intro w'
         go_simp
         with_reducible rfl
        rotate_left
        ·simp only [Act.put, List.setIfInBounds_toArray, List.set_cons_zero, List.set_cons_succ, i64_w, i32_w]
         rfl
        refine pure_ (i := 9) (N := some 62) (v := ?_) (a' := ?_) #[true, true, true, true, true, true, true, true, true, true, false, false, false, false, false, false, false, false, false, false, false, false] rfl rfl (any_of HT_.out (by kernel_rfl)) (fun _ _ _ h => h) (Or.inl ⟨by rfl, ?_⟩) ?_ ?_
        rotate_left
        ·intro w'
         go_simp
         with_reducible rfl
        rotate_left
        ·simp only [Act.put, List.setIfInBounds_toArray, List.set_cons_zero, List.set_cons_succ, i64_w, i32_w]
         rfl
        refine pure_ (i := 10) (N := some 63) (v := ?_) (a' := ?_) #[true, true, true, true, true, true, true, true, true, true, true, false, false, false, false, false, false, false, false, false, false, false] rfl rfl (any_of HT_.out (by kernel_rfl)) (fun _ _ _ h => h) (Or.inl ⟨by rfl, ?_⟩) ?_ ?_
        rotate_left
        ·intro w'
         go_simp
         with_reducible rfl
        rotate_left
        ·simp only [Act.put, List.setIfInBounds_toArray, List.set_cons_zero, List.set_cons_succ, i64_w, i32_w]
         rfl
        refine take_ (i := 11) (N := some 64) (v := ?_) (a' := ?_) #[true, true, true, true, true, true, true, true, true, true, true, true, false, false, false, false, false, false, false, false, false, false] rfl rfl (take_ofW HT_.out HW_.out (by kernel_rfl)) (fun _ _ _ h => h) (Or.inl ⟨by rfl, ?_⟩) hHeld ?_ ?_
        rotate_left
        ·rintro w' ⟨s0, s1, s2, s3, s4, s5⟩
         go_simp
         with_reducible rfl
        rotate_left
        ·simp only [Act.put, List.setIfInBounds_toArray, List.set_cons_zero, List.set_cons_succ, i64_w, i32_w]
         rfl
        refine take_ (i := 12) (N := some 65) (v := ?_) (a' := ?_) #[true, true, true, true, true, true, true, true, true, true, true, true, true, false, false, false, false, false, false, false, false, false] rfl rfl (take_ofW HT_.out HW_.out (by kernel_rfl)) (fun _ _ _ h => h) (Or.inl ⟨by rfl, ?_⟩) hHeld ?_ ?_
        rotate_left
        ·rintro w' ⟨s0, s1, s2, s3, s4, s5⟩
         go_simp
         with_reducible rfl
        rotate_left
        ·simp only [Act.put, List.setIfInBounds_toArray, List.set_cons_zero, List.set_cons_succ, i64_w, i32_w]
         rfl
        refine take_ (i := 14) (N := some 67) (v := ?_) (a' := ?_) #[true, true, true, true, true, true, true, true, true, true, true, true, true, false, true, false, false, false, false, false, false, false] rfl rfl (take_ofW HT_.out HW_.out (by kernel_rfl)) (fun _ _ _ h => h) (Or.inl ⟨by rfl, ?_⟩) hHeld ?_ ?_
        rotate_left
        ·rintro w' ⟨s0, s1, s2, s3, s4, s5⟩
         go_simp
         with_reducible rfl
        rotate_left
        ·simp only [Act.put, List.setIfInBounds_toArray, List.set_cons_zero, List.set_cons_succ, i64_w, i32_w]
         rfl
        refine take_ (i := 16) (N := some 69) (v := ?_) (a' := ?_) #[true, true, true, true, true, true, true, true, true, true, true, true, true, false, true, false, true, false, false, false, false, false] rfl rfl (take_ofW HT_.out HW_.out (by kernel_rfl)) (fun _ _ _ h => h) (Or.inl ⟨by rfl, ?_⟩) hHeld ?_ ?_
        rotate_left
        ·rintro w' ⟨s0, s1, s2, s3, s4, s5⟩
         go_simp
         with_reducible rfl
        rotate_left
        ·simp only [Act.put, List.setIfInBounds_toArray, List.set_cons_zero, List.set_cons_succ, i64_w, i32_w]
         rfl
        refine one_ (i := 13) (N := some 66) #[true, true, true, true, true, true, true, true, true, true, true, true, true, true, true, false, true, false, false, false, false, false] rfl rfl (one_of HT_.out (by kernel_rfl)) (by decide) (fun K hK => ?_)
        refine goes_ Try.func51 (by kernel_rfl) rfl #[.agg #[.int .u64 a0_0, .int .u32 a0_1, .int .u32 a0_2], .agg #[.int .u64 a1_0, .int .u32 a1_1, .int .u32 a1_2]] (by rfl) rfl rfl argt ?_
        with_reducible refine (pos_Pos_Cmp.calls kj33 a0_0 a0_1 a0_2 a1_0 a1_1 a1_2 t657 _ A66.out).mono ?_
        rintro e w75 ⟨rfl, hb⟩
        refine ⟨_, rfl, ?_⟩
        replace BK627 := blkb BK627 hb
        replace BK628 := blkb BK628 hb
        replace BK648 := blkb BK648 hb
        replace HB := belb HB hb
        (try clear hb)
        (try clear hb2)
        (try clear hk)
        (try clear hi)
        refine hK.out _ _ ⟨bc BK627 0, bc BK627 1, bc BK627 2, bc BK628 0, bc BK628 1, bc BK628 2⟩ (fun hHeld => ?_)
        clear hK K
        refine norm_ (a' := ?_) ?_ ?_
        rotate_left
        ·show Act.put _ (some 66) _ = _
         simp only [Act.put, List.setIfInBounds_toArray, List.set_cons_zero, List.set_cons_succ, i64_w, i32_w]
         rfl
        refine one_ (i := 15) (N := some 68) #[true, true, true, true, true, true, true, true, true, true, true, true, true, true, true, true, true, false, false, false, false, false] rfl rfl (one_of HT_.out (by kernel_rfl)) (by decide) (fun K hK => ?_)
        refine goes_ Try.func48 (by kernel_rfl) rfl #[.agg #[.int .u64 a0_0, .int .u32 a0_1, .int .u32 a0_2]] (by rfl) rfl rfl argt ?_
        with_reducible refine (turnstonelaw04_Of.calls a0_0 a0_1 a0_2 t658 t659 t660 _ A67.out).mono ?_
        rintro e w76 ⟨rfl, hb⟩
        refine ⟨_, rfl, ?_⟩
        replace BK627 := blkb BK627 hb
        replace BK628 := blkb BK628 hb
        replace BK648 := blkb BK648 hb
        replace HB := belb HB hb
        (try clear hb)
        (try clear hb2)
        (try clear hk)
        (try clear hi)
        refine hK.out _ _ ⟨bc BK627 0, bc BK627 1, bc BK627 2, bc BK628 0, bc BK628 1, bc BK628 2⟩ (fun hHeld => ?_)
        clear hK K
        refine norm_ (a' := ?_) ?_ ?_
        rotate_left
        ·show Act.put _ (some 68) _ = _
         simp only [Act.put, List.setIfInBounds_toArray, List.set_cons_zero, List.set_cons_succ, i64_w, i32_w]
         rfl
        refine one_ (i := 17) (N := some 70) #[true, true, true, true, true, true, true, true, true, true, true, true, true, true, true, true, true, true, false, false, false, false] rfl rfl (one_of HT_.out (by kernel_rfl)) (by decide) (fun K hK => ?_)
        refine goes_ Try.func48 (by kernel_rfl) rfl #[.agg #[.int .u64 a1_0, .int .u32 a1_1, .int .u32 a1_2]] (by rfl) rfl rfl argt ?_
        with_reducible refine (turnstonelaw04_Of.calls a1_0 a1_1 a1_2 t661 t662 t663 _ A68.out).mono ?_
        rintro e w77 ⟨rfl, hb⟩
        refine ⟨_, rfl, ?_⟩
        replace BK627 := blkb BK627 hb
        replace BK628 := blkb BK628 hb
        replace BK648 := blkb BK648 hb
        replace HB := belb HB hb
        (try clear hb)
        (try clear hb2)
        (try clear hk)
        (try clear hi)
        refine hK.out _ _ ⟨bc BK627 0, bc BK627 1, bc BK627 2, bc BK628 0, bc BK628 1, bc BK628 2⟩ (fun hHeld => ?_)
        clear hK K
        refine norm_ (a' := ?_) ?_ ?_
        rotate_left
        ·show Act.put _ (some 70) _ = _
         simp only [Act.put, List.setIfInBounds_toArray, List.set_cons_zero, List.set_cons_succ, i64_w, i32_w]
         rfl
        refine one_ (i := 18) (N := some 71) #[true, true, true, true, true, true, true, true, true, true, true, true, true, true, true, true, true, true, true, false, false, false] rfl rfl (one_of HT_.out (by kernel_rfl)) (by decide) (fun K hK => ?_)
        refine goes_ Try.func57 (by kernel_rfl) rfl #[.agg #[.int .u64 t658, .int .u32 t659, .int .u32 t660], .agg #[.int .u64 t661, .int .u32 t662, .int .u32 t663]] (by rfl) rfl rfl argt ?_
        with_reducible refine (turnstoneref04_Cmp.calls kj33 t658 t659 t660 t661 t662 t663 t664 _ A69.out).mono ?_
        rintro e w78 ⟨rfl, hb⟩
        refine ⟨_, rfl, ?_⟩
        replace BK627 := blkb BK627 hb
        replace BK628 := blkb BK628 hb
        replace BK648 := blkb BK648 hb
        replace HB := belb HB hb
        (try clear hb)
        (try clear hb2)
        (try clear hk)
        (try clear hi)
        refine hK.out _ _ ⟨bc BK627 0, bc BK627 1, bc BK627 2, bc BK628 0, bc BK628 1, bc BK628 2⟩ (fun hHeld => ?_)
        clear hK K
        refine norm_ (a' := ?_) ?_ ?_
        rotate_left
        ·show Act.put _ (some 71) _ = _
         simp only [Act.put, List.setIfInBounds_toArray, List.set_cons_zero, List.set_cons_succ, i64_w, i32_w]
         rfl
        refine pure_ (i := 19) (N := some 72) (v := ?_) (a' := ?_) #[true, true, true, true, true, true, true, true, true, true, true, true, true, true, true, true, true, true, true, true, false, false] rfl rfl (any_of HT_.out (by kernel_rfl)) (fun _ _ _ h => h) (Or.inl ⟨by rfl, ?_⟩) ?_ ?_
        rotate_left
        ·intro w'
         go_simp
         with_reducible rfl
        rotate_left
        ·simp only [Act.put, List.setIfInBounds_toArray, List.set_cons_zero, List.set_cons_succ, i64_w, i32_w]
         rfl
        refine pure_ (i := 20) (N := some 73) (v := ?_) (a' := ?_) #[true, true, true, true, true, true, true, true, true, true, true, true, true, true, true, true, true, true, true, true, true, false] rfl rfl (any_of HT_.out (by kernel_rfl)) (fun _ _ _ h => h) (Or.inl ⟨by rfl, ?_⟩) ?_ ?_
        rotate_left
        ·intro w'
         go_simp
         with_reducible rfl
        rotate_left
        ·simp only [Act.put, List.setIfInBounds_toArray, List.set_cons_zero, List.set_cons_succ, i64_w, i32_w]
         rfl
        refine pure_ (i := 21) (N := some 8) (v := ?_) (a' := ?_) #[true, true, true, true, true, true, true, true, true, true, true, true, true, true, true, true, true, true, true, true, true, true] rfl rfl (any_of HT_.out (by kernel_rfl)) (fun _ _ _ h => h) (Or.inl ⟨by rfl, ?_⟩) ?_ ?_
        rotate_left
        ·intro w'
         go_simp
         with_reducible rfl
        rotate_left
        ·simp only [Act.put, List.setIfInBounds_toArray, List.set_cons_zero, List.set_cons_succ, i64_w, i32_w]
         rfl
        refine done_ (done_of HT_.out (by kernel_rfl)) ?_
        try go_wp2
        go_ret
        exact ⟨by first | rfl | (simp [errW_none, errW_some] <;> rfl) | (simp [*, errW_none, errW_some] <;> rfl), belt HB⟩
       replace c65 := Bool.eq_false_iff.mpr c65
       subst c65
       have H1 : (some true) = some r := by rw [if_neg (show ¬ (false = true) by decide)] at H; exact H
       clear H
       have H := H1
       clear H1
       obtain rfl := Option.some.inj H
       try go_wp2
       replace BK627 := Aside0.mk (blk_drew BK627.out)
       replace BK628 := Aside0.mk (blk_drew BK628.out)
       replace BK648 := Aside0.mk (blk_drew BK648.out)
       replace HB := Aside0.mk (below_drew1 HB.out)
       refine start_ (n := 22) (S := fun w' => w'.cell? ⟨gb627, 0, none⟩ = some (.int .u64 a0_0) ∧ w'.cell? ⟨gb627, 1, none⟩ = some (.int .u32 a0_1) ∧ w'.cell? ⟨gb627, 2, none⟩ = some (.int .u32 a0_2) ∧ w'.cell? ⟨gb628, 0, none⟩ = some (.int .u64 a1_0) ∧ w'.cell? ⟨gb628, 1, none⟩ = some (.int .u32 a1_1) ∧ w'.cell? ⟨gb628, 2, none⟩ = some (.int .u32 a1_2)) (ds := []) #[false, false, false, false, false, false, false, false, false, false, false, false, false, false, false, false, false, false, false, false, false, false] (by kernel_rfl) rfl rfl ⟨bc BK627 0, bc BK627 1, bc BK627 2, bc BK628 0, bc BK628 1, bc BK628 2⟩ (fun hHeld => ?_); refine with_tabW turnstonelaw04_PosTells.tab8 turnstonelaw04_PosTells.bits8 (fun HT_ HW_ => ?_)
       generalize wc.drew = w79 at BK627 BK628 BK648 HB hHeld ⊢
       refine take_ (i := 0) (N := some 53) (v := ?_) (a' := ?_) #[true, false, false, false, false, false, false, false, false, false, false, false, false, false, false, false, false, false, false, false, false, false] rfl rfl (take_ofW HT_.out HW_.out (by kernel_rfl)) (fun _ _ _ h => h) (Or.inl ⟨by rfl, ?_⟩) hHeld ?_ ?_
       rotate_left
       ·rintro w' ⟨s0, s1, s2, s3, s4, s5⟩
        go_simp
        with_reducible rfl
       rotate_left
       ·simp only [Act.put, List.setIfInBounds_toArray, List.set_cons_zero, List.set_cons_succ, i64_w, i32_w]
        rfl
       refine one_ (i := 1) (N := some 54) #[true, true, false, false, false, false, false, false, false, false, false, false, false, false, false, false, false, false, false, false, false, false] rfl rfl (one_of HT_.out (by kernel_rfl)) (by decide) (fun K hK => ?_)
       refine goes_ Try.func48 (by kernel_rfl) rfl #[.agg #[.int .u64 a0_0, .int .u32 a0_1, .int .u32 a0_2]] (by rfl) rfl rfl argt ?_
       with_reducible refine (turnstonelaw04_Of.calls a0_0 a0_1 a0_2 t649 t650 t651 _ A60.out).mono ?_
       rintro e w80 ⟨rfl, hb⟩
       refine ⟨_, rfl, ?_⟩
       replace BK627 := blkb BK627 hb
       replace BK628 := blkb BK628 hb
       replace BK648 := blkb BK648 hb
       replace HB := belb HB hb
       (try clear hb)
       (try clear hb2)
       (try clear hk)
       (try clear hi)
       refine hK.out _ _ ⟨bc BK627 0, bc BK627 1, bc BK627 2, bc BK628 0, bc BK628 1, bc BK628 2⟩ (fun hHeld => ?_)
       clear hK K
       refine norm_ (a' := ?_) ?_ ?_
       rotate_left
       ·show Act.put _ (some 54) _ = _
        simp only [Act.put, List.setIfInBounds_toArray, List.set_cons_zero, List.set_cons_succ, i64_w, i32_w]
        rfl
       refine one_ (i := 2) (N := some 55) #[true, true, true, false, false, false, false, false, false, false, false, false, false, false, false, false, false, false, false, false, false, false] rfl rfl (one_of HT_.out (by kernel_rfl)) (by decide) (fun K hK => ?_)
       refine goes_ Try.func52 (by kernel_rfl) rfl #[.agg #[.int .u64 t649, .int .u32 t650, .int .u32 t651]] (by rfl) rfl rfl argt ?_
       with_reducible refine (turnstoneref04_Right.calls t649 t650 t651 true _ A61.out).mono ?_
       rintro e w81 ⟨rfl, hb⟩
       refine ⟨_, rfl, ?_⟩
       replace BK627 := blkb BK627 hb
       replace BK628 := blkb BK628 hb
       replace BK648 := blkb BK648 hb
       replace HB := belb HB hb
       (try clear hb)
       (try clear hb2)
       (try clear hk)
       (try clear hi)
       refine hK.out _ _ ⟨bc BK627 0, bc BK627 1, bc BK627 2, bc BK628 0, bc BK628 1, bc BK628 2⟩ (fun hHeld => ?_)
       clear hK K
       refine norm_ (a' := ?_) ?_ ?_
       rotate_left
       ·show Act.put _ (some 55) _ = _
        simp only [Act.put, List.setIfInBounds_toArray, List.set_cons_zero, List.set_cons_succ, i64_w, i32_w]
        rfl
       refine pure_ (i := 3) (N := some 56) (v := ?_) (a' := ?_) #[true, true, true, true, false, false, false, false, false, false, false, false, false, false, false, false, false, false, false, false, false, false] rfl rfl (any_of HT_.out (by kernel_rfl)) (fun _ _ _ h => h) (Or.inl ⟨by rfl, ?_⟩) ?_ ?_
       rotate_left
       ·intro w'
        go_simp
        with_reducible rfl
       rotate_left
       ·simp only [Act.put, List.setIfInBounds_toArray, List.set_cons_zero, List.set_cons_succ, i64_w, i32_w]
        rfl
       refine pure_ (i := 4) (N := some 57) (v := ?_) (a' := ?_) #[true, true, true, true, true, false, false, false, false, false, false, false, false, false, false, false, false, false, false, false, false, false] rfl rfl (any_of HT_.out (by kernel_rfl)) (fun _ _ _ h => h) (Or.inl ⟨by rfl, ?_⟩) ?_ ?_
       rotate_left
       ·intro w'
        go_simp
        with_reducible rfl
       rotate_left
       ·simp only [Act.put, List.setIfInBounds_toArray, List.set_cons_zero, List.set_cons_succ, i64_w, i32_w]
        rfl
       refine take_ (i := 5) (N := some 58) (v := ?_) (a' := ?_) #[true, true, true, true, true, true, false, false, false, false, false, false, false, false, false, false, false, false, false, false, false, false] rfl rfl (take_ofW HT_.out HW_.out (by kernel_rfl)) (fun _ _ _ h => h) (Or.inl ⟨by rfl, ?_⟩) hHeld ?_ ?_
       rotate_left
       ·rintro w' ⟨s0, s1, s2, s3, s4, s5⟩
        go_simp
        with_reducible rfl
       rotate_left
       ·simp only [Act.put, List.setIfInBounds_toArray, List.set_cons_zero, List.set_cons_succ, i64_w, i32_w]
        rfl
       refine one_ (i := 6) (N := some 59) #[true, true, true, true, true, true, true, false, false, false, false, false, false, false, false, false, false, false, false, false, false, false] rfl rfl (one_of HT_.out (by kernel_rfl)) (by decide) (fun K hK => ?_)
       refine goes_ Try.func48 (by kernel_rfl) rfl #[.agg #[.int .u64 a1_0, .int .u32 a1_1, .int .u32 a1_2]] (by rfl) rfl rfl argt ?_
       with_reducible refine (turnstonelaw04_Of.calls a1_0 a1_1 a1_2 t653 t654 t655 _ A63.out).mono ?_
       rintro e w82 ⟨rfl, hb⟩
       refine ⟨_, rfl, ?_⟩
       replace BK627 := blkb BK627 hb
       replace BK628 := blkb BK628 hb
       replace BK648 := blkb BK648 hb
       replace HB := belb HB hb
       (try clear hb)
       (try clear hb2)
       (try clear hk)
       (try clear hi)
       refine hK.out _ _ ⟨bc BK627 0, bc BK627 1, bc BK627 2, bc BK628 0, bc BK628 1, bc BK628 2⟩ (fun hHeld => ?_)
       clear hK K
       refine norm_ (a' := ?_) ?_ ?_
       rotate_left
       ·show Act.put _ (some 59) _ = _
        simp only [Act.put, List.setIfInBounds_toArray, List.set_cons_zero, List.set_cons_succ, i64_w, i32_w]
        rfl
       refine one_ (i := 7) (N := some 60) #[true, true, true, true, true, true, true, true, false, false, false, false, false, false, false, false, false, false, false, false, false, false] rfl rfl (one_of HT_.out (by kernel_rfl)) (by decide) (fun K hK => ?_)
       refine goes_ Try.func52 (by kernel_rfl) rfl #[.agg #[.int .u64 t653, .int .u32 t654, .int .u32 t655]] (by rfl) rfl rfl argt ?_
       with_reducible refine (turnstoneref04_Right.calls t653 t654 t655 false _ A64.out).mono ?_
       rintro e w83 ⟨rfl, hb⟩
       refine ⟨_, rfl, ?_⟩
       replace BK627 := blkb BK627 hb
       replace BK628 := blkb BK628 hb
       replace BK648 := blkb BK648 hb
       replace HB := belb HB hb
       (try clear hb)
       (try clear hb2)
       (try clear hk)
       (try clear hi)
       refine hK.out _ _ ⟨bc BK627 0, bc BK627 1, bc BK627 2, bc BK628 0, bc BK628 1, bc BK628 2⟩ (fun hHeld => ?_)
       clear hK K
       refine norm_ (a' := ?_) ?_ ?_
       rotate_left
       ·show Act.put _ (some 60) _ = _
        simp only [Act.put, List.setIfInBounds_toArray, List.set_cons_zero, List.set_cons_succ, i64_w, i32_w]
        rfl
       refine pure_ (i := 8) (N := some 61) (v := ?_) (a' := ?_) #[true, true, true, true, true, true, true, true, true, false, false, false, false, false, false, false, false, false, false, false, false, false] rfl rfl (any_of HT_.out (by kernel_rfl)) (fun _ _ _ h => h) (Or.inl ⟨by rfl, ?_⟩) ?_ ?_
       rotate_left
       ·intro w'
        go_simp
        with_reducible rfl
       rotate_left
       ·simp only [Act.put, List.setIfInBounds_toArray, List.set_cons_zero, List.set_cons_succ, i64_w, i32_w]
        rfl
       refine pure_ (i := 9) (N := some 62) (v := ?_) (a' := ?_) #[true, true, true, true, true, true, true, true, true, true, false, false, false, false, false, false, false, false, false, false, false, false] rfl rfl (any_of HT_.out (by kernel_rfl)) (fun _ _ _ h => h) (Or.inl ⟨by rfl, ?_⟩) ?_ ?_
       rotate_left
       ·intro w'
        go_simp
        with_reducible rfl
       rotate_left
       ·simp only [Act.put, List.setIfInBounds_toArray, List.set_cons_zero, List.set_cons_succ, i64_w, i32_w]
        rfl
       refine pure_ (i := 10) (N := some 63) (v := ?_) (a' := ?_) #[true, true, true, true, true, true, true, true, true, true, true, false, false, false, false, false, false, false, false, false, false, false] rfl rfl (any_of HT_.out (by kernel_rfl)) (fun _ _ _ h => h) (Or.inl ⟨by rfl, ?_⟩) ?_ ?_
       rotate_left
       ·intro w'
        go_simp
        with_reducible rfl
       rotate_left
       ·simp only [Act.put, List.setIfInBounds_toArray, List.set_cons_zero, List.set_cons_succ, i64_w, i32_w]
        rfl
       refine pure_ (i := 11) (N := some 64) (v := undef) (a' := ?_) #[true, true, true, true, true, true, true, true, true, true, true, true, false, false, false, false, false, false, false, false, false, false] rfl rfl (any_of HT_.out (by kernel_rfl)) (fun _ _ _ h => h) (Or.inr ⟨by rfl, rfl⟩) ?_ ?_
       rotate_left
       ·simp only [Act.put, List.setIfInBounds_toArray, List.set_cons_zero, List.set_cons_succ, i64_w, i32_w]
        rfl
       refine pure_ (i := 12) (N := some 65) (v := undef) (a' := ?_) #[true, true, true, true, true, true, true, true, true, true, true, true, true, false, false, false, false, false, false, false, false, false] rfl rfl (any_of HT_.out (by kernel_rfl)) (fun _ _ _ h => h) (Or.inr ⟨by rfl, rfl⟩) ?_ ?_
       rotate_left
       ·simp only [Act.put, List.setIfInBounds_toArray, List.set_cons_zero, List.set_cons_succ, i64_w, i32_w]
        rfl
       refine pure_ (i := 13) (N := some 66) (v := undef) (a' := ?_) #[true, true, true, true, true, true, true, true, true, true, true, true, true, true, false, false, false, false, false, false, false, false] rfl rfl (any_of HT_.out (by kernel_rfl)) (fun _ _ _ h => h) (Or.inr ⟨by rfl, rfl⟩) ?_ ?_
       rotate_left
       ·simp only [Act.put, List.setIfInBounds_toArray, List.set_cons_zero, List.set_cons_succ, i64_w, i32_w]
        rfl
       refine pure_ (i := 14) (N := some 67) (v := undef) (a' := ?_) #[true, true, true, true, true, true, true, true, true, true, true, true, true, true, true, false, false, false, false, false, false, false] rfl rfl (any_of HT_.out (by kernel_rfl)) (fun _ _ _ h => h) (Or.inr ⟨by rfl, rfl⟩) ?_ ?_
       rotate_left
       ·simp only [Act.put, List.setIfInBounds_toArray, List.set_cons_zero, List.set_cons_succ, i64_w, i32_w]
        rfl
       refine pure_ (i := 15) (N := some 68) (v := undef) (a' := ?_) #[true, true, true, true, true, true, true, true, true, true, true, true, true, true, true, true, false, false, false, false, false, false] rfl rfl (any_of HT_.out (by kernel_rfl)) (fun _ _ _ h => h) (Or.inr ⟨by rfl, rfl⟩) ?_ ?_
       rotate_left
       ·simp only [Act.put, List.setIfInBounds_toArray, List.set_cons_zero, List.set_cons_succ, i64_w, i32_w]
        rfl
       refine pure_ (i := 16) (N := some 69) (v := undef) (a' := ?_) #[true, true, true, true, true, true, true, true, true, true, true, true, true, true, true, true, true, false, false, false, false, false] rfl rfl (any_of HT_.out (by kernel_rfl)) (fun _ _ _ h => h) (Or.inr ⟨by rfl, rfl⟩) ?_ ?_
       rotate_left
       ·simp only [Act.put, List.setIfInBounds_toArray, List.set_cons_zero, List.set_cons_succ, i64_w, i32_w]
        rfl
       refine pure_ (i := 17) (N := some 70) (v := undef) (a' := ?_) #[true, true, true, true, true, true, true, true, true, true, true, true, true, true, true, true, true, true, false, false, false, false] rfl rfl (any_of HT_.out (by kernel_rfl)) (fun _ _ _ h => h) (Or.inr ⟨by rfl, rfl⟩) ?_ ?_
       rotate_left
       ·simp only [Act.put, List.setIfInBounds_toArray, List.set_cons_zero, List.set_cons_succ, i64_w, i32_w]
        rfl
       refine pure_ (i := 18) (N := some 71) (v := undef) (a' := ?_) #[true, true, true, true, true, true, true, true, true, true, true, true, true, true, true, true, true, true, true, false, false, false] rfl rfl (any_of HT_.out (by kernel_rfl)) (fun _ _ _ h => h) (Or.inr ⟨by rfl, rfl⟩) ?_ ?_
       rotate_left
       ·simp only [Act.put, List.setIfInBounds_toArray, List.set_cons_zero, List.set_cons_succ, i64_w, i32_w]
        rfl
       refine pure_ (i := 19) (N := some 72) (v := undef) (a' := ?_) #[true, true, true, true, true, true, true, true, true, true, true, true, true, true, true, true, true, true, true, true, false, false] rfl rfl (any_of HT_.out (by kernel_rfl)) (fun _ _ _ h => h) (Or.inr ⟨by rfl, rfl⟩) ?_ ?_
       rotate_left
       ·simp only [Act.put, List.setIfInBounds_toArray, List.set_cons_zero, List.set_cons_succ, i64_w, i32_w]
        rfl
       refine pure_ (i := 20) (N := some 73) (v := ?_) (a' := ?_) #[true, true, true, true, true, true, true, true, true, true, true, true, true, true, true, true, true, true, true, true, true, false] rfl rfl (any_of HT_.out (by kernel_rfl)) (fun _ _ _ h => h) (Or.inl ⟨by rfl, ?_⟩) ?_ ?_
       rotate_left
       ·intro w'
        go_simp
        with_reducible rfl
       rotate_left
       ·simp only [Act.put, List.setIfInBounds_toArray, List.set_cons_zero, List.set_cons_succ, i64_w, i32_w]
        rfl
       refine pure_ (i := 21) (N := some 8) (v := ?_) (a' := ?_) #[true, true, true, true, true, true, true, true, true, true, true, true, true, true, true, true, true, true, true, true, true, true] rfl rfl (any_of HT_.out (by kernel_rfl)) (fun _ _ _ h => h) (Or.inl ⟨by rfl, ?_⟩) ?_ ?_
       rotate_left
       ·intro w'
        go_simp
        with_reducible rfl
       rotate_left
       ·simp only [Act.put, List.setIfInBounds_toArray, List.set_cons_zero, List.set_cons_succ, i64_w, i32_w]
        rfl
       refine done_ (done_of HT_.out (by kernel_rfl)) ?_
       try go_wp2
       go_ret
       exact ⟨by first | rfl | (simp [errW_none, errW_some] <;> rfl) | (simp [*, errW_none, errW_some] <;> rfl), belt HB⟩
      replace c62 := Bool.eq_false_iff.mpr c62
      subst c62
      have H1 : (some true) = some r := by rw [if_neg (show ¬ (false = true) by decide)] at H; exact H
      clear H
      have H := H1
      clear H1
      obtain rfl := Option.some.inj H
      try go_wp2
      replace BK627 := Aside0.mk (blk_drew BK627.out)
      replace BK628 := Aside0.mk (blk_drew BK628.out)
      replace BK648 := Aside0.mk (blk_drew BK648.out)
      replace HB := Aside0.mk (below_drew1 HB.out)
      refine start_ (n := 22) (S := fun w' => w'.cell? ⟨gb627, 0, none⟩ = some (.int .u64 a0_0) ∧ w'.cell? ⟨gb627, 1, none⟩ = some (.int .u32 a0_1) ∧ w'.cell? ⟨gb627, 2, none⟩ = some (.int .u32 a0_2)) (ds := []) #[false, false, false, false, false, false, false, false, false, false, false, false, false, false, false, false, false, false, false, false, false, false] (by kernel_rfl) rfl rfl ⟨bc BK627 0, bc BK627 1, bc BK627 2⟩ (fun hHeld => ?_); refine with_tabW turnstonelaw04_PosTells.tab8 turnstonelaw04_PosTells.bits8 (fun HT_ HW_ => ?_)
      generalize wc.drew = w84 at BK627 BK628 BK648 HB hHeld ⊢
      refine take_ (i := 0) (N := some 53) (v := ?_) (a' := ?_) #[true, false, false, false, false, false, false, false, false, false, false, false, false, false, false, false, false, false, false, false, false, false] rfl rfl (take_ofW HT_.out HW_.out (by kernel_rfl)) (fun _ _ _ h => h) (Or.inl ⟨by rfl, ?_⟩) hHeld ?_ ?_
      rotate_left
      ·rintro w' ⟨s0, s1, s2⟩
       go_simp
       with_reducible rfl
      rotate_left
      ·simp only [Act.put, List.setIfInBounds_toArray, List.set_cons_zero, List.set_cons_succ, i64_w, i32_w]
       rfl
      refine one_ (i := 1) (N := some 54) #[true, true, false, false, false, false, false, false, false, false, false, false, false, false, false, false, false, false, false, false, false, false] rfl rfl (one_of HT_.out (by kernel_rfl)) (by decide) (fun K hK => ?_)
      refine goes_ Try.func48 (by kernel_rfl) rfl #[.agg #[.int .u64 a0_0, .int .u32 a0_1, .int .u32 a0_2]] (by rfl) rfl rfl argt ?_
      with_reducible refine (turnstonelaw04_Of.calls a0_0 a0_1 a0_2 t649 t650 t651 _ A60.out).mono ?_
      rintro e w85 ⟨rfl, hb⟩
      refine ⟨_, rfl, ?_⟩
      replace BK627 := blkb BK627 hb
      replace BK628 := blkb BK628 hb
      replace BK648 := blkb BK648 hb
      replace HB := belb HB hb
      (try clear hb)
      (try clear hb2)
      (try clear hk)
      (try clear hi)
      refine hK.out _ _ ⟨bc BK627 0, bc BK627 1, bc BK627 2⟩ (fun hHeld => ?_)
      clear hK K
      refine norm_ (a' := ?_) ?_ ?_
      rotate_left
      ·show Act.put _ (some 54) _ = _
       simp only [Act.put, List.setIfInBounds_toArray, List.set_cons_zero, List.set_cons_succ, i64_w, i32_w]
       rfl
      refine one_ (i := 2) (N := some 55) #[true, true, true, false, false, false, false, false, false, false, false, false, false, false, false, false, false, false, false, false, false, false] rfl rfl (one_of HT_.out (by kernel_rfl)) (by decide) (fun K hK => ?_)
      refine goes_ Try.func52 (by kernel_rfl) rfl #[.agg #[.int .u64 t649, .int .u32 t650, .int .u32 t651]] (by rfl) rfl rfl argt ?_
      with_reducible refine (turnstoneref04_Right.calls t649 t650 t651 false _ A61.out).mono ?_
      rintro e w86 ⟨rfl, hb⟩
      refine ⟨_, rfl, ?_⟩
      replace BK627 := blkb BK627 hb
      replace BK628 := blkb BK628 hb
      replace BK648 := blkb BK648 hb
      replace HB := belb HB hb
      (try clear hb)
      (try clear hb2)
      (try clear hk)
      (try clear hi)
      refine hK.out _ _ ⟨bc BK627 0, bc BK627 1, bc BK627 2⟩ (fun hHeld => ?_)
      clear hK K
      refine norm_ (a' := ?_) ?_ ?_
      rotate_left
      ·show Act.put _ (some 55) _ = _
       simp only [Act.put, List.setIfInBounds_toArray, List.set_cons_zero, List.set_cons_succ, i64_w, i32_w]
       rfl
      refine pure_ (i := 3) (N := some 56) (v := ?_) (a' := ?_) #[true, true, true, true, false, false, false, false, false, false, false, false, false, false, false, false, false, false, false, false, false, false] rfl rfl (any_of HT_.out (by kernel_rfl)) (fun _ _ _ h => h) (Or.inl ⟨by rfl, ?_⟩) ?_ ?_
      rotate_left
      ·intro w'
       go_simp
       with_reducible rfl
      rotate_left
      ·simp only [Act.put, List.setIfInBounds_toArray, List.set_cons_zero, List.set_cons_succ, i64_w, i32_w]
       rfl
      refine pure_ (i := 4) (N := some 57) (v := ?_) (a' := ?_) #[true, true, true, true, true, false, false, false, false, false, false, false, false, false, false, false, false, false, false, false, false, false] rfl rfl (any_of HT_.out (by kernel_rfl)) (fun _ _ _ h => h) (Or.inl ⟨by rfl, ?_⟩) ?_ ?_
      rotate_left
      ·intro w'
       go_simp
       with_reducible rfl
      rotate_left
      ·simp only [Act.put, List.setIfInBounds_toArray, List.set_cons_zero, List.set_cons_succ, i64_w, i32_w]
       rfl
      refine pure_ (i := 5) (N := some 58) (v := undef) (a' := ?_) #[true, true, true, true, true, true, false, false, false, false, false, false, false, false, false, false, false, false, false, false, false, false] rfl rfl (any_of HT_.out (by kernel_rfl)) (fun _ _ _ h => h) (Or.inr ⟨by rfl, rfl⟩) ?_ ?_
      rotate_left
      ·simp only [Act.put, List.setIfInBounds_toArray, List.set_cons_zero, List.set_cons_succ, i64_w, i32_w]
       rfl
      refine pure_ (i := 6) (N := some 59) (v := undef) (a' := ?_) #[true, true, true, true, true, true, true, false, false, false, false, false, false, false, false, false, false, false, false, false, false, false] rfl rfl (any_of HT_.out (by kernel_rfl)) (fun _ _ _ h => h) (Or.inr ⟨by rfl, rfl⟩) ?_ ?_
      rotate_left
      ·simp only [Act.put, List.setIfInBounds_toArray, List.set_cons_zero, List.set_cons_succ, i64_w, i32_w]
       rfl
      refine pure_ (i := 7) (N := some 60) (v := undef) (a' := ?_) #[true, true, true, true, true, true, true, true, false, false, false, false, false, false, false, false, false, false, false, false, false, false] rfl rfl (any_of HT_.out (by kernel_rfl)) (fun _ _ _ h => h) (Or.inr ⟨by rfl, rfl⟩) ?_ ?_
      rotate_left
      ·simp only [Act.put, List.setIfInBounds_toArray, List.set_cons_zero, List.set_cons_succ, i64_w, i32_w]
       rfl
      refine pure_ (i := 8) (N := some 61) (v := undef) (a' := ?_) #[true, true, true, true, true, true, true, true, true, false, false, false, false, false, false, false, false, false, false, false, false, false] rfl rfl (any_of HT_.out (by kernel_rfl)) (fun _ _ _ h => h) (Or.inr ⟨by rfl, rfl⟩) ?_ ?_
      rotate_left
      ·simp only [Act.put, List.setIfInBounds_toArray, List.set_cons_zero, List.set_cons_succ, i64_w, i32_w]
       rfl
      refine pure_ (i := 9) (N := some 62) (v := ?_) (a' := ?_) #[true, true, true, true, true, true, true, true, true, true, false, false, false, false, false, false, false, false, false, false, false, false] rfl rfl (any_of HT_.out (by kernel_rfl)) (fun _ _ _ h => h) (Or.inl ⟨by rfl, ?_⟩) ?_ ?_
      rotate_left
      ·intro w'
       go_simp
       with_reducible rfl
      rotate_left
      ·simp only [Act.put, List.setIfInBounds_toArray, List.set_cons_zero, List.set_cons_succ, i64_w, i32_w]
       rfl
      refine pure_ (i := 10) (N := some 63) (v := ?_) (a' := ?_) #[true, true, true, true, true, true, true, true, true, true, true, false, false, false, false, false, false, false, false, false, false, false] rfl rfl (any_of HT_.out (by kernel_rfl)) (fun _ _ _ h => h) (Or.inl ⟨by rfl, ?_⟩) ?_ ?_
      rotate_left
      ·intro w'
       go_simp
       with_reducible rfl
      rotate_left
      ·simp only [Act.put, List.setIfInBounds_toArray, List.set_cons_zero, List.set_cons_succ, i64_w, i32_w]
       rfl
      refine pure_ (i := 11) (N := some 64) (v := undef) (a' := ?_) #[true, true, true, true, true, true, true, true, true, true, true, true, false, false, false, false, false, false, false, false, false, false] rfl rfl (any_of HT_.out (by kernel_rfl)) (fun _ _ _ h => h) (Or.inr ⟨by rfl, rfl⟩) ?_ ?_
      rotate_left
      ·simp only [Act.put, List.setIfInBounds_toArray, List.set_cons_zero, List.set_cons_succ, i64_w, i32_w]
       rfl
      refine pure_ (i := 12) (N := some 65) (v := undef) (a' := ?_) #[true, true, true, true, true, true, true, true, true, true, true, true, true, false, false, false, false, false, false, false, false, false] rfl rfl (any_of HT_.out (by kernel_rfl)) (fun _ _ _ h => h) (Or.inr ⟨by rfl, rfl⟩) ?_ ?_
      rotate_left
      ·simp only [Act.put, List.setIfInBounds_toArray, List.set_cons_zero, List.set_cons_succ, i64_w, i32_w]
       rfl
      refine pure_ (i := 13) (N := some 66) (v := undef) (a' := ?_) #[true, true, true, true, true, true, true, true, true, true, true, true, true, true, false, false, false, false, false, false, false, false] rfl rfl (any_of HT_.out (by kernel_rfl)) (fun _ _ _ h => h) (Or.inr ⟨by rfl, rfl⟩) ?_ ?_
      rotate_left
      ·simp only [Act.put, List.setIfInBounds_toArray, List.set_cons_zero, List.set_cons_succ, i64_w, i32_w]
       rfl
      refine pure_ (i := 14) (N := some 67) (v := undef) (a' := ?_) #[true, true, true, true, true, true, true, true, true, true, true, true, true, true, true, false, false, false, false, false, false, false] rfl rfl (any_of HT_.out (by kernel_rfl)) (fun _ _ _ h => h) (Or.inr ⟨by rfl, rfl⟩) ?_ ?_
      rotate_left
      ·simp only [Act.put, List.setIfInBounds_toArray, List.set_cons_zero, List.set_cons_succ, i64_w, i32_w]
       rfl
      refine pure_ (i := 15) (N := some 68) (v := undef) (a' := ?_) #[true, true, true, true, true, true, true, true, true, true, true, true, true, true, true, true, false, false, false, false, false, false] rfl rfl (any_of HT_.out (by kernel_rfl)) (fun _ _ _ h => h) (Or.inr ⟨by rfl, rfl⟩) ?_ ?_
      rotate_left
      ·simp only [Act.put, List.setIfInBounds_toArray, List.set_cons_zero, List.set_cons_succ, i64_w, i32_w]
       rfl
      refine pure_ (i := 16) (N := some 69) (v := undef) (a' := ?_) #[true, true, true, true, true, true, true, true, true, true, true, true, true, true, true, true, true, false, false, false, false, false] rfl rfl (any_of HT_.out (by kernel_rfl)) (fun _ _ _ h => h) (Or.inr ⟨by rfl, rfl⟩) ?_ ?_
      rotate_left
      ·simp only [Act.put, List.setIfInBounds_toArray, List.set_cons_zero, List.set_cons_succ, i64_w, i32_w]
       rfl
      refine pure_ (i := 17) (N := some 70) (v := undef) (a' := ?_) #[true, true, true, true, true, true, true, true, true, true, true, true, true, true, true, true, true, true, false, false, false, false] rfl rfl (any_of HT_.out (by kernel_rfl)) (fun _ _ _ h => h) (Or.inr ⟨by rfl, rfl⟩) ?_ ?_
      rotate_left
      ·simp only [Act.put, List.setIfInBounds_toArray, List.set_cons_zero, List.set_cons_succ, i64_w, i32_w]
       rfl
      refine pure_ (i := 18) (N := some 71) (v := undef) (a' := ?_) #[true, true, true, true, true, true, true, true, true, true, true, true, true, true, true, true, true, true, true, false, false, false] rfl rfl (any_of HT_.out (by kernel_rfl)) (fun _ _ _ h => h) (Or.inr ⟨by rfl, rfl⟩) ?_ ?_
      rotate_left
      ·simp only [Act.put, List.setIfInBounds_toArray, List.set_cons_zero, List.set_cons_succ, i64_w, i32_w]
       rfl
      refine pure_ (i := 19) (N := some 72) (v := undef) (a' := ?_) #[true, true, true, true, true, true, true, true, true, true, true, true, true, true, true, true, true, true, true, true, false, false] rfl rfl (any_of HT_.out (by kernel_rfl)) (fun _ _ _ h => h) (Or.inr ⟨by rfl, rfl⟩) ?_ ?_
      rotate_left
      ·simp only [Act.put, List.setIfInBounds_toArray, List.set_cons_zero, List.set_cons_succ, i64_w, i32_w]
       rfl
      refine pure_ (i := 20) (N := some 73) (v := ?_) (a' := ?_) #[true, true, true, true, true, true, true, true, true, true, true, true, true, true, true, true, true, true, true, true, true, false] rfl rfl (any_of HT_.out (by kernel_rfl)) (fun _ _ _ h => h) (Or.inl ⟨by rfl, ?_⟩) ?_ ?_
      rotate_left
      ·intro w'
       go_simp
       with_reducible rfl
      rotate_left
      ·simp only [Act.put, List.setIfInBounds_toArray, List.set_cons_zero, List.set_cons_succ, i64_w, i32_w]
       rfl
      refine pure_ (i := 21) (N := some 8) (v := ?_) (a' := ?_) #[true, true, true, true, true, true, true, true, true, true, true, true, true, true, true, true, true, true, true, true, true, true] rfl rfl (any_of HT_.out (by kernel_rfl)) (fun _ _ _ h => h) (Or.inl ⟨by rfl, ?_⟩) ?_ ?_
      rotate_left
      ·intro w'
       go_simp
       with_reducible rfl
      rotate_left
      ·simp only [Act.put, List.setIfInBounds_toArray, List.set_cons_zero, List.set_cons_succ, i64_w, i32_w]
       rfl
      refine done_ (done_of HT_.out (by kernel_rfl)) ?_
      try go_wp2
      go_ret
      exact ⟨by first | rfl | (simp [errW_none, errW_some] <;> rfl) | (simp [*, errW_none, errW_some] <;> rfl), belt HB⟩
 replace c6 := Bool.eq_false_iff.mpr c6
 subst c6
 have H1 : (none) = some r := by rw [if_neg (show ¬ (false = true) by decide)] at H; exact H
 clear H
 have H := H1
 clear H1
 exact absurd H (by simp)

/-- THE ONE PURE STATEMENT of turnstonelaw04_PosTells. -/
def turnstonelaw04_PosTells.Pure : Prop := ∀ (a0_0 : Int) (a0_1 : Int) (a0_2 : Int) (a1_0 : Int) (a1_1 : Int) (a1_2 : Int) (a2 : Int) (a3 : Int), (Lit.int .u64 a0_0).wf = true → (Lit.int .u32 a0_1).wf = true → (Lit.int .u32 a0_2).wf = true → (Lit.int .u64 a1_0).wf = true → (Lit.int .u32 a1_1).wf = true → (Lit.int .u32 a1_2).wf = true → (Lit.int .u64 a2).wf = true → (Lit.int .u64 a3).wf = true → ∃ k, turnstonelaw04_PosTells.f k a0_0 a0_1 a0_2 a1_0 a1_1 a1_2 a2 a3 = some true
theorem turnstonelaw04_PosTells.walk (P : turnstonelaw04_PosTells.Pure) (a0_0 : Int) (a0_1 : Int) (a0_2 : Int) (a1_0 : Int) (a1_1 : Int) (a1_2 : Int) (a2 : Int) (a3 : Int) (w : World) (w0_0 : (Lit.int .u64 a0_0).wf = true) (w0_1 : (Lit.int .u32 a0_1).wf = true) (w0_2 : (Lit.int .u32 a0_2).wf = true) (w1_0 : (Lit.int .u64 a1_0).wf = true) (w1_1 : (Lit.int .u32 a1_1).wf = true) (w1_2 : (Lit.int .u32 a1_2).wf = true) (w2 : (Lit.int .u64 a2).wf = true) (w3 : (Lit.int .u64 a3).wf = true) :
  Calls Try.prog 16 #[.agg #[.int .u64 a0_0, .int .u32 a0_1, .int .u32 a0_2], .agg #[.int .u64 a1_0, .int .u32 a1_1, .int .u32 a1_2], .int .u64 a2, .int .u64 a3] w fun e w' => e = .returned (.bool true) ∧ Below w.heap.size w w' := by
 obtain ⟨k, h⟩ := P a0_0 a0_1 a0_2 a1_0 a1_1 a1_2 a2 a3 w0_0 w0_1 w0_2 w1_0 w1_1 w1_2 w2 w3
 refine (turnstonelaw04_PosTells.calls k a0_0 a0_1 a0_2 a1_0 a1_1 a1_2 a2 a3 true w h).mono ?_
 rintro e w' ⟨rfl, hd⟩
 exact ⟨rfl, hd⟩

end Go.Proofs.Ytimgiiceipjpaaa.Print
