/- What each Go function that is named below answers, as a Lean function, and that its walk comes to just that: for whatever arguments that function gives an answer for. Written by a program of this session (wip/mkpr.py, pr.sh). -/
import Derived.Test.YtimgiiceipjpaaaPrint0
import Derived.Test.YtimgiiceipjpaaaPrint3
import Derived.Test.YtimgiiceipjpaaaPrint8
import Derived.Test.YtimgiiceipjpaaaPrint9
namespace Go.Proofs.Ytimgiiceipjpaaa.Print
open Go.RowKit Go.Proofs.YtimgiiceipjpaaaW.PrintWords Go.Proofs.YtimgiiceipjpaaaW.PrintLast Go.Proofs.YtimgiiceipjpaaaW.PrintMore
attribute [local go_sem] max2_int min2_int max_two min_two max_three min_three max_four min_four   -- for this text's walks alone
open Go.Proofs.Ytimgiiceipjpaaa.Bits
attribute [local go_sem] add64_run0 sub64_run0 add64_run sub64_run
set_option linter.unusedVariables false
set_option linter.unusedSimpArgs false

/-! ### turnstonelaw03_VtimeShifts: function 5 -/
mutual
def turnstonelaw03_VtimeShifts.l0 : Nat → Int → Int → List Int → List Int → Int → Int → List Int → Int → Int → Option (Bool)
 | 0, _, _, _, _, _, _, _, _, _ => none
 | k + 1, x0, x1, x7, x8, x9, x10, x27, x28, x29 => if x29 < x28 then (if 0 ≤ x29 then (if x29 < (x27.length : Int) then (if (rd x27 x29) ≤ (-4611686018427387904) then (turnstonelaw03_VtimeShifts.j1 k x0 x1 x7 x8 x9 x10 (rd x27 x29) x27 x28 x29 true) else (turnstonelaw03_VtimeShifts.j1 k x0 x1 x7 x8 x9 x10 (rd x27 x29) x27 x28 x29 (decide ((rd x27 x29) ≥ 4611686018427387904)))) else (none)) else (none)) else (turnstonelaw03_VtimeShifts.l1 k x0 x1 x7 x8 x9 x10 (x7.length : Int) 0)
def turnstonelaw03_VtimeShifts.j1 : Nat → Int → Int → List Int → List Int → Int → Int → Int → List Int → Int → Int → Bool → Option (Bool)
 | 0, _, _, _, _, _, _, _, _, _, _, _ => none
 | k + 1, x0, x1, x7, x8, x9, x10, x12, x27, x28, x29, x38 => if x38 = true then (some true) else ((vtime_Time_Add.f x0 x12).bind fun t190 => (if x7.length < 17592186044416 then ((vtime_Time_Add.f (IntKind.u64.wrap (x0 + x1)) x12).bind fun t194 => (if x8.length < 17592186044416 then (turnstonelaw03_VtimeShifts.l0 k x0 x1 (x7 ++ [t190]) (x8 ++ [t194]) (mn x9 x12) (mx x10 x12) x27 x28 (wrap64 (x29 + 1))) else (none))) else (none)))
def turnstonelaw03_VtimeShifts.l1 : Nat → Int → Int → List Int → List Int → Int → Int → Int → Int → Option (Bool)
 | 0, _, _, _, _, _, _, _, _ => none
 | k + 1, x0, x1, x7, x8, x9, x10, x61, x62 => if x62 < x61 then (if 0 ≤ x62 then (if x62 < (x7.length : Int) then (if 0 < (x7.length : Int) then ((vtime_Time_Since.f (rd x7 x62) (rd x7 0)).bind fun t200 => (if x62 < (x8.length : Int) then (if 0 < (x8.length : Int) then ((vtime_Time_Since.f (rd x8 x62) (rd x8 0)).bind fun t203 => (if t200 = t203 then (if (IntKind.u64.wrap ((rd x8 x62) - (rd x7 x62))) = x1 then (turnstonelaw03_VtimeShifts.l1 k x0 x1 x7 x8 x9 x10 x61 (wrap64 (x62 + 1))) else (none)) else (none))) else (none)) else (none))) else (none)) else (none)) else (none)) else (if 0 < (x7.length : Int) then ((vtime_First.f k (rd x7 0) x7).bind fun t207 => ((vtime_Last.f k (rd x7 0) x7).bind fun t209 => ((vtime_Time_Add.f x0 x9).bind fun t210 => (if t207 = t210 then ((vtime_Time_Add.f x0 x10).bind fun t211 => (if t209 = t211 then (if 0 < (x8.length : Int) then ((vtime_First.f k (rd x8 0) x8).bind fun t213 => (if (IntKind.u64.wrap (t213 - t207)) = x1 then ((vtime_Last.f k (rd x8 0) x8).bind fun t215 => (if (IntKind.u64.wrap (t215 - t209)) = x1 then ((vtime_Spread.f k x7).bind fun t216 => ((vtime_Spread.f k x8).bind fun t217 => (if t216 = t217 then (some (t216 == (IntKind.u64.wrap (wrap64 (x10 - x9))))) else (none)))) else (none))) else (none))) else (none)) else (none))) else (none))))) else (none))
end
def turnstonelaw03_VtimeShifts.f (k : Nat) (a0 : Int) (a1 : Int) (l2 : List Int) : Option (Bool) := (turnstonelaw03_awake.f k).bind fun t182 => (if t182 = true then (if (l2.length : Int) > 100 then (some true) else (turnstonelaw03_VtimeShifts.l0 k a0 a1 (([a0] : List Int)) (([IntKind.u64.wrap (a0 + a1)] : List Int)) 0 0 l2 (l2.length : Int) 0)) else (none))
theorem turnstonelaw03_VtimeShifts.mono_l : ∀ k, (∀ y0 y1 y2 y3 y4 y5 y6 y7 y8, LeO (turnstonelaw03_VtimeShifts.l0 k y0 y1 y2 y3 y4 y5 y6 y7 y8) (turnstonelaw03_VtimeShifts.l0 (k + 1) y0 y1 y2 y3 y4 y5 y6 y7 y8)) ∧ (∀ y0 y1 y2 y3 y4 y5 y6 y7 y8 y9 y10, LeO (turnstonelaw03_VtimeShifts.j1 k y0 y1 y2 y3 y4 y5 y6 y7 y8 y9 y10) (turnstonelaw03_VtimeShifts.j1 (k + 1) y0 y1 y2 y3 y4 y5 y6 y7 y8 y9 y10)) ∧ (∀ y0 y1 y2 y3 y4 y5 y6 y7, LeO (turnstonelaw03_VtimeShifts.l1 k y0 y1 y2 y3 y4 y5 y6 y7) (turnstonelaw03_VtimeShifts.l1 (k + 1) y0 y1 y2 y3 y4 y5 y6 y7))
 | 0 => ⟨fun _ _ _ _ _ _ _ _ _ r h => by simp [turnstonelaw03_VtimeShifts.l0] at h, fun _ _ _ _ _ _ _ _ _ _ _ r h => by simp [turnstonelaw03_VtimeShifts.j1] at h, fun _ _ _ _ _ _ _ _ r h => by simp [turnstonelaw03_VtimeShifts.l1] at h⟩
 | k + 1 => by
  obtain ⟨ih0, ih1, ih2⟩ := turnstonelaw03_VtimeShifts.mono_l k
  refine ⟨?_, ?_, ?_⟩
  ·intro y0 y1 y2 y3 y4 y5 y6 y7 y8
   unfold turnstonelaw03_VtimeShifts.l0
   repeat' first
   | (with_reducible exact ih0 _ _ _ _ _ _ _ _ _)
   | (with_reducible exact ih1 _ _ _ _ _ _ _ _ _ _ _)
   | (with_reducible exact ih2 _ _ _ _ _ _ _ _)
   | (with_reducible exact turnstonelaw03_awake.mono _)
   | (with_reducible exact vtime_First.mono _ _ _)
   | (with_reducible exact vtime_Last.mono _ _ _)
   | (with_reducible exact vtime_Spread.mono _ _)
   | (with_reducible exact LeO.refl _)
   | (with_reducible exact LeO.none _)
   | (with_reducible refine LeO.ite ?_ ?_)
   | (with_reducible refine LeO.bind ?_ (fun _ => ?_))
   | exact ih0 _ _ _ _ _ _ _ _ _
   | exact ih1 _ _ _ _ _ _ _ _ _ _ _
   | exact ih2 _ _ _ _ _ _ _ _
   | exact turnstonelaw03_awake.mono _
   | exact vtime_First.mono _ _ _
   | exact vtime_Last.mono _ _ _
   | exact vtime_Spread.mono _ _
   | exact LeO.none _
   | refine LeO.ite ?_ ?_
   | refine LeO.bind ?_ (fun _ => ?_)
  ·intro y0 y1 y2 y3 y4 y5 y6 y7 y8 y9 y10
   unfold turnstonelaw03_VtimeShifts.j1
   repeat' first
   | (with_reducible exact ih0 _ _ _ _ _ _ _ _ _)
   | (with_reducible exact ih1 _ _ _ _ _ _ _ _ _ _ _)
   | (with_reducible exact ih2 _ _ _ _ _ _ _ _)
   | (with_reducible exact turnstonelaw03_awake.mono _)
   | (with_reducible exact vtime_First.mono _ _ _)
   | (with_reducible exact vtime_Last.mono _ _ _)
   | (with_reducible exact vtime_Spread.mono _ _)
   | (with_reducible exact LeO.refl _)
   | (with_reducible exact LeO.none _)
   | (with_reducible refine LeO.ite ?_ ?_)
   | (with_reducible refine LeO.bind ?_ (fun _ => ?_))
   | exact ih0 _ _ _ _ _ _ _ _ _
   | exact ih1 _ _ _ _ _ _ _ _ _ _ _
   | exact ih2 _ _ _ _ _ _ _ _
   | exact turnstonelaw03_awake.mono _
   | exact vtime_First.mono _ _ _
   | exact vtime_Last.mono _ _ _
   | exact vtime_Spread.mono _ _
   | exact LeO.none _
   | refine LeO.ite ?_ ?_
   | refine LeO.bind ?_ (fun _ => ?_)
  ·intro y0 y1 y2 y3 y4 y5 y6 y7
   unfold turnstonelaw03_VtimeShifts.l1
   repeat' first
   | (with_reducible exact ih0 _ _ _ _ _ _ _ _ _)
   | (with_reducible exact ih1 _ _ _ _ _ _ _ _ _ _ _)
   | (with_reducible exact ih2 _ _ _ _ _ _ _ _)
   | (with_reducible exact turnstonelaw03_awake.mono _)
   | (with_reducible exact vtime_First.mono _ _ _)
   | (with_reducible exact vtime_Last.mono _ _ _)
   | (with_reducible exact vtime_Spread.mono _ _)
   | (with_reducible exact LeO.refl _)
   | (with_reducible exact LeO.none _)
   | (with_reducible refine LeO.ite ?_ ?_)
   | (with_reducible refine LeO.bind ?_ (fun _ => ?_))
   | exact ih0 _ _ _ _ _ _ _ _ _
   | exact ih1 _ _ _ _ _ _ _ _ _ _ _
   | exact ih2 _ _ _ _ _ _ _ _
   | exact turnstonelaw03_awake.mono _
   | exact vtime_First.mono _ _ _
   | exact vtime_Last.mono _ _ _
   | exact vtime_Spread.mono _ _
   | exact LeO.none _
   | refine LeO.ite ?_ ?_
   | refine LeO.bind ?_ (fun _ => ?_)
theorem turnstonelaw03_VtimeShifts.mono : ∀ a0 a1 a2 k, LeO (turnstonelaw03_VtimeShifts.f k a0 a1 a2) (turnstonelaw03_VtimeShifts.f (k + 1) a0 a1 a2) := by
 intro a0 a1 a2 k
 obtain ⟨ih0, ih1, ih2⟩ := turnstonelaw03_VtimeShifts.mono_l k
 unfold turnstonelaw03_VtimeShifts.f
 repeat' first
   | (with_reducible exact ih0 _ _ _ _ _ _ _ _ _)
   | (with_reducible exact ih1 _ _ _ _ _ _ _ _ _ _ _)
   | (with_reducible exact ih2 _ _ _ _ _ _ _ _)
   | (with_reducible exact turnstonelaw03_awake.mono _)
   | (with_reducible exact vtime_First.mono _ _ _)
   | (with_reducible exact vtime_Last.mono _ _ _)
   | (with_reducible exact vtime_Spread.mono _ _)
   | (with_reducible exact LeO.refl _)
   | (with_reducible exact LeO.none _)
   | (with_reducible refine LeO.ite ?_ ?_)
   | (with_reducible refine LeO.bind ?_ (fun _ => ?_))
   | exact ih0 _ _ _ _ _ _ _ _ _
   | exact ih1 _ _ _ _ _ _ _ _ _ _ _
   | exact ih2 _ _ _ _ _ _ _ _
   | exact turnstonelaw03_awake.mono _
   | exact vtime_First.mono _ _ _
   | exact vtime_Last.mono _ _ _
   | exact vtime_Spread.mono _ _
   | exact LeO.none _
   | refine LeO.ite ?_ ?_
   | refine LeO.bind ?_ (fun _ => ?_)
def turnstonelaw03_VtimeShifts.T18 : Bool × List (List Nat × List Nat) := (true, [([], []), ([], []), ([0, 1], [0, 1]), ([2], [2]), ([], []), ([4], [4]), ([5], [5]), ([3, 6], [3, 6]), ([], []), ([], []), ([8, 9], [8, 9]), ([10], [10]), ([], []), ([12], [12]), ([13], [13]), ([11, 14, 7], [11, 14]), ([7, 15], [7, 15]), ([16, 15], [16]), ([17], [17]), ([17], [17]), ([18, 19, 17], [17, 18, 19]), ([20, 17], [17, 20]), ([17], [17]), ([17], [17]), ([22, 23, 17], [17, 22, 23]), ([24, 17], [17, 24]), ([21, 25, 17], [17, 21, 25]), ([17], [17]), ([26, 27, 17], [17, 26, 27]), ([17, 28], [17, 28])])
def turnstonelaw03_VtimeShifts.B18 : List Nat := [0, 0, 3, 7, 0, 16, 48, 127, 0, 0, 768, 1792, 0, 4096, 12288, 32767, 65535, 131071, 262143, 262143, 1048575, 2097151, 262143, 262143, 12845055, 29622271, 67108863, 262143, 268435455, 536870911]
theorem turnstonelaw03_VtimeShifts.tab18 : rtab .any (opsOf Try.f5 18) = turnstonelaw03_VtimeShifts.T18 := by kernel_rfl
theorem turnstonelaw03_VtimeShifts.bits18 : waitsOk turnstonelaw03_VtimeShifts.T18.2 turnstonelaw03_VtimeShifts.B18 = true := by kernel_rfl
def turnstonelaw03_VtimeShifts.T21 : Bool × List (List Nat × List Nat) := (true, [([], []), ([0], [0]), ([1], [1]), ([], []), ([2, 3], [2, 3]), ([], []), ([5], [5]), ([6], [6]), ([], []), ([7, 8, 4], [7, 8]), ([4, 9, 0, 1, 2, 3, 4], [4]), ([9, 10, 0, 1, 2, 3, 4, 5, 6, 7, 8, 9, 10], [9])])
def turnstonelaw03_VtimeShifts.B21 : List Nat := [0, 1, 3, 0, 15, 0, 32, 96, 0, 511, 1023, 2047]
theorem turnstonelaw03_VtimeShifts.tab21 : rtab .any (opsOf Try.f5 21) = turnstonelaw03_VtimeShifts.T21 := by kernel_rfl
theorem turnstonelaw03_VtimeShifts.bits21 : waitsOk turnstonelaw03_VtimeShifts.T21.2 turnstonelaw03_VtimeShifts.B21 = true := by kernel_rfl
set_option maxHeartbeats 8000000 in
set_option maxRecDepth 100000 in
theorem turnstonelaw03_VtimeShifts.calls (k : Nat) (a0 : Int) (a1 : Int) (A2 : Option Addr) (c2 : Nat) (l2 : List Int) (r : Bool) (w : World) (hr2 : Kd.C (Kd.int .i64) w A2 l2.length l2) (hc2 : l2.length ≤ c2) (h : turnstonelaw03_VtimeShifts.f k a0 a1 l2 = some r) :
  Calls Try.prog 5 #[.int .u64 a0, .int .u64 a1, .slice A2 l2.length c2] w fun e w' => e = .returned (.bool r) ∧ Below w.heap.size w w' := by
 have HR2 := Aside0.mk hr2
 have HC2 := Aside0.mk hc2
 clear hr2 hc2
 have HB := Aside0.mk (Below.refl w.heap.size w)
 have H : ((turnstonelaw03_awake.f k).bind fun t182 => (if t182 = true then (if (l2.length : Int) > 100 then (some true) else (turnstonelaw03_VtimeShifts.l0 k a0 a1 (([a0] : List Int)) (([IntKind.u64.wrap (a0 + a1)] : List Int)) 0 0 l2 (l2.length : Int) 0)) else (none))) = some r := h
 clear h
 replace H := Option.bind_eq_some_iff.mp H
 obtain ⟨t182, A40, H⟩ := H
 replace H : (if t182 = true then (if (l2.length : Int) > 100 then (some true) else (turnstonelaw03_VtimeShifts.l0 k a0 a1 (([a0] : List Int)) (([IntKind.u64.wrap (a0 + a1)] : List Int)) 0 0 l2 (l2.length : Int) 0)) else (none)) = some r := H
 have A4 := Aside0.mk A40
 clear A40
 by_cases c5 : t182 = true
 ·subst c5
  have H1 : (if (l2.length : Int) > 100 then (some true) else (turnstonelaw03_VtimeShifts.l0 k a0 a1 (([a0] : List Int)) (([IntKind.u64.wrap (a0 + a1)] : List Int)) 0 0 l2 (l2.length : Int) 0)) = some r := by rw [if_pos rfl] at H; exact H
  clear H
  have H := H1
  clear H1
  by_cases c6 : (l2.length : Int) > 100
  ·rw [if_pos c6] at H
   have c6b0 : decide (100 < (l2.length : Int)) = true := decide_eq_true c6
   have c6b1 : decide (100 < l2.length) = true := decide_eq_true (by omega)
   clear c6
   obtain rfl := Option.some.inj H
   go_enter Try.func5, Try.ntmps5
   go_wp2_with (first | ((with_reducible refine gate_callee (f := 17) rfl ?_); refine goesL_ (some 16) rfl rfl Try.func17 (by kernel_rfl) rfl #[] rfl (by (try simp only [List.map_toArray, List.map_cons, List.map_nil]); first | done | rfl | (simp only [List.length_drop, List.length_take]; rfl)) ?_; (with_reducible refine (turnstonelaw03_awake.calls k  true _ A4.out).mono ?_); rintro e w7 ⟨rfl, hb⟩; refine ⟨_, rfl, ?_⟩; have n0_ := Aside0.mk (below_step (by repeat (first | (with_reducible first | exact HB.out | apply below_alloc | apply pw_below_drewN | apply below_drew1) | exact HB.out)) hb); clear HB; have HB := n0_; clear n0_; (try clear hb); (try clear hb2); (try clear hk); (try clear hi)))
   go_ret
   exact ⟨by first | rfl | (simp [errW_none, errW_some] <;> rfl) | (simp [*, errW_none, errW_some] <;> rfl), by repeat (first | (with_reducible first | exact HB.out | apply below_alloc | apply pw_below_drewN | apply below_drew1) | exact HB.out)⟩
  ·rw [if_neg c6] at H
   have c6b0 : decide (100 < (l2.length : Int)) = false := decide_eq_false c6
   have c6b1 : decide (100 < l2.length) = false := decide_eq_false (by omega)
   clear c6
   obtain ⟨y183, hy183⟩ : ∃ y_ : List Int, y_ = (([a0] : List Int)) := ⟨_, rfl⟩
   replace H : (turnstonelaw03_VtimeShifts.l0 k a0 a1 y183 (([IntKind.u64.wrap (a0 + a1)] : List Int)) 0 0 l2 (l2.length : Int) 0) = some r := by first | (rw [hy183]; with_reducible exact H) | (have H2_ := (Option.bind_some _ _).symm.trans H; rw [hy183]; with_reducible exact H2_) | (have H2_ := (Option.bind_some _ _).symm.trans H; with_reducible exact H2_) | with_reducible exact H | (rw [hy183]; exact H) | exact H
   have Ny183 := Aside0.mk hy183
   clear hy183
   obtain ⟨y186, hy186⟩ : ∃ y_ : List Int, y_ = (([IntKind.u64.wrap (a0 + a1)] : List Int)) := ⟨_, rfl⟩
   replace H : (turnstonelaw03_VtimeShifts.l0 k a0 a1 y183 y186 0 0 l2 (l2.length : Int) 0) = some r := by first | (rw [hy186]; with_reducible exact H) | (have H2_ := (Option.bind_some _ _).symm.trans H; rw [hy186]; with_reducible exact H2_) | (have H2_ := (Option.bind_some _ _).symm.trans H; with_reducible exact H2_) | with_reducible exact H | (rw [hy186]; exact H) | exact H
   have Ny186 := Aside0.mk hy186
   clear hy186
   have H' := Aside0.mk H
   clear H
   go_enter Try.func5, Try.ntmps5
   go_wp2_with (first | ((with_reducible refine gate_callee (f := 17) rfl ?_); refine goesL_ (some 16) rfl rfl Try.func17 (by kernel_rfl) rfl #[] rfl (by (try simp only [List.map_toArray, List.map_cons, List.map_nil]); first | done | rfl | (simp only [List.length_drop, List.length_take]; rfl)) ?_; (with_reducible refine (turnstonelaw03_awake.calls k  true _ A4.out).mono ?_); rintro e w8 ⟨rfl, hb⟩; refine ⟨_, rfl, ?_⟩; have n0_ := Aside0.mk (below_step (by repeat (first | (with_reducible first | exact HB.out | apply below_alloc | apply pw_below_drewN | apply below_drew1) | exact HB.out)) hb); clear HB; have HB := n0_; clear n0_; (try clear hb); (try clear hb2); (try clear hk); (try clear hi)) | ((with_reducible refine gate_dst (N := 22) rfl ?_); refine Kd.R_lit (Kd.int .u64) _ 24 ?hg (N := 22) ?hd (xs := ([a0] : List Int)) (inner := [.int .u64 a0]) (ok := fun _ => True) (okp := fun _ => True) ?hr ?hp (fun _ hk => hk) trivial (Below.refl _ _) (Nat.le_refl _) (by simp) ?_; (case hd => rfl); (case hg => rfl); (case hr => first | (go_simp; done) | (go_simp; rfl)); (case hp => exact (Reps.one (show Kd.M (Kd.int .u64) _ _ _ a0 [.int .u64 a0] from rfl) (Reps.none _ _))); intro v184 w9 ho10 hb hg_ hnew_; clear hg_ hnew_; (first | rw [← Ny183.out] at ho10 | (simp only [Int.reduceToNat] at ho10; rw [← Ny183.out] at ho10)); have n0_ := Aside0.mk (Kd.R_lower ho10 (below_size (by repeat (first | (with_reducible first | exact HB.out | apply below_alloc | apply pw_below_drewN | apply below_drew1) | exact HB.out)))); have n1_ := Aside0.mk (below_step (by repeat (first | (with_reducible first | exact HB.out | apply below_alloc | apply pw_below_drewN | apply below_drew1) | exact HB.out)) hb); clear HB; have HO185 := n0_; have HB := n1_; clear n0_ n1_; clear hb ho10) | ((with_reducible refine gate_dst (N := 26) rfl ?_); refine Kd.R_lit (Kd.int .u64) _ 24 ?hg (N := 26) ?hd (xs := ([IntKind.u64.wrap (a0 + a1)] : List Int)) (inner := [.int .u64 (IntKind.u64.wrap (a0 + a1))]) (ok := fun _ => True) (okp := fun _ => True) ?hr ?hp (fun _ hk => hk) trivial (Below.refl _ _) (Nat.le_refl _) (by simp) ?_; (case hd => rfl); (case hg => rfl); (case hr => first | (go_simp; done) | (go_simp; rfl)); (case hp => exact (Reps.one (show Kd.M (Kd.int .u64) _ _ _ (IntKind.u64.wrap (a0 + a1)) [.int .u64 (IntKind.u64.wrap (a0 + a1))] from rfl) (Reps.none _ _))); intro v187 w11 ho12 hb hg_ hnew_; clear hg_ hnew_; (first | rw [← Ny186.out] at ho12 | (simp only [Int.reduceToNat] at ho12; rw [← Ny186.out] at ho12)); have n0_ := Aside0.mk (Kd.R_elder' (by (with_reducible repeat (first | apply Kd.R_alloc | apply Kd.R_drewN | apply Kd.R_drew)); exact HO185.out) (Kd.R_base ho12) hb); have n1_ := Aside0.mk (Kd.R_lower (Kd.R_new' ho12 (Kd.R_lt (by (with_reducible repeat (first | apply Kd.R_alloc | apply Kd.R_drewN | apply Kd.R_drew)); exact HO185.out))) (below_size (by repeat (first | (with_reducible first | exact HB.out | apply below_alloc | apply pw_below_drewN | apply below_drew1) | exact HB.out)))); have n2_ := Aside0.mk (below_step (by repeat (first | (with_reducible first | exact HB.out | apply below_alloc | apply pw_below_drewN | apply below_drew1) | exact HB.out)) hb); clear HO185; clear HB; have HO185 := n0_; have HO188 := n1_; have HB := n2_; clear n0_ n1_ n2_; clear hb ho12))
   (try simp only [Act.put, List.setIfInBounds_toArray, List.set_cons_zero, List.set_cons_succ])
   go_loopg [7, 8, 9, 10, 29] k (fun kq v7 v8 v9 v10 v29 w' => ∃ (x7_1 : List Int) (x8_1 : List Int) (x9_1 : Int) (x10_1 : Int) (x29_1 : Int), v9 = .int .i64 x9_1 ∧ v10 = .int .i64 x10_1 ∧ v29 = .int .i64 x29_1 ∧ Aside0 (turnstonelaw03_VtimeShifts.l0 kq a0 a1 x7_1 x8_1 x9_1 x10_1 l2 (l2.length : Int) x29_1 = some r) ∧ Aside0 (kq ≤ k) ∧ Aside0 (Kd.R (Kd.int .u64) 24 w' w.heap.size (fun k_ => some k_ ≠ (v8 : Value).ownBlock) v7 x7_1) ∧ Aside0 (Kd.R (Kd.int .u64) 24 w' w.heap.size (fun k_ => some k_ ≠ (v7 : Value).ownBlock) v8 x8_1) ∧ Aside0 (Below w.heap.size w w'))
   case atStart => exact ⟨(y183), (y186), (0), (0), (0), (by first | rfl | (simp; done) | (simp [*]; done)), (by first | rfl | (simp; done) | (simp [*]; done)), (by first | rfl | (simp; done) | (simp [*]; done)), H', ⟨Nat.le_refl _⟩, ⟨by (with_reducible repeat (first | apply Kd.R_alloc | apply Kd.R_drewN | apply Kd.R_drew)); exact Kd.R_mono HO185.out (fun _ hk => hk.2)⟩, ⟨by (with_reducible repeat (first | apply Kd.R_alloc | apply Kd.R_drewN | apply Kd.R_drew)); exact Kd.R_mono HO188.out (fun _ hk => hk.2)⟩, ⟨by repeat (first | (with_reducible first | exact HB.out | apply below_alloc | apply pw_below_drewN | apply below_drew1) | exact HB.out)⟩⟩
   case round =>
    clear H'
    try clear c1
    try clear c2
    try clear p2
    try clear c5
    try clear c6
    try clear c6b0
    try clear c6b1
    obtain ⟨x7_1, x8_1, x9_1, x10_1, x29_1, rfl, rfl, rfl, HA, HK1, HO_7, HO_8, HB⟩ := hrel
    cases gk with
    | zero => exact absurd HA.out (by simp [turnstonelaw03_VtimeShifts.l0])
    | succ k1 =>
     have H := HA.out
     clear HA
     simp only [turnstonelaw03_VtimeShifts.l0] at H
     by_cases c13 : x29_1 < (l2.length : Int)
     ·rw [if_pos c13] at H
      have c13b0 : decide (x29_1 < (l2.length : Int)) = true := decide_eq_true c13
      clear c13
      by_cases c14 : 0 ≤ x29_1
      ·rw [if_pos c14] at H
       have c14b0 : decide (0 ≤ x29_1) = true := decide_eq_true c14
       clear c14
       by_cases c15 : x29_1 < (l2.length : Int)
       ·rw [if_pos c15] at H
        have c15b0 : decide (x29_1 < (l2.length : Int)) = true := decide_eq_true c15
        clear c15
        have HC16 := Aside0.mk H
        clear H
        have p189 : 0 ≤ (x29_1 : Int) := of_decide_eq_true (by first | (with_reducible assumption) | assumption)
        have q189 : x29_1 < (l2.length : Int) := of_decide_eq_true (by first | (with_reducible assumption) | assumption)
        obtain ⟨ad189, e189, hx189_0⟩ := Kd.at_int HR2.out x29_1 p189 q189
        cases e189
        replace hx189_0 := (HB.out.cell (World.block_lt_of_cell? w _ hx189_0)).trans hx189_0
        replace p189 := eq_true p189
        replace q189 := eq_true q189
        go_upto_region 10 with (fail)
        go_cut [38] (fun v38 wc => ∃ (kq : Nat) (x38_15 : Bool), v38 = .bool x38_15 ∧ Aside0 (turnstonelaw03_VtimeShifts.j1 kq a0 a1 x7_1 x8_1 x9_1 x10_1 (rd l2 x29_1) l2 (l2.length : Int) x29_1 x38_15 = some r) ∧ Aside0 (kq ≤ k1) ∧ Aside0 (Kd.R (Kd.int .u64) 24 wc w.heap.size (fun k_ => some k_ ≠ (u8 : Value).ownBlock) u7 x7_1) ∧ Aside0 (Kd.R (Kd.int .u64) 24 wc w.heap.size (fun k_ => some k_ ≠ (u7 : Value).ownBlock) u8 x8_1) ∧ Aside0 (Below w.heap.size w wc))
        case first =>
         have H := HC16.out
         clear HC16
         by_cases c17 : (rd l2 x29_1) ≤ (-4611686018427387904)
         ·rw [if_pos c17] at H
          have c17b0 : decide ((rd l2 x29_1) ≤ (-4611686018427387904)) = true := decide_eq_true c17
          clear c17
          (first | rw [c17b0] | (simp only [i64_w, i32_w]; rw [c17b0]) | skip)
          have H' := Aside0.mk H
          clear H
          go_wp2
          go_meet
          case rel => exact ⟨_, (true), (by first | rfl | (simp; done) | (simp [*]; done)), H', ⟨by have := HK1.out; first | omega | exact Nat.le_refl _⟩, ⟨by (with_reducible repeat (first | apply Kd.R_alloc | apply Kd.R_drewN | apply Kd.R_drew)); exact HO_7.out⟩, ⟨by (with_reducible repeat (first | apply Kd.R_alloc | apply Kd.R_drewN | apply Kd.R_drew)); exact HO_8.out⟩, ⟨by repeat (first | (with_reducible first | exact HB.out | apply below_alloc | apply pw_below_drewN | apply below_drew1) | exact HB.out)⟩⟩
         ·rw [if_neg c17] at H
          have c17b0 : decide ((rd l2 x29_1) ≤ (-4611686018427387904)) = false := decide_eq_false c17
          clear c17
          (first | rw [c17b0] | (simp only [i64_w, i32_w]; rw [c17b0]) | skip)
          have H' := Aside0.mk H
          clear H
          go_wp2
          go_meet
          case rel => exact ⟨_, (decide ((rd l2 x29_1) ≥ 4611686018427387904)), (by first | rfl | (simp; done) | (simp [*]; done)), H', ⟨by have := HK1.out; first | omega | exact Nat.le_refl _⟩, ⟨by (with_reducible repeat (first | apply Kd.R_alloc | apply Kd.R_drewN | apply Kd.R_drew)); exact HO_7.out⟩, ⟨by (with_reducible repeat (first | apply Kd.R_alloc | apply Kd.R_drewN | apply Kd.R_drew)); exact HO_8.out⟩, ⟨by repeat (first | (with_reducible first | exact HB.out | apply below_alloc | apply pw_below_drewN | apply below_drew1) | exact HB.out)⟩⟩
        case rest =>
         clear HC16
         try clear c1
         try clear p1
         try clear q1
         try clear hx1
         try clear c2
         try clear p2
         try clear c5
         try clear c6
         try clear c6b0
         try clear c6b1
         try clear c13
         try clear c13b0
         try clear c14
         try clear c14b0
         try clear c15
         try clear c15b0
         try clear c17
         try clear c17b0
         try clear hx189_0
         try clear p189
         try clear p2
         try clear q189
         obtain ⟨kq, x38_15, rfl, HA, HJ15, HO_7, HO_8, HB⟩ := hcut
         cases kq with
         | zero => exact absurd HA.out (by simp [turnstonelaw03_VtimeShifts.j1])
         | succ kj15 =>
          have H := HA.out
          clear HA
          simp only [turnstonelaw03_VtimeShifts.j1] at H
          by_cases c18 : x38_15 = true
          ·subst c18
           have H1 : (some true) = some r := by rw [if_pos rfl] at H; exact H
           clear H
           have H := H1
           clear H1
           obtain rfl := Option.some.inj H
           go_wp2
           go_ret
           exact ⟨by first | rfl | (simp [errW_none, errW_some] <;> rfl) | (simp [*, errW_none, errW_some] <;> rfl), by repeat (first | (with_reducible first | exact HB.out | apply below_alloc | apply pw_below_drewN | apply below_drew1) | exact HB.out)⟩
          ·replace c18 := Bool.eq_false_iff.mpr c18
           subst c18
           have H1 : ((vtime_Time_Add.f a0 (rd l2 x29_1)).bind fun t190 => (if x7_1.length < 17592186044416 then ((vtime_Time_Add.f (IntKind.u64.wrap (a0 + a1)) (rd l2 x29_1)).bind fun t194 => (if x8_1.length < 17592186044416 then (turnstonelaw03_VtimeShifts.l0 kj15 a0 a1 (x7_1 ++ [t190]) (x8_1 ++ [t194]) (mn x9_1 (rd l2 x29_1)) (mx x10_1 (rd l2 x29_1)) l2 (l2.length : Int) (wrap64 (x29_1 + 1))) else (none))) else (none))) = some r := by rw [if_neg (show ¬ (false = true) by decide)] at H; exact H
           clear H
           have H := H1
           clear H1
           replace H := Option.bind_eq_some_iff.mp H
           obtain ⟨t190, A190, H⟩ := H
           replace H : (if x7_1.length < 17592186044416 then ((vtime_Time_Add.f (IntKind.u64.wrap (a0 + a1)) (rd l2 x29_1)).bind fun t194 => (if x8_1.length < 17592186044416 then (turnstonelaw03_VtimeShifts.l0 kj15 a0 a1 (x7_1 ++ [t190]) (x8_1 ++ [t194]) (mn x9_1 (rd l2 x29_1)) (mx x10_1 (rd l2 x29_1)) l2 (l2.length : Int) (wrap64 (x29_1 + 1))) else (none))) else (none)) = some r := H
           have A19 := Aside0.mk A190
           clear A190
           by_cases c20 : x7_1.length < 17592186044416
           ·rw [if_pos c20] at H
            have LMc20 := Aside0.mk c20
            clear c20
            obtain ⟨y191, hy191⟩ : ∃ y_ : List Int, y_ = (x7_1 ++ [t190]) := ⟨_, rfl⟩
            replace H : ((vtime_Time_Add.f (IntKind.u64.wrap (a0 + a1)) (rd l2 x29_1)).bind fun t194 => (if x8_1.length < 17592186044416 then (turnstonelaw03_VtimeShifts.l0 kj15 a0 a1 y191 (x8_1 ++ [t194]) (mn x9_1 (rd l2 x29_1)) (mx x10_1 (rd l2 x29_1)) l2 (l2.length : Int) (wrap64 (x29_1 + 1))) else (none))) = some r := by first | (rw [hy191]; with_reducible exact H) | (have H2_ := (Option.bind_some _ _).symm.trans H; rw [hy191]; with_reducible exact H2_) | (have H2_ := (Option.bind_some _ _).symm.trans H; with_reducible exact H2_) | with_reducible exact H | (rw [hy191]; exact H) | exact H
            have Ny191 := Aside0.mk hy191
            clear hy191
            replace H := Option.bind_eq_some_iff.mp H
            obtain ⟨t194, A210, H⟩ := H
            replace H : (if x8_1.length < 17592186044416 then (turnstonelaw03_VtimeShifts.l0 kj15 a0 a1 y191 (x8_1 ++ [t194]) (mn x9_1 (rd l2 x29_1)) (mx x10_1 (rd l2 x29_1)) l2 (l2.length : Int) (wrap64 (x29_1 + 1))) else (none)) = some r := H
            have A21 := Aside0.mk A210
            clear A210
            by_cases c22 : x8_1.length < 17592186044416
            ·rw [if_pos c22] at H
             have LMc22 := Aside0.mk c22
             clear c22
             obtain ⟨y195, hy195⟩ : ∃ y_ : List Int, y_ = (x8_1 ++ [t194]) := ⟨_, rfl⟩
             replace H : (turnstonelaw03_VtimeShifts.l0 kj15 a0 a1 y191 y195 (mn x9_1 (rd l2 x29_1)) (mx x10_1 (rd l2 x29_1)) l2 (l2.length : Int) (wrap64 (x29_1 + 1))) = some r := by first | (rw [hy195]; with_reducible exact H) | (have H2_ := (Option.bind_some _ _).symm.trans H; rw [hy195]; with_reducible exact H2_) | (have H2_ := (Option.bind_some _ _).symm.trans H; with_reducible exact H2_) | with_reducible exact H | (rw [hy195]; exact H) | exact H
             have Ny195 := Aside0.mk hy195
             clear hy195
             obtain ⟨ji23, hji23⟩ : ∃ j_ : Int, (mn x9_1 (rd l2 x29_1)) = j_ := ⟨_, rfl⟩
             replace H : (turnstonelaw03_VtimeShifts.l0 kj15 a0 a1 y191 y195 ji23 (mx x10_1 (rd l2 x29_1)) l2 (l2.length : Int) (wrap64 (x29_1 + 1))) = some r := by first | (rw [hji23] at H; exact H) | (simp only [hji23] at H ⊢; exact H)
             (try rw [hji23] at A19)
             (try rw [hji23] at A21)
             have hji23_ : (if (rd l2 x29_1) < x9_1 then (rd l2 x29_1) else x9_1) = ji23 := hji23
             obtain ⟨ji24, hji24⟩ : ∃ j_ : Int, (mx x10_1 (rd l2 x29_1)) = j_ := ⟨_, rfl⟩
             replace H : (turnstonelaw03_VtimeShifts.l0 kj15 a0 a1 y191 y195 ji23 ji24 l2 (l2.length : Int) (wrap64 (x29_1 + 1))) = some r := by first | (rw [hji24] at H; exact H) | (simp only [hji24] at H ⊢; exact H)
             (try rw [hji24] at A19)
             (try rw [hji24] at A21)
             have hji24_ : (if x10_1 < (rd l2 x29_1) then (rd l2 x29_1) else x10_1) = ji24 := hji24
             have H' := Aside0.mk H
             clear H
             go_wp2_with (first | ((with_reducible refine gate_callee (f := 25) rfl ?_); refine goesL_ (some 42) rfl rfl Try.func25 (by kernel_rfl) rfl #[.int .u64 a0, .int .i64 (rd l2 x29_1)] rfl (by (try simp only [List.map_toArray, List.map_cons, List.map_nil]); first | done | rfl | (simp only [List.length_drop, List.length_take]; rfl)) ?_; (with_reducible refine (vtime_Time_Add.calls a0 (rd l2 x29_1) t190 _ A19.out).mono ?_); rintro e w' ⟨rfl, ⟨nd, rfl⟩⟩; refine ⟨_, rfl, ?_⟩) | ((with_reducible refine gate_builtin (b := .append) (xs := #[.tmp 39, .tmp 43]) rfl ?_); at_builtin; refine Kd.R_append (Kd.int .u64) (w0 := w) w.heap.size rfl (.tmp 39) (.tmp 43) 41 24 (.int .u64 0) 8 rfl Try.underlying41 info24 rfl (by decide) (by omega) u7 x7_1 t190 [.int .u64 t190] (fun k_ => some k_ ≠ (u8 : Value).ownBlock) (fun _ => False) rfl rfl ?aP (fun _ hk => hk.elim) ?aF ?aO ?aB ?aS ?aL ?_; (case aP => exact rfl); (case aB => exact (by repeat (first | (with_reducible first | exact HB.out | apply below_alloc | apply pw_below_drewN | apply below_drew1) | exact HB.out))); (case aF => exact (fun k_ hk => Kd.fresh' (Kd.R_lt (by (with_reducible repeat (first | apply Kd.R_alloc | apply Kd.R_drewN | apply Kd.R_drew)); exact HO_8.out)) k_ hk)); (case aO => exact (by (with_reducible repeat (first | apply Kd.R_alloc | apply Kd.R_drewN | apply Kd.R_drew)); exact HO_7.out)); (case aS => exact (below_size (by repeat (first | (with_reducible first | exact HB.out | apply below_alloc | apply pw_below_drewN | apply below_drew1) | exact HB.out)))); (case aL => have := LMc20.out; omega); intro v192 w25 ho hb hg hat; rw [← Ny191.out] at ho; have n0_ := Aside0.mk (Kd.R_after (ok := (fun _ => True)) (by (with_reducible repeat (first | apply Kd.R_alloc | apply Kd.R_drewN | apply Kd.R_drew)); exact Kd.R_mono HO_8.out (fun _ hk => ⟨trivial, hk⟩)) hg hat); have n1_ := Aside0.mk (hb); have n2_ := Aside0.mk (ho); clear HO_8; clear HB; clear HO_7; have HO_8 := n0_; have HB := n1_; have HO193 := n2_; clear n0_ n1_ n2_; clear ho hb hg hat) | ((with_reducible refine gate_callee (f := 25) rfl ?_); refine goesL_ (some 50) rfl rfl Try.func25 (by kernel_rfl) rfl #[.int .u64 (IntKind.u64.wrap (a0 + a1)), .int .i64 (rd l2 x29_1)] rfl (by (try simp only [List.map_toArray, List.map_cons, List.map_nil]); first | done | rfl | (simp only [List.length_drop, List.length_take]; rfl)) ?_; (with_reducible refine (vtime_Time_Add.calls (IntKind.u64.wrap (a0 + a1)) (rd l2 x29_1) t194 _ A21.out).mono ?_); rintro e w' ⟨rfl, ⟨nd, rfl⟩⟩; refine ⟨_, rfl, ?_⟩) | ((with_reducible refine gate_builtin (b := .append) (xs := #[.tmp 45, .tmp 51]) rfl ?_); at_builtin; refine Kd.R_append (Kd.int .u64) (w0 := w) w.heap.size rfl (.tmp 45) (.tmp 51) 41 24 (.int .u64 0) 8 rfl Try.underlying41 info24 rfl (by decide) (by omega) u8 x8_1 t194 [.int .u64 t194] (fun k_ => some k_ ≠ (v192 : Value).ownBlock) (fun _ => False) rfl rfl ?aP (fun _ hk => hk.elim) ?aF ?aO ?aB ?aS ?aL ?_; (case aP => exact rfl); (case aB => exact (by repeat (first | (with_reducible first | exact HB.out | apply below_alloc | apply pw_below_drewN | apply below_drew1) | exact HB.out))); (case aF => exact (fun k_ hk => Kd.fresh' (Kd.R_lt (by (with_reducible repeat (first | apply Kd.R_alloc | apply Kd.R_drewN | apply Kd.R_drew)); exact HO193.out)) k_ hk)); (case aO => exact (by (with_reducible repeat (first | apply Kd.R_alloc | apply Kd.R_drewN | apply Kd.R_drew)); exact Kd.R_mono HO_8.out (fun _ hk => hk.2))); (case aS => exact (below_size (by repeat (first | (with_reducible first | exact HB.out | apply below_alloc | apply pw_below_drewN | apply below_drew1) | exact HB.out)))); (case aL => have := LMc22.out; omega); intro v196 w26 ho hb hg hat; rw [← Ny195.out] at ho; have n0_ := Aside0.mk (Kd.R_after (ok := (fun _ => True)) (by (with_reducible repeat (first | apply Kd.R_alloc | apply Kd.R_drewN | apply Kd.R_drew)); exact Kd.R_mono HO193.out (fun _ hk => ⟨trivial, hk⟩)) hg hat); have n1_ := Aside0.mk (hb); have n2_ := Aside0.mk (ho); clear HO193; clear HB; clear HO_8; have HO193 := n0_; have HB := n1_; have HO197 := n2_; clear n0_ n1_ n2_; clear ho hb hg hat))
             go_roundg kj15
             case measure => have := HK1.out; have := HJ15.out; omega
             case rel => exact ⟨(y191), (y195), (ji23), (ji24), (wrap64 (x29_1 + 1)), (by first | rfl | (simp; done) | (simp only [← hji23] <;> (first | rfl | simp)) | (simp [*]; done)), (by first | rfl | (simp; done) | (simp only [← hji24] <;> (first | rfl | simp)) | (simp [*]; done)), (by first | rfl | (simp; done) | (simp [*]; done)), H', ⟨by have := HK1.out; have := HJ15.out; omega⟩, ⟨by (with_reducible repeat (first | apply Kd.R_alloc | apply Kd.R_drewN | apply Kd.R_drew)); exact Kd.R_mono HO193.out (fun _ hk => hk.2)⟩, ⟨by (with_reducible repeat (first | apply Kd.R_alloc | apply Kd.R_drewN | apply Kd.R_drew)); exact HO197.out⟩, ⟨by repeat (first | (with_reducible first | exact HB.out | apply below_alloc | apply pw_below_drewN | apply below_drew1) | exact HB.out)⟩⟩
            ·rw [if_neg c22] at H
             exact absurd H (by simp)
           ·rw [if_neg c20] at H
            exact absurd H (by simp)
       ·rw [if_neg c15] at H
        exact absurd H (by simp)
      ·rw [if_neg c14] at H
       exact absurd H (by simp)
     ·rw [if_neg c13] at H
      have c13b0 : decide (x29_1 < (l2.length : Int)) = false := decide_eq_false c13
      clear c13
      have H' := Aside0.mk H
      clear H
      obtain ⟨Ao27, co27, eo27⟩ := Kd.R_slice HO_7.out
      subst eo27
      go_wp2
      (try simp only [Act.put, List.setIfInBounds_toArray, List.set_cons_zero, List.set_cons_succ])
      go_loopg [62] k1 (fun kq v62 w' => ∃ (x62_2 : Int), v62 = .int .i64 x62_2 ∧ Aside0 (turnstonelaw03_VtimeShifts.l1 kq a0 a1 x7_1 x8_1 x9_1 x10_1 (x7_1.length : Int) x62_2 = some r) ∧ Aside0 (kq ≤ k1) ∧ Aside0 (Kd.R (Kd.int .u64) 24 w' w.heap.size (fun k_ => some k_ ≠ (u8 : Value).ownBlock) (.slice Ao27 x7_1.length co27) x7_1) ∧ Aside0 (Kd.R (Kd.int .u64) 24 w' w.heap.size (fun k_ => some k_ ≠ ((.slice Ao27 x7_1.length co27) : Value).ownBlock) u8 x8_1) ∧ Aside0 (Below w.heap.size w w'))
      case atStart => exact ⟨(0), (by first | rfl | (simp; done) | (simp [*]; done)), H', ⟨Nat.le_refl _⟩, ⟨by (with_reducible repeat (first | apply Kd.R_alloc | apply Kd.R_drewN | apply Kd.R_drew)); exact HO_7.out⟩, ⟨by (with_reducible repeat (first | apply Kd.R_alloc | apply Kd.R_drewN | apply Kd.R_drew)); exact HO_8.out⟩, ⟨by repeat (first | (with_reducible first | exact HB.out | apply below_alloc | apply pw_below_drewN | apply below_drew1) | exact HB.out)⟩⟩
      case round =>
       clear H'
       try clear c1
       try clear p1
       try clear q1
       try clear hx1
       try clear c2
       try clear p2
       try clear c5
       try clear c6
       try clear c6b0
       try clear c6b1
       try clear p6
       try clear c13
       try clear c13b0
       try clear c14
       try clear c14b0
       try clear c15
       try clear c15b0
       try clear c17
       try clear c17b0
       try clear c18
       try clear p18
       try clear q18
       try clear hx18
       try clear c20
       try clear c22
       try clear c25
       try clear hx189_0
       try clear p1
       try clear p189
       try clear p2
       try clear q1
       try clear q189
       obtain ⟨x62_2, rfl, HA, HK2, HO_7, HO_8, HB⟩ := hrel
       cases gk with
       | zero => exact absurd HA.out (by simp [turnstonelaw03_VtimeShifts.l1])
       | succ k2 =>
        have H := HA.out
        clear HA
        simp only [turnstonelaw03_VtimeShifts.l1] at H
        by_cases c28 : x62_2 < (x7_1.length : Int)
        ·rw [if_pos c28] at H
         have c28b0 : decide (x62_2 < (x7_1.length : Int)) = true := decide_eq_true c28
         clear c28
         by_cases c29 : 0 ≤ x62_2
         ·rw [if_pos c29] at H
          have c29b0 : decide (0 ≤ x62_2) = true := decide_eq_true c29
          clear c29
          by_cases c30 : x62_2 < (x7_1.length : Int)
          ·rw [if_pos c30] at H
           have c30b0 : decide (x62_2 < (x7_1.length : Int)) = true := decide_eq_true c30
           clear c30
           by_cases c31 : 0 < (x7_1.length : Int)
           ·rw [if_pos c31] at H
            have c31b0 : decide (0 < (x7_1.length : Int)) = true := decide_eq_true c31
            have c31b1 : decide (0 < x7_1.length) = true := decide_eq_true (by omega)
            clear c31
            replace H := Option.bind_eq_some_iff.mp H
            obtain ⟨t200, A320, H⟩ := H
            replace H : (if x62_2 < (x8_1.length : Int) then (if 0 < (x8_1.length : Int) then ((vtime_Time_Since.f (rd x8_1 x62_2) (rd x8_1 0)).bind fun t203 => (if t200 = t203 then (if (IntKind.u64.wrap ((rd x8_1 x62_2) - (rd x7_1 x62_2))) = a1 then (turnstonelaw03_VtimeShifts.l1 k2 a0 a1 x7_1 x8_1 x9_1 x10_1 (x7_1.length : Int) (wrap64 (x62_2 + 1))) else (none)) else (none))) else (none)) else (none)) = some r := H
            have A32 := Aside0.mk A320
            clear A320
            by_cases c33 : x62_2 < (x8_1.length : Int)
            ·rw [if_pos c33] at H
             have c33b0 : decide (x62_2 < (x8_1.length : Int)) = true := decide_eq_true c33
             clear c33
             by_cases c34 : 0 < (x8_1.length : Int)
             ·rw [if_pos c34] at H
              have c34b0 : decide (0 < (x8_1.length : Int)) = true := decide_eq_true c34
              have c34b1 : decide (0 < x8_1.length) = true := decide_eq_true (by omega)
              clear c34
              replace H := Option.bind_eq_some_iff.mp H
              obtain ⟨t203, A350, H⟩ := H
              replace H : (if t200 = t203 then (if (IntKind.u64.wrap ((rd x8_1 x62_2) - (rd x7_1 x62_2))) = a1 then (turnstonelaw03_VtimeShifts.l1 k2 a0 a1 x7_1 x8_1 x9_1 x10_1 (x7_1.length : Int) (wrap64 (x62_2 + 1))) else (none)) else (none)) = some r := H
              have A35 := Aside0.mk A350
              clear A350
              by_cases c36 : t200 = t203
              ·rw [if_pos c36] at H
               have c36b0 : (t200 == t203) = true := beq_iff_eq.mpr c36
               have c36b1 : (t200 != t203) = false := bne_eq_false_iff_eq.mpr c36
               clear c36
               by_cases c37 : (IntKind.u64.wrap ((rd x8_1 x62_2) - (rd x7_1 x62_2))) = a1
               ·rw [if_pos c37] at H
                have c37b0 : ((IntKind.u64.wrap ((rd x8_1 x62_2) - (rd x7_1 x62_2))) == a1) = true := beq_iff_eq.mpr c37
                have c37b1 : ((IntKind.u64.wrap ((rd x8_1 x62_2) - (rd x7_1 x62_2))) != a1) = false := bne_eq_false_iff_eq.mpr c37
                clear c37
                have H' := Aside0.mk H
                clear H
                try go_wp2
                have n0_ := Aside0.mk (Kd.R_drew HO_7.out)
                have n1_ := Aside0.mk (Kd.R_drew HO_8.out)
                have n2_ := Aside0.mk (below_drew1 HB.out)
                clear HO_7
                clear HO_8
                clear HB
                have HO_7 := n0_
                have HO_8 := n1_
                have HB := n2_
                clear n0_ n1_ n2_
                have p198 : 0 ≤ (x62_2 : Int) := of_decide_eq_true (by first | (with_reducible assumption) | assumption)
                have q198 : x62_2 < (x7_1.length : Int) := of_decide_eq_true (by first | (with_reducible assumption) | assumption)
                obtain ⟨ad198, e198, hx198_0⟩ := Kd.at_int (Kd.R_reads' HO_7.out).2.2 x62_2 p198 q198
                cases e198
                replace p198 := eq_true p198
                replace q198 := eq_true q198
                have p199 : 0 ≤ (0 : Int) := (by omega)
                have q199 : 0 < (x7_1.length : Int) := of_decide_eq_true (by first | (with_reducible assumption) | assumption)
                obtain ⟨ad199, e199, hx199_0⟩ := Kd.at_int (Kd.R_reads' HO_7.out).2.2 0 p199 q199
                obtain rfl : ad198 = ad199 := (by injection e199)
                have qi199 : (0 < x7_1.length) = True := eq_true (by omega)
                (try rw [show ((0 : Int)).toNat = 0 from rfl] at hx199_0)
                (try rw [Addr.add_zero'] at hx199_0)
                replace p199 := eq_true p199
                replace q199 := eq_true q199
                obtain ⟨Ao39, co39, eo39⟩ := Kd.R_slice HO_8.out
                (first | subst eo39 | (injection eo39 with f1_ f2_ f3_; have f4_ := f1_.symm; have f5_ := f3_.symm; clear f1_ f2_ f3_; subst f4_; subst f5_))
                have p201 : 0 ≤ (x62_2 : Int) := of_decide_eq_true (by first | (with_reducible assumption) | assumption)
                have q201 : x62_2 < (x8_1.length : Int) := of_decide_eq_true (by first | (with_reducible assumption) | assumption)
                obtain ⟨ad201, e201, hx201_0⟩ := Kd.at_int (Kd.R_reads' HO_8.out).2.2 x62_2 p201 q201
                cases e201
                replace p201 := eq_true p201
                replace q201 := eq_true q201
                have p202 : 0 ≤ (0 : Int) := (by omega)
                have q202 : 0 < (x8_1.length : Int) := of_decide_eq_true (by first | (with_reducible assumption) | assumption)
                obtain ⟨ad202, e202, hx202_0⟩ := Kd.at_int (Kd.R_reads' HO_8.out).2.2 0 p202 q202
                obtain rfl : ad201 = ad202 := (by injection e202)
                have qi202 : (0 < x8_1.length) = True := eq_true (by omega)
                (try rw [show ((0 : Int)).toNat = 0 from rfl] at hx202_0)
                (try rw [Addr.add_zero'] at hx202_0)
                replace p202 := eq_true p202
                replace q202 := eq_true q202
                have p204 : 0 ≤ (x62_2 : Int) := of_decide_eq_true (by first | (with_reducible assumption) | assumption)
                have q204 : x62_2 < (x8_1.length : Int) := of_decide_eq_true (by first | (with_reducible assumption) | assumption)
                obtain ⟨ad204, e204, hx204_0⟩ := Kd.at_int (Kd.R_reads' HO_8.out).2.2 x62_2 p204 q204
                obtain rfl : ad201 = ad204 := (by injection e204)
                replace p204 := eq_true p204
                replace q204 := eq_true q204
                have p205 : 0 ≤ (x62_2 : Int) := of_decide_eq_true (by first | (with_reducible assumption) | assumption)
                have q205 : x62_2 < (x7_1.length : Int) := of_decide_eq_true (by first | (with_reducible assumption) | assumption)
                obtain ⟨ad205, e205, hx205_0⟩ := Kd.at_int (Kd.R_reads' HO_7.out).2.2 x62_2 p205 q205
                obtain rfl : ad198 = ad205 := (by injection e205)
                replace p205 := eq_true p205
                replace q205 := eq_true q205
                refine start_ (n := 30) (S := fun w' => w'.cell? (ad198.add (x62_2).toNat) = some (.int .u64 (rd x7_1 x62_2)) ∧ w'.cell? ad198 = some (.int .u64 (rd x7_1 0)) ∧ w'.cell? (ad201.add (x62_2).toNat) = some (.int .u64 (rd x8_1 x62_2)) ∧ w'.cell? ad201 = some (.int .u64 (rd x8_1 0)) ∧ w'.cell? (ad201.add (x62_2).toNat) = some (.int .u64 (rd x8_1 x62_2)) ∧ w'.cell? (ad198.add (x62_2).toNat) = some (.int .u64 (rd x7_1 x62_2))) (ds := []) #[false, false, false, false, false, false, false, false, false, false, false, false, false, false, false, false, false, false, false, false, false, false, false, false, false, false, false, false, false, false] (by kernel_rfl) rfl rfl ⟨hx198_0, hx199_0, hx201_0, hx202_0, hx204_0, hx205_0⟩ (fun hHeld => ?_); refine with_tabW turnstonelaw03_VtimeShifts.tab18 turnstonelaw03_VtimeShifts.bits18 (fun HT_ HW_ => ?_)
                generalize wr.drew = w38 at HO_7 HO_8 HB hx198_0 hx199_0 hx201_0 hx202_0 hx204_0 hx205_0 hHeld ⊢
                refine pure_ (i := 0) (N := some 65) (v := ?_) (a' := ?_) #[true, false, false, false, false, false, false, false, false, false, false, false, false, false, false, false, false, false, false, false, false, false, false, false, false, false, false, false, false, false] rfl rfl (any_of HT_.out (by kernel_rfl)) (fun _ _ _ h => h) (Or.inl ⟨by rfl, ?_⟩) ?_ ?_
                rotate_left
                ·intro w'
                 go_simp
                 with_reducible rfl
                rotate_left
                ·simp only [Act.put, List.setIfInBounds_toArray, List.set_cons_zero, List.set_cons_succ, i64_w, i32_w]
                 rfl
                refine pure_ (i := 1) (N := some 66) (v := ?_) (a' := ?_) #[true, true, false, false, false, false, false, false, false, false, false, false, false, false, false, false, false, false, false, false, false, false, false, false, false, false, false, false, false, false] rfl rfl (any_of HT_.out (by kernel_rfl)) (fun _ _ _ h => h) (Or.inl ⟨by rfl, ?_⟩) ?_ ?_
                rotate_left
                ·intro w'
                 go_simp
                 with_reducible rfl
                rotate_left
                ·simp only [Act.put, List.setIfInBounds_toArray, List.set_cons_zero, List.set_cons_succ, i64_w, i32_w]
                 rfl
                refine pure_ (i := 2) (N := some 67) (v := ?_) (a' := ?_) #[true, true, true, false, false, false, false, false, false, false, false, false, false, false, false, false, false, false, false, false, false, false, false, false, false, false, false, false, false, false] rfl rfl (any_of HT_.out (by kernel_rfl)) (fun _ _ _ h => h) (Or.inl ⟨by rfl, ?_⟩) ?_ ?_
                rotate_left
                ·intro w'
                 go_simp
                 with_reducible rfl
                rotate_left
                ·simp only [Act.put, List.setIfInBounds_toArray, List.set_cons_zero, List.set_cons_succ, i64_w, i32_w]
                 rfl
                refine pure_ (i := 4) (N := some 69) (v := ?_) (a' := ?_) #[true, true, true, false, true, false, false, false, false, false, false, false, false, false, false, false, false, false, false, false, false, false, false, false, false, false, false, false, false, false] rfl rfl (any_of HT_.out (by kernel_rfl)) (fun _ _ _ h => h) (Or.inl ⟨by rfl, ?_⟩) ?_ ?_
                rotate_left
                ·intro w'
                 go_simp
                 with_reducible rfl
                rotate_left
                ·simp only [Act.put, List.setIfInBounds_toArray, List.set_cons_zero, List.set_cons_succ, i64_w, i32_w]
                 rfl
                refine pure_ (i := 5) (N := some 70) (v := ?_) (a' := ?_) #[true, true, true, false, true, true, false, false, false, false, false, false, false, false, false, false, false, false, false, false, false, false, false, false, false, false, false, false, false, false] rfl rfl (any_of HT_.out (by kernel_rfl)) (fun _ _ _ h => h) (Or.inl ⟨by rfl, ?_⟩) ?_ ?_
                rotate_left
                ·intro w'
                 go_simp
                 with_reducible rfl
                rotate_left
                ·simp only [Act.put, List.setIfInBounds_toArray, List.set_cons_zero, List.set_cons_succ, i64_w, i32_w]
                 rfl
                refine pure_ (i := 8) (N := some 73) (v := ?_) (a' := ?_) #[true, true, true, false, true, true, false, false, true, false, false, false, false, false, false, false, false, false, false, false, false, false, false, false, false, false, false, false, false, false] rfl rfl (any_of HT_.out (by kernel_rfl)) (fun _ _ _ h => h) (Or.inl ⟨by rfl, ?_⟩) ?_ ?_
                rotate_left
                ·intro w'
                 go_simp
                 with_reducible rfl
                rotate_left
                ·simp only [Act.put, List.setIfInBounds_toArray, List.set_cons_zero, List.set_cons_succ, i64_w, i32_w]
                 rfl
                refine pure_ (i := 9) (N := some 74) (v := ?_) (a' := ?_) #[true, true, true, false, true, true, false, false, true, true, false, false, false, false, false, false, false, false, false, false, false, false, false, false, false, false, false, false, false, false] rfl rfl (any_of HT_.out (by kernel_rfl)) (fun _ _ _ h => h) (Or.inl ⟨by rfl, ?_⟩) ?_ ?_
                rotate_left
                ·intro w'
                 go_simp
                 with_reducible rfl
                rotate_left
                ·simp only [Act.put, List.setIfInBounds_toArray, List.set_cons_zero, List.set_cons_succ, i64_w, i32_w]
                 rfl
                refine pure_ (i := 10) (N := some 75) (v := ?_) (a' := ?_) #[true, true, true, false, true, true, false, false, true, true, true, false, false, false, false, false, false, false, false, false, false, false, false, false, false, false, false, false, false, false] rfl rfl (any_of HT_.out (by kernel_rfl)) (fun _ _ _ h => h) (Or.inl ⟨by rfl, ?_⟩) ?_ ?_
                rotate_left
                ·intro w'
                 go_simp
                 with_reducible rfl
                rotate_left
                ·simp only [Act.put, List.setIfInBounds_toArray, List.set_cons_zero, List.set_cons_succ, i64_w, i32_w]
                 rfl
                refine pure_ (i := 12) (N := some 77) (v := ?_) (a' := ?_) #[true, true, true, false, true, true, false, false, true, true, true, false, true, false, false, false, false, false, false, false, false, false, false, false, false, false, false, false, false, false] rfl rfl (any_of HT_.out (by kernel_rfl)) (fun _ _ _ h => h) (Or.inl ⟨by rfl, ?_⟩) ?_ ?_
                rotate_left
                ·intro w'
                 go_simp
                 with_reducible rfl
                rotate_left
                ·simp only [Act.put, List.setIfInBounds_toArray, List.set_cons_zero, List.set_cons_succ, i64_w, i32_w]
                 rfl
                refine pure_ (i := 13) (N := some 78) (v := ?_) (a' := ?_) #[true, true, true, false, true, true, false, false, true, true, true, false, true, true, false, false, false, false, false, false, false, false, false, false, false, false, false, false, false, false] rfl rfl (any_of HT_.out (by kernel_rfl)) (fun _ _ _ h => h) (Or.inl ⟨by rfl, ?_⟩) ?_ ?_
                rotate_left
                ·intro w'
                 go_simp
                 with_reducible rfl
                rotate_left
                ·simp only [Act.put, List.setIfInBounds_toArray, List.set_cons_zero, List.set_cons_succ, i64_w, i32_w]
                 rfl
                refine take_ (i := 3) (N := some 68) (v := ?_) (a' := ?_) #[true, true, true, true, true, true, false, false, true, true, true, false, true, true, false, false, false, false, false, false, false, false, false, false, false, false, false, false, false, false] rfl rfl (take_ofW HT_.out HW_.out (by kernel_rfl)) (fun _ _ _ h => h) (Or.inl ⟨by rfl, ?_⟩) hHeld ?_ ?_
                rotate_left
                ·rintro w' ⟨s0, s1, s2, s3, s4, s5⟩
                 go_simp
                 with_reducible rfl
                rotate_left
                ·simp only [Act.put, List.setIfInBounds_toArray, List.set_cons_zero, List.set_cons_succ, i64_w, i32_w]
                 rfl
                refine take_ (i := 6) (N := some 71) (v := ?_) (a' := ?_) #[true, true, true, true, true, true, true, false, true, true, true, false, true, true, false, false, false, false, false, false, false, false, false, false, false, false, false, false, false, false] rfl rfl (take_ofW HT_.out HW_.out (by kernel_rfl)) (fun _ _ _ h => h) (Or.inl ⟨by rfl, ?_⟩) hHeld ?_ ?_
                rotate_left
                ·rintro w' ⟨s0, s1, s2, s3, s4, s5⟩
                 go_simp
                 with_reducible rfl
                rotate_left
                ·simp only [Act.put, List.setIfInBounds_toArray, List.set_cons_zero, List.set_cons_succ, i64_w, i32_w]
                 rfl
                refine take_ (i := 11) (N := some 76) (v := ?_) (a' := ?_) #[true, true, true, true, true, true, true, false, true, true, true, true, true, true, false, false, false, false, false, false, false, false, false, false, false, false, false, false, false, false] rfl rfl (take_ofW HT_.out HW_.out (by kernel_rfl)) (fun _ _ _ h => h) (Or.inl ⟨by rfl, ?_⟩) hHeld ?_ ?_
                rotate_left
                ·rintro w' ⟨s0, s1, s2, s3, s4, s5⟩
                 go_simp
                 with_reducible rfl
                rotate_left
                ·simp only [Act.put, List.setIfInBounds_toArray, List.set_cons_zero, List.set_cons_succ, i64_w, i32_w]
                 rfl
                refine take_ (i := 14) (N := some 79) (v := ?_) (a' := ?_) #[true, true, true, true, true, true, true, false, true, true, true, true, true, true, true, false, false, false, false, false, false, false, false, false, false, false, false, false, false, false] rfl rfl (take_ofW HT_.out HW_.out (by kernel_rfl)) (fun _ _ _ h => h) (Or.inl ⟨by rfl, ?_⟩) hHeld ?_ ?_
                rotate_left
                ·rintro w' ⟨s0, s1, s2, s3, s4, s5⟩
                 go_simp
                 with_reducible rfl
                rotate_left
                ·simp only [Act.put, List.setIfInBounds_toArray, List.set_cons_zero, List.set_cons_succ, i64_w, i32_w]
                 rfl
                refine one_ (i := 7) (N := some 72) #[true, true, true, true, true, true, true, true, true, true, true, true, true, true, true, false, false, false, false, false, false, false, false, false, false, false, false, false, false, false] rfl rfl (one_of HT_.out (by kernel_rfl)) (by decide) (fun K hK => ?_)
                refine goes_ Try.func20 (by kernel_rfl) rfl #[.int .u64 (rd x7_1 x62_2), .int .u64 (rd x7_1 0)] (by rfl) rfl rfl (by (try simp only [List.map_toArray, List.map_cons, List.map_nil]); first | done | rfl | (simp only [List.length_drop, List.length_take]; rfl)) ?_
                with_reducible refine (vtime_Time_Since.calls (rd x7_1 x62_2) (rd x7_1 0) t200 _ A32.out).mono ?_
                rintro e w' ⟨rfl, ⟨nd, rfl⟩⟩
                refine ⟨_, rfl, ?_⟩
                refine hK.out _ _ ⟨hHeld.1, hHeld.2.1, hHeld.2.2.1, hHeld.2.2.2.1, hHeld.2.2.2.2.1, hHeld.2.2.2.2.2⟩ (fun hHeld => ?_)
                clear hK K
                refine norm_ (a' := ?_) ?_ ?_
                rotate_left
                ·show Act.put _ (some 72) _ = _
                 simp only [Act.put, List.setIfInBounds_toArray, List.set_cons_zero, List.set_cons_succ, i64_w, i32_w]
                 rfl
                refine one_ (i := 15) (N := some 80) #[true, true, true, true, true, true, true, true, true, true, true, true, true, true, true, true, false, false, false, false, false, false, false, false, false, false, false, false, false, false] rfl rfl (one_of HT_.out (by kernel_rfl)) (by decide) (fun K hK => ?_)
                refine goes_ Try.func20 (by kernel_rfl) rfl #[.int .u64 (rd x8_1 x62_2), .int .u64 (rd x8_1 0)] (by rfl) rfl rfl (by (try simp only [List.map_toArray, List.map_cons, List.map_nil]); first | done | rfl | (simp only [List.length_drop, List.length_take]; rfl)) ?_
                with_reducible refine (vtime_Time_Since.calls (rd x8_1 x62_2) (rd x8_1 0) t203 _ A35.out).mono ?_
                rintro e w' ⟨rfl, ⟨nd, rfl⟩⟩
                refine ⟨_, rfl, ?_⟩
                refine hK.out _ _ ⟨hHeld.1, hHeld.2.1, hHeld.2.2.1, hHeld.2.2.2.1, hHeld.2.2.2.2.1, hHeld.2.2.2.2.2⟩ (fun hHeld => ?_)
                clear hK K
                refine norm_ (a' := ?_) ?_ ?_
                rotate_left
                ·show Act.put _ (some 80) _ = _
                 simp only [Act.put, List.setIfInBounds_toArray, List.set_cons_zero, List.set_cons_succ, i64_w, i32_w]
                 rfl
                refine pure_ (i := 16) (N := some 81) (v := ?_) (a' := ?_) #[true, true, true, true, true, true, true, true, true, true, true, true, true, true, true, true, true, false, false, false, false, false, false, false, false, false, false, false, false, false] rfl rfl (any_of HT_.out (by kernel_rfl)) (fun _ _ _ h => h) (Or.inl ⟨by rfl, ?_⟩) ?_ ?_
                rotate_left
                ·intro w'
                 go_simp
                 with_reducible rfl
                rotate_left
                ·simp only [Act.put, List.setIfInBounds_toArray, List.set_cons_zero, List.set_cons_succ, i64_w, i32_w]
                 rfl
                refine pure_ (i := 17) (N := some 82) (v := ?_) (a' := ?_) #[true, true, true, true, true, true, true, true, true, true, true, true, true, true, true, true, true, true, false, false, false, false, false, false, false, false, false, false, false, false] rfl rfl (any_of HT_.out (by kernel_rfl)) (fun _ _ _ h => h) (Or.inl ⟨by rfl, ?_⟩) ?_ ?_
                rotate_left
                ·intro w'
                 go_simp
                 with_reducible rfl
                rotate_left
                ·simp only [Act.put, List.setIfInBounds_toArray, List.set_cons_zero, List.set_cons_succ, i64_w, i32_w]
                 rfl
                refine pure_ (i := 18) (N := some 83) (v := ?_) (a' := ?_) #[true, true, true, true, true, true, true, true, true, true, true, true, true, true, true, true, true, true, true, false, false, false, false, false, false, false, false, false, false, false] rfl rfl (any_of HT_.out (by kernel_rfl)) (fun _ _ _ h => h) (Or.inl ⟨by rfl, ?_⟩) ?_ ?_
                rotate_left
                ·intro w'
                 go_simp
                 with_reducible rfl
                rotate_left
                ·simp only [Act.put, List.setIfInBounds_toArray, List.set_cons_zero, List.set_cons_succ, i64_w, i32_w]
                 rfl
                refine pure_ (i := 19) (N := some 84) (v := ?_) (a' := ?_) #[true, true, true, true, true, true, true, true, true, true, true, true, true, true, true, true, true, true, true, true, false, false, false, false, false, false, false, false, false, false] rfl rfl (any_of HT_.out (by kernel_rfl)) (fun _ _ _ h => h) (Or.inl ⟨by rfl, ?_⟩) ?_ ?_
                rotate_left
                ·intro w'
                 go_simp
                 with_reducible rfl
                rotate_left
                ·simp only [Act.put, List.setIfInBounds_toArray, List.set_cons_zero, List.set_cons_succ, i64_w, i32_w]
                 rfl
                refine pure_ (i := 20) (N := some 85) (v := ?_) (a' := ?_) #[true, true, true, true, true, true, true, true, true, true, true, true, true, true, true, true, true, true, true, true, true, false, false, false, false, false, false, false, false, false] rfl rfl (any_of HT_.out (by kernel_rfl)) (fun _ _ _ h => h) (Or.inl ⟨by rfl, ?_⟩) ?_ ?_
                rotate_left
                ·intro w'
                 go_simp
                 with_reducible rfl
                rotate_left
                ·simp only [Act.put, List.setIfInBounds_toArray, List.set_cons_zero, List.set_cons_succ, i64_w, i32_w]
                 rfl
                refine pure_ (i := 22) (N := some 87) (v := ?_) (a' := ?_) #[true, true, true, true, true, true, true, true, true, true, true, true, true, true, true, true, true, true, true, true, true, false, true, false, false, false, false, false, false, false] rfl rfl (any_of HT_.out (by kernel_rfl)) (fun _ _ _ h => h) (Or.inl ⟨by rfl, ?_⟩) ?_ ?_
                rotate_left
                ·intro w'
                 go_simp
                 with_reducible rfl
                rotate_left
                ·simp only [Act.put, List.setIfInBounds_toArray, List.set_cons_zero, List.set_cons_succ, i64_w, i32_w]
                 rfl
                refine pure_ (i := 23) (N := some 88) (v := ?_) (a' := ?_) #[true, true, true, true, true, true, true, true, true, true, true, true, true, true, true, true, true, true, true, true, true, false, true, true, false, false, false, false, false, false] rfl rfl (any_of HT_.out (by kernel_rfl)) (fun _ _ _ h => h) (Or.inl ⟨by rfl, ?_⟩) ?_ ?_
                rotate_left
                ·intro w'
                 go_simp
                 with_reducible rfl
                rotate_left
                ·simp only [Act.put, List.setIfInBounds_toArray, List.set_cons_zero, List.set_cons_succ, i64_w, i32_w]
                 rfl
                refine pure_ (i := 24) (N := some 89) (v := ?_) (a' := ?_) #[true, true, true, true, true, true, true, true, true, true, true, true, true, true, true, true, true, true, true, true, true, false, true, true, true, false, false, false, false, false] rfl rfl (any_of HT_.out (by kernel_rfl)) (fun _ _ _ h => h) (Or.inl ⟨by rfl, ?_⟩) ?_ ?_
                rotate_left
                ·intro w'
                 go_simp
                 with_reducible rfl
                rotate_left
                ·simp only [Act.put, List.setIfInBounds_toArray, List.set_cons_zero, List.set_cons_succ, i64_w, i32_w]
                 rfl
                refine pure_ (i := 27) (N := some 92) (v := ?_) (a' := ?_) #[true, true, true, true, true, true, true, true, true, true, true, true, true, true, true, true, true, true, true, true, true, false, true, true, true, false, false, true, false, false] rfl rfl (any_of HT_.out (by kernel_rfl)) (fun _ _ _ h => h) (Or.inl ⟨by rfl, ?_⟩) ?_ ?_
                rotate_left
                ·intro w'
                 go_simp
                 with_reducible rfl
                rotate_left
                ·simp only [Act.put, List.setIfInBounds_toArray, List.set_cons_zero, List.set_cons_succ, i64_w, i32_w]
                 rfl
                refine take_ (i := 21) (N := some 86) (v := ?_) (a' := ?_) #[true, true, true, true, true, true, true, true, true, true, true, true, true, true, true, true, true, true, true, true, true, true, true, true, true, false, false, true, false, false] rfl rfl (take_ofW HT_.out HW_.out (by kernel_rfl)) (fun _ _ _ h => h) (Or.inl ⟨by rfl, ?_⟩) hHeld ?_ ?_
                rotate_left
                ·rintro w' ⟨s0, s1, s2, s3, s4, s5⟩
                 go_simp
                 with_reducible rfl
                rotate_left
                ·simp only [Act.put, List.setIfInBounds_toArray, List.set_cons_zero, List.set_cons_succ, i64_w, i32_w]
                 rfl
                refine take_ (i := 25) (N := some 90) (v := ?_) (a' := ?_) #[true, true, true, true, true, true, true, true, true, true, true, true, true, true, true, true, true, true, true, true, true, true, true, true, true, true, false, true, false, false] rfl rfl (take_ofW HT_.out HW_.out (by kernel_rfl)) (fun _ _ _ h => h) (Or.inl ⟨by rfl, ?_⟩) hHeld ?_ ?_
                rotate_left
                ·rintro w' ⟨s0, s1, s2, s3, s4, s5⟩
                 go_simp
                 with_reducible rfl
                rotate_left
                ·simp only [Act.put, List.setIfInBounds_toArray, List.set_cons_zero, List.set_cons_succ, i64_w, i32_w]
                 rfl
                refine pure_ (i := 26) (N := some 91) (v := ?_) (a' := ?_) #[true, true, true, true, true, true, true, true, true, true, true, true, true, true, true, true, true, true, true, true, true, true, true, true, true, true, true, true, false, false] rfl rfl (any_of HT_.out (by kernel_rfl)) (fun _ _ _ h => h) (Or.inl ⟨by rfl, ?_⟩) ?_ ?_
                rotate_left
                ·intro w'
                 go_simp
                 with_reducible rfl
                rotate_left
                ·simp only [Act.put, List.setIfInBounds_toArray, List.set_cons_zero, List.set_cons_succ, i64_w, i32_w]
                 rfl
                refine pure_ (i := 28) (N := some 93) (v := ?_) (a' := ?_) #[true, true, true, true, true, true, true, true, true, true, true, true, true, true, true, true, true, true, true, true, true, true, true, true, true, true, true, true, true, false] rfl rfl (any_of HT_.out (by kernel_rfl)) (fun _ _ _ h => h) (Or.inl ⟨by rfl, ?_⟩) ?_ ?_
                rotate_left
                ·intro w'
                 go_simp
                 with_reducible rfl
                rotate_left
                ·simp only [Act.put, List.setIfInBounds_toArray, List.set_cons_zero, List.set_cons_succ, i64_w, i32_w]
                 rfl
                refine pure_ (i := 29) (N := some 94) (v := ?_) (a' := ?_) #[true, true, true, true, true, true, true, true, true, true, true, true, true, true, true, true, true, true, true, true, true, true, true, true, true, true, true, true, true, true] rfl rfl (any_of HT_.out (by kernel_rfl)) (fun _ _ _ h => h) (Or.inl ⟨by rfl, ?_⟩) ?_ ?_
                rotate_left
                ·intro w'
                 go_simp
                 with_reducible rfl
                rotate_left
                ·simp only [Act.put, List.setIfInBounds_toArray, List.set_cons_zero, List.set_cons_succ, i64_w, i32_w]
                 rfl
                refine done_ (done_of HT_.out (by kernel_rfl)) ?_
                try go_wp2
                go_roundg k2
                case measure => have := HK1.out; have := HK2.out; omega
                case rel => exact ⟨(wrap64 (x62_2 + 1)), (by first | rfl | (simp; done) | (simp [*]; done)), H', ⟨by have := HK1.out; have := HK2.out; omega⟩, ⟨by (with_reducible repeat (first | apply Kd.R_alloc | apply Kd.R_drewN | apply Kd.R_drew)); exact HO_7.out⟩, ⟨by (with_reducible repeat (first | apply Kd.R_alloc | apply Kd.R_drewN | apply Kd.R_drew)); exact HO_8.out⟩, ⟨by repeat (first | (with_reducible first | exact HB.out | apply below_alloc | apply pw_below_drewN | apply below_drew1) | exact HB.out)⟩⟩
               ·rw [if_neg c37] at H
                exact absurd H (by simp)
              ·rw [if_neg c36] at H
               have c36b0 : (t200 == t203) = false := beq_eq_false_iff_ne.mpr c36
               have c36b1 : (t200 != t203) = true := bne_iff_ne.mpr c36
               exact absurd H (by simp)
             ·rw [if_neg c34] at H
              exact absurd H (by simp)
            ·rw [if_neg c33] at H
             exact absurd H (by simp)
           ·rw [if_neg c31] at H
            exact absurd H (by simp)
          ·rw [if_neg c30] at H
           exact absurd H (by simp)
         ·rw [if_neg c29] at H
          exact absurd H (by simp)
        ·rw [if_neg c28] at H
         have c28b0 : decide (x62_2 < (x7_1.length : Int)) = false := decide_eq_false c28
         clear c28
         by_cases c40 : 0 < (x7_1.length : Int)
         ·rw [if_pos c40] at H
          have c40b0 : decide (0 < (x7_1.length : Int)) = true := decide_eq_true c40
          have c40b1 : decide (0 < x7_1.length) = true := decide_eq_true (by omega)
          clear c40
          replace H := Option.bind_eq_some_iff.mp H
          obtain ⟨t207, A410, H⟩ := H
          replace H : ((vtime_Last.f k2 (rd x7_1 0) x7_1).bind fun t209 => ((vtime_Time_Add.f a0 x9_1).bind fun t210 => (if t207 = t210 then ((vtime_Time_Add.f a0 x10_1).bind fun t211 => (if t209 = t211 then (if 0 < (x8_1.length : Int) then ((vtime_First.f k2 (rd x8_1 0) x8_1).bind fun t213 => (if (IntKind.u64.wrap (t213 - t207)) = a1 then ((vtime_Last.f k2 (rd x8_1 0) x8_1).bind fun t215 => (if (IntKind.u64.wrap (t215 - t209)) = a1 then ((vtime_Spread.f k2 x7_1).bind fun t216 => ((vtime_Spread.f k2 x8_1).bind fun t217 => (if t216 = t217 then (some (t216 == (IntKind.u64.wrap (wrap64 (x10_1 - x9_1))))) else (none)))) else (none))) else (none))) else (none)) else (none))) else (none)))) = some r := H
          have A41 := Aside0.mk A410
          clear A410
          replace H := Option.bind_eq_some_iff.mp H
          obtain ⟨t209, A420, H⟩ := H
          replace H : ((vtime_Time_Add.f a0 x9_1).bind fun t210 => (if t207 = t210 then ((vtime_Time_Add.f a0 x10_1).bind fun t211 => (if t209 = t211 then (if 0 < (x8_1.length : Int) then ((vtime_First.f k2 (rd x8_1 0) x8_1).bind fun t213 => (if (IntKind.u64.wrap (t213 - t207)) = a1 then ((vtime_Last.f k2 (rd x8_1 0) x8_1).bind fun t215 => (if (IntKind.u64.wrap (t215 - t209)) = a1 then ((vtime_Spread.f k2 x7_1).bind fun t216 => ((vtime_Spread.f k2 x8_1).bind fun t217 => (if t216 = t217 then (some (t216 == (IntKind.u64.wrap (wrap64 (x10_1 - x9_1))))) else (none)))) else (none))) else (none))) else (none)) else (none))) else (none))) = some r := H
          have A42 := Aside0.mk A420
          clear A420
          replace H := Option.bind_eq_some_iff.mp H
          obtain ⟨t210, A430, H⟩ := H
          replace H : (if t207 = t210 then ((vtime_Time_Add.f a0 x10_1).bind fun t211 => (if t209 = t211 then (if 0 < (x8_1.length : Int) then ((vtime_First.f k2 (rd x8_1 0) x8_1).bind fun t213 => (if (IntKind.u64.wrap (t213 - t207)) = a1 then ((vtime_Last.f k2 (rd x8_1 0) x8_1).bind fun t215 => (if (IntKind.u64.wrap (t215 - t209)) = a1 then ((vtime_Spread.f k2 x7_1).bind fun t216 => ((vtime_Spread.f k2 x8_1).bind fun t217 => (if t216 = t217 then (some (t216 == (IntKind.u64.wrap (wrap64 (x10_1 - x9_1))))) else (none)))) else (none))) else (none))) else (none)) else (none))) else (none)) = some r := H
          have A43 := Aside0.mk A430
          clear A430
          by_cases c44 : t207 = t210
          ·rw [if_pos c44] at H
           have c44b0 : (t207 == t210) = true := beq_iff_eq.mpr c44
           have c44b1 : (t207 != t210) = false := bne_eq_false_iff_eq.mpr c44
           clear c44
           replace H := Option.bind_eq_some_iff.mp H
           obtain ⟨t211, A450, H⟩ := H
           replace H : (if t209 = t211 then (if 0 < (x8_1.length : Int) then ((vtime_First.f k2 (rd x8_1 0) x8_1).bind fun t213 => (if (IntKind.u64.wrap (t213 - t207)) = a1 then ((vtime_Last.f k2 (rd x8_1 0) x8_1).bind fun t215 => (if (IntKind.u64.wrap (t215 - t209)) = a1 then ((vtime_Spread.f k2 x7_1).bind fun t216 => ((vtime_Spread.f k2 x8_1).bind fun t217 => (if t216 = t217 then (some (t216 == (IntKind.u64.wrap (wrap64 (x10_1 - x9_1))))) else (none)))) else (none))) else (none))) else (none)) else (none)) = some r := H
           have A45 := Aside0.mk A450
           clear A450
           by_cases c46 : t209 = t211
           ·rw [if_pos c46] at H
            have c46b0 : (t209 == t211) = true := beq_iff_eq.mpr c46
            have c46b1 : (t209 != t211) = false := bne_eq_false_iff_eq.mpr c46
            clear c46
            by_cases c47 : 0 < (x8_1.length : Int)
            ·rw [if_pos c47] at H
             have c47b0 : decide (0 < (x8_1.length : Int)) = true := decide_eq_true c47
             have c47b1 : decide (0 < x8_1.length) = true := decide_eq_true (by omega)
             clear c47
             replace H := Option.bind_eq_some_iff.mp H
             obtain ⟨t213, A480, H⟩ := H
             replace H : (if (IntKind.u64.wrap (t213 - t207)) = a1 then ((vtime_Last.f k2 (rd x8_1 0) x8_1).bind fun t215 => (if (IntKind.u64.wrap (t215 - t209)) = a1 then ((vtime_Spread.f k2 x7_1).bind fun t216 => ((vtime_Spread.f k2 x8_1).bind fun t217 => (if t216 = t217 then (some (t216 == (IntKind.u64.wrap (wrap64 (x10_1 - x9_1))))) else (none)))) else (none))) else (none)) = some r := H
             have A48 := Aside0.mk A480
             clear A480
             by_cases c49 : (IntKind.u64.wrap (t213 - t207)) = a1
             ·rw [if_pos c49] at H
              have c49b0 : ((IntKind.u64.wrap (t213 - t207)) == a1) = true := beq_iff_eq.mpr c49
              have c49b1 : ((IntKind.u64.wrap (t213 - t207)) != a1) = false := bne_eq_false_iff_eq.mpr c49
              clear c49
              replace H := Option.bind_eq_some_iff.mp H
              obtain ⟨t215, A500, H⟩ := H
              replace H : (if (IntKind.u64.wrap (t215 - t209)) = a1 then ((vtime_Spread.f k2 x7_1).bind fun t216 => ((vtime_Spread.f k2 x8_1).bind fun t217 => (if t216 = t217 then (some (t216 == (IntKind.u64.wrap (wrap64 (x10_1 - x9_1))))) else (none)))) else (none)) = some r := H
              have A50 := Aside0.mk A500
              clear A500
              by_cases c51 : (IntKind.u64.wrap (t215 - t209)) = a1
              ·rw [if_pos c51] at H
               have c51b0 : ((IntKind.u64.wrap (t215 - t209)) == a1) = true := beq_iff_eq.mpr c51
               have c51b1 : ((IntKind.u64.wrap (t215 - t209)) != a1) = false := bne_eq_false_iff_eq.mpr c51
               clear c51
               replace H := Option.bind_eq_some_iff.mp H
               obtain ⟨t216, A520, H⟩ := H
               replace H : ((vtime_Spread.f k2 x8_1).bind fun t217 => (if t216 = t217 then (some (t216 == (IntKind.u64.wrap (wrap64 (x10_1 - x9_1))))) else (none))) = some r := H
               have A52 := Aside0.mk A520
               clear A520
               replace H := Option.bind_eq_some_iff.mp H
               obtain ⟨t217, A530, H⟩ := H
               replace H : (if t216 = t217 then (some (t216 == (IntKind.u64.wrap (wrap64 (x10_1 - x9_1))))) else (none)) = some r := H
               have A53 := Aside0.mk A530
               clear A530
               by_cases c54 : t216 = t217
               ·rw [if_pos c54] at H
                have c54b0 : (t216 == t217) = true := beq_iff_eq.mpr c54
                have c54b1 : (t216 != t217) = false := bne_eq_false_iff_eq.mpr c54
                clear c54
                obtain rfl := Option.some.inj H
                try go_wp2
                have n0_ := Aside0.mk (Kd.R_drew HO_7.out)
                have n1_ := Aside0.mk (Kd.R_drew HO_8.out)
                have n2_ := Aside0.mk (below_drew1 HB.out)
                clear HO_7
                clear HO_8
                clear HB
                have HO_7 := n0_
                have HO_8 := n1_
                have HB := n2_
                clear n0_ n1_ n2_
                have p206 : 0 ≤ (0 : Int) := (by omega)
                have q206 : 0 < (x7_1.length : Int) := of_decide_eq_true (by first | (with_reducible assumption) | assumption)
                obtain ⟨ad206, e206, hx206_0⟩ := Kd.at_int (Kd.R_reads' HO_7.out).2.2 0 p206 q206
                cases e206
                have qi206 : (0 < x7_1.length) = True := eq_true (by omega)
                (try rw [show ((0 : Int)).toNat = 0 from rfl] at hx206_0)
                (try rw [Addr.add_zero'] at hx206_0)
                replace p206 := eq_true p206
                replace q206 := eq_true q206
                have p208 : 0 ≤ (0 : Int) := (by omega)
                have q208 : 0 < (x7_1.length : Int) := of_decide_eq_true (by first | (with_reducible assumption) | assumption)
                obtain ⟨ad208, e208, hx208_0⟩ := Kd.at_int (Kd.R_reads' HO_7.out).2.2 0 p208 q208
                obtain rfl : ad206 = ad208 := (by injection e208)
                have qi208 : (0 < x7_1.length) = True := eq_true (by omega)
                (try rw [show ((0 : Int)).toNat = 0 from rfl] at hx208_0)
                (try rw [Addr.add_zero'] at hx208_0)
                replace p208 := eq_true p208
                replace q208 := eq_true q208
                refine start_ (n := 12) (S := fun w' => w'.cell? ad206 = some (.int .u64 (rd x7_1 0)) ∧ w'.cell? ad206 = some (.int .u64 (rd x7_1 0))) (ds := []) #[false, false, false, false, false, false, false, false, false, false, false, false] (by kernel_rfl) rfl rfl ⟨hx206_0, hx208_0⟩ (fun hHeld => ?_); refine with_tabW turnstonelaw03_VtimeShifts.tab21 turnstonelaw03_VtimeShifts.bits21 (fun HT_ HW_ => ?_)
                generalize wr.drew = w55 at HO_7 HO_8 HB hx206_0 hx208_0 hHeld ⊢
                refine pure_ (i := 0) (N := some 96) (v := ?_) (a' := ?_) #[true, false, false, false, false, false, false, false, false, false, false, false] rfl rfl (any_of HT_.out (by kernel_rfl)) (fun _ _ _ h => h) (Or.inl ⟨by rfl, ?_⟩) ?_ ?_
                rotate_left
                ·intro w'
                 go_simp
                 with_reducible rfl
                rotate_left
                ·simp only [Act.put, List.setIfInBounds_toArray, List.set_cons_zero, List.set_cons_succ, i64_w, i32_w]
                 rfl
                refine pure_ (i := 1) (N := some 97) (v := ?_) (a' := ?_) #[true, true, false, false, false, false, false, false, false, false, false, false] rfl rfl (any_of HT_.out (by kernel_rfl)) (fun _ _ _ h => h) (Or.inl ⟨by rfl, ?_⟩) ?_ ?_
                rotate_left
                ·intro w'
                 go_simp
                 with_reducible rfl
                rotate_left
                ·simp only [Act.put, List.setIfInBounds_toArray, List.set_cons_zero, List.set_cons_succ, i64_w, i32_w]
                 rfl
                refine pure_ (i := 3) (N := some 99) (v := ?_) (a' := ?_) #[true, true, false, true, false, false, false, false, false, false, false, false] rfl rfl (any_of HT_.out (by kernel_rfl)) (fun _ _ _ h => h) (Or.inl ⟨by rfl, ?_⟩) ?_ ?_
                rotate_left
                ·intro w'
                 go_simp
                 with_reducible rfl
                rotate_left
                ·simp only [Act.put, List.setIfInBounds_toArray, List.set_cons_zero, List.set_cons_succ, i64_w, i32_w]
                 rfl
                refine pure_ (i := 5) (N := some 101) (v := ?_) (a' := ?_) #[true, true, false, true, false, true, false, false, false, false, false, false] rfl rfl (any_of HT_.out (by kernel_rfl)) (fun _ _ _ h => h) (Or.inl ⟨by rfl, ?_⟩) ?_ ?_
                rotate_left
                ·intro w'
                 go_simp
                 with_reducible rfl
                rotate_left
                ·simp only [Act.put, List.setIfInBounds_toArray, List.set_cons_zero, List.set_cons_succ, i64_w, i32_w]
                 rfl
                refine pure_ (i := 6) (N := some 102) (v := ?_) (a' := ?_) #[true, true, false, true, false, true, true, false, false, false, false, false] rfl rfl (any_of HT_.out (by kernel_rfl)) (fun _ _ _ h => h) (Or.inl ⟨by rfl, ?_⟩) ?_ ?_
                rotate_left
                ·intro w'
                 go_simp
                 with_reducible rfl
                rotate_left
                ·simp only [Act.put, List.setIfInBounds_toArray, List.set_cons_zero, List.set_cons_succ, i64_w, i32_w]
                 rfl
                refine pure_ (i := 8) (N := some 104) (v := ?_) (a' := ?_) #[true, true, false, true, false, true, true, false, true, false, false, false] rfl rfl (any_of HT_.out (by kernel_rfl)) (fun _ _ _ h => h) (Or.inl ⟨by rfl, ?_⟩) ?_ ?_
                rotate_left
                ·intro w'
                 go_simp
                 with_reducible rfl
                rotate_left
                ·simp only [Act.put, List.setIfInBounds_toArray, List.set_cons_zero, List.set_cons_succ, i64_w, i32_w]
                 rfl
                refine take_ (i := 2) (N := some 98) (v := ?_) (a' := ?_) #[true, true, true, true, false, true, true, false, true, false, false, false] rfl rfl (take_ofW HT_.out HW_.out (by kernel_rfl)) (fun _ _ _ h => h) (Or.inl ⟨by rfl, ?_⟩) hHeld ?_ ?_
                rotate_left
                ·rintro w' ⟨s0, s1⟩
                 go_simp
                 with_reducible rfl
                rotate_left
                ·simp only [Act.put, List.setIfInBounds_toArray, List.set_cons_zero, List.set_cons_succ, i64_w, i32_w]
                 rfl
                refine take_ (i := 7) (N := some 103) (v := ?_) (a' := ?_) #[true, true, true, true, false, true, true, true, true, false, false, false] rfl rfl (take_ofW HT_.out HW_.out (by kernel_rfl)) (fun _ _ _ h => h) (Or.inl ⟨by rfl, ?_⟩) hHeld ?_ ?_
                rotate_left
                ·rintro w' ⟨s0, s1⟩
                 go_simp
                 with_reducible rfl
                rotate_left
                ·simp only [Act.put, List.setIfInBounds_toArray, List.set_cons_zero, List.set_cons_succ, i64_w, i32_w]
                 rfl
                refine one_ (i := 4) (N := some 100) #[true, true, true, true, true, true, true, true, true, false, false, false] rfl rfl (one_of HT_.out (by kernel_rfl)) (by decide) (fun K hK => ?_)
                refine goes_ Try.func29 (by kernel_rfl) rfl #[.int .u64 (rd x7_1 0), .slice (some ad206) x7_1.length co27] (by rfl) rfl rfl (by (try simp only [List.map_toArray, List.map_cons, List.map_nil]); first | done | rfl | (simp only [List.length_drop, List.length_take]; rfl)) ?_
                with_reducible refine (vtime_First.calls k2 (rd x7_1 0) _ _ x7_1 t207 _ ?side1 ?side2 A41.out).mono ?_
                (case side1 => repeat (first | exact (Kd.R_reads' HO_7.out).2.2 | (with_reducible refine Kd.C_alloc ?_ _) | (with_reducible refine Kd.C_drewN ?_ _) | (with_reducible refine Kd.C_drew ?_)))
                (case side2 => exact (Kd.R_reads' HO_7.out).2.1)
                rintro e w' ⟨rfl, ⟨nd, rfl⟩⟩
                refine ⟨_, rfl, ?_⟩
                refine hK.out _ _ ⟨hHeld.1, hHeld.2⟩ (fun hHeld => ?_)
                clear hK K
                refine norm_ (a' := ?_) ?_ ?_
                rotate_left
                ·show Act.put _ (some 100) _ = _
                 simp only [Act.put, List.setIfInBounds_toArray, List.set_cons_zero, List.set_cons_succ, i64_w, i32_w]
                 rfl
                refine one_ (i := 9) (N := some 105) #[true, true, true, true, true, true, true, true, true, true, false, false] rfl rfl (one_of HT_.out (by kernel_rfl)) (by decide) (fun K hK => ?_)
                refine goes_ Try.func31 (by kernel_rfl) rfl #[.int .u64 (rd x7_1 0), .slice (some ad206) x7_1.length co27] (by rfl) rfl rfl (by (try simp only [List.map_toArray, List.map_cons, List.map_nil]); first | done | rfl | (simp only [List.length_drop, List.length_take]; rfl)) ?_
                with_reducible refine (vtime_Last.calls k2 (rd x7_1 0) _ _ x7_1 t209 _ ?side1 ?side2 A42.out).mono ?_
                (case side1 => repeat (first | exact (Kd.R_reads' HO_7.out).2.2 | (with_reducible refine Kd.C_alloc ?_ _) | (with_reducible refine Kd.C_drewN ?_ _) | (with_reducible refine Kd.C_drew ?_)))
                (case side2 => exact (Kd.R_reads' HO_7.out).2.1)
                rintro e w' ⟨rfl, ⟨nd, rfl⟩⟩
                refine ⟨_, rfl, ?_⟩
                refine hK.out _ _ ⟨hHeld.1, hHeld.2⟩ (fun hHeld => ?_)
                clear hK K
                refine norm_ (a' := ?_) ?_ ?_
                rotate_left
                ·show Act.put _ (some 105) _ = _
                 simp only [Act.put, List.setIfInBounds_toArray, List.set_cons_zero, List.set_cons_succ, i64_w, i32_w]
                 rfl
                refine pure_ (i := 10) (N := some 14) (v := ?_) (a' := ?_) #[true, true, true, true, true, true, true, true, true, true, true, false] rfl rfl (any_of HT_.out (by kernel_rfl)) (fun _ _ _ h => h) (Or.inl ⟨by rfl, ?_⟩) ?_ ?_
                rotate_left
                ·intro w'
                 go_simp
                 with_reducible rfl
                rotate_left
                ·simp only [Act.put, List.setIfInBounds_toArray, List.set_cons_zero, List.set_cons_succ, i64_w, i32_w]
                 rfl
                refine pure_ (i := 11) (N := some 15) (v := ?_) (a' := ?_) #[true, true, true, true, true, true, true, true, true, true, true, true] rfl rfl (any_of HT_.out (by kernel_rfl)) (fun _ _ _ h => h) (Or.inl ⟨by rfl, ?_⟩) ?_ ?_
                rotate_left
                ·intro w'
                 go_simp
                 with_reducible rfl
                rotate_left
                ·simp only [Act.put, List.setIfInBounds_toArray, List.set_cons_zero, List.set_cons_succ, i64_w, i32_w]
                 rfl
                refine done_ (done_of HT_.out (by kernel_rfl)) ?_
                try go_wp2_with (first | ((with_reducible refine gate_callee (f := 25) rfl ?_); refine goesL_ (some 109) rfl rfl Try.func25 (by kernel_rfl) rfl #[.int .u64 a0, .int .i64 x9_1] rfl (by (try simp only [List.map_toArray, List.map_cons, List.map_nil]); first | done | rfl | (simp only [List.length_drop, List.length_take]; rfl)) ?_; (with_reducible refine (vtime_Time_Add.calls a0 x9_1 t210 _ A43.out).mono ?_); rintro e w' ⟨rfl, ⟨nd, rfl⟩⟩; refine ⟨_, rfl, ?_⟩) | (go_at_call 25; (with_reducible refine (vtime_Time_Add.calls a0 x10_1 t211 _ A45.out).mono ?_); rintro e w' ⟨rfl, ⟨nd, rfl⟩⟩; obtain ⟨Ao56, co56, eo56⟩ := Kd.R_slice HO_8.out; subst eo56; have p212 : 0 ≤ (0 : Int) := (by omega); have q212 : 0 < (x8_1.length : Int) := of_decide_eq_true (by first | (with_reducible assumption) | assumption); obtain ⟨ad212, e212, hx212_0⟩ := Kd.at_int (Kd.R_reads' HO_8.out).2.2 0 p212 q212; cases e212; have qi212 : (0 < x8_1.length) = True := eq_true (by omega); (try rw [show ((0 : Int)).toNat = 0 from rfl] at hx212_0); (try rw [Addr.add_zero'] at hx212_0); replace p212 := eq_true p212; replace q212 := eq_true q212) | (go_at_call 29; (with_reducible refine (vtime_First.calls k2 (rd x8_1 0) _ _ x8_1 t213 _ ?side1 ?side2 A48.out).mono ?_); (case side1 => repeat (first | exact (Kd.R_reads' HO_8.out).2.2 | (with_reducible refine Kd.C_alloc ?_ _) | (with_reducible refine Kd.C_drewN ?_ _) | (with_reducible refine Kd.C_drew ?_))); (case side2 => exact (Kd.R_reads' HO_8.out).2.1); rintro e w' ⟨rfl, ⟨nd, rfl⟩⟩; have p214 : 0 ≤ (0 : Int) := (by omega); have q214 : 0 < (x8_1.length : Int) := of_decide_eq_true (by first | (with_reducible assumption) | assumption); obtain ⟨ad214, e214, hx214_0⟩ := Kd.at_int (Kd.R_reads' HO_8.out).2.2 0 p214 q214; obtain rfl : ad212 = ad214 := (by injection e214); have qi214 : (0 < x8_1.length) = True := eq_true (by omega); (try rw [show ((0 : Int)).toNat = 0 from rfl] at hx214_0); (try rw [Addr.add_zero'] at hx214_0); replace p214 := eq_true p214; replace q214 := eq_true q214) | (go_at_call 31; (with_reducible refine (vtime_Last.calls k2 (rd x8_1 0) _ _ x8_1 t215 _ ?side1 ?side2 A50.out).mono ?_); (case side1 => repeat (first | exact (Kd.R_reads' HO_8.out).2.2 | (with_reducible refine Kd.C_alloc ?_ _) | (with_reducible refine Kd.C_drewN ?_ _) | (with_reducible refine Kd.C_drew ?_))); (case side2 => exact (Kd.R_reads' HO_8.out).2.1); rintro e w' ⟨rfl, ⟨nd, rfl⟩⟩) | (go_at_call 28; (with_reducible refine (vtime_Spread.calls k2 _ _ x7_1 t216 _ ?side1 ?side2 A52.out).mono ?_); (case side1 => repeat (first | exact (Kd.R_reads' HO_7.out).2.2 | (with_reducible refine Kd.C_alloc ?_ _) | (with_reducible refine Kd.C_drewN ?_ _) | (with_reducible refine Kd.C_drew ?_))); (case side2 => exact (Kd.R_reads' HO_7.out).2.1); rintro e w' ⟨rfl, ⟨nd, rfl⟩⟩) | (go_at_call 28; (with_reducible refine (vtime_Spread.calls k2 _ _ x8_1 t217 _ ?side1 ?side2 A53.out).mono ?_); (case side1 => repeat (first | exact (Kd.R_reads' HO_8.out).2.2 | (with_reducible refine Kd.C_alloc ?_ _) | (with_reducible refine Kd.C_drewN ?_ _) | (with_reducible refine Kd.C_drew ?_))); (case side2 => exact (Kd.R_reads' HO_8.out).2.1); rintro e w' ⟨rfl, ⟨nd, rfl⟩⟩))
                go_ret
                exact ⟨by first | rfl | (simp [errW_none, errW_some] <;> rfl) | (simp [*, errW_none, errW_some] <;> rfl), by repeat (first | (with_reducible first | exact HB.out | apply below_alloc | apply pw_below_drewN | apply below_drew1) | exact HB.out)⟩
               ·rw [if_neg c54] at H
                exact absurd H (by simp)
              ·rw [if_neg c51] at H
               exact absurd H (by simp)
             ·rw [if_neg c49] at H
              exact absurd H (by simp)
            ·rw [if_neg c47] at H
             exact absurd H (by simp)
           ·rw [if_neg c46] at H
            exact absurd H (by simp)
          ·rw [if_neg c44] at H
           exact absurd H (by simp)
         ·rw [if_neg c40] at H
          exact absurd H (by simp)
 ·replace c5 := Bool.eq_false_iff.mpr c5
  subst c5
  have H1 : (none) = some r := by rw [if_neg (show ¬ (false = true) by decide)] at H; exact H
  clear H
  have H := H1
  clear H1
  exact absurd H (by simp)

/-- THE ONE PURE STATEMENT of turnstonelaw03_VtimeShifts. -/
def turnstonelaw03_VtimeShifts.Pure : Prop := ∀ (a0 : Int) (a1 : Int) (l2 : List Int), (Lit.int .u64 a0).wf = true → (Lit.int .u64 a1).wf = true → l2.length ≤ maxLen → l2.length * 8 ≤ 140737488351232 → (∀ x ∈ l2, (Lit.int .i64 x).wf = true) → ∃ k, turnstonelaw03_VtimeShifts.f k a0 a1 l2 = some true
theorem turnstonelaw03_VtimeShifts.walk (P : turnstonelaw03_VtimeShifts.Pure) (a0 : Int) (a1 : Int) (A2 : Option Addr) (c2 : Nat) (l2 : List Int) (w : World) (w0 : (Lit.int .u64 a0).wf = true) (w1 : (Lit.int .u64 a1).wf = true) (hr2 : Kd.C (Kd.int .i64) w A2 l2.length l2) (hc2 : l2.length ≤ c2) (hm2 : l2.length ≤ maxLen) (y2 : l2.length * 8 ≤ 140737488351232) (hw2 : ∀ x ∈ l2, (Lit.int .i64 x).wf = true) :
  Calls Try.prog 5 #[.int .u64 a0, .int .u64 a1, .slice A2 l2.length c2] w fun e w' => e = .returned (.bool true) ∧ Below w.heap.size w w' := by
 obtain ⟨k, h⟩ := P a0 a1 l2 w0 w1 hm2 y2 hw2
 refine (turnstonelaw03_VtimeShifts.calls k a0 a1 _ _ l2 true w hr2 hc2 h).mono ?_
 rintro e w' ⟨rfl, hd⟩
 exact ⟨rfl, hd⟩

end Go.Proofs.Ytimgiiceipjpaaa.Print
