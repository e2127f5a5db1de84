/- What each Go function that is named below answers, as a Lean function, and that its walk comes to just that: for whatever arguments that function gives an answer for. Written by a program of this session (wip/mkpr.py, pr.sh). -/
import Derived.Test.YtfbkamgdkdnpoaaGreatDoorPrint1000
import Derived.Test.YtfbkamgdkdnpoaaGreatDoorPrint1003
import Derived.Test.YtfbkamgdkdnpoaaGreatDoorPrint1009
import Derived.Test.YtfbkamgdkdnpoaaGreatDoorPrint1020
namespace Go.Proofs.YtfbkamgdkdnpoaaGreatDoor.Print
open Go.RowKit Go.Proofs.YtfbkamgdkdnpoaaGreatDoorW.PrintWords Go.Proofs.YtfbkamgdkdnpoaaGreatDoorW.PrintLast Go.Proofs.YtfbkamgdkdnpoaaGreatDoorW.PrintMore
attribute [local go_sem] max2_int min2_int max_two min_two max_three min_three max_four min_four   -- for this text's walks alone
open Go.Proofs.YtfbkamgdkdnpoaaGreatDoor.Bits Go.Proofs.YtfbkamgdkdnpoaaGreatDoor.Short
attribute [local go_sem] add64_run0 sub64_run0 add64_run sub64_run
set_option linter.unusedVariables false
set_option linter.unusedSimpArgs false

theorem eqA28 (d : Nat) (w : World) (x0 y0 : Int) (x1 y1 : Int) (x2 y2 : Int) :
  (Op.equalIn (d + 2) 28 (.agg #[.int .u64 x0, .int .u32 x1, .int .u32 x2]) (.agg #[.int .u64 y0, .int .u32 y1, .int .u32 y2])).run Tryz.prog w = .ok (x0 == y0 && (x1 == y1 && (x2 == y2))) w := by
 refine eqA_of Tryz.underlying28 (by kernel_rfl) ?_
 refine eqf_cons (by rfl) (by go_simp; rfl) (by go_simp; rfl) (by go_simp) ?_
 refine eqf_cons (by rfl) (by go_simp; rfl) (by go_simp; rfl) (by go_simp) ?_
 exact eqf_last (by rfl) (by go_simp; rfl) (by go_simp; rfl) (by go_simp)

/-! ### pos_Pos_Cmp: function 33 -/
def pos_Pos_Cmp.f (k : Nat) (a0_0 : Int) (a0_1 : Int) (a0_2 : Int) (a1_0 : Int) (a1_1 : Int) (a1_2 : Int) : Option (Int) := (vtime_Time_Since.f a1_0 a0_0).bind fun t259 => ((cmp_Compare_int64.f 0 t259).bind fun t260 => ((cmp_Compare_uint64.f (IntKind.u64.wrap ((IntKind.u64.wrap (a0_1)) * (IntKind.u64.wrap (a1_2)))) (IntKind.u64.wrap ((IntKind.u64.wrap (a1_1)) * (IntKind.u64.wrap (a0_2))))).bind fun t261 => ((cmp_Or_int.f k (([t260, t261] : List Int))).bind fun t265 => (some t265))))
theorem pos_Pos_Cmp.mono : ∀ a0 a1 a2 a3 a4 a5 k, LeO (pos_Pos_Cmp.f k a0 a1 a2 a3 a4 a5) (pos_Pos_Cmp.f (k + 1) a0 a1 a2 a3 a4 a5) := by
 intro a0 a1 a2 a3 a4 a5 k
 unfold pos_Pos_Cmp.f
 repeat' first
   | (with_reducible exact cmp_Or_int.mono _ _)
   | (with_reducible exact LeO.refl _)
   | (with_reducible exact LeO.none _)
   | (with_reducible refine LeO.ite ?_ ?_)
   | (with_reducible refine LeO.bind ?_ (fun _ => ?_))
   | exact cmp_Or_int.mono _ _
   | exact LeO.none _
   | refine LeO.ite ?_ ?_
   | refine LeO.bind ?_ (fun _ => ?_)
def pos_Pos_Cmp.T1 : Bool × List (List Nat × List Nat) := (true, [([], []), ([0], [0]), ([], []), ([2], [2]), ([1, 3], [1, 3]), ([4, 4], [4]), ([], []), ([6], [6]), ([7], [7]), ([], []), ([9], [9]), ([10], [10]), ([8, 11], [8, 11]), ([], []), ([13], [13]), ([14], [14]), ([], []), ([16], [16]), ([17], [17]), ([15, 18], [15, 18]), ([12, 19, 5], [12, 19]), ([5, 20], [5, 20]), ([21, 20], [21]), ([22, 22, 0, 1, 2, 3, 4, 5, 6, 7, 8, 9, 10, 11, 12, 13, 14, 15, 16, 17, 18, 19, 20, 21, 22], [22])])
def pos_Pos_Cmp.B1 : List Nat := [0, 1, 0, 4, 15, 31, 0, 64, 192, 0, 512, 1536, 4032, 0, 8192, 24576, 0, 65536, 196608, 516096, 1048575, 2097151, 4194303, 8388607]
theorem pos_Pos_Cmp.tab1 : rtab .any (opsOf Tryz.f33 1) = pos_Pos_Cmp.T1 := by kernel_rfl
theorem pos_Pos_Cmp.bits1 : waitsOk pos_Pos_Cmp.T1.2 pos_Pos_Cmp.B1 = true := by kernel_rfl
set_option maxHeartbeats 8000000 in
set_option maxRecDepth 100000 in
theorem pos_Pos_Cmp.calls (k : Nat) (a0_0 : Int) (a0_1 : Int) (a0_2 : Int) (a1_0 : Int) (a1_1 : Int) (a1_2 : Int) (r : Int) (w : World) (h : pos_Pos_Cmp.f k a0_0 a0_1 a0_2 a1_0 a1_1 a1_2 = some r) :
  Calls Tryz.prog 33 #[.agg #[.int .u64 a0_0, .int .u32 a0_1, .int .u32 a0_2], .agg #[.int .u64 a1_0, .int .u32 a1_1, .int .u32 a1_2]] w fun e w' => e = .returned (.int .i64 r) ∧ Below w.heap.size w w' := by
 have hu28 := Tryz.underlying28
 have HB := Aside0.mk (Below.refl w.heap.size w)
 have H : ((vtime_Time_Since.f a1_0 a0_0).bind fun t259 => ((cmp_Compare_int64.f 0 t259).bind fun t260 => ((cmp_Compare_uint64.f (IntKind.u64.wrap ((IntKind.u64.wrap (a0_1)) * (IntKind.u64.wrap (a1_2)))) (IntKind.u64.wrap ((IntKind.u64.wrap (a1_1)) * (IntKind.u64.wrap (a0_2))))).bind fun t261 => ((cmp_Or_int.f k (([t260, t261] : List Int))).bind fun t265 => (some t265))))) = some r := h
 clear h
 replace H := Option.bind_eq_some_iff.mp H
 obtain ⟨t259, A30, H⟩ := H
 replace H : ((cmp_Compare_int64.f 0 t259).bind fun t260 => ((cmp_Compare_uint64.f (IntKind.u64.wrap ((IntKind.u64.wrap (a0_1)) * (IntKind.u64.wrap (a1_2)))) (IntKind.u64.wrap ((IntKind.u64.wrap (a1_1)) * (IntKind.u64.wrap (a0_2))))).bind fun t261 => ((cmp_Or_int.f k (([t260, t261] : List Int))).bind fun t265 => (some t265)))) = some r := H
 have A3 := Aside0.mk A30
 clear A30
 replace H := Option.bind_eq_some_iff.mp H
 obtain ⟨t260, A40, H⟩ := H
 replace H : ((cmp_Compare_uint64.f (IntKind.u64.wrap ((IntKind.u64.wrap (a0_1)) * (IntKind.u64.wrap (a1_2)))) (IntKind.u64.wrap ((IntKind.u64.wrap (a1_1)) * (IntKind.u64.wrap (a0_2))))).bind fun t261 => ((cmp_Or_int.f k (([t260, t261] : List Int))).bind fun t265 => (some t265))) = some r := H
 have A4 := Aside0.mk A40
 clear A40
 replace H := Option.bind_eq_some_iff.mp H
 obtain ⟨t261, A50, H⟩ := H
 replace H : ((cmp_Or_int.f k (([t260, t261] : List Int))).bind fun t265 => (some t265)) = some r := H
 have A5 := Aside0.mk A50
 clear A50
 obtain ⟨y262, hy262⟩ : ∃ y_ : List Int, y_ = (([t260, t261] : List Int)) := ⟨_, rfl⟩
 replace H : ((cmp_Or_int.f k y262).bind fun t265 => (some t265)) = some r := by first | (rw [hy262]; with_reducible exact H) | (have H2_ := (Option.bind_some _ _).symm.trans H; rw [hy262]; with_reducible exact H2_) | (have H2_ := (Option.bind_some _ _).symm.trans H; with_reducible exact H2_) | with_reducible exact H | (rw [hy262]; exact H) | exact H
 have Ny262 := Aside0.mk hy262
 clear hy262
 replace H := Option.bind_eq_some_iff.mp H
 obtain ⟨t265, A60, H⟩ := H
 replace H : (some t265) = some r := H
 have A6 := Aside0.mk A60
 clear A60
 obtain rfl := Option.some.inj H
 go_enter Tryz.func33, Tryz.ntmps33
 try go_wp2_with (first | ((with_reducible refine gate_dst (N := 2) rfl ?_); refine box_event ?hg (N := 2) ?hd (cs := #[.int .u64 a0_0, .int .u32 a0_1, .int .u32 a0_2]) (t := 28) ?hr ?_; (case hd => rfl); (case hg => rfl); (case hr => first | (go_simp; done) | (go_simp; rfl)); intro gb257 hg w7 hbox hb; have BK257 := Aside0.mk (hbox); have GW257 := bels HB hg; have GE257 := bels HB hg; replace HB := belb HB hb; clear hb hbox hg) | ((with_reducible refine gate_dst (N := 3) rfl ?_); refine box_event ?hg (N := 3) ?hd (cs := #[.int .u64 a1_0, .int .u32 a1_1, .int .u32 a1_2]) (t := 28) ?hr ?_; (case hd => rfl); (case hg => rfl); (case hr => first | (go_simp; done) | (go_simp; rfl)); intro gb258 hg w8 hbox hb; have BK258 := Aside0.mk (hbox); have GW258 := bels HB hg; have GE258 := bels HB hg; have NB257_258 := blkl BK257 hg; have NB258_257 := blkg BK257 hg; replace BK257 := blkb BK257 hb; replace HB := belb HB hb; clear hb hbox hg))
 replace BK257 := Aside0.mk (blk_drew BK257.out)
 replace BK258 := Aside0.mk (blk_drew BK258.out)
 replace HB := Aside0.mk (below_drew1 HB.out)
 refine start_ (n := 24) (S := fun w' => w'.cell? ⟨gb258, 0, none⟩ = some (.int .u64 a1_0) ∧ w'.cell? ⟨gb258, 1, none⟩ = some (.int .u32 a1_1) ∧ w'.cell? ⟨gb258, 2, none⟩ = some (.int .u32 a1_2) ∧ w'.cell? ⟨gb257, 0, none⟩ = some (.int .u64 a0_0) ∧ w'.cell? ⟨gb257, 1, none⟩ = some (.int .u32 a0_1) ∧ w'.cell? ⟨gb257, 2, none⟩ = some (.int .u32 a0_2)) (ds := []) #[false, false, false, false, false, false, false, false, false, false, false, false, false, false, false, false, false, false, false, false, false, false, false, false] (by kernel_rfl) rfl rfl ⟨(blk_cell BK258.out 0).trans rfl, (blk_cell BK258.out 1).trans rfl, (blk_cell BK258.out 2).trans rfl, (blk_cell BK257.out 0).trans rfl, (blk_cell BK257.out 1).trans rfl, (blk_cell BK257.out 2).trans rfl⟩ (fun hHeld => ?_); refine with_tabW pos_Pos_Cmp.tab1 pos_Pos_Cmp.bits1 (fun HT_ HW_ => ?_)
 generalize w8.drew = w9 at BK257 BK258 HB hHeld ⊢
 refine pure_ (i := 0) (N := some 5) (v := ?_) (a' := ?_) #[true, false, false, false, false, false, false, false, false, false, false, false, false, false, false, false, false, false, false, false, false, false, false, false] rfl rfl (any_of HT_.out (by kernel_rfl)) (fun _ _ _ h => h) (Or.inl ⟨by rfl, ?_⟩) ?_ ?_
 rotate_left
 ·intro w'
  go_simp
  with_reducible rfl
 rotate_left
 ·simp only [Act.put, List.setIfInBounds_toArray, List.set_cons_zero, List.set_cons_succ, i64_w, i32_w]
  rfl
 refine pure_ (i := 2) (N := some 7) (v := ?_) (a' := ?_) #[true, false, true, false, false, false, false, false, false, false, false, false, false, false, false, false, false, false, false, false, false, false, false, false] rfl rfl (any_of HT_.out (by kernel_rfl)) (fun _ _ _ h => h) (Or.inl ⟨by rfl, ?_⟩) ?_ ?_
 rotate_left
 ·intro w'
  go_simp
  with_reducible rfl
 rotate_left
 ·simp only [Act.put, List.setIfInBounds_toArray, List.set_cons_zero, List.set_cons_succ, i64_w, i32_w]
  rfl
 refine pure_ (i := 6) (N := some 11) (v := ?_) (a' := ?_) #[true, false, true, false, false, false, true, false, false, false, false, false, false, false, false, false, false, false, false, false, false, false, false, false] rfl rfl (any_of HT_.out (by kernel_rfl)) (fun _ _ _ h => h) (Or.inl ⟨by rfl, ?_⟩) ?_ ?_
 rotate_left
 ·intro w'
  go_simp
  with_reducible rfl
 rotate_left
 ·simp only [Act.put, List.setIfInBounds_toArray, List.set_cons_zero, List.set_cons_succ, i64_w, i32_w]
  rfl
 refine pure_ (i := 9) (N := some 14) (v := ?_) (a' := ?_) #[true, false, true, false, false, false, true, false, false, true, false, false, false, false, false, false, false, false, false, false, false, false, false, false] rfl rfl (any_of HT_.out (by kernel_rfl)) (fun _ _ _ h => h) (Or.inl ⟨by rfl, ?_⟩) ?_ ?_
 rotate_left
 ·intro w'
  go_simp
  with_reducible rfl
 rotate_left
 ·simp only [Act.put, List.setIfInBounds_toArray, List.set_cons_zero, List.set_cons_succ, i64_w, i32_w]
  rfl
 refine pure_ (i := 13) (N := some 18) (v := ?_) (a' := ?_) #[true, false, true, false, false, false, true, false, false, true, false, false, false, true, false, false, false, false, false, false, false, false, false, false] rfl rfl (any_of HT_.out (by kernel_rfl)) (fun _ _ _ h => h) (Or.inl ⟨by rfl, ?_⟩) ?_ ?_
 rotate_left
 ·intro w'
  go_simp
  with_reducible rfl
 rotate_left
 ·simp only [Act.put, List.setIfInBounds_toArray, List.set_cons_zero, List.set_cons_succ, i64_w, i32_w]
  rfl
 refine pure_ (i := 16) (N := some 21) (v := ?_) (a' := ?_) #[true, false, true, false, false, false, true, false, false, true, false, false, false, true, false, false, true, false, false, false, false, false, false, false] rfl rfl (any_of HT_.out (by kernel_rfl)) (fun _ _ _ h => h) (Or.inl ⟨by rfl, ?_⟩) ?_ ?_
 rotate_left
 ·intro w'
  go_simp
  with_reducible rfl
 rotate_left
 ·simp only [Act.put, List.setIfInBounds_toArray, List.set_cons_zero, List.set_cons_succ, i64_w, i32_w]
  rfl
 refine take_ (i := 1) (N := some 6) (v := ?_) (a' := ?_) #[true, true, true, false, false, false, true, false, false, true, false, false, false, true, false, false, true, false, false, false, false, false, false, false] rfl rfl (take_ofW HT_.out HW_.out (by kernel_rfl)) (fun _ _ _ h => h) (Or.inl ⟨by rfl, ?_⟩) hHeld ?_ ?_
 rotate_left
 ·rintro w' ⟨s0, s1, s2, s3, s4, s5⟩
  go_simp
  with_reducible rfl
 rotate_left
 ·simp only [Act.put, List.setIfInBounds_toArray, List.set_cons_zero, List.set_cons_succ, i64_w, i32_w]
  rfl
 refine take_ (i := 3) (N := some 8) (v := ?_) (a' := ?_) #[true, true, true, true, false, false, true, false, false, true, false, false, false, true, false, false, true, false, false, false, false, false, false, false] rfl rfl (take_ofW HT_.out HW_.out (by kernel_rfl)) (fun _ _ _ h => h) (Or.inl ⟨by rfl, ?_⟩) hHeld ?_ ?_
 rotate_left
 ·rintro w' ⟨s0, s1, s2, s3, s4, s5⟩
  go_simp
  with_reducible rfl
 rotate_left
 ·simp only [Act.put, List.setIfInBounds_toArray, List.set_cons_zero, List.set_cons_succ, i64_w, i32_w]
  rfl
 refine take_ (i := 7) (N := some 12) (v := ?_) (a' := ?_) #[true, true, true, true, false, false, true, true, false, true, false, false, false, true, false, false, true, false, false, false, false, false, false, false] rfl rfl (take_ofW HT_.out HW_.out (by kernel_rfl)) (fun _ _ _ h => h) (Or.inl ⟨by rfl, ?_⟩) hHeld ?_ ?_
 rotate_left
 ·rintro w' ⟨s0, s1, s2, s3, s4, s5⟩
  go_simp
  with_reducible rfl
 rotate_left
 ·simp only [Act.put, List.setIfInBounds_toArray, List.set_cons_zero, List.set_cons_succ, i64_w, i32_w]
  rfl
 refine pure_ (i := 8) (N := some 13) (v := ?_) (a' := ?_) #[true, true, true, true, false, false, true, true, true, true, false, false, false, true, false, false, true, false, false, false, false, false, false, false] rfl rfl (any_of HT_.out (by kernel_rfl)) (fun _ _ _ h => h) (Or.inl ⟨by rfl, ?_⟩) ?_ ?_
 rotate_left
 ·intro w'
  go_simp
  with_reducible rfl
 rotate_left
 ·simp only [Act.put, List.setIfInBounds_toArray, List.set_cons_zero, List.set_cons_succ, i64_w, i32_w]
  rfl
 refine take_ (i := 10) (N := some 15) (v := ?_) (a' := ?_) #[true, true, true, true, false, false, true, true, true, true, true, false, false, true, false, false, true, false, false, false, false, false, false, false] rfl rfl (take_ofW HT_.out HW_.out (by kernel_rfl)) (fun _ _ _ h => h) (Or.inl ⟨by rfl, ?_⟩) hHeld ?_ ?_
 rotate_left
 ·rintro w' ⟨s0, s1, s2, s3, s4, s5⟩
  go_simp
  with_reducible rfl
 rotate_left
 ·simp only [Act.put, List.setIfInBounds_toArray, List.set_cons_zero, List.set_cons_succ, i64_w, i32_w]
  rfl
 refine pure_ (i := 11) (N := some 16) (v := ?_) (a' := ?_) #[true, true, true, true, false, false, true, true, true, true, true, true, false, true, false, false, true, false, false, false, false, false, false, false] rfl rfl (any_of HT_.out (by kernel_rfl)) (fun _ _ _ h => h) (Or.inl ⟨by rfl, ?_⟩) ?_ ?_
 rotate_left
 ·intro w'
  go_simp
  with_reducible rfl
 rotate_left
 ·simp only [Act.put, List.setIfInBounds_toArray, List.set_cons_zero, List.set_cons_succ, i64_w, i32_w]
  rfl
 refine pure_ (i := 12) (N := some 17) (v := ?_) (a' := ?_) #[true, true, true, true, false, false, true, true, true, true, true, true, true, true, false, false, true, false, false, false, false, false, false, false] rfl rfl (any_of HT_.out (by kernel_rfl)) (fun _ _ _ h => h) (Or.inl ⟨by rfl, ?_⟩) ?_ ?_
 rotate_left
 ·intro w'
  go_simp
  with_reducible rfl
 rotate_left
 ·simp only [Act.put, List.setIfInBounds_toArray, List.set_cons_zero, List.set_cons_succ, i64_w, i32_w]
  rfl
 refine take_ (i := 14) (N := some 19) (v := ?_) (a' := ?_) #[true, true, true, true, false, false, true, true, true, true, true, true, true, true, true, false, true, false, false, false, false, false, false, false] rfl rfl (take_ofW HT_.out HW_.out (by kernel_rfl)) (fun _ _ _ h => h) (Or.inl ⟨by rfl, ?_⟩) hHeld ?_ ?_
 rotate_left
 ·rintro w' ⟨s0, s1, s2, s3, s4, s5⟩
  go_simp
  with_reducible rfl
 rotate_left
 ·simp only [Act.put, List.setIfInBounds_toArray, List.set_cons_zero, List.set_cons_succ, i64_w, i32_w]
  rfl
 refine pure_ (i := 15) (N := some 20) (v := ?_) (a' := ?_) #[true, true, true, true, false, false, true, true, true, true, true, true, true, true, true, true, true, false, false, false, false, false, false, false] rfl rfl (any_of HT_.out (by kernel_rfl)) (fun _ _ _ h => h) (Or.inl ⟨by rfl, ?_⟩) ?_ ?_
 rotate_left
 ·intro w'
  go_simp
  with_reducible rfl
 rotate_left
 ·simp only [Act.put, List.setIfInBounds_toArray, List.set_cons_zero, List.set_cons_succ, i64_w, i32_w]
  rfl
 refine take_ (i := 17) (N := some 22) (v := ?_) (a' := ?_) #[true, true, true, true, false, false, true, true, true, true, true, true, true, true, true, true, true, true, false, false, false, false, false, false] rfl rfl (take_ofW HT_.out HW_.out (by kernel_rfl)) (fun _ _ _ h => h) (Or.inl ⟨by rfl, ?_⟩) hHeld ?_ ?_
 rotate_left
 ·rintro w' ⟨s0, s1, s2, s3, s4, s5⟩
  go_simp
  with_reducible rfl
 rotate_left
 ·simp only [Act.put, List.setIfInBounds_toArray, List.set_cons_zero, List.set_cons_succ, i64_w, i32_w]
  rfl
 refine pure_ (i := 18) (N := some 23) (v := ?_) (a' := ?_) #[true, true, true, true, false, false, true, true, true, true, true, true, true, true, true, true, true, true, true, false, false, false, false, false] rfl rfl (any_of HT_.out (by kernel_rfl)) (fun _ _ _ h => h) (Or.inl ⟨by rfl, ?_⟩) ?_ ?_
 rotate_left
 ·intro w'
  go_simp
  with_reducible rfl
 rotate_left
 ·simp only [Act.put, List.setIfInBounds_toArray, List.set_cons_zero, List.set_cons_succ, i64_w, i32_w]
  rfl
 refine pure_ (i := 19) (N := some 24) (v := ?_) (a' := ?_) #[true, true, true, true, false, false, true, true, true, true, true, true, true, true, true, true, true, true, true, true, false, false, false, false] rfl rfl (any_of HT_.out (by kernel_rfl)) (fun _ _ _ h => h) (Or.inl ⟨by rfl, ?_⟩) ?_ ?_
 rotate_left
 ·intro w'
  go_simp
  with_reducible rfl
 rotate_left
 ·simp only [Act.put, List.setIfInBounds_toArray, List.set_cons_zero, List.set_cons_succ, i64_w, i32_w]
  rfl
 refine one_ (i := 4) (N := some 9) #[true, true, true, true, true, false, true, true, true, true, true, true, true, true, true, true, true, true, true, true, false, false, false, false] rfl rfl (one_of HT_.out (by kernel_rfl)) (by decide) (fun K hK => ?_)
 refine goes_ Tryz.func16 (by kernel_rfl) rfl #[.int .u64 a1_0, .int .u64 a0_0] (by rfl) rfl rfl argt ?_
 with_reducible refine (vtime_Time_Since.calls a1_0 a0_0 t259 _ A3.out).mono ?_
 rintro e w' ⟨rfl, ⟨nd, rfl⟩⟩
 refine ⟨_, rfl, ?_⟩
 refine hK.out _ _ ⟨(blk_cell BK258.out 0).trans rfl, (blk_cell BK258.out 1).trans rfl, (blk_cell BK258.out 2).trans rfl, (blk_cell BK257.out 0).trans rfl, (blk_cell BK257.out 1).trans rfl, (blk_cell BK257.out 2).trans rfl⟩ (fun hHeld => ?_)
 clear hK K
 refine norm_ (a' := ?_) ?_ ?_
 rotate_left
 ·show Act.put _ (some 9) _ = _
  simp only [Act.put, List.setIfInBounds_toArray, List.set_cons_zero, List.set_cons_succ, i64_w, i32_w]
  rfl
 refine one_ (i := 5) (N := some 10) #[true, true, true, true, true, true, true, true, true, true, true, true, true, true, true, true, true, true, true, true, false, false, false, false] rfl rfl (one_of HT_.out (by kernel_rfl)) (by decide) (fun K hK => ?_)
 refine goes_ Tryz.func63 (by kernel_rfl) rfl #[.int .i64 0, .int .i64 t259] (by rfl) rfl rfl argt ?_
 with_reducible refine (cmp_Compare_int64.calls 0 t259 t260 _ A4.out).mono ?_
 rintro e w' ⟨rfl, ⟨nd, rfl⟩⟩
 refine ⟨_, rfl, ?_⟩
 refine hK.out _ _ ⟨(blk_cell BK258.out 0).trans rfl, (blk_cell BK258.out 1).trans rfl, (blk_cell BK258.out 2).trans rfl, (blk_cell BK257.out 0).trans rfl, (blk_cell BK257.out 1).trans rfl, (blk_cell BK257.out 2).trans rfl⟩ (fun hHeld => ?_)
 clear hK K
 refine norm_ (a' := ?_) ?_ ?_
 rotate_left
 ·show Act.put _ (some 10) _ = _
  simp only [Act.put, List.setIfInBounds_toArray, List.set_cons_zero, List.set_cons_succ, i64_w, i32_w]
  rfl
 refine one_ (i := 20) (N := some 25) #[true, true, true, true, true, true, true, true, true, true, true, true, true, true, true, true, true, true, true, true, true, false, false, false] rfl rfl (one_of HT_.out (by kernel_rfl)) (by decide) (fun K hK => ?_)
 refine goes_ Tryz.func64 (by kernel_rfl) rfl #[.int .u64 (IntKind.u64.wrap ((IntKind.u64.wrap (a0_1)) * (IntKind.u64.wrap (a1_2)))), .int .u64 (IntKind.u64.wrap ((IntKind.u64.wrap (a1_1)) * (IntKind.u64.wrap (a0_2))))] (by rfl) rfl rfl argt ?_
 with_reducible refine (cmp_Compare_uint64.calls (IntKind.u64.wrap ((IntKind.u64.wrap (a0_1)) * (IntKind.u64.wrap (a1_2)))) (IntKind.u64.wrap ((IntKind.u64.wrap (a1_1)) * (IntKind.u64.wrap (a0_2)))) t261 _ A5.out).mono ?_
 rintro e w' ⟨rfl, ⟨nd, rfl⟩⟩
 refine ⟨_, rfl, ?_⟩
 refine hK.out _ _ ⟨(blk_cell BK258.out 0).trans rfl, (blk_cell BK258.out 1).trans rfl, (blk_cell BK258.out 2).trans rfl, (blk_cell BK257.out 0).trans rfl, (blk_cell BK257.out 1).trans rfl, (blk_cell BK257.out 2).trans rfl⟩ (fun hHeld => ?_)
 clear hK K
 refine norm_ (a' := ?_) ?_ ?_
 rotate_left
 ·show Act.put _ (some 25) _ = _
  simp only [Act.put, List.setIfInBounds_toArray, List.set_cons_zero, List.set_cons_succ, i64_w, i32_w]
  rfl
 refine one_ (i := 21) (N := some 26) #[true, true, true, true, true, true, true, true, true, true, true, true, true, true, true, true, true, true, true, true, true, true, false, false] rfl rfl (one_of HT_.out (by kernel_rfl)) (by decide) (fun K hK => ?_)
 refine Kd.R_lit_step (Kd.int .i64) _ 3 ?hg (N := 26) ?hd (xs := ([t260, t261] : List Int)) (inner := [.int .i64 t260, .int .i64 t261]) (ok := fun _ => True) (okp := fun _ => True) ?hr ?hp (fun _ hk => hk) trivial (Below.refl _ _) (Nat.le_refl _) (by simp) ?_; (case hd => rfl); (case hg => rfl); (case hr => first | (go_simp; done) | (go_simp; rfl)); (case hp => exact (Reps.one (show Kd.M (Kd.int .i64) _ _ _ t260 [.int .i64 t260] from rfl) (Reps.one (show Kd.M (Kd.int .i64) _ _ _ t261 [.int .i64 t261] from rfl) (Reps.none _ _))))
 intro v263 w10 ho11 hb hg_ hnew_
 clear hg_ hnew_
 (first | rw [← Ny262.out] at ho11 | (simp only [Int.reduceToNat] at ho11; rw [← Ny262.out] at ho11))
 have HO264 := Aside0.mk (Kd.R_lower ho11 (below_size (belt HB)))
 replace BK257 := blkb BK257 hb
 replace BK258 := blkb BK258 hb
 replace HB := belb HB hb
 clear hb ho11
 obtain ⟨Ao12, co12, eo12⟩ := Kd.R_slice HO264.out
 (first | subst eo12 | (injection eo12 with f1_ f2_ f3_; have f4_ := f1_.symm; have f5_ := f3_.symm; clear f1_ f2_ f3_; subst f4_; subst f5_))
 refine hK.out _ _ ⟨(blk_cell BK258.out 0).trans rfl, (blk_cell BK258.out 1).trans rfl, (blk_cell BK258.out 2).trans rfl, (blk_cell BK257.out 0).trans rfl, (blk_cell BK257.out 1).trans rfl, (blk_cell BK257.out 2).trans rfl⟩ (fun hHeld => ?_)
 clear hK K
 refine norm_ (a' := ?_) ?_ ?_
 rotate_left
 ·show Act.put _ (some 26) _ = _
  simp only [Act.put, List.setIfInBounds_toArray, List.set_cons_zero, List.set_cons_succ, i64_w, i32_w]
  rfl
 refine one_ (i := 22) (N := some 27) #[true, true, true, true, true, true, true, true, true, true, true, true, true, true, true, true, true, true, true, true, true, true, true, false] rfl rfl (one_of HT_.out (by kernel_rfl)) (by decide) (fun K hK => ?_)
 refine goes_ Tryz.func62 (by kernel_rfl) rfl #[.slice Ao12 y262.length co12] (by rfl) rfl rfl argt ?_
 with_reducible refine (cmp_Or_int.calls k _ _ y262 t265 _ ?side1 ?side2 A6.out).mono ?_
 (case side1 => repeat (first | exact (Kd.R_reads' HO264.out).2.2 | (with_reducible refine Kd.C_alloc ?_ _) | (with_reducible refine Kd.C_drewN ?_ _) | (with_reducible refine Kd.C_drew ?_)))
 (case side2 => exact (Kd.R_reads' HO264.out).2.1)
 rintro e w' ⟨rfl, ⟨nd, rfl⟩⟩
 refine ⟨_, rfl, ?_⟩
 refine hK.out _ _ ⟨(blk_cell BK258.out 0).trans rfl, (blk_cell BK258.out 1).trans rfl, (blk_cell BK258.out 2).trans rfl, (blk_cell BK257.out 0).trans rfl, (blk_cell BK257.out 1).trans rfl, (blk_cell BK257.out 2).trans rfl⟩ (fun hHeld => ?_)
 clear hK K
 refine norm_ (a' := ?_) ?_ ?_
 rotate_left
 ·show Act.put _ (some 27) _ = _
  simp only [Act.put, List.setIfInBounds_toArray, List.set_cons_zero, List.set_cons_succ, i64_w, i32_w]
  rfl
 refine pure_ (i := 23) (N := some 4) (v := ?_) (a' := ?_) #[true, true, true, true, true, true, true, true, true, true, true, true, true, true, true, true, true, true, true, true, true, true, true, true] rfl rfl (any_of HT_.out (by kernel_rfl)) (fun _ _ _ h => h) (Or.inl ⟨by rfl, ?_⟩) ?_ ?_
 rotate_left
 ·intro w'
  go_simp
  with_reducible rfl
 rotate_left
 ·simp only [Act.put, List.setIfInBounds_toArray, List.set_cons_zero, List.set_cons_succ, i64_w, i32_w]
  rfl
 refine done_ (done_of HT_.out (by kernel_rfl)) ?_
 try go_wp2
 go_ret
 exact ⟨by first | rfl | (simp [errW_none, errW_some] <;> rfl) | (simp [*, errW_none, errW_some] <;> rfl), belt HB⟩


attribute [local go_sem high] eqA28
/-! ### turnstonelaw10_PlaceOrders: function 7 -/
def turnstonelaw10_PlaceOrders.j0 : Nat → Int → Int → Int → Bool → Int → Int → Int → Int → Int → Option (Bool)
 | 0, _, _, _, _, _, _, _, _, _ => none
 | k + 1, x2, x3, x4, x50, x528000, x528001, x528002, x528003, x528004 => if x50 = true then (some true) else ((place_Place.f k x528000 x528001 x528002 x528003 x528004 0 x2 (mx x3 x4)).bind fun bt528 => ((place_Place.f k x528000 x528001 x528002 x528003 x528004 0 x2 (mn x3 x4)).bind fun bt533 => ((place_Place.f k x528000 x528001 x528002 x528003 x528004 0 0 x3).bind fun bt538 => ((place_Place.f k x528000 x528001 x528002 x528003 x528004 0 1048577 x3).bind fun bt543 => (if bt528.2.2.2 = true then (if bt533.2.2.2 = true then ((pos_Pos_Cmp.f k bt528.1 bt528.2.1 bt528.2.2.1 bt533.1 bt533.2.1 bt533.2.2.1).bind fun t548 => (if t548 ≤ 0 then (if x3 = x4 then (if (bt528.1 == bt533.1 && (bt528.2.1 == bt533.2.1 && (bt528.2.2.1 == bt533.2.2.1))) = true then (if bt538.2.2.2 = true then (none) else (some (!bt543.2.2.2))) else (none)) else (if bt538.2.2.2 = true then (none) else (some (!bt543.2.2.2)))) else (none))) else (none)) else (none))))))
def turnstonelaw10_PlaceOrders.f (k : Nat) (a0 : Int) (l1 : List (S28)) (a2 : Int) (a3 : Int) (a4 : Int) : Option (Bool) := (turnstonelaw10_awake.f).bind fun t520 => (if t520 = true then ((turnstonelaw10_near.f k a0 l1).bind fun bt521 => (if bt521.2.2.2.2.2 = true then (if a2 < 1 then (turnstonelaw10_PlaceOrders.j0 k a2 a3 a4 true bt521.1 bt521.2.1 bt521.2.2.1 bt521.2.2.2.1 bt521.2.2.2.2.1) else (if a2 > 1048576 then (turnstonelaw10_PlaceOrders.j0 k a2 a3 a4 true bt521.1 bt521.2.1 bt521.2.2.1 bt521.2.2.2.1 bt521.2.2.2.2.1) else (if (mn a3 a4) ≤ (-1125899906842624) then (turnstonelaw10_PlaceOrders.j0 k a2 a3 a4 true bt521.1 bt521.2.1 bt521.2.2.1 bt521.2.2.2.1 bt521.2.2.2.2.1) else (turnstonelaw10_PlaceOrders.j0 k a2 a3 a4 (decide ((mx a3 a4) ≥ 1125899906842624)) bt521.1 bt521.2.1 bt521.2.2.1 bt521.2.2.2.1 bt521.2.2.2.2.1)))) else (turnstonelaw10_PlaceOrders.j0 k a2 a3 a4 true bt521.1 bt521.2.1 bt521.2.2.1 bt521.2.2.2.1 bt521.2.2.2.2.1))) else (none))
theorem turnstonelaw10_PlaceOrders.mono_l : ∀ k, (∀ y0 y1 y2 y3 y4 y5 y6 y7 y8, LeO (turnstonelaw10_PlaceOrders.j0 k y0 y1 y2 y3 y4 y5 y6 y7 y8) (turnstonelaw10_PlaceOrders.j0 (k + 1) y0 y1 y2 y3 y4 y5 y6 y7 y8))
 | 0 => fun _ _ _ _ _ _ _ _ _ r h => by simp [turnstonelaw10_PlaceOrders.j0] at h
 | k + 1 => by
  have ih0 := turnstonelaw10_PlaceOrders.mono_l k
  ·intro y0 y1 y2 y3 y4 y5 y6 y7 y8
   unfold turnstonelaw10_PlaceOrders.j0
   repeat' first
   | (with_reducible exact ih0 _ _ _ _ _ _ _ _ _)
   | (with_reducible exact place_Place.mono _ _ _ _ _ _ _ _ _)
   | (with_reducible exact pos_Pos_Cmp.mono _ _ _ _ _ _ _)
   | (with_reducible exact turnstonelaw10_near.mono _ _ _)
   | (with_reducible exact LeO.refl _)
   | (with_reducible exact LeO.none _)
   | (with_reducible refine LeO.ite ?_ ?_)
   | (with_reducible refine LeO.bind ?_ (fun _ => ?_))
   | exact ih0 _ _ _ _ _ _ _ _ _
   | exact place_Place.mono _ _ _ _ _ _ _ _ _
   | exact pos_Pos_Cmp.mono _ _ _ _ _ _ _
   | exact turnstonelaw10_near.mono _ _ _
   | exact LeO.none _
   | refine LeO.ite ?_ ?_
   | refine LeO.bind ?_ (fun _ => ?_)
theorem turnstonelaw10_PlaceOrders.mono : ∀ a0 a1 a2 a3 a4 k, LeO (turnstonelaw10_PlaceOrders.f k a0 a1 a2 a3 a4) (turnstonelaw10_PlaceOrders.f (k + 1) a0 a1 a2 a3 a4) := by
 intro a0 a1 a2 a3 a4 k
 have ih0 := turnstonelaw10_PlaceOrders.mono_l k
 unfold turnstonelaw10_PlaceOrders.f
 repeat' first
   | (with_reducible exact ih0 _ _ _ _ _ _ _ _ _)
   | (with_reducible exact place_Place.mono _ _ _ _ _ _ _ _ _)
   | (with_reducible exact pos_Pos_Cmp.mono _ _ _ _ _ _ _)
   | (with_reducible exact turnstonelaw10_near.mono _ _ _)
   | (with_reducible exact LeO.refl _)
   | (with_reducible exact LeO.none _)
   | (with_reducible refine LeO.ite ?_ ?_)
   | (with_reducible refine LeO.bind ?_ (fun _ => ?_))
   | exact ih0 _ _ _ _ _ _ _ _ _
   | exact place_Place.mono _ _ _ _ _ _ _ _ _
   | exact pos_Pos_Cmp.mono _ _ _ _ _ _ _
   | exact turnstonelaw10_near.mono _ _ _
   | exact LeO.none _
   | refine LeO.ite ?_ ?_
   | refine LeO.bind ?_ (fun _ => ?_)
set_option maxHeartbeats 8000000 in
set_option maxRecDepth 100000 in
theorem turnstonelaw10_PlaceOrders.calls (k : Nat) (a0 : Int) (A1 : Option Addr) (c1 : Nat) (l1 : List (S28)) (a2 : Int) (a3 : Int) (a4 : Int) (r : Bool) (w : World) (hr1 : Kd.C k28 w A1 l1.length l1) (hc1 : l1.length ≤ c1) (h : turnstonelaw10_PlaceOrders.f k a0 l1 a2 a3 a4 = some r) :
  Calls Tryz.prog 7 #[.int .u64 a0, .slice A1 l1.length c1, .int .u32 a2, .int .i64 a3, .int .i64 a4] w fun e w' => e = .returned (.bool r) ∧ Below w.heap.size w w' := by
 have hu33 := Tryz.underlying33
 have hu28 := Tryz.underlying28
 have HR1 := Aside0.mk hr1
 have HC1 := Aside0.mk hc1
 clear hr1 hc1
 have HB := Aside0.mk (Below.refl w.heap.size w)
 have H : ((turnstonelaw10_awake.f).bind fun t520 => (if t520 = true then ((turnstonelaw10_near.f k a0 l1).bind fun bt521 => (if bt521.2.2.2.2.2 = true then (if a2 < 1 then (turnstonelaw10_PlaceOrders.j0 k a2 a3 a4 true bt521.1 bt521.2.1 bt521.2.2.1 bt521.2.2.2.1 bt521.2.2.2.2.1) else (if a2 > 1048576 then (turnstonelaw10_PlaceOrders.j0 k a2 a3 a4 true bt521.1 bt521.2.1 bt521.2.2.1 bt521.2.2.2.1 bt521.2.2.2.2.1) else (if (mn a3 a4) ≤ (-1125899906842624) then (turnstonelaw10_PlaceOrders.j0 k a2 a3 a4 true bt521.1 bt521.2.1 bt521.2.2.1 bt521.2.2.2.1 bt521.2.2.2.2.1) else (turnstonelaw10_PlaceOrders.j0 k a2 a3 a4 (decide ((mx a3 a4) ≥ 1125899906842624)) bt521.1 bt521.2.1 bt521.2.2.1 bt521.2.2.2.1 bt521.2.2.2.2.1)))) else (turnstonelaw10_PlaceOrders.j0 k a2 a3 a4 true bt521.1 bt521.2.1 bt521.2.2.1 bt521.2.2.2.1 bt521.2.2.2.2.1))) else (none))) = some r := h
 clear h
 replace H := Option.bind_eq_some_iff.mp H
 obtain ⟨t520, A60, H⟩ := H
 replace H : (if t520 = true then ((turnstonelaw10_near.f k a0 l1).bind fun bt521 => (if bt521.2.2.2.2.2 = true then (if a2 < 1 then (turnstonelaw10_PlaceOrders.j0 k a2 a3 a4 true bt521.1 bt521.2.1 bt521.2.2.1 bt521.2.2.2.1 bt521.2.2.2.2.1) else (if a2 > 1048576 then (turnstonelaw10_PlaceOrders.j0 k a2 a3 a4 true bt521.1 bt521.2.1 bt521.2.2.1 bt521.2.2.2.1 bt521.2.2.2.2.1) else (if (mn a3 a4) ≤ (-1125899906842624) then (turnstonelaw10_PlaceOrders.j0 k a2 a3 a4 true bt521.1 bt521.2.1 bt521.2.2.1 bt521.2.2.2.1 bt521.2.2.2.2.1) else (turnstonelaw10_PlaceOrders.j0 k a2 a3 a4 (decide ((mx a3 a4) ≥ 1125899906842624)) bt521.1 bt521.2.1 bt521.2.2.1 bt521.2.2.2.1 bt521.2.2.2.2.1)))) else (turnstonelaw10_PlaceOrders.j0 k a2 a3 a4 true bt521.1 bt521.2.1 bt521.2.2.1 bt521.2.2.2.1 bt521.2.2.2.2.1))) else (none)) = some r := H
 have A6 := Aside0.mk A60
 clear A60
 by_cases c7 : t520 = true
 ·subst c7
  have H1 : ((turnstonelaw10_near.f k a0 l1).bind fun bt521 => (if bt521.2.2.2.2.2 = true then (if a2 < 1 then (turnstonelaw10_PlaceOrders.j0 k a2 a3 a4 true bt521.1 bt521.2.1 bt521.2.2.1 bt521.2.2.2.1 bt521.2.2.2.2.1) else (if a2 > 1048576 then (turnstonelaw10_PlaceOrders.j0 k a2 a3 a4 true bt521.1 bt521.2.1 bt521.2.2.1 bt521.2.2.2.1 bt521.2.2.2.2.1) else (if (mn a3 a4) ≤ (-1125899906842624) then (turnstonelaw10_PlaceOrders.j0 k a2 a3 a4 true bt521.1 bt521.2.1 bt521.2.2.1 bt521.2.2.2.1 bt521.2.2.2.2.1) else (turnstonelaw10_PlaceOrders.j0 k a2 a3 a4 (decide ((mx a3 a4) ≥ 1125899906842624)) bt521.1 bt521.2.1 bt521.2.2.1 bt521.2.2.2.1 bt521.2.2.2.2.1)))) else (turnstonelaw10_PlaceOrders.j0 k a2 a3 a4 true bt521.1 bt521.2.1 bt521.2.2.1 bt521.2.2.2.1 bt521.2.2.2.2.1))) = some r := by rw [if_pos rfl] at H; exact H
  clear H
  have H := H1
  clear H1
  replace H := Option.bind_eq_some_iff.mp H
  obtain ⟨⟨t521, t522, t523, t524, t525, t526⟩, A80, H⟩ := H
  replace H : (if t526 = true then (if a2 < 1 then (turnstonelaw10_PlaceOrders.j0 k a2 a3 a4 true t521 t522 t523 t524 t525) else (if a2 > 1048576 then (turnstonelaw10_PlaceOrders.j0 k a2 a3 a4 true t521 t522 t523 t524 t525) else (if (mn a3 a4) ≤ (-1125899906842624) then (turnstonelaw10_PlaceOrders.j0 k a2 a3 a4 true t521 t522 t523 t524 t525) else (turnstonelaw10_PlaceOrders.j0 k a2 a3 a4 (decide ((mx a3 a4) ≥ 1125899906842624)) t521 t522 t523 t524 t525)))) else (turnstonelaw10_PlaceOrders.j0 k a2 a3 a4 true t521 t522 t523 t524 t525)) = some r := H
  have A8 := Aside0.mk A80
  clear A80
  have HC9 := Aside0.mk H
  clear H
  go_enter Tryz.func7, Tryz.ntmps7
  go_upto_region 4 with (first | ((with_reducible refine gate_callee (f := 28) rfl ?_); refine goesL_ (some 21) rfl rfl Tryz.func28 (by kernel_rfl) rfl #[] rfl argt ?_; (with_reducible refine (turnstonelaw10_awake.calls  true _ A6.out).mono ?_); rintro e w10 ⟨rfl, hb⟩; refine ⟨_, rfl, ?_⟩; replace HB := belb HB hb; (try clear hb); (try clear hb2); (try clear hk); (try clear hi)) | ((with_reducible refine gate_callee (f := 29) rfl ?_); refine goesL_ (some 26) rfl rfl Tryz.func29 (by kernel_rfl) rfl #[.int .u64 a0, .slice A1 l1.length c1] rfl argt ?_; (with_reducible refine (turnstonelaw10_near.calls k a0 _ _ l1 t521 t522 t523 t524 t525 t526 _ ?side1 ?side2 A8.out).mono ?_); (case side1 => exact (ct (Kd.C_below HR1.out HB.out))); (case side2 => exact HC1.out); rintro e w11 ⟨rfl, hb⟩; refine ⟨_, rfl, ?_⟩; replace HB := belb HB hb; (try clear hb); (try clear hb2); (try clear hk); (try clear hi)) | ((with_reducible refine gate_dst (N := 11) rfl ?_); (try (refine gate_guard (by rfl) ?_; dsimp only)); refine box_event ?hg (N := 11) ?hd (cs := #[.int .u64 0, .int .i64 0, .int .u64 0, .int .u64 0, .int .i64 0]) (t := 33) ?hr ?_; (case hd => rfl); (case hg => rfl); (case hr => first | (go_simp; done) | (go_simp; rfl)); intro gb527 hg w12 hbox hb; have BK527 := Aside0.mk (hbox); have GW527 := bels HB hg; have GE527 := bels HB hg; replace HB := belb HB hb; clear hb hbox hg; have hcz13_0 : w12.cell? ⟨gb527, 0, none⟩ = some (.int .u64 0) := (blk_cell BK527.out 0).trans rfl; have hcz13_1 : w12.cell? ⟨gb527, 1, none⟩ = some (.int .i64 0) := (blk_cell BK527.out 1).trans rfl; have hcz13_2 : w12.cell? ⟨gb527, 2, none⟩ = some (.int .u64 0) := (blk_cell BK527.out 2).trans rfl; have hcz13_3 : w12.cell? ⟨gb527, 3, none⟩ = some (.int .u64 0) := (blk_cell BK527.out 3).trans rfl; have hcz13_4 : w12.cell? ⟨gb527, 4, none⟩ = some (.int .i64 0) := (blk_cell BK527.out 4).trans rfl; have hfz13_0 := blk_frozen BK527.out 0; have hfz13_1 := blk_frozen BK527.out 1; have hfz13_2 := blk_frozen BK527.out 2; have hfz13_3 := blk_frozen BK527.out 3; have hfz13_4 := blk_frozen BK527.out 4))
  (try simp only [Act.put, List.setIfInBounds_toArray, List.set_cons_zero, List.set_cons_succ])
  go_cut [50] (fun v50 wc => ∃ (kq : Nat) (x50_8 : Bool), v50 = .bool x50_8 ∧ Aside0 (turnstonelaw10_PlaceOrders.j0 kq a2 a3 a4 x50_8 t521 t522 t523 t524 t525 = some r) ∧ Aside0 (kq ≤ k) ∧ Aside0 (wc.heap[gb527]? = some (.cells #[.int .u64 t521, .int .i64 t522, .int .u64 t523, .int .u64 t524, .int .i64 t525] 33 (0, 0))) ∧ Aside0 (Below w.heap.size w wc))
  case first =>
   have H := HC9.out
   clear HC9
   by_cases c14 : t526 = true
   ·subst c14
    have H1 : (if a2 < 1 then (turnstonelaw10_PlaceOrders.j0 k a2 a3 a4 true t521 t522 t523 t524 t525) else (if a2 > 1048576 then (turnstonelaw10_PlaceOrders.j0 k a2 a3 a4 true t521 t522 t523 t524 t525) else (if (mn a3 a4) ≤ (-1125899906842624) then (turnstonelaw10_PlaceOrders.j0 k a2 a3 a4 true t521 t522 t523 t524 t525) else (turnstonelaw10_PlaceOrders.j0 k a2 a3 a4 (decide ((mx a3 a4) ≥ 1125899906842624)) t521 t522 t523 t524 t525)))) = some r := by rw [if_pos rfl] at H; exact H
    clear H
    have H := H1
    clear H1
    by_cases c15 : a2 < 1
    ·rw [if_pos c15] at H
     have c15b0 : decide (a2 < 1) = true := decide_eq_true c15
     clear c15
     (first | rw [c15b0] | (simp only [i64_w, i32_w]; rw [c15b0]) | skip)
     have H' := Aside0.mk H
     clear H
     go_wp2
     go_meet
     case rel => exact ⟨_, (true), (by first | rfl | (simp; done) | (simp [*]; done)), H', ⟨by first | omega | exact Nat.le_refl _⟩, ⟨by (with_reducible repeat (first | refine blk_drewN ?_ _ | refine blk_drew ?_ | refine blk_alloc ?_ _)); refine blk_put (cs := #[.int .u64 t521, .int .i64 t522, .int .u64 t523, .int .u64 t524, .int .i64 0]) ?_ 4 _ rfl; (with_reducible repeat (first | refine blk_drewN ?_ _ | refine blk_drew ?_ | refine blk_alloc ?_ _)); refine blk_put (cs := #[.int .u64 t521, .int .i64 t522, .int .u64 t523, .int .u64 0, .int .i64 0]) ?_ 3 _ rfl; (with_reducible repeat (first | refine blk_drewN ?_ _ | refine blk_drew ?_ | refine blk_alloc ?_ _)); refine blk_put (cs := #[.int .u64 t521, .int .i64 t522, .int .u64 0, .int .u64 0, .int .i64 0]) ?_ 2 _ rfl; (with_reducible repeat (first | refine blk_drewN ?_ _ | refine blk_drew ?_ | refine blk_alloc ?_ _)); refine blk_put (cs := #[.int .u64 t521, .int .i64 0, .int .u64 0, .int .u64 0, .int .i64 0]) ?_ 1 _ rfl; (with_reducible repeat (first | refine blk_drewN ?_ _ | refine blk_drew ?_ | refine blk_alloc ?_ _)); refine blk_put (cs := #[.int .u64 0, .int .i64 0, .int .u64 0, .int .u64 0, .int .i64 0]) ?_ 0 _ rfl; exact blkt BK527⟩, ⟨belt HB⟩⟩
    ·rw [if_neg c15] at H
     have c15b0 : decide (a2 < 1) = false := decide_eq_false c15
     clear c15
     (first | rw [c15b0] | (simp only [i64_w, i32_w]; rw [c15b0]) | skip)
     by_cases c16 : a2 > 1048576
     ·rw [if_pos c16] at H
      have c16b0 : decide (1048576 < a2) = true := decide_eq_true c16
      clear c16
      have H' := Aside0.mk H
      clear H
      go_wp2
      go_meet
      case rel => exact ⟨_, (true), (by first | rfl | (simp; done) | (simp [*]; done)), H', ⟨by first | omega | exact Nat.le_refl _⟩, ⟨by (with_reducible repeat (first | refine blk_drewN ?_ _ | refine blk_drew ?_ | refine blk_alloc ?_ _)); refine blk_put (cs := #[.int .u64 t521, .int .i64 t522, .int .u64 t523, .int .u64 t524, .int .i64 0]) ?_ 4 _ rfl; (with_reducible repeat (first | refine blk_drewN ?_ _ | refine blk_drew ?_ | refine blk_alloc ?_ _)); refine blk_put (cs := #[.int .u64 t521, .int .i64 t522, .int .u64 t523, .int .u64 0, .int .i64 0]) ?_ 3 _ rfl; (with_reducible repeat (first | refine blk_drewN ?_ _ | refine blk_drew ?_ | refine blk_alloc ?_ _)); refine blk_put (cs := #[.int .u64 t521, .int .i64 t522, .int .u64 0, .int .u64 0, .int .i64 0]) ?_ 2 _ rfl; (with_reducible repeat (first | refine blk_drewN ?_ _ | refine blk_drew ?_ | refine blk_alloc ?_ _)); refine blk_put (cs := #[.int .u64 t521, .int .i64 0, .int .u64 0, .int .u64 0, .int .i64 0]) ?_ 1 _ rfl; (with_reducible repeat (first | refine blk_drewN ?_ _ | refine blk_drew ?_ | refine blk_alloc ?_ _)); refine blk_put (cs := #[.int .u64 0, .int .i64 0, .int .u64 0, .int .u64 0, .int .i64 0]) ?_ 0 _ rfl; exact blkt BK527⟩, ⟨belt HB⟩⟩
     ·rw [if_neg c16] at H
      have c16b0 : decide (1048576 < a2) = false := decide_eq_false c16
      clear c16
      obtain ⟨ji17, hji17⟩ : ∃ j_ : Int, (mn a3 a4) = j_ := ⟨_, rfl⟩
      replace H : (if (ji17) ≤ (-1125899906842624) then (turnstonelaw10_PlaceOrders.j0 k a2 a3 a4 true t521 t522 t523 t524 t525) else (turnstonelaw10_PlaceOrders.j0 k a2 a3 a4 (decide ((mx a3 a4) ≥ 1125899906842624)) t521 t522 t523 t524 t525)) = some r := by first | (rw [hji17] at H; exact H) | (simp only [hji17] at H ⊢; exact H)
      have hji17_ : (if a4 < a3 then a4 else a3) = ji17 := hji17
      by_cases c18 : (ji17) ≤ (-1125899906842624)
      ·rw [if_pos c18] at H
       have c18b0 : decide ((ji17) ≤ (-1125899906842624)) = true := decide_eq_true c18
       clear c18
       have H' := Aside0.mk H
       clear H
       go_wp2
       go_meet
       case rel => exact ⟨_, (true), (by first | rfl | (simp; done) | (simp [*]; done)), H', ⟨by first | omega | exact Nat.le_refl _⟩, ⟨by (with_reducible repeat (first | refine blk_drewN ?_ _ | refine blk_drew ?_ | refine blk_alloc ?_ _)); refine blk_put (cs := #[.int .u64 t521, .int .i64 t522, .int .u64 t523, .int .u64 t524, .int .i64 0]) ?_ 4 _ rfl; (with_reducible repeat (first | refine blk_drewN ?_ _ | refine blk_drew ?_ | refine blk_alloc ?_ _)); refine blk_put (cs := #[.int .u64 t521, .int .i64 t522, .int .u64 t523, .int .u64 0, .int .i64 0]) ?_ 3 _ rfl; (with_reducible repeat (first | refine blk_drewN ?_ _ | refine blk_drew ?_ | refine blk_alloc ?_ _)); refine blk_put (cs := #[.int .u64 t521, .int .i64 t522, .int .u64 0, .int .u64 0, .int .i64 0]) ?_ 2 _ rfl; (with_reducible repeat (first | refine blk_drewN ?_ _ | refine blk_drew ?_ | refine blk_alloc ?_ _)); refine blk_put (cs := #[.int .u64 t521, .int .i64 0, .int .u64 0, .int .u64 0, .int .i64 0]) ?_ 1 _ rfl; (with_reducible repeat (first | refine blk_drewN ?_ _ | refine blk_drew ?_ | refine blk_alloc ?_ _)); refine blk_put (cs := #[.int .u64 0, .int .i64 0, .int .u64 0, .int .u64 0, .int .i64 0]) ?_ 0 _ rfl; exact blkt BK527⟩, ⟨belt HB⟩⟩
      ·rw [if_neg c18] at H
       have c18b0 : decide ((ji17) ≤ (-1125899906842624)) = false := decide_eq_false c18
       clear c18
       obtain ⟨ji19, hji19⟩ : ∃ j_ : Int, (mx a3 a4) = j_ := ⟨_, rfl⟩
       replace H : (turnstonelaw10_PlaceOrders.j0 k a2 a3 a4 (decide ((ji19) ≥ 1125899906842624)) t521 t522 t523 t524 t525) = some r := by first | (rw [hji19] at H; exact H) | (simp only [hji19] at H ⊢; exact H)
       have hji19_ : (if a3 < a4 then a4 else a3) = ji19 := hji19
       have H' := Aside0.mk H
       clear H
       go_wp2
       go_meet
       case rel => exact ⟨_, (decide ((ji19) ≥ 1125899906842624)), (by first | rfl | (simp; done) | (simp only [← hji19]; first | rfl | (simp; done) | (simp [mn, mx]; done)) | (simp [*]; done)), H', ⟨by first | omega | exact Nat.le_refl _⟩, ⟨by (with_reducible repeat (first | refine blk_drewN ?_ _ | refine blk_drew ?_ | refine blk_alloc ?_ _)); refine blk_put (cs := #[.int .u64 t521, .int .i64 t522, .int .u64 t523, .int .u64 t524, .int .i64 0]) ?_ 4 _ rfl; (with_reducible repeat (first | refine blk_drewN ?_ _ | refine blk_drew ?_ | refine blk_alloc ?_ _)); refine blk_put (cs := #[.int .u64 t521, .int .i64 t522, .int .u64 t523, .int .u64 0, .int .i64 0]) ?_ 3 _ rfl; (with_reducible repeat (first | refine blk_drewN ?_ _ | refine blk_drew ?_ | refine blk_alloc ?_ _)); refine blk_put (cs := #[.int .u64 t521, .int .i64 t522, .int .u64 0, .int .u64 0, .int .i64 0]) ?_ 2 _ rfl; (with_reducible repeat (first | refine blk_drewN ?_ _ | refine blk_drew ?_ | refine blk_alloc ?_ _)); refine blk_put (cs := #[.int .u64 t521, .int .i64 0, .int .u64 0, .int .u64 0, .int .i64 0]) ?_ 1 _ rfl; (with_reducible repeat (first | refine blk_drewN ?_ _ | refine blk_drew ?_ | refine blk_alloc ?_ _)); refine blk_put (cs := #[.int .u64 0, .int .i64 0, .int .u64 0, .int .u64 0, .int .i64 0]) ?_ 0 _ rfl; exact blkt BK527⟩, ⟨belt HB⟩⟩
   ·replace c14 := Bool.eq_false_iff.mpr c14
    subst c14
    have H1 : (turnstonelaw10_PlaceOrders.j0 k a2 a3 a4 true t521 t522 t523 t524 t525) = some r := by rw [if_neg (show ¬ (false = true) by decide)] at H; exact H
    clear H
    have H := H1
    clear H1
    have H' := Aside0.mk H
    clear H
    go_wp2
    go_meet
    case rel => exact ⟨_, (true), (by first | rfl | (simp; done) | (simp [*]; done)), H', ⟨by first | omega | exact Nat.le_refl _⟩, ⟨by (with_reducible repeat (first | refine blk_drewN ?_ _ | refine blk_drew ?_ | refine blk_alloc ?_ _)); refine blk_put (cs := #[.int .u64 t521, .int .i64 t522, .int .u64 t523, .int .u64 t524, .int .i64 0]) ?_ 4 _ rfl; (with_reducible repeat (first | refine blk_drewN ?_ _ | refine blk_drew ?_ | refine blk_alloc ?_ _)); refine blk_put (cs := #[.int .u64 t521, .int .i64 t522, .int .u64 t523, .int .u64 0, .int .i64 0]) ?_ 3 _ rfl; (with_reducible repeat (first | refine blk_drewN ?_ _ | refine blk_drew ?_ | refine blk_alloc ?_ _)); refine blk_put (cs := #[.int .u64 t521, .int .i64 t522, .int .u64 0, .int .u64 0, .int .i64 0]) ?_ 2 _ rfl; (with_reducible repeat (first | refine blk_drewN ?_ _ | refine blk_drew ?_ | refine blk_alloc ?_ _)); refine blk_put (cs := #[.int .u64 t521, .int .i64 0, .int .u64 0, .int .u64 0, .int .i64 0]) ?_ 1 _ rfl; (with_reducible repeat (first | refine blk_drewN ?_ _ | refine blk_drew ?_ | refine blk_alloc ?_ _)); refine blk_put (cs := #[.int .u64 0, .int .i64 0, .int .u64 0, .int .u64 0, .int .i64 0]) ?_ 0 _ rfl; exact blkt BK527⟩, ⟨belt HB⟩⟩
  case rest =>
   clear HC9
   try clear c1
   try clear c2
   try clear p2
   try clear c7
   try clear c14
   try clear c15
   try clear c15b0
   try clear c16
   try clear c16b0
   try clear c18
   try clear c18b0
   try clear hcz13_0
   try clear hcz13_1
   try clear hcz13_2
   try clear hcz13_3
   try clear hcz13_4
   try clear hfz13_0
   try clear hfz13_1
   try clear hfz13_2
   try clear hfz13_3
   try clear hfz13_4
   obtain ⟨kq, x50_8, rfl, HA, HJ8, BK527, HB⟩ := hcut
   cases kq with
   | zero => exact absurd HA.out (by simp [turnstonelaw10_PlaceOrders.j0])
   | succ kj8 =>
    have H := HA.out
    clear HA
    simp only [turnstonelaw10_PlaceOrders.j0] at H
    by_cases c20 : x50_8 = true
    ·subst c20
     have H1 : (some true) = some r := by rw [if_pos rfl] at H; exact H
     clear H
     have H := H1
     clear H1
     obtain rfl := Option.some.inj H
     go_wp2
     go_ret
     exact ⟨by first | rfl | (simp [errW_none, errW_some] <;> rfl) | (simp [*, errW_none, errW_some] <;> rfl), belt HB⟩
    ·replace c20 := Bool.eq_false_iff.mpr c20
     subst c20
     have H1 : ((place_Place.f kj8 t521 t522 t523 t524 t525 0 a2 (mx a3 a4)).bind fun bt528 => ((place_Place.f kj8 t521 t522 t523 t524 t525 0 a2 (mn a3 a4)).bind fun bt533 => ((place_Place.f kj8 t521 t522 t523 t524 t525 0 0 a3).bind fun bt538 => ((place_Place.f kj8 t521 t522 t523 t524 t525 0 1048577 a3).bind fun bt543 => (if bt528.2.2.2 = true then (if bt533.2.2.2 = true then ((pos_Pos_Cmp.f kj8 bt528.1 bt528.2.1 bt528.2.2.1 bt533.1 bt533.2.1 bt533.2.2.1).bind fun t548 => (if t548 ≤ 0 then (if a3 = a4 then (if (bt528.1 == bt533.1 && (bt528.2.1 == bt533.2.1 && (bt528.2.2.1 == bt533.2.2.1))) = true then (if bt538.2.2.2 = true then (none) else (some (!bt543.2.2.2))) else (none)) else (if bt538.2.2.2 = true then (none) else (some (!bt543.2.2.2)))) else (none))) else (none)) else (none)))))) = some r := by rw [if_neg (show ¬ (false = true) by decide)] at H; exact H
     clear H
     have H := H1
     clear H1
     obtain ⟨ji21, hji21⟩ : ∃ j_ : Int, (mx a3 a4) = j_ := ⟨_, rfl⟩
     replace H : ((place_Place.f kj8 t521 t522 t523 t524 t525 0 a2 (ji21)).bind fun bt528 => ((place_Place.f kj8 t521 t522 t523 t524 t525 0 a2 (mn a3 a4)).bind fun bt533 => ((place_Place.f kj8 t521 t522 t523 t524 t525 0 0 a3).bind fun bt538 => ((place_Place.f kj8 t521 t522 t523 t524 t525 0 1048577 a3).bind fun bt543 => (if bt528.2.2.2 = true then (if bt533.2.2.2 = true then ((pos_Pos_Cmp.f kj8 bt528.1 bt528.2.1 bt528.2.2.1 bt533.1 bt533.2.1 bt533.2.2.1).bind fun t548 => (if t548 ≤ 0 then (if a3 = a4 then (if (bt528.1 == bt533.1 && (bt528.2.1 == bt533.2.1 && (bt528.2.2.1 == bt533.2.2.1))) = true then (if bt538.2.2.2 = true then (none) else (some (!bt543.2.2.2))) else (none)) else (if bt538.2.2.2 = true then (none) else (some (!bt543.2.2.2)))) else (none))) else (none)) else (none)))))) = some r := by first | (rw [hji21] at H; exact H) | (simp only [hji21] at H ⊢; exact H)
     have hji21_ : (if a3 < a4 then a4 else a3) = ji21 := hji21
     replace H := Option.bind_eq_some_iff.mp H
     obtain ⟨⟨t528, t529, t530, t531⟩, A220, H⟩ := H
     replace H : ((place_Place.f kj8 t521 t522 t523 t524 t525 0 a2 (mn a3 a4)).bind fun bt533 => ((place_Place.f kj8 t521 t522 t523 t524 t525 0 0 a3).bind fun bt538 => ((place_Place.f kj8 t521 t522 t523 t524 t525 0 1048577 a3).bind fun bt543 => (if t531 = true then (if bt533.2.2.2 = true then ((pos_Pos_Cmp.f kj8 t528 t529 t530 bt533.1 bt533.2.1 bt533.2.2.1).bind fun t548 => (if t548 ≤ 0 then (if a3 = a4 then (if (t528 == bt533.1 && (t529 == bt533.2.1 && (t530 == bt533.2.2.1))) = true then (if bt538.2.2.2 = true then (none) else (some (!bt543.2.2.2))) else (none)) else (if bt538.2.2.2 = true then (none) else (some (!bt543.2.2.2)))) else (none))) else (none)) else (none))))) = some r := H
     have A22 := Aside0.mk A220
     clear A220
     obtain ⟨ji23, hji23⟩ : ∃ j_ : Int, (mn a3 a4) = j_ := ⟨_, rfl⟩
     replace H : ((place_Place.f kj8 t521 t522 t523 t524 t525 0 a2 (ji23)).bind fun bt533 => ((place_Place.f kj8 t521 t522 t523 t524 t525 0 0 a3).bind fun bt538 => ((place_Place.f kj8 t521 t522 t523 t524 t525 0 1048577 a3).bind fun bt543 => (if t531 = true then (if bt533.2.2.2 = true then ((pos_Pos_Cmp.f kj8 t528 t529 t530 bt533.1 bt533.2.1 bt533.2.2.1).bind fun t548 => (if t548 ≤ 0 then (if a3 = a4 then (if (t528 == bt533.1 && (t529 == bt533.2.1 && (t530 == bt533.2.2.1))) = true then (if bt538.2.2.2 = true then (none) else (some (!bt543.2.2.2))) else (none)) else (if bt538.2.2.2 = true then (none) else (some (!bt543.2.2.2)))) else (none))) else (none)) else (none))))) = some r := by first | (rw [hji23] at H; exact H) | (simp only [hji23] at H ⊢; exact H)
     (try rw [hji23] at A22)
     have hji23_ : (if a4 < a3 then a4 else a3) = ji23 := hji23
     replace H := Option.bind_eq_some_iff.mp H
     obtain ⟨⟨t533, t534, t535, t536⟩, A240, H⟩ := H
     replace H : ((place_Place.f kj8 t521 t522 t523 t524 t525 0 0 a3).bind fun bt538 => ((place_Place.f kj8 t521 t522 t523 t524 t525 0 1048577 a3).bind fun bt543 => (if t531 = true then (if t536 = true then ((pos_Pos_Cmp.f kj8 t528 t529 t530 t533 t534 t535).bind fun t548 => (if t548 ≤ 0 then (if a3 = a4 then (if (t528 == t533 && (t529 == t534 && (t530 == t535))) = true then (if bt538.2.2.2 = true then (none) else (some (!bt543.2.2.2))) else (none)) else (if bt538.2.2.2 = true then (none) else (some (!bt543.2.2.2)))) else (none))) else (none)) else (none)))) = some r := H
     have A24 := Aside0.mk A240
     clear A240
     replace H := Option.bind_eq_some_iff.mp H
     obtain ⟨⟨t538, t539, t540, t541⟩, A250, H⟩ := H
     replace H : ((place_Place.f kj8 t521 t522 t523 t524 t525 0 1048577 a3).bind fun bt543 => (if t531 = true then (if t536 = true then ((pos_Pos_Cmp.f kj8 t528 t529 t530 t533 t534 t535).bind fun t548 => (if t548 ≤ 0 then (if a3 = a4 then (if (t528 == t533 && (t529 == t534 && (t530 == t535))) = true then (if t541 = true then (none) else (some (!bt543.2.2.2))) else (none)) else (if t541 = true then (none) else (some (!bt543.2.2.2)))) else (none))) else (none)) else (none))) = some r := H
     have A25 := Aside0.mk A250
     clear A250
     replace H := Option.bind_eq_some_iff.mp H
     obtain ⟨⟨t543, t544, t545, t546⟩, A260, H⟩ := H
     replace H : (if t531 = true then (if t536 = true then ((pos_Pos_Cmp.f kj8 t528 t529 t530 t533 t534 t535).bind fun t548 => (if t548 ≤ 0 then (if a3 = a4 then (if (t528 == t533 && (t529 == t534 && (t530 == t535))) = true then (if t541 = true then (none) else (some (!t546))) else (none)) else (if t541 = true then (none) else (some (!t546)))) else (none))) else (none)) else (none)) = some r := H
     have A26 := Aside0.mk A260
     clear A260
     by_cases c27 : t531 = true
     ·subst c27
      have H1 : (if t536 = true then ((pos_Pos_Cmp.f kj8 t528 t529 t530 t533 t534 t535).bind fun t548 => (if t548 ≤ 0 then (if a3 = a4 then (if (t528 == t533 && (t529 == t534 && (t530 == t535))) = true then (if t541 = true then (none) else (some (!t546))) else (none)) else (if t541 = true then (none) else (some (!t546)))) else (none))) else (none)) = some r := by rw [if_pos rfl] at H; exact H
      clear H
      have H := H1
      clear H1
      by_cases c28 : t536 = true
      ·subst c28
       have H1 : ((pos_Pos_Cmp.f kj8 t528 t529 t530 t533 t534 t535).bind fun t548 => (if t548 ≤ 0 then (if a3 = a4 then (if (t528 == t533 && (t529 == t534 && (t530 == t535))) = true then (if t541 = true then (none) else (some (!t546))) else (none)) else (if t541 = true then (none) else (some (!t546)))) else (none))) = some r := by rw [if_pos rfl] at H; exact H
       clear H
       have H := H1
       clear H1
       replace H := Option.bind_eq_some_iff.mp H
       obtain ⟨t548, A290, H⟩ := H
       replace H : (if t548 ≤ 0 then (if a3 = a4 then (if (t528 == t533 && (t529 == t534 && (t530 == t535))) = true then (if t541 = true then (none) else (some (!t546))) else (none)) else (if t541 = true then (none) else (some (!t546)))) else (none)) = some r := H
       have A29 := Aside0.mk A290
       clear A290
       by_cases c30 : t548 ≤ 0
       ·rw [if_pos c30] at H
        have c30b0 : decide (t548 ≤ 0) = true := decide_eq_true c30
        clear c30
        by_cases c31 : a3 = a4
        ·rw [if_pos c31] at H
         have c31b0 : (a3 == a4) = true := beq_iff_eq.mpr c31
         have c31b1 : (a3 != a4) = false := bne_eq_false_iff_eq.mpr c31
         clear c31
         by_cases c32 : (t528 == t533 && (t529 == t534 && (t530 == t535))) = true
         ·rw [if_pos c32] at H
          have c32b0 : (t528 == t533 && (t529 == t534 && (t530 == t535))) = true := c32
          (try (have c32b1 : decide (t528 = t533 && (t529 == t534 && (t530 == t535))) = true := by simpa using c32))
          (try (have c32b2 : (t528 == t533 && (t529 == t534 && (t530 == t535))) = true := by simpa using c32))
          clear c32
          by_cases c33 : t541 = true
          ·subst c33
           have H1 : (none) = some r := by rw [if_pos rfl] at H; exact H
           clear H
           have H := H1
           clear H1
           exact absurd H (by simp)
          ·replace c33 := Bool.eq_false_iff.mpr c33
           subst c33
           have H1 : (some (!t546)) = some r := by rw [if_neg (show ¬ (false = true) by decide)] at H; exact H
           clear H
           have H := H1
           clear H1
           obtain rfl := Option.some.inj H
           have hcz34_0 : wc.cell? ⟨gb527, 0, none⟩ = some (.int .u64 t521) := (blk_cell BK527.out 0).trans rfl
           have hcz34_1 : wc.cell? ⟨gb527, 1, none⟩ = some (.int .i64 t522) := (blk_cell BK527.out 1).trans rfl
           have hcz34_2 : wc.cell? ⟨gb527, 2, none⟩ = some (.int .u64 t523) := (blk_cell BK527.out 2).trans rfl
           have hcz34_3 : wc.cell? ⟨gb527, 3, none⟩ = some (.int .u64 t524) := (blk_cell BK527.out 3).trans rfl
           have hcz34_4 : wc.cell? ⟨gb527, 4, none⟩ = some (.int .i64 t525) := (blk_cell BK527.out 4).trans rfl
           have hfz34_0 := blk_frozen BK527.out 0
           have hfz34_1 := blk_frozen BK527.out 1
           have hfz34_2 := blk_frozen BK527.out 2
           have hfz34_3 := blk_frozen BK527.out 3
           have hfz34_4 := blk_frozen BK527.out 4
           go_wp2_with (first | ((with_reducible refine gate_callee (f := 30) rfl ?_); refine goesL_ (some 57) rfl rfl Tryz.func30 (by kernel_rfl) rfl #[.agg #[.int .u64 t521, .int .i64 t522, .int .u64 t523, .int .u64 t524, .int .i64 t525], .int .u64 0, .int .u32 a2, .int .i64 ji21] rfl (by (try simp only [List.map_toArray, List.map_cons, List.map_nil]); first | done | (simp only [hji21]; rfl) | rfl | (simp only [List.length_drop, List.length_take]; rfl)) ?_; (with_reducible refine (place_Place.calls kj8 t521 t522 t523 t524 t525 0 a2 ji21 t528 t529 t530 true _ A22.out).mono ?_); rintro e w35 ⟨rfl, hb⟩; refine ⟨_, rfl, ?_⟩; replace BK527 := blkb BK527 hb; replace HB := belb HB hb; (try clear hb); (try clear hb2); (try clear hk); (try clear hi)) | ((with_reducible refine gate_dst (N := 13) rfl ?_); (try (refine gate_guard (by rfl) ?_; dsimp only)); refine box_event ?hg (N := 13) ?hd (cs := #[.int .u64 0, .int .u32 0, .int .u32 0]) (t := 28) ?hr ?_; (case hd => rfl); (case hg => rfl); (case hr => first | (go_simp; done) | (go_simp; rfl)); intro gb532 hg w36 hbox hb; have BK532 := Aside0.mk (hbox); have GW532 := bels HB hg; have GE532 := bels HB hg; have NB527_532 := blkl BK527 hg; have NB532_527 := blkg BK527 hg; replace BK527 := blkb BK527 hb; replace HB := belb HB hb; clear hb hbox hg; have hnb37 := NB532_527.out; have hnc37 := NB527_532.out; have hcz38_0 : w36.cell? ⟨gb532, 0, none⟩ = some (.int .u64 0) := (blk_cell BK532.out 0).trans rfl; have hcz38_1 : w36.cell? ⟨gb532, 1, none⟩ = some (.int .u32 0) := (blk_cell BK532.out 1).trans rfl; have hcz38_2 : w36.cell? ⟨gb532, 2, none⟩ = some (.int .u32 0) := (blk_cell BK532.out 2).trans rfl; have hfz38_0 := blk_frozen BK532.out 0; have hfz38_1 := blk_frozen BK532.out 1; have hfz38_2 := blk_frozen BK532.out 2; have hcz39_0 : w36.cell? ⟨gb527, 0, none⟩ = some (.int .u64 t521) := (blk_cell BK527.out 0).trans rfl; have hcz39_1 : w36.cell? ⟨gb527, 1, none⟩ = some (.int .i64 t522) := (blk_cell BK527.out 1).trans rfl; have hcz39_2 : w36.cell? ⟨gb527, 2, none⟩ = some (.int .u64 t523) := (blk_cell BK527.out 2).trans rfl; have hcz39_3 : w36.cell? ⟨gb527, 3, none⟩ = some (.int .u64 t524) := (blk_cell BK527.out 3).trans rfl; have hcz39_4 : w36.cell? ⟨gb527, 4, none⟩ = some (.int .i64 t525) := (blk_cell BK527.out 4).trans rfl; have hfz39_0 := blk_frozen BK527.out 0; have hfz39_1 := blk_frozen BK527.out 1; have hfz39_2 := blk_frozen BK527.out 2; have hfz39_3 := blk_frozen BK527.out 3; have hfz39_4 := blk_frozen BK527.out 4) | ((with_reducible refine gate_callee (f := 30) rfl ?_); refine goesL_ (some 66) rfl rfl Tryz.func30 (by kernel_rfl) rfl #[.agg #[.int .u64 t521, .int .i64 t522, .int .u64 t523, .int .u64 t524, .int .i64 t525], .int .u64 0, .int .u32 a2, .int .i64 ji23] rfl (by (try simp only [List.map_toArray, List.map_cons, List.map_nil]); first | done | (simp only [hji23]; rfl) | rfl | (simp only [List.length_drop, List.length_take]; rfl)) ?_; (with_reducible refine (place_Place.calls kj8 t521 t522 t523 t524 t525 0 a2 ji23 t533 t534 t535 true _ A24.out).mono ?_); rintro e w40 ⟨rfl, hb⟩; refine ⟨_, rfl, ?_⟩; replace BK527 := Aside0.mk (blk_below (g := gb527) (o := .cells #[.int .u64 t521, .int .i64 t522, .int .u64 t523, .int .u64 t524, .int .i64 t525] 33 (0, 0)) (by (with_reducible repeat (first | refine blk_drewN ?_ _ | refine blk_drew ?_ | refine blk_alloc ?_ _)); refine blk_far ?_ NB527_532.out _; (with_reducible repeat (first | refine blk_drewN ?_ _ | refine blk_drew ?_ | refine blk_alloc ?_ _)); refine blk_far ?_ NB527_532.out _; (with_reducible repeat (first | refine blk_drewN ?_ _ | refine blk_drew ?_ | refine blk_alloc ?_ _)); refine blk_far ?_ NB527_532.out _; exact blkt BK527) hb); replace BK532 := Aside0.mk (blk_below (g := gb532) (o := .cells #[.int .u64 t528, .int .u32 t529, .int .u32 t530] 28 (0, 0)) (by (with_reducible repeat (first | refine blk_drewN ?_ _ | refine blk_drew ?_ | refine blk_alloc ?_ _)); refine blk_put (cs := #[.int .u64 t528, .int .u32 t529, .int .u32 0]) ?_ 2 _ rfl; (with_reducible repeat (first | refine blk_drewN ?_ _ | refine blk_drew ?_ | refine blk_alloc ?_ _)); refine blk_put (cs := #[.int .u64 t528, .int .u32 0, .int .u32 0]) ?_ 1 _ rfl; (with_reducible repeat (first | refine blk_drewN ?_ _ | refine blk_drew ?_ | refine blk_alloc ?_ _)); refine blk_put (cs := #[.int .u64 0, .int .u32 0, .int .u32 0]) ?_ 0 _ rfl; exact blkt BK532) hb); replace HB := belb HB hb; (try clear hb); (try clear hb2); (try clear hk); (try clear hi)) | ((with_reducible refine gate_dst (N := 15) rfl ?_); (try (refine gate_guard (by rfl) ?_; dsimp only)); refine box_event ?hg (N := 15) ?hd (cs := #[.int .u64 0, .int .u32 0, .int .u32 0]) (t := 28) ?hr ?_; (case hd => rfl); (case hg => rfl); (case hr => first | (go_simp; done) | (go_simp; rfl)); intro gb537 hg w41 hbox hb; have BK537 := Aside0.mk (hbox); have GW537 := bels HB hg; have GE537 := bels HB hg; have NB527_537 := blkl BK527 hg; have NB537_527 := blkg BK527 hg; have NB532_537 := blkl BK532 hg; have NB537_532 := blkg BK532 hg; replace BK527 := blkb BK527 hb; replace BK532 := blkb BK532 hb; replace HB := belb HB hb; clear hb hbox hg; have hnb42 := NB537_527.out; have hnc42 := NB527_537.out; have hnb43 := NB537_532.out; have hnc43 := NB532_537.out; have hcz44_0 : w41.cell? ⟨gb537, 0, none⟩ = some (.int .u64 0) := (blk_cell BK537.out 0).trans rfl; have hcz44_1 : w41.cell? ⟨gb537, 1, none⟩ = some (.int .u32 0) := (blk_cell BK537.out 1).trans rfl; have hcz44_2 : w41.cell? ⟨gb537, 2, none⟩ = some (.int .u32 0) := (blk_cell BK537.out 2).trans rfl; have hfz44_0 := blk_frozen BK537.out 0; have hfz44_1 := blk_frozen BK537.out 1; have hfz44_2 := blk_frozen BK537.out 2; have hcz45_0 : w41.cell? ⟨gb527, 0, none⟩ = some (.int .u64 t521) := (blk_cell BK527.out 0).trans rfl; have hcz45_1 : w41.cell? ⟨gb527, 1, none⟩ = some (.int .i64 t522) := (blk_cell BK527.out 1).trans rfl; have hcz45_2 : w41.cell? ⟨gb527, 2, none⟩ = some (.int .u64 t523) := (blk_cell BK527.out 2).trans rfl; have hcz45_3 : w41.cell? ⟨gb527, 3, none⟩ = some (.int .u64 t524) := (blk_cell BK527.out 3).trans rfl; have hcz45_4 : w41.cell? ⟨gb527, 4, none⟩ = some (.int .i64 t525) := (blk_cell BK527.out 4).trans rfl; have hfz45_0 := blk_frozen BK527.out 0; have hfz45_1 := blk_frozen BK527.out 1; have hfz45_2 := blk_frozen BK527.out 2; have hfz45_3 := blk_frozen BK527.out 3; have hfz45_4 := blk_frozen BK527.out 4) | ((with_reducible refine gate_callee (f := 30) rfl ?_); refine goesL_ (some 72) rfl rfl Tryz.func30 (by kernel_rfl) rfl #[.agg #[.int .u64 t521, .int .i64 t522, .int .u64 t523, .int .u64 t524, .int .i64 t525], .int .u64 0, .int .u32 0, .int .i64 a3] rfl argt ?_; (with_reducible refine (place_Place.calls kj8 t521 t522 t523 t524 t525 0 0 a3 t538 t539 t540 false _ A25.out).mono ?_); rintro e w46 ⟨rfl, hb⟩; refine ⟨_, rfl, ?_⟩; replace BK527 := Aside0.mk (blk_below (g := gb527) (o := .cells #[.int .u64 t521, .int .i64 t522, .int .u64 t523, .int .u64 t524, .int .i64 t525] 33 (0, 0)) (by (with_reducible repeat (first | refine blk_drewN ?_ _ | refine blk_drew ?_ | refine blk_alloc ?_ _)); refine blk_far ?_ NB527_537.out _; (with_reducible repeat (first | refine blk_drewN ?_ _ | refine blk_drew ?_ | refine blk_alloc ?_ _)); refine blk_far ?_ NB527_537.out _; (with_reducible repeat (first | refine blk_drewN ?_ _ | refine blk_drew ?_ | refine blk_alloc ?_ _)); refine blk_far ?_ NB527_537.out _; exact blkt BK527) hb); replace BK532 := Aside0.mk (blk_below (g := gb532) (o := .cells #[.int .u64 t528, .int .u32 t529, .int .u32 t530] 28 (0, 0)) (by (with_reducible repeat (first | refine blk_drewN ?_ _ | refine blk_drew ?_ | refine blk_alloc ?_ _)); refine blk_far ?_ NB532_537.out _; (with_reducible repeat (first | refine blk_drewN ?_ _ | refine blk_drew ?_ | refine blk_alloc ?_ _)); refine blk_far ?_ NB532_537.out _; (with_reducible repeat (first | refine blk_drewN ?_ _ | refine blk_drew ?_ | refine blk_alloc ?_ _)); refine blk_far ?_ NB532_537.out _; exact blkt BK532) hb); replace BK537 := Aside0.mk (blk_below (g := gb537) (o := .cells #[.int .u64 t533, .int .u32 t534, .int .u32 t535] 28 (0, 0)) (by (with_reducible repeat (first | refine blk_drewN ?_ _ | refine blk_drew ?_ | refine blk_alloc ?_ _)); refine blk_put (cs := #[.int .u64 t533, .int .u32 t534, .int .u32 0]) ?_ 2 _ rfl; (with_reducible repeat (first | refine blk_drewN ?_ _ | refine blk_drew ?_ | refine blk_alloc ?_ _)); refine blk_put (cs := #[.int .u64 t533, .int .u32 0, .int .u32 0]) ?_ 1 _ rfl; (with_reducible repeat (first | refine blk_drewN ?_ _ | refine blk_drew ?_ | refine blk_alloc ?_ _)); refine blk_put (cs := #[.int .u64 0, .int .u32 0, .int .u32 0]) ?_ 0 _ rfl; exact blkt BK537) hb); replace HB := belb HB hb; (try clear hb); (try clear hb2); (try clear hk); (try clear hi)) | ((with_reducible refine gate_dst (N := 17) rfl ?_); (try (refine gate_guard (by rfl) ?_; dsimp only)); refine box_event ?hg (N := 17) ?hd (cs := #[.int .u64 0, .int .u32 0, .int .u32 0]) (t := 28) ?hr ?_; (case hd => rfl); (case hg => rfl); (case hr => first | (go_simp; done) | (go_simp; rfl)); intro gb542 hg w47 hbox hb; have BK542 := Aside0.mk (hbox); have GW542 := bels HB hg; have GE542 := bels HB hg; have NB527_542 := blkl BK527 hg; have NB542_527 := blkg BK527 hg; have NB532_542 := blkl BK532 hg; have NB542_532 := blkg BK532 hg; have NB537_542 := blkl BK537 hg; have NB542_537 := blkg BK537 hg; replace BK527 := blkb BK527 hb; replace BK532 := blkb BK532 hb; replace BK537 := blkb BK537 hb; replace HB := belb HB hb; clear hb hbox hg; have hnb48 := NB542_527.out; have hnc48 := NB527_542.out; have hnb49 := NB542_532.out; have hnc49 := NB532_542.out; have hnb50 := NB542_537.out; have hnc50 := NB537_542.out; have hcz51_0 : w47.cell? ⟨gb542, 0, none⟩ = some (.int .u64 0) := (blk_cell BK542.out 0).trans rfl; have hcz51_1 : w47.cell? ⟨gb542, 1, none⟩ = some (.int .u32 0) := (blk_cell BK542.out 1).trans rfl; have hcz51_2 : w47.cell? ⟨gb542, 2, none⟩ = some (.int .u32 0) := (blk_cell BK542.out 2).trans rfl; have hfz51_0 := blk_frozen BK542.out 0; have hfz51_1 := blk_frozen BK542.out 1; have hfz51_2 := blk_frozen BK542.out 2; have hcz52_0 : w47.cell? ⟨gb527, 0, none⟩ = some (.int .u64 t521) := (blk_cell BK527.out 0).trans rfl; have hcz52_1 : w47.cell? ⟨gb527, 1, none⟩ = some (.int .i64 t522) := (blk_cell BK527.out 1).trans rfl; have hcz52_2 : w47.cell? ⟨gb527, 2, none⟩ = some (.int .u64 t523) := (blk_cell BK527.out 2).trans rfl; have hcz52_3 : w47.cell? ⟨gb527, 3, none⟩ = some (.int .u64 t524) := (blk_cell BK527.out 3).trans rfl; have hcz52_4 : w47.cell? ⟨gb527, 4, none⟩ = some (.int .i64 t525) := (blk_cell BK527.out 4).trans rfl; have hfz52_0 := blk_frozen BK527.out 0; have hfz52_1 := blk_frozen BK527.out 1; have hfz52_2 := blk_frozen BK527.out 2; have hfz52_3 := blk_frozen BK527.out 3; have hfz52_4 := blk_frozen BK527.out 4) | ((with_reducible refine gate_callee (f := 30) rfl ?_); refine goesL_ (some 78) rfl rfl Tryz.func30 (by kernel_rfl) rfl #[.agg #[.int .u64 t521, .int .i64 t522, .int .u64 t523, .int .u64 t524, .int .i64 t525], .int .u64 0, .int .u32 1048577, .int .i64 a3] rfl argt ?_; (with_reducible refine (place_Place.calls kj8 t521 t522 t523 t524 t525 0 1048577 a3 t543 t544 t545 t546 _ A26.out).mono ?_); rintro e w53 ⟨rfl, hb⟩; refine ⟨_, rfl, ?_⟩; replace BK527 := Aside0.mk (blk_below (g := gb527) (o := .cells #[.int .u64 t521, .int .i64 t522, .int .u64 t523, .int .u64 t524, .int .i64 t525] 33 (0, 0)) (by (with_reducible repeat (first | refine blk_drewN ?_ _ | refine blk_drew ?_ | refine blk_alloc ?_ _)); refine blk_far ?_ NB527_542.out _; (with_reducible repeat (first | refine blk_drewN ?_ _ | refine blk_drew ?_ | refine blk_alloc ?_ _)); refine blk_far ?_ NB527_542.out _; (with_reducible repeat (first | refine blk_drewN ?_ _ | refine blk_drew ?_ | refine blk_alloc ?_ _)); refine blk_far ?_ NB527_542.out _; exact blkt BK527) hb); replace BK532 := Aside0.mk (blk_below (g := gb532) (o := .cells #[.int .u64 t528, .int .u32 t529, .int .u32 t530] 28 (0, 0)) (by (with_reducible repeat (first | refine blk_drewN ?_ _ | refine blk_drew ?_ | refine blk_alloc ?_ _)); refine blk_far ?_ NB532_542.out _; (with_reducible repeat (first | refine blk_drewN ?_ _ | refine blk_drew ?_ | refine blk_alloc ?_ _)); refine blk_far ?_ NB532_542.out _; (with_reducible repeat (first | refine blk_drewN ?_ _ | refine blk_drew ?_ | refine blk_alloc ?_ _)); refine blk_far ?_ NB532_542.out _; exact blkt BK532) hb); replace BK537 := Aside0.mk (blk_below (g := gb537) (o := .cells #[.int .u64 t533, .int .u32 t534, .int .u32 t535] 28 (0, 0)) (by (with_reducible repeat (first | refine blk_drewN ?_ _ | refine blk_drew ?_ | refine blk_alloc ?_ _)); refine blk_far ?_ NB537_542.out _; (with_reducible repeat (first | refine blk_drewN ?_ _ | refine blk_drew ?_ | refine blk_alloc ?_ _)); refine blk_far ?_ NB537_542.out _; (with_reducible repeat (first | refine blk_drewN ?_ _ | refine blk_drew ?_ | refine blk_alloc ?_ _)); refine blk_far ?_ NB537_542.out _; exact blkt BK537) hb); replace BK542 := Aside0.mk (blk_below (g := gb542) (o := .cells #[.int .u64 t538, .int .u32 t539, .int .u32 t540] 28 (0, 0)) (by (with_reducible repeat (first | refine blk_drewN ?_ _ | refine blk_drew ?_ | refine blk_alloc ?_ _)); refine blk_put (cs := #[.int .u64 t538, .int .u32 t539, .int .u32 0]) ?_ 2 _ rfl; (with_reducible repeat (first | refine blk_drewN ?_ _ | refine blk_drew ?_ | refine blk_alloc ?_ _)); refine blk_put (cs := #[.int .u64 t538, .int .u32 0, .int .u32 0]) ?_ 1 _ rfl; (with_reducible repeat (first | refine blk_drewN ?_ _ | refine blk_drew ?_ | refine blk_alloc ?_ _)); refine blk_put (cs := #[.int .u64 0, .int .u32 0, .int .u32 0]) ?_ 0 _ rfl; exact blkt BK542) hb); replace HB := belb HB hb; (try clear hb); (try clear hb2); (try clear hk); (try clear hi)) | ((with_reducible refine gate_dst (N := 19) rfl ?_); (try (refine gate_guard (by rfl) ?_; dsimp only)); refine box_event ?hg (N := 19) ?hd (cs := #[.int .u64 0, .int .u32 0, .int .u32 0]) (t := 28) ?hr ?_; (case hd => rfl); (case hg => rfl); (case hr => first | (go_simp; done) | (go_simp; rfl)); intro gb547 hg w54 hbox hb; have BK547 := Aside0.mk (hbox); have GW547 := bels HB hg; have GE547 := bels HB hg; have NB527_547 := blkl BK527 hg; have NB547_527 := blkg BK527 hg; have NB532_547 := blkl BK532 hg; have NB547_532 := blkg BK532 hg; have NB537_547 := blkl BK537 hg; have NB547_537 := blkg BK537 hg; have NB542_547 := blkl BK542 hg; have NB547_542 := blkg BK542 hg; replace BK527 := blkb BK527 hb; replace BK532 := blkb BK532 hb; replace BK537 := blkb BK537 hb; replace BK542 := blkb BK542 hb; replace HB := belb HB hb; clear hb hbox hg; have hnb55 := NB547_527.out; have hnc55 := NB527_547.out; have hnb56 := NB547_532.out; have hnc56 := NB532_547.out; have hnb57 := NB547_537.out; have hnc57 := NB537_547.out; have hnb58 := NB547_542.out; have hnc58 := NB542_547.out; have hcz59_0 : w54.cell? ⟨gb547, 0, none⟩ = some (.int .u64 0) := (blk_cell BK547.out 0).trans rfl; have hcz59_1 : w54.cell? ⟨gb547, 1, none⟩ = some (.int .u32 0) := (blk_cell BK547.out 1).trans rfl; have hcz59_2 : w54.cell? ⟨gb547, 2, none⟩ = some (.int .u32 0) := (blk_cell BK547.out 2).trans rfl; have hfz59_0 := blk_frozen BK547.out 0; have hfz59_1 := blk_frozen BK547.out 1; have hfz59_2 := blk_frozen BK547.out 2; have hcz60_0 : w54.cell? ⟨gb532, 0, none⟩ = some (.int .u64 t528) := (blk_cell BK532.out 0).trans rfl; have hcz60_1 : w54.cell? ⟨gb532, 1, none⟩ = some (.int .u32 t529) := (blk_cell BK532.out 1).trans rfl; have hcz60_2 : w54.cell? ⟨gb532, 2, none⟩ = some (.int .u32 t530) := (blk_cell BK532.out 2).trans rfl; have hfz60_0 := blk_frozen BK532.out 0; have hfz60_1 := blk_frozen BK532.out 1; have hfz60_2 := blk_frozen BK532.out 2; have hcz61_0 : w54.cell? ⟨gb537, 0, none⟩ = some (.int .u64 t533) := (blk_cell BK537.out 0).trans rfl; have hcz61_1 : w54.cell? ⟨gb537, 1, none⟩ = some (.int .u32 t534) := (blk_cell BK537.out 1).trans rfl; have hcz61_2 : w54.cell? ⟨gb537, 2, none⟩ = some (.int .u32 t535) := (blk_cell BK537.out 2).trans rfl; have hfz61_0 := blk_frozen BK537.out 0; have hfz61_1 := blk_frozen BK537.out 1; have hfz61_2 := blk_frozen BK537.out 2) | (go_at_call 33; (with_reducible refine (pos_Pos_Cmp.calls kj8 t528 t529 t530 t533 t534 t535 t548 _ A29.out).mono ?_); rintro e w62 ⟨rfl, hb⟩; replace BK527 := Aside0.mk (blk_below (g := gb527) (o := .cells #[.int .u64 t521, .int .i64 t522, .int .u64 t523, .int .u64 t524, .int .i64 t525] 33 (0, 0)) (by (with_reducible repeat (first | refine blk_drewN ?_ _ | refine blk_drew ?_ | refine blk_alloc ?_ _)); refine blk_far ?_ NB527_547.out _; (with_reducible repeat (first | refine blk_drewN ?_ _ | refine blk_drew ?_ | refine blk_alloc ?_ _)); refine blk_far ?_ NB527_547.out _; (with_reducible repeat (first | refine blk_drewN ?_ _ | refine blk_drew ?_ | refine blk_alloc ?_ _)); refine blk_far ?_ NB527_547.out _; exact blkt BK527) hb); replace BK532 := Aside0.mk (blk_below (g := gb532) (o := .cells #[.int .u64 t528, .int .u32 t529, .int .u32 t530] 28 (0, 0)) (by (with_reducible repeat (first | refine blk_drewN ?_ _ | refine blk_drew ?_ | refine blk_alloc ?_ _)); refine blk_far ?_ NB532_547.out _; (with_reducible repeat (first | refine blk_drewN ?_ _ | refine blk_drew ?_ | refine blk_alloc ?_ _)); refine blk_far ?_ NB532_547.out _; (with_reducible repeat (first | refine blk_drewN ?_ _ | refine blk_drew ?_ | refine blk_alloc ?_ _)); refine blk_far ?_ NB532_547.out _; exact blkt BK532) hb); replace BK537 := Aside0.mk (blk_below (g := gb537) (o := .cells #[.int .u64 t533, .int .u32 t534, .int .u32 t535] 28 (0, 0)) (by (with_reducible repeat (first | refine blk_drewN ?_ _ | refine blk_drew ?_ | refine blk_alloc ?_ _)); refine blk_far ?_ NB537_547.out _; (with_reducible repeat (first | refine blk_drewN ?_ _ | refine blk_drew ?_ | refine blk_alloc ?_ _)); refine blk_far ?_ NB537_547.out _; (with_reducible repeat (first | refine blk_drewN ?_ _ | refine blk_drew ?_ | refine blk_alloc ?_ _)); refine blk_far ?_ NB537_547.out _; exact blkt BK537) hb); replace BK542 := Aside0.mk (blk_below (g := gb542) (o := .cells #[.int .u64 t538, .int .u32 t539, .int .u32 t540] 28 (0, 0)) (by (with_reducible repeat (first | refine blk_drewN ?_ _ | refine blk_drew ?_ | refine blk_alloc ?_ _)); refine blk_far ?_ NB542_547.out _; (with_reducible repeat (first | refine blk_drewN ?_ _ | refine blk_drew ?_ | refine blk_alloc ?_ _)); refine blk_far ?_ NB542_547.out _; (with_reducible repeat (first | refine blk_drewN ?_ _ | refine blk_drew ?_ | refine blk_alloc ?_ _)); refine blk_far ?_ NB542_547.out _; exact blkt BK542) hb); replace BK547 := Aside0.mk (blk_below (g := gb547) (o := .cells #[.int .u64 t543, .int .u32 t544, .int .u32 t545] 28 (0, 0)) (by (with_reducible repeat (first | refine blk_drewN ?_ _ | refine blk_drew ?_ | refine blk_alloc ?_ _)); refine blk_put (cs := #[.int .u64 t543, .int .u32 t544, .int .u32 0]) ?_ 2 _ rfl; (with_reducible repeat (first | refine blk_drewN ?_ _ | refine blk_drew ?_ | refine blk_alloc ?_ _)); refine blk_put (cs := #[.int .u64 t543, .int .u32 0, .int .u32 0]) ?_ 1 _ rfl; (with_reducible repeat (first | refine blk_drewN ?_ _ | refine blk_drew ?_ | refine blk_alloc ?_ _)); refine blk_put (cs := #[.int .u64 0, .int .u32 0, .int .u32 0]) ?_ 0 _ rfl; exact blkt BK547) hb); replace HB := belb HB hb; (try clear hb); (try clear hb2); (try clear hk); (try clear hi); have hcz63_0 : w62.cell? ⟨gb532, 0, none⟩ = some (.int .u64 t528) := (blk_cell BK532.out 0).trans rfl; have hcz63_1 : w62.cell? ⟨gb532, 1, none⟩ = some (.int .u32 t529) := (blk_cell BK532.out 1).trans rfl; have hcz63_2 : w62.cell? ⟨gb532, 2, none⟩ = some (.int .u32 t530) := (blk_cell BK532.out 2).trans rfl; have hfz63_0 := blk_frozen BK532.out 0; have hfz63_1 := blk_frozen BK532.out 1; have hfz63_2 := blk_frozen BK532.out 2; have hcz64_0 : w62.cell? ⟨gb537, 0, none⟩ = some (.int .u64 t533) := (blk_cell BK537.out 0).trans rfl; have hcz64_1 : w62.cell? ⟨gb537, 1, none⟩ = some (.int .u32 t534) := (blk_cell BK537.out 1).trans rfl; have hcz64_2 : w62.cell? ⟨gb537, 2, none⟩ = some (.int .u32 t535) := (blk_cell BK537.out 2).trans rfl; have hfz64_0 := blk_frozen BK537.out 0; have hfz64_1 := blk_frozen BK537.out 1; have hfz64_2 := blk_frozen BK537.out 2))
           go_ret
           exact ⟨by first | rfl | (simp [errW_none, errW_some] <;> rfl) | (simp only [← hji21, ← hji23]; first | rfl | (simp [errW_none, errW_some] <;> rfl)) | (simp [*, errW_none, errW_some] <;> rfl), belt HB⟩
         ·rw [if_neg c32] at H
          exact absurd H (by simp)
        ·rw [if_neg c31] at H
         have c31b0 : (a3 == a4) = false := beq_eq_false_iff_ne.mpr c31
         have c31b1 : (a3 != a4) = true := bne_iff_ne.mpr c31
         by_cases c65 : t541 = true
         ·subst c65
          have H1 : (none) = some r := by rw [if_pos rfl] at H; exact H
          clear H
          have H := H1
          clear H1
          exact absurd H (by simp)
         ·replace c65 := Bool.eq_false_iff.mpr c65
          subst c65
          have H1 : (some (!t546)) = some r := by rw [if_neg (show ¬ (false = true) by decide)] at H; exact H
          clear H
          have H := H1
          clear H1
          obtain rfl := Option.some.inj H
          have hcz66_0 : wc.cell? ⟨gb527, 0, none⟩ = some (.int .u64 t521) := (blk_cell BK527.out 0).trans rfl
          have hcz66_1 : wc.cell? ⟨gb527, 1, none⟩ = some (.int .i64 t522) := (blk_cell BK527.out 1).trans rfl
          have hcz66_2 : wc.cell? ⟨gb527, 2, none⟩ = some (.int .u64 t523) := (blk_cell BK527.out 2).trans rfl
          have hcz66_3 : wc.cell? ⟨gb527, 3, none⟩ = some (.int .u64 t524) := (blk_cell BK527.out 3).trans rfl
          have hcz66_4 : wc.cell? ⟨gb527, 4, none⟩ = some (.int .i64 t525) := (blk_cell BK527.out 4).trans rfl
          have hfz66_0 := blk_frozen BK527.out 0
          have hfz66_1 := blk_frozen BK527.out 1
          have hfz66_2 := blk_frozen BK527.out 2
          have hfz66_3 := blk_frozen BK527.out 3
          have hfz66_4 := blk_frozen BK527.out 4
          go_wp2_with (first | ((with_reducible refine gate_callee (f := 30) rfl ?_); refine goesL_ (some 57) rfl rfl Tryz.func30 (by kernel_rfl) rfl #[.agg #[.int .u64 t521, .int .i64 t522, .int .u64 t523, .int .u64 t524, .int .i64 t525], .int .u64 0, .int .u32 a2, .int .i64 ji21] rfl (by (try simp only [List.map_toArray, List.map_cons, List.map_nil]); first | done | (simp only [hji21]; rfl) | rfl | (simp only [List.length_drop, List.length_take]; rfl)) ?_; (with_reducible refine (place_Place.calls kj8 t521 t522 t523 t524 t525 0 a2 ji21 t528 t529 t530 true _ A22.out).mono ?_); rintro e w67 ⟨rfl, hb⟩; refine ⟨_, rfl, ?_⟩; replace BK527 := blkb BK527 hb; replace HB := belb HB hb; (try clear hb); (try clear hb2); (try clear hk); (try clear hi)) | ((with_reducible refine gate_dst (N := 13) rfl ?_); (try (refine gate_guard (by rfl) ?_; dsimp only)); refine box_event ?hg (N := 13) ?hd (cs := #[.int .u64 0, .int .u32 0, .int .u32 0]) (t := 28) ?hr ?_; (case hd => rfl); (case hg => rfl); (case hr => first | (go_simp; done) | (go_simp; rfl)); intro gb532 hg w68 hbox hb; have BK532 := Aside0.mk (hbox); have GW532 := bels HB hg; have GE532 := bels HB hg; have NB527_532 := blkl BK527 hg; have NB532_527 := blkg BK527 hg; replace BK527 := blkb BK527 hb; replace HB := belb HB hb; clear hb hbox hg; have hnb69 := NB532_527.out; have hnc69 := NB527_532.out; have hcz70_0 : w68.cell? ⟨gb532, 0, none⟩ = some (.int .u64 0) := (blk_cell BK532.out 0).trans rfl; have hcz70_1 : w68.cell? ⟨gb532, 1, none⟩ = some (.int .u32 0) := (blk_cell BK532.out 1).trans rfl; have hcz70_2 : w68.cell? ⟨gb532, 2, none⟩ = some (.int .u32 0) := (blk_cell BK532.out 2).trans rfl; have hfz70_0 := blk_frozen BK532.out 0; have hfz70_1 := blk_frozen BK532.out 1; have hfz70_2 := blk_frozen BK532.out 2; have hcz71_0 : w68.cell? ⟨gb527, 0, none⟩ = some (.int .u64 t521) := (blk_cell BK527.out 0).trans rfl; have hcz71_1 : w68.cell? ⟨gb527, 1, none⟩ = some (.int .i64 t522) := (blk_cell BK527.out 1).trans rfl; have hcz71_2 : w68.cell? ⟨gb527, 2, none⟩ = some (.int .u64 t523) := (blk_cell BK527.out 2).trans rfl; have hcz71_3 : w68.cell? ⟨gb527, 3, none⟩ = some (.int .u64 t524) := (blk_cell BK527.out 3).trans rfl; have hcz71_4 : w68.cell? ⟨gb527, 4, none⟩ = some (.int .i64 t525) := (blk_cell BK527.out 4).trans rfl; have hfz71_0 := blk_frozen BK527.out 0; have hfz71_1 := blk_frozen BK527.out 1; have hfz71_2 := blk_frozen BK527.out 2; have hfz71_3 := blk_frozen BK527.out 3; have hfz71_4 := blk_frozen BK527.out 4) | ((with_reducible refine gate_callee (f := 30) rfl ?_); refine goesL_ (some 66) rfl rfl Tryz.func30 (by kernel_rfl) rfl #[.agg #[.int .u64 t521, .int .i64 t522, .int .u64 t523, .int .u64 t524, .int .i64 t525], .int .u64 0, .int .u32 a2, .int .i64 ji23] rfl (by (try simp only [List.map_toArray, List.map_cons, List.map_nil]); first | done | (simp only [hji23]; rfl) | rfl | (simp only [List.length_drop, List.length_take]; rfl)) ?_; (with_reducible refine (place_Place.calls kj8 t521 t522 t523 t524 t525 0 a2 ji23 t533 t534 t535 true _ A24.out).mono ?_); rintro e w72 ⟨rfl, hb⟩; refine ⟨_, rfl, ?_⟩; replace BK527 := Aside0.mk (blk_below (g := gb527) (o := .cells #[.int .u64 t521, .int .i64 t522, .int .u64 t523, .int .u64 t524, .int .i64 t525] 33 (0, 0)) (by (with_reducible repeat (first | refine blk_drewN ?_ _ | refine blk_drew ?_ | refine blk_alloc ?_ _)); refine blk_far ?_ NB527_532.out _; (with_reducible repeat (first | refine blk_drewN ?_ _ | refine blk_drew ?_ | refine blk_alloc ?_ _)); refine blk_far ?_ NB527_532.out _; (with_reducible repeat (first | refine blk_drewN ?_ _ | refine blk_drew ?_ | refine blk_alloc ?_ _)); refine blk_far ?_ NB527_532.out _; exact blkt BK527) hb); replace BK532 := Aside0.mk (blk_below (g := gb532) (o := .cells #[.int .u64 t528, .int .u32 t529, .int .u32 t530] 28 (0, 0)) (by (with_reducible repeat (first | refine blk_drewN ?_ _ | refine blk_drew ?_ | refine blk_alloc ?_ _)); refine blk_put (cs := #[.int .u64 t528, .int .u32 t529, .int .u32 0]) ?_ 2 _ rfl; (with_reducible repeat (first | refine blk_drewN ?_ _ | refine blk_drew ?_ | refine blk_alloc ?_ _)); refine blk_put (cs := #[.int .u64 t528, .int .u32 0, .int .u32 0]) ?_ 1 _ rfl; (with_reducible repeat (first | refine blk_drewN ?_ _ | refine blk_drew ?_ | refine blk_alloc ?_ _)); refine blk_put (cs := #[.int .u64 0, .int .u32 0, .int .u32 0]) ?_ 0 _ rfl; exact blkt BK532) hb); replace HB := belb HB hb; (try clear hb); (try clear hb2); (try clear hk); (try clear hi)) | ((with_reducible refine gate_dst (N := 15) rfl ?_); (try (refine gate_guard (by rfl) ?_; dsimp only)); refine box_event ?hg (N := 15) ?hd (cs := #[.int .u64 0, .int .u32 0, .int .u32 0]) (t := 28) ?hr ?_; (case hd => rfl); (case hg => rfl); (case hr => first | (go_simp; done) | (go_simp; rfl)); intro gb537 hg w73 hbox hb; have BK537 := Aside0.mk (hbox); have GW537 := bels HB hg; have GE537 := bels HB hg; have NB527_537 := blkl BK527 hg; have NB537_527 := blkg BK527 hg; have NB532_537 := blkl BK532 hg; have NB537_532 := blkg BK532 hg; replace BK527 := blkb BK527 hb; replace BK532 := blkb BK532 hb; replace HB := belb HB hb; clear hb hbox hg; have hnb74 := NB537_527.out; have hnc74 := NB527_537.out; have hnb75 := NB537_532.out; have hnc75 := NB532_537.out; have hcz76_0 : w73.cell? ⟨gb537, 0, none⟩ = some (.int .u64 0) := (blk_cell BK537.out 0).trans rfl; have hcz76_1 : w73.cell? ⟨gb537, 1, none⟩ = some (.int .u32 0) := (blk_cell BK537.out 1).trans rfl; have hcz76_2 : w73.cell? ⟨gb537, 2, none⟩ = some (.int .u32 0) := (blk_cell BK537.out 2).trans rfl; have hfz76_0 := blk_frozen BK537.out 0; have hfz76_1 := blk_frozen BK537.out 1; have hfz76_2 := blk_frozen BK537.out 2; have hcz77_0 : w73.cell? ⟨gb527, 0, none⟩ = some (.int .u64 t521) := (blk_cell BK527.out 0).trans rfl; have hcz77_1 : w73.cell? ⟨gb527, 1, none⟩ = some (.int .i64 t522) := (blk_cell BK527.out 1).trans rfl; have hcz77_2 : w73.cell? ⟨gb527, 2, none⟩ = some (.int .u64 t523) := (blk_cell BK527.out 2).trans rfl; have hcz77_3 : w73.cell? ⟨gb527, 3, none⟩ = some (.int .u64 t524) := (blk_cell BK527.out 3).trans rfl; have hcz77_4 : w73.cell? ⟨gb527, 4, none⟩ = some (.int .i64 t525) := (blk_cell BK527.out 4).trans rfl; have hfz77_0 := blk_frozen BK527.out 0; have hfz77_1 := blk_frozen BK527.out 1; have hfz77_2 := blk_frozen BK527.out 2; have hfz77_3 := blk_frozen BK527.out 3; have hfz77_4 := blk_frozen BK527.out 4) | ((with_reducible refine gate_callee (f := 30) rfl ?_); refine goesL_ (some 72) rfl rfl Tryz.func30 (by kernel_rfl) rfl #[.agg #[.int .u64 t521, .int .i64 t522, .int .u64 t523, .int .u64 t524, .int .i64 t525], .int .u64 0, .int .u32 0, .int .i64 a3] rfl argt ?_; (with_reducible refine (place_Place.calls kj8 t521 t522 t523 t524 t525 0 0 a3 t538 t539 t540 false _ A25.out).mono ?_); rintro e w78 ⟨rfl, hb⟩; refine ⟨_, rfl, ?_⟩; replace BK527 := Aside0.mk (blk_below (g := gb527) (o := .cells #[.int .u64 t521, .int .i64 t522, .int .u64 t523, .int .u64 t524, .int .i64 t525] 33 (0, 0)) (by (with_reducible repeat (first | refine blk_drewN ?_ _ | refine blk_drew ?_ | refine blk_alloc ?_ _)); refine blk_far ?_ NB527_537.out _; (with_reducible repeat (first | refine blk_drewN ?_ _ | refine blk_drew ?_ | refine blk_alloc ?_ _)); refine blk_far ?_ NB527_537.out _; (with_reducible repeat (first | refine blk_drewN ?_ _ | refine blk_drew ?_ | refine blk_alloc ?_ _)); refine blk_far ?_ NB527_537.out _; exact blkt BK527) hb); replace BK532 := Aside0.mk (blk_below (g := gb532) (o := .cells #[.int .u64 t528, .int .u32 t529, .int .u32 t530] 28 (0, 0)) (by (with_reducible repeat (first | refine blk_drewN ?_ _ | refine blk_drew ?_ | refine blk_alloc ?_ _)); refine blk_far ?_ NB532_537.out _; (with_reducible repeat (first | refine blk_drewN ?_ _ | refine blk_drew ?_ | refine blk_alloc ?_ _)); refine blk_far ?_ NB532_537.out _; (with_reducible repeat (first | refine blk_drewN ?_ _ | refine blk_drew ?_ | refine blk_alloc ?_ _)); refine blk_far ?_ NB532_537.out _; exact blkt BK532) hb); replace BK537 := Aside0.mk (blk_below (g := gb537) (o := .cells #[.int .u64 t533, .int .u32 t534, .int .u32 t535] 28 (0, 0)) (by (with_reducible repeat (first | refine blk_drewN ?_ _ | refine blk_drew ?_ | refine blk_alloc ?_ _)); refine blk_put (cs := #[.int .u64 t533, .int .u32 t534, .int .u32 0]) ?_ 2 _ rfl; (with_reducible repeat (first | refine blk_drewN ?_ _ | refine blk_drew ?_ | refine blk_alloc ?_ _)); refine blk_put (cs := #[.int .u64 t533, .int .u32 0, .int .u32 0]) ?_ 1 _ rfl; (with_reducible repeat (first | refine blk_drewN ?_ _ | refine blk_drew ?_ | refine blk_alloc ?_ _)); refine blk_put (cs := #[.int .u64 0, .int .u32 0, .int .u32 0]) ?_ 0 _ rfl; exact blkt BK537) hb); replace HB := belb HB hb; (try clear hb); (try clear hb2); (try clear hk); (try clear hi)) | ((with_reducible refine gate_dst (N := 17) rfl ?_); (try (refine gate_guard (by rfl) ?_; dsimp only)); refine box_event ?hg (N := 17) ?hd (cs := #[.int .u64 0, .int .u32 0, .int .u32 0]) (t := 28) ?hr ?_; (case hd => rfl); (case hg => rfl); (case hr => first | (go_simp; done) | (go_simp; rfl)); intro gb542 hg w79 hbox hb; have BK542 := Aside0.mk (hbox); have GW542 := bels HB hg; have GE542 := bels HB hg; have NB527_542 := blkl BK527 hg; have NB542_527 := blkg BK527 hg; have NB532_542 := blkl BK532 hg; have NB542_532 := blkg BK532 hg; have NB537_542 := blkl BK537 hg; have NB542_537 := blkg BK537 hg; replace BK527 := blkb BK527 hb; replace BK532 := blkb BK532 hb; replace BK537 := blkb BK537 hb; replace HB := belb HB hb; clear hb hbox hg; have hnb80 := NB542_527.out; have hnc80 := NB527_542.out; have hnb81 := NB542_532.out; have hnc81 := NB532_542.out; have hnb82 := NB542_537.out; have hnc82 := NB537_542.out; have hcz83_0 : w79.cell? ⟨gb542, 0, none⟩ = some (.int .u64 0) := (blk_cell BK542.out 0).trans rfl; have hcz83_1 : w79.cell? ⟨gb542, 1, none⟩ = some (.int .u32 0) := (blk_cell BK542.out 1).trans rfl; have hcz83_2 : w79.cell? ⟨gb542, 2, none⟩ = some (.int .u32 0) := (blk_cell BK542.out 2).trans rfl; have hfz83_0 := blk_frozen BK542.out 0; have hfz83_1 := blk_frozen BK542.out 1; have hfz83_2 := blk_frozen BK542.out 2; have hcz84_0 : w79.cell? ⟨gb527, 0, none⟩ = some (.int .u64 t521) := (blk_cell BK527.out 0).trans rfl; have hcz84_1 : w79.cell? ⟨gb527, 1, none⟩ = some (.int .i64 t522) := (blk_cell BK527.out 1).trans rfl; have hcz84_2 : w79.cell? ⟨gb527, 2, none⟩ = some (.int .u64 t523) := (blk_cell BK527.out 2).trans rfl; have hcz84_3 : w79.cell? ⟨gb527, 3, none⟩ = some (.int .u64 t524) := (blk_cell BK527.out 3).trans rfl; have hcz84_4 : w79.cell? ⟨gb527, 4, none⟩ = some (.int .i64 t525) := (blk_cell BK527.out 4).trans rfl; have hfz84_0 := blk_frozen BK527.out 0; have hfz84_1 := blk_frozen BK527.out 1; have hfz84_2 := blk_frozen BK527.out 2; have hfz84_3 := blk_frozen BK527.out 3; have hfz84_4 := blk_frozen BK527.out 4) | ((with_reducible refine gate_callee (f := 30) rfl ?_); refine goesL_ (some 78) rfl rfl Tryz.func30 (by kernel_rfl) rfl #[.agg #[.int .u64 t521, .int .i64 t522, .int .u64 t523, .int .u64 t524, .int .i64 t525], .int .u64 0, .int .u32 1048577, .int .i64 a3] rfl argt ?_; (with_reducible refine (place_Place.calls kj8 t521 t522 t523 t524 t525 0 1048577 a3 t543 t544 t545 t546 _ A26.out).mono ?_); rintro e w85 ⟨rfl, hb⟩; refine ⟨_, rfl, ?_⟩; replace BK527 := Aside0.mk (blk_below (g := gb527) (o := .cells #[.int .u64 t521, .int .i64 t522, .int .u64 t523, .int .u64 t524, .int .i64 t525] 33 (0, 0)) (by (with_reducible repeat (first | refine blk_drewN ?_ _ | refine blk_drew ?_ | refine blk_alloc ?_ _)); refine blk_far ?_ NB527_542.out _; (with_reducible repeat (first | refine blk_drewN ?_ _ | refine blk_drew ?_ | refine blk_alloc ?_ _)); refine blk_far ?_ NB527_542.out _; (with_reducible repeat (first | refine blk_drewN ?_ _ | refine blk_drew ?_ | refine blk_alloc ?_ _)); refine blk_far ?_ NB527_542.out _; exact blkt BK527) hb); replace BK532 := Aside0.mk (blk_below (g := gb532) (o := .cells #[.int .u64 t528, .int .u32 t529, .int .u32 t530] 28 (0, 0)) (by (with_reducible repeat (first | refine blk_drewN ?_ _ | refine blk_drew ?_ | refine blk_alloc ?_ _)); refine blk_far ?_ NB532_542.out _; (with_reducible repeat (first | refine blk_drewN ?_ _ | refine blk_drew ?_ | refine blk_alloc ?_ _)); refine blk_far ?_ NB532_542.out _; (with_reducible repeat (first | refine blk_drewN ?_ _ | refine blk_drew ?_ | refine blk_alloc ?_ _)); refine blk_far ?_ NB532_542.out _; exact blkt BK532) hb); replace BK537 := Aside0.mk (blk_below (g := gb537) (o := .cells #[.int .u64 t533, .int .u32 t534, .int .u32 t535] 28 (0, 0)) (by (with_reducible repeat (first | refine blk_drewN ?_ _ | refine blk_drew ?_ | refine blk_alloc ?_ _)); refine blk_far ?_ NB537_542.out _; (with_reducible repeat (first | refine blk_drewN ?_ _ | refine blk_drew ?_ | refine blk_alloc ?_ _)); refine blk_far ?_ NB537_542.out _; (with_reducible repeat (first | refine blk_drewN ?_ _ | refine blk_drew ?_ | refine blk_alloc ?_ _)); refine blk_far ?_ NB537_542.out _; exact blkt BK537) hb); replace BK542 := Aside0.mk (blk_below (g := gb542) (o := .cells #[.int .u64 t538, .int .u32 t539, .int .u32 t540] 28 (0, 0)) (by (with_reducible repeat (first | refine blk_drewN ?_ _ | refine blk_drew ?_ | refine blk_alloc ?_ _)); refine blk_put (cs := #[.int .u64 t538, .int .u32 t539, .int .u32 0]) ?_ 2 _ rfl; (with_reducible repeat (first | refine blk_drewN ?_ _ | refine blk_drew ?_ | refine blk_alloc ?_ _)); refine blk_put (cs := #[.int .u64 t538, .int .u32 0, .int .u32 0]) ?_ 1 _ rfl; (with_reducible repeat (first | refine blk_drewN ?_ _ | refine blk_drew ?_ | refine blk_alloc ?_ _)); refine blk_put (cs := #[.int .u64 0, .int .u32 0, .int .u32 0]) ?_ 0 _ rfl; exact blkt BK542) hb); replace HB := belb HB hb; (try clear hb); (try clear hb2); (try clear hk); (try clear hi)) | ((with_reducible refine gate_dst (N := 19) rfl ?_); (try (refine gate_guard (by rfl) ?_; dsimp only)); refine box_event ?hg (N := 19) ?hd (cs := #[.int .u64 0, .int .u32 0, .int .u32 0]) (t := 28) ?hr ?_; (case hd => rfl); (case hg => rfl); (case hr => first | (go_simp; done) | (go_simp; rfl)); intro gb547 hg w86 hbox hb; have BK547 := Aside0.mk (hbox); have GW547 := bels HB hg; have GE547 := bels HB hg; have NB527_547 := blkl BK527 hg; have NB547_527 := blkg BK527 hg; have NB532_547 := blkl BK532 hg; have NB547_532 := blkg BK532 hg; have NB537_547 := blkl BK537 hg; have NB547_537 := blkg BK537 hg; have NB542_547 := blkl BK542 hg; have NB547_542 := blkg BK542 hg; replace BK527 := blkb BK527 hb; replace BK532 := blkb BK532 hb; replace BK537 := blkb BK537 hb; replace BK542 := blkb BK542 hb; replace HB := belb HB hb; clear hb hbox hg; have hnb87 := NB547_527.out; have hnc87 := NB527_547.out; have hnb88 := NB547_532.out; have hnc88 := NB532_547.out; have hnb89 := NB547_537.out; have hnc89 := NB537_547.out; have hnb90 := NB547_542.out; have hnc90 := NB542_547.out; have hcz91_0 : w86.cell? ⟨gb547, 0, none⟩ = some (.int .u64 0) := (blk_cell BK547.out 0).trans rfl; have hcz91_1 : w86.cell? ⟨gb547, 1, none⟩ = some (.int .u32 0) := (blk_cell BK547.out 1).trans rfl; have hcz91_2 : w86.cell? ⟨gb547, 2, none⟩ = some (.int .u32 0) := (blk_cell BK547.out 2).trans rfl; have hfz91_0 := blk_frozen BK547.out 0; have hfz91_1 := blk_frozen BK547.out 1; have hfz91_2 := blk_frozen BK547.out 2; have hcz92_0 : w86.cell? ⟨gb532, 0, none⟩ = some (.int .u64 t528) := (blk_cell BK532.out 0).trans rfl; have hcz92_1 : w86.cell? ⟨gb532, 1, none⟩ = some (.int .u32 t529) := (blk_cell BK532.out 1).trans rfl; have hcz92_2 : w86.cell? ⟨gb532, 2, none⟩ = some (.int .u32 t530) := (blk_cell BK532.out 2).trans rfl; have hfz92_0 := blk_frozen BK532.out 0; have hfz92_1 := blk_frozen BK532.out 1; have hfz92_2 := blk_frozen BK532.out 2; have hcz93_0 : w86.cell? ⟨gb537, 0, none⟩ = some (.int .u64 t533) := (blk_cell BK537.out 0).trans rfl; have hcz93_1 : w86.cell? ⟨gb537, 1, none⟩ = some (.int .u32 t534) := (blk_cell BK537.out 1).trans rfl; have hcz93_2 : w86.cell? ⟨gb537, 2, none⟩ = some (.int .u32 t535) := (blk_cell BK537.out 2).trans rfl; have hfz93_0 := blk_frozen BK537.out 0; have hfz93_1 := blk_frozen BK537.out 1; have hfz93_2 := blk_frozen BK537.out 2) | (go_at_call 33; (with_reducible refine (pos_Pos_Cmp.calls kj8 t528 t529 t530 t533 t534 t535 t548 _ A29.out).mono ?_); rintro e w94 ⟨rfl, hb⟩; replace BK527 := Aside0.mk (blk_below (g := gb527) (o := .cells #[.int .u64 t521, .int .i64 t522, .int .u64 t523, .int .u64 t524, .int .i64 t525] 33 (0, 0)) (by (with_reducible repeat (first | refine blk_drewN ?_ _ | refine blk_drew ?_ | refine blk_alloc ?_ _)); refine blk_far ?_ NB527_547.out _; (with_reducible repeat (first | refine blk_drewN ?_ _ | refine blk_drew ?_ | refine blk_alloc ?_ _)); refine blk_far ?_ NB527_547.out _; (with_reducible repeat (first | refine blk_drewN ?_ _ | refine blk_drew ?_ | refine blk_alloc ?_ _)); refine blk_far ?_ NB527_547.out _; exact blkt BK527) hb); replace BK532 := Aside0.mk (blk_below (g := gb532) (o := .cells #[.int .u64 t528, .int .u32 t529, .int .u32 t530] 28 (0, 0)) (by (with_reducible repeat (first | refine blk_drewN ?_ _ | refine blk_drew ?_ | refine blk_alloc ?_ _)); refine blk_far ?_ NB532_547.out _; (with_reducible repeat (first | refine blk_drewN ?_ _ | refine blk_drew ?_ | refine blk_alloc ?_ _)); refine blk_far ?_ NB532_547.out _; (with_reducible repeat (first | refine blk_drewN ?_ _ | refine blk_drew ?_ | refine blk_alloc ?_ _)); refine blk_far ?_ NB532_547.out _; exact blkt BK532) hb); replace BK537 := Aside0.mk (blk_below (g := gb537) (o := .cells #[.int .u64 t533, .int .u32 t534, .int .u32 t535] 28 (0, 0)) (by (with_reducible repeat (first | refine blk_drewN ?_ _ | refine blk_drew ?_ | refine blk_alloc ?_ _)); refine blk_far ?_ NB537_547.out _; (with_reducible repeat (first | refine blk_drewN ?_ _ | refine blk_drew ?_ | refine blk_alloc ?_ _)); refine blk_far ?_ NB537_547.out _; (with_reducible repeat (first | refine blk_drewN ?_ _ | refine blk_drew ?_ | refine blk_alloc ?_ _)); refine blk_far ?_ NB537_547.out _; exact blkt BK537) hb); replace BK542 := Aside0.mk (blk_below (g := gb542) (o := .cells #[.int .u64 t538, .int .u32 t539, .int .u32 t540] 28 (0, 0)) (by (with_reducible repeat (first | refine blk_drewN ?_ _ | refine blk_drew ?_ | refine blk_alloc ?_ _)); refine blk_far ?_ NB542_547.out _; (with_reducible repeat (first | refine blk_drewN ?_ _ | refine blk_drew ?_ | refine blk_alloc ?_ _)); refine blk_far ?_ NB542_547.out _; (with_reducible repeat (first | refine blk_drewN ?_ _ | refine blk_drew ?_ | refine blk_alloc ?_ _)); refine blk_far ?_ NB542_547.out _; exact blkt BK542) hb); replace BK547 := Aside0.mk (blk_below (g := gb547) (o := .cells #[.int .u64 t543, .int .u32 t544, .int .u32 t545] 28 (0, 0)) (by (with_reducible repeat (first | refine blk_drewN ?_ _ | refine blk_drew ?_ | refine blk_alloc ?_ _)); refine blk_put (cs := #[.int .u64 t543, .int .u32 t544, .int .u32 0]) ?_ 2 _ rfl; (with_reducible repeat (first | refine blk_drewN ?_ _ | refine blk_drew ?_ | refine blk_alloc ?_ _)); refine blk_put (cs := #[.int .u64 t543, .int .u32 0, .int .u32 0]) ?_ 1 _ rfl; (with_reducible repeat (first | refine blk_drewN ?_ _ | refine blk_drew ?_ | refine blk_alloc ?_ _)); refine blk_put (cs := #[.int .u64 0, .int .u32 0, .int .u32 0]) ?_ 0 _ rfl; exact blkt BK547) hb); replace HB := belb HB hb; (try clear hb); (try clear hb2); (try clear hk); (try clear hi)))
          go_ret
          exact ⟨by first | rfl | (simp [errW_none, errW_some] <;> rfl) | (simp only [← hji21, ← hji23]; first | rfl | (simp [errW_none, errW_some] <;> rfl)) | (simp [*, errW_none, errW_some] <;> rfl), belt HB⟩
       ·rw [if_neg c30] at H
        exact absurd H (by simp)
      ·replace c28 := Bool.eq_false_iff.mpr c28
       subst c28
       have H1 : (none) = some r := by rw [if_neg (show ¬ (false = true) by decide)] at H; exact H
       clear H
       have H := H1
       clear H1
       exact absurd H (by simp)
     ·replace c27 := Bool.eq_false_iff.mpr c27
      subst c27
      have H1 : (none) = some r := by rw [if_neg (show ¬ (false = true) by decide)] at H; exact H
      clear H
      have H := H1
      clear H1
      exact absurd H (by simp)
 ·replace c7 := Bool.eq_false_iff.mpr c7
  subst c7
  have H1 : (none) = some r := by rw [if_neg (show ¬ (false = true) by decide)] at H; exact H
  clear H
  have H := H1
  clear H1
  exact absurd H (by simp)

/-- THE ONE PURE STATEMENT of turnstonelaw10_PlaceOrders. -/
def turnstonelaw10_PlaceOrders.Pure : Prop := ∀ (a0 : Int) (l1 : List (S28)) (a2 : Int) (a3 : Int) (a4 : Int), (Lit.int .u64 a0).wf = true → l1.length ≤ maxLen → (∀ x ∈ l1, wfS28 x) → (Lit.int .u32 a2).wf = true → (Lit.int .i64 a3).wf = true → (Lit.int .i64 a4).wf = true → ∃ k, turnstonelaw10_PlaceOrders.f k a0 l1 a2 a3 a4 = some true
theorem turnstonelaw10_PlaceOrders.walk (P : turnstonelaw10_PlaceOrders.Pure) (a0 : Int) (A1 : Option Addr) (c1 : Nat) (l1 : List (S28)) (a2 : Int) (a3 : Int) (a4 : Int) (w : World) (w0 : (Lit.int .u64 a0).wf = true) (hr1 : Kd.C k28 w A1 l1.length l1) (hc1 : l1.length ≤ c1) (hm1 : l1.length ≤ maxLen) (hw1 : ∀ x ∈ l1, wfS28 x) (w2 : (Lit.int .u32 a2).wf = true) (w3 : (Lit.int .i64 a3).wf = true) (w4 : (Lit.int .i64 a4).wf = true) :
  Calls Tryz.prog 7 #[.int .u64 a0, .slice A1 l1.length c1, .int .u32 a2, .int .i64 a3, .int .i64 a4] w fun e w' => e = .returned (.bool true) ∧ Below w.heap.size w w' := by
 obtain ⟨k, h⟩ := P a0 l1 a2 a3 a4 w0 hm1 hw1 w2 w3 w4
 refine (turnstonelaw10_PlaceOrders.calls k a0 _ _ l1 a2 a3 a4 true w hr1 hc1 h).mono ?_
 rintro e w' ⟨rfl, hd⟩
 exact ⟨rfl, hd⟩

end Go.Proofs.YtfbkamgdkdnpoaaGreatDoor.Print
