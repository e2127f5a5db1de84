/- What each Go function that is named below answers, as a Lean function, and that its walk comes to just that: for whatever arguments that function gives an answer for. Written by a program of this session (wip/mkpr.py, pr.sh). -/
import Derived.Test.YtimgiiceipjpaaaPrint0
import Derived.Test.YtimgiiceipjpaaaPrint8
import Derived.Test.YtimgiiceipjpaaaPrint29
namespace Go.Proofs.Ytimgiiceipjpaaa.Print
open Go.RowKit Go.Proofs.YtimgiiceipjpaaaW.PrintWords Go.Proofs.YtimgiiceipjpaaaW.PrintLast Go.Proofs.YtimgiiceipjpaaaW.PrintMore
attribute [local go_sem] max2_int min2_int max_two min_two max_three min_three max_four min_four   -- for this text's walks alone
open Go.Proofs.Ytimgiiceipjpaaa.Bits Go.Proofs.Ytimgiiceipjpaaa.Short
attribute [local go_sem] add64_run0 sub64_run0 add64_run sub64_run
set_option linter.unusedVariables false
set_option linter.unusedSimpArgs false

/-! ### pos_Pos_Move: function 47 -/
def pos_Pos_Move.f (k : Nat) (a0_0 : Int) (a0_1 : Int) (a0_2 : Int) (a1 : Int) : Option (Int × Int × Int × Bool) := (wide_OfU.f a1).bind fun bt519 => ((wide_OfU.f (IntKind.u64.wrap (a0_1))).bind fun bt521 => ((wide_Int_Add.f bt519.1 bt519.2 bt521.1 bt521.2).bind fun bt523 => ((pos_At.f k a0_0 bt523.1 bt523.2.1 a0_2).bind fun bt527 => (some (bt527.1, bt527.2.1, bt527.2.2.1, bt527.2.2.2)))))
theorem pos_Pos_Move.mono : ∀ a0 a1 a2 a3 k, LeO (pos_Pos_Move.f k a0 a1 a2 a3) (pos_Pos_Move.f (k + 1) a0 a1 a2 a3) := by
 intro a0 a1 a2 a3 k
 unfold pos_Pos_Move.f
 repeat' first
   | (with_reducible exact pos_At.mono _ _ _ _ _)
   | (with_reducible exact LeO.refl _)
   | (with_reducible exact LeO.none _)
   | (with_reducible refine LeO.ite ?_ ?_)
   | (with_reducible refine LeO.bind ?_ (fun _ => ?_))
   | exact pos_At.mono _ _ _ _ _
   | exact LeO.none _
   | refine LeO.ite ?_ ?_
   | refine LeO.bind ?_ (fun _ => ?_)
def pos_Pos_Move.T1 : Bool × List (List Nat × List Nat) := (true, [([], []), ([0], [0]), ([], []), ([2], [2]), ([3], [3]), ([4, 1], [4]), ([1, 5, 5], [1, 5]), ([6], [6]), ([7], [7]), ([7], [7]), ([], []), ([10, 8, 6, 0, 1, 2, 3, 4, 5, 6, 7, 8, 10], [8, 10]), ([9, 11, 0, 1, 2, 3, 4, 5, 6, 7, 8, 9, 10, 11], [9])])
def pos_Pos_Move.B1 : List Nat := [0, 1, 0, 4, 12, 31, 63, 127, 255, 255, 0, 1535, 4095]
theorem pos_Pos_Move.tab1 : rtab .any (opsOf Try.f47 1) = pos_Pos_Move.T1 := by kernel_rfl
theorem pos_Pos_Move.bits1 : waitsOk pos_Pos_Move.T1.2 pos_Pos_Move.B1 = true := by kernel_rfl
set_option maxHeartbeats 8000000 in
set_option maxRecDepth 100000 in
theorem pos_Pos_Move.calls (k : Nat) (a0_0 : Int) (a0_1 : Int) (a0_2 : Int) (a1 : Int) (r1 : Int) (r2 : Int) (r3 : Int) (r4 : Bool) (w : World) (h : pos_Pos_Move.f k a0_0 a0_1 a0_2 a1 = some (r1, r2, r3, r4)) :
  Calls Try.prog 47 #[.agg #[.int .u64 a0_0, .int .u32 a0_1, .int .u32 a0_2], .int .u64 a1] w fun e w' => e = .returned (.tuple #[.agg #[.int .u64 r1, .int .u32 r2, .int .u32 r3], .bool r4]) ∧ Below w.heap.size w w' := by
 have hu67 := Try.underlying67
 have hu59 := Try.underlying59
 have HB := Aside0.mk (Below.refl w.heap.size w)
 have H : ((wide_OfU.f a1).bind fun bt519 => ((wide_OfU.f (IntKind.u64.wrap (a0_1))).bind fun bt521 => ((wide_Int_Add.f bt519.1 bt519.2 bt521.1 bt521.2).bind fun bt523 => ((pos_At.f k a0_0 bt523.1 bt523.2.1 a0_2).bind fun bt527 => (some (bt527.1, bt527.2.1, bt527.2.2.1, bt527.2.2.2)))))) = some (r1, r2, r3, r4) := h
 clear h
 replace H := Option.bind_eq_some_iff.mp H
 obtain ⟨⟨t519, t520⟩, A30, H⟩ := H
 replace H : ((wide_OfU.f (IntKind.u64.wrap (a0_1))).bind fun bt521 => ((wide_Int_Add.f t519 t520 bt521.1 bt521.2).bind fun bt523 => ((pos_At.f k a0_0 bt523.1 bt523.2.1 a0_2).bind fun bt527 => (some (bt527.1, bt527.2.1, bt527.2.2.1, bt527.2.2.2))))) = some (r1, r2, r3, r4) := H
 have A3 := Aside0.mk A30
 clear A30
 replace H := Option.bind_eq_some_iff.mp H
 obtain ⟨⟨t521, t522⟩, A40, H⟩ := H
 replace H : ((wide_Int_Add.f t519 t520 t521 t522).bind fun bt523 => ((pos_At.f k a0_0 bt523.1 bt523.2.1 a0_2).bind fun bt527 => (some (bt527.1, bt527.2.1, bt527.2.2.1, bt527.2.2.2)))) = some (r1, r2, r3, r4) := H
 have A4 := Aside0.mk A40
 clear A40
 replace H := Option.bind_eq_some_iff.mp H
 obtain ⟨⟨t523, t524, t525⟩, A50, H⟩ := H
 replace H : ((pos_At.f k a0_0 t523 t524 a0_2).bind fun bt527 => (some (bt527.1, bt527.2.1, bt527.2.2.1, bt527.2.2.2))) = some (r1, r2, r3, r4) := H
 have A5 := Aside0.mk A50
 clear A50
 replace H := Option.bind_eq_some_iff.mp H
 obtain ⟨⟨t527, t528, t529, t530⟩, A60, H⟩ := H
 replace H : (some (t527, t528, t529, t530)) = some (r1, r2, r3, r4) := H
 have A6 := Aside0.mk A60
 clear A60
 simp only [Option.some.injEq, Prod.mk.injEq] at H
 obtain ⟨rfl, rfl, rfl, rfl⟩ := H
 go_enter Try.func47, Try.ntmps47
 try go_wp2_with (first | ((with_reducible refine gate_dst (N := 2) rfl ?_); refine box_event ?hg (N := 2) ?hd (cs := #[.int .u64 a0_0, .int .u32 a0_1, .int .u32 a0_2]) (t := 67) ?hr ?_; (case hd => rfl); (case hg => rfl); (case hr => first | (go_simp; done) | (go_simp; rfl)); intro gb517 hg w7 hbox hb; have n0_ := belb HB hb; have n1_ := Aside0.mk (hbox); have n2_ := bels HB hg; have n3_ := bels HB hg; clear HB; have HB := n0_; have BK517 := n1_; have GW517 := n2_; have GE517 := n3_; clear n0_ n1_ n2_ n3_; clear hb hbox hg) | ((with_reducible refine gate_dst (N := 4) rfl ?_); refine box_event ?hg (N := 4) ?hd (cs := #[.int .u64 0, .int .u32 0, .int .u32 0]) (t := 67) ?hr ?_; (case hd => rfl); (case hg => rfl); (case hr => first | (go_simp; done) | (go_simp; rfl)); intro gb518 hg w8 hbox hb; have n0_ := blkb BK517 hb; have n1_ := belb HB hb; have n2_ := Aside0.mk (hbox); have n3_ := bels HB hg; have n4_ := bels HB hg; have n5_ := blkl BK517 hg; have n6_ := blkg BK517 hg; clear BK517; clear HB; have BK517 := n0_; have HB := n1_; have BK518 := n2_; have GW518 := n3_; have GE518 := n4_; have NB517_518 := n5_; have NB518_517 := n6_; clear n0_ n1_ n2_ n3_ n4_ n5_ n6_; clear hb hbox hg))
 have n0_ := Aside0.mk (blk_drew BK517.out)
 have n1_ := Aside0.mk (blk_drew BK518.out)
 have n2_ := Aside0.mk (below_drew1 HB.out)
 clear BK517
 clear BK518
 clear HB
 have BK517 := n0_
 have BK518 := n1_
 have HB := n2_
 clear n0_ n1_ n2_
 refine start_ (n := 13) (S := fun w' => w'.cell? ⟨gb517, 0, none⟩ = some (.int .u64 a0_0) ∧ w'.cell? ⟨gb517, 1, none⟩ = some (.int .u32 a0_1) ∧ w'.cell? ⟨gb517, 2, none⟩ = some (.int .u32 a0_2)) (ds := []) #[false, false, false, false, false, false, false, false, false, false, false, false, false] (by kernel_rfl) rfl rfl ⟨(blk_cell BK517.out 0).trans rfl, (blk_cell BK517.out 1).trans rfl, (blk_cell BK517.out 2).trans rfl⟩ (fun hHeld => ?_); refine with_tabW pos_Pos_Move.tab1 pos_Pos_Move.bits1 (fun HT_ HW_ => ?_)
 generalize w8.drew = w9 at BK517 BK518 HB hHeld ⊢
 refine pure_ (i := 0) (N := some 9) (v := ?_) (a' := ?_) #[true, false, false, false, false, false, false, false, false, false, false, false, false] rfl rfl (any_of HT_.out (by kernel_rfl)) (fun _ _ _ h => h) (Or.inl ⟨by rfl, ?_⟩) ?_ ?_
 rotate_left
 ·intro w'
  go_simp
  with_reducible rfl
 rotate_left
 ·simp only [Act.put, List.setIfInBounds_toArray, List.set_cons_zero, List.set_cons_succ, i64_w, i32_w]
  rfl
 refine pure_ (i := 2) (N := some 11) (v := ?_) (a' := ?_) #[true, false, true, false, false, false, false, false, false, false, false, false, false] rfl rfl (any_of HT_.out (by kernel_rfl)) (fun _ _ _ h => h) (Or.inl ⟨by rfl, ?_⟩) ?_ ?_
 rotate_left
 ·intro w'
  go_simp
  with_reducible rfl
 rotate_left
 ·simp only [Act.put, List.setIfInBounds_toArray, List.set_cons_zero, List.set_cons_succ, i64_w, i32_w]
  rfl
 refine take_ (i := 3) (N := some 12) (v := ?_) (a' := ?_) #[true, false, true, true, false, false, false, false, false, false, false, false, false] rfl rfl (take_ofW HT_.out HW_.out (by kernel_rfl)) (fun _ _ _ h => h) (Or.inl ⟨by rfl, ?_⟩) hHeld ?_ ?_
 rotate_left
 ·rintro w' ⟨s0, s1, s2⟩
  go_simp
  with_reducible rfl
 rotate_left
 ·simp only [Act.put, List.setIfInBounds_toArray, List.set_cons_zero, List.set_cons_succ, i64_w, i32_w]
  rfl
 refine pure_ (i := 4) (N := some 13) (v := ?_) (a' := ?_) #[true, false, true, true, true, false, false, false, false, false, false, false, false] rfl rfl (any_of HT_.out (by kernel_rfl)) (fun _ _ _ h => h) (Or.inl ⟨by rfl, ?_⟩) ?_ ?_
 rotate_left
 ·intro w'
  go_simp
  with_reducible rfl
 rotate_left
 ·simp only [Act.put, List.setIfInBounds_toArray, List.set_cons_zero, List.set_cons_succ, i64_w, i32_w]
  rfl
 refine join_ (σ := Nat) 2 #[true, true, true, true, true, true, true, true, true, true, true, false, false] (fun s_ => [(10, .agg #[.int .i64 t519, .int .u64 t520]), (14, .agg #[.int .i64 t521, .int .u64 t522]), (15, .tuple #[.agg #[.int .i64 t523, .int .u64 t524], .bool t525]), (6, .pointer (some ⟨s_, 0, none⟩)), (8, .tuple #[.agg #[.int .i64 t523, .int .u64 t524], .bool t525]), (16, .agg #[.int .i64 t523, .int .u64 t524]), (17, .bool t525)]) (fun s_ w' => (w'.cell? ⟨gb517, 0, none⟩ = some (.int .u64 a0_0) ∧ w'.cell? ⟨gb517, 1, none⟩ = some (.int .u32 a0_1) ∧ w'.cell? ⟨gb517, 2, none⟩ = some (.int .u32 a0_2)) ∧ (w'.heap[gb517]? = some (.cells #[.int .u64 a0_0, .int .u32 a0_1, .int .u32 a0_2] 67 (0, 0))) ∧ (w'.heap[gb518]? = some (.cells #[.int .u64 0, .int .u32 0, .int .u32 0] 67 (0, 0))) ∧ (w'.heap[s_]? = some (.cells #[.int .i64 0, .int .u64 0] 59 (0, 0))) ∧ (w.heap.size ≤ s_) ∧ (w.heap.size ≤ s_) ∧ (gb517 ≠ s_) ∧ (s_ ≠ gb517) ∧ (gb518 ≠ s_) ∧ (s_ ≠ gb518) ∧ (Below w.heap.size w w')) ?_ ?_
 rotate_left
 ·intro hCont
  refine two_ (i := 1) (j := 10) (Ni := some 10) (Nj := some 6) #[true, true, true, true, true, false, false, false, false, false, false, false, false] #[true, false, true, true, true, false, false, false, false, false, true, false, false] rfl rfl rfl rfl (two_of HT_.out (by kernel_rfl)) (by decide) (by decide) (fun K hK => ?_) (fun K hK => ?_)
  ·skip
   refine goes_ Try.func80 (by kernel_rfl) rfl #[.int .u64 a1] (by rfl) rfl rfl argt ?_
   with_reducible refine (wide_OfU.calls a1 t519 t520 _ A3.out).mono ?_
   rintro e w10 ⟨rfl, hb⟩
   refine ⟨_, rfl, ?_⟩
   have n0_ := blkb BK517 hb
   have n1_ := blkb BK518 hb
   have n2_ := belb HB hb
   clear BK517
   clear BK518
   clear HB
   have BK517 := n0_
   have BK518 := n1_
   have HB := n2_
   clear n0_ n1_ n2_
   (try clear hb)
   (try clear hb2)
   (try clear hk)
   (try clear hi)
   refine hK.out _ _ ⟨(blk_cell BK517.out 0).trans rfl, (blk_cell BK517.out 1).trans rfl, (blk_cell BK517.out 2).trans rfl⟩ (fun hHeld => ?_)
   clear hK K
   refine norm_ (a' := ?_) ?_ ?_
   rotate_left
   ·show Act.put _ (some 10) _ = _
    simp only [Act.put, List.setIfInBounds_toArray, List.set_cons_zero, List.set_cons_succ, i64_w, i32_w]
    rfl
   refine two_ (i := 5) (j := 10) (Ni := some 14) (Nj := some 6) #[true, true, true, true, true, true, false, false, false, false, false, false, false] #[true, true, true, true, true, false, false, false, false, false, true, false, false] rfl rfl rfl rfl (two_of HT_.out (by kernel_rfl)) (by decide) (by decide) (fun K hK => ?_) (fun K hK => ?_)
   ·skip
    refine goes_ Try.func80 (by kernel_rfl) rfl #[.int .u64 (IntKind.u64.wrap (a0_1))] (by rfl) rfl rfl argt ?_
    with_reducible refine (wide_OfU.calls (IntKind.u64.wrap (a0_1)) t521 t522 _ A4.out).mono ?_
    rintro e w11 ⟨rfl, hb⟩
    refine ⟨_, rfl, ?_⟩
    have n0_ := blkb BK517 hb
    have n1_ := blkb BK518 hb
    have n2_ := belb HB hb
    clear BK517
    clear BK518
    clear HB
    have BK517 := n0_
    have BK518 := n1_
    have HB := n2_
    clear n0_ n1_ n2_
    (try clear hb)
    (try clear hb2)
    (try clear hk)
    (try clear hi)
    refine hK.out _ _ ⟨(blk_cell BK517.out 0).trans rfl, (blk_cell BK517.out 1).trans rfl, (blk_cell BK517.out 2).trans rfl⟩ (fun hHeld => ?_)
    clear hK K
    refine norm_ (a' := ?_) ?_ ?_
    rotate_left
    ·show Act.put _ (some 14) _ = _
     simp only [Act.put, List.setIfInBounds_toArray, List.set_cons_zero, List.set_cons_succ, i64_w, i32_w]
     rfl
    refine two_ (i := 6) (j := 10) (Ni := some 15) (Nj := some 6) #[true, true, true, true, true, true, true, false, false, false, false, false, false] #[true, true, true, true, true, true, false, false, false, false, true, false, false] rfl rfl rfl rfl (two_of HT_.out (by kernel_rfl)) (by decide) (by decide) (fun K hK => ?_) (fun K hK => ?_)
    ·skip
     refine goes_ Try.func81 (by kernel_rfl) rfl #[.agg #[.int .i64 t519, .int .u64 t520], .agg #[.int .i64 t521, .int .u64 t522]] (by rfl) rfl rfl argt ?_
     with_reducible refine (wide_Int_Add.calls t519 t520 t521 t522 t523 t524 t525 _ A5.out).mono ?_
     rintro e w12 ⟨rfl, hb⟩
     refine ⟨_, rfl, ?_⟩
     have n0_ := blkb BK517 hb
     have n1_ := blkb BK518 hb
     have n2_ := belb HB hb
     clear BK517
     clear BK518
     clear HB
     have BK517 := n0_
     have BK518 := n1_
     have HB := n2_
     clear n0_ n1_ n2_
     (try clear hb)
     (try clear hb2)
     (try clear hk)
     (try clear hi)
     refine hK.out _ _ ⟨(blk_cell BK517.out 0).trans rfl, (blk_cell BK517.out 1).trans rfl, (blk_cell BK517.out 2).trans rfl⟩ (fun hHeld => ?_)
     clear hK K
     refine norm_ (a' := ?_) ?_ ?_
     rotate_left
     ·show Act.put _ (some 15) _ = _
      simp only [Act.put, List.setIfInBounds_toArray, List.set_cons_zero, List.set_cons_succ, i64_w, i32_w]
      rfl
     refine pure_ (i := 7) (N := some 8) (v := ?_) (a' := ?_) #[true, true, true, true, true, true, true, true, false, false, false, false, false] rfl rfl (any_of HT_.out (by kernel_rfl)) (fun _ _ _ h => h) (Or.inl ⟨by rfl, ?_⟩) ?_ ?_
     rotate_left
     ·intro w'
      go_simp
      with_reducible rfl
     rotate_left
     ·simp only [Act.put, List.setIfInBounds_toArray, List.set_cons_zero, List.set_cons_succ, i64_w, i32_w]
      rfl
     refine pure_ (i := 8) (N := some 16) (v := ?_) (a' := ?_) #[true, true, true, true, true, true, true, true, true, false, false, false, false] rfl rfl (any_of HT_.out (by kernel_rfl)) (fun _ _ _ h => h) (Or.inl ⟨by rfl, ?_⟩) ?_ ?_
     rotate_left
     ·intro w'
      go_simp
      with_reducible rfl
     rotate_left
     ·simp only [Act.put, List.setIfInBounds_toArray, List.set_cons_zero, List.set_cons_succ, i64_w, i32_w]
      rfl
     refine pure_ (i := 9) (N := some 17) (v := ?_) (a' := ?_) #[true, true, true, true, true, true, true, true, true, true, false, false, false] rfl rfl (any_of HT_.out (by kernel_rfl)) (fun _ _ _ h => h) (Or.inl ⟨by rfl, ?_⟩) ?_ ?_
     rotate_left
     ·intro w'
      go_simp
      with_reducible rfl
     rotate_left
     ·simp only [Act.put, List.setIfInBounds_toArray, List.set_cons_zero, List.set_cons_succ, i64_w, i32_w]
      rfl
     refine one_ (i := 10) (N := some 6) #[true, true, true, true, true, true, true, true, true, true, true, false, false] rfl rfl (one_of HT_.out (by kernel_rfl)) (by decide) (fun K hK => ?_)
     refine box_step ?hg (N := 6) ?hd (cs := #[.int .i64 0, .int .u64 0]) (t := 59) ?hr ?_; (case hd => rfl); (case hg => rfl); (case hr => first | (go_simp; done) | (go_simp; rfl))
     intro gb526 hg w13 hbox hb
     have n0_ := blkb BK517 hb
     have n1_ := blkb BK518 hb
     have n2_ := belb HB hb
     have n3_ := Aside0.mk (hbox)
     have n4_ := bels HB hg
     have n5_ := bels HB hg
     have n6_ := blkl BK517 hg
     have n7_ := blkg BK517 hg
     have n8_ := blkl BK518 hg
     have n9_ := blkg BK518 hg
     clear BK517
     clear BK518
     clear HB
     have BK517 := n0_
     have BK518 := n1_
     have HB := n2_
     have BK526 := n3_
     have GW526 := n4_
     have GE526 := n5_
     have NB517_526 := n6_
     have NB526_517 := n7_
     have NB518_526 := n8_
     have NB526_518 := n9_
     clear n0_ n1_ n2_ n3_ n4_ n5_ n6_ n7_ n8_ n9_
     clear hb hbox hg
     refine hK.out _ _ ⟨(blk_cell BK517.out 0).trans rfl, (blk_cell BK517.out 1).trans rfl, (blk_cell BK517.out 2).trans rfl⟩ (fun hHeld => ?_)
     clear hK K
     refine norm_ (a' := ?_) ?_ ?_
     rotate_left
     ·show Act.put _ (some 6) _ = _
      simp only [Act.put, List.setIfInBounds_toArray, List.set_cons_zero, List.set_cons_succ, i64_w, i32_w]
      rfl
     exact norm_ (by simp only [putAll, Act.put, List.setIfInBounds_toArray, List.set_cons_zero, List.set_cons_succ]) (hCont (gb526) _ ⟨hHeld, (blkt BK517), (blkt BK518), (blkt BK526), GW526.out, GE526.out, NB517_526.out, NB526_517.out, NB518_526.out, NB526_518.out, (belt HB)⟩)
    ·skip
     refine box_step ?hg (N := 6) ?hd (cs := #[.int .i64 0, .int .u64 0]) (t := 59) ?hr ?_; (case hd => rfl); (case hg => rfl); (case hr => first | (go_simp; done) | (go_simp; rfl))
     intro gb526 hg w12 hbox hb
     have n0_ := blkb BK517 hb
     have n1_ := blkb BK518 hb
     have n2_ := belb HB hb
     have n3_ := Aside0.mk (hbox)
     have n4_ := bels HB hg
     have n5_ := bels HB hg
     have n6_ := blkl BK517 hg
     have n7_ := blkg BK517 hg
     have n8_ := blkl BK518 hg
     have n9_ := blkg BK518 hg
     clear BK517
     clear BK518
     clear HB
     have BK517 := n0_
     have BK518 := n1_
     have HB := n2_
     have BK526 := n3_
     have GW526 := n4_
     have GE526 := n5_
     have NB517_526 := n6_
     have NB526_517 := n7_
     have NB518_526 := n8_
     have NB526_518 := n9_
     clear n0_ n1_ n2_ n3_ n4_ n5_ n6_ n7_ n8_ n9_
     clear hb hbox hg
     refine hK.out _ _ ⟨(blk_cell BK517.out 0).trans rfl, (blk_cell BK517.out 1).trans rfl, (blk_cell BK517.out 2).trans rfl⟩ (fun hHeld => ?_)
     clear hK K
     refine norm_ (a' := ?_) ?_ ?_
     rotate_left
     ·show Act.put _ (some 6) _ = _
      simp only [Act.put, List.setIfInBounds_toArray, List.set_cons_zero, List.set_cons_succ, i64_w, i32_w]
      rfl
     refine one_ (i := 6) (N := some 15) #[true, true, true, true, true, true, true, false, false, false, true, false, false] rfl rfl (one_of HT_.out (by kernel_rfl)) (by decide) (fun K hK => ?_)
     refine goes_ Try.func81 (by kernel_rfl) rfl #[.agg #[.int .i64 t519, .int .u64 t520], .agg #[.int .i64 t521, .int .u64 t522]] (by rfl) rfl rfl argt ?_
     with_reducible refine (wide_Int_Add.calls t519 t520 t521 t522 t523 t524 t525 _ A5.out).mono ?_
     rintro e w13 ⟨rfl, hb⟩
     refine ⟨_, rfl, ?_⟩
     have n0_ := blkb BK517 hb
     have n1_ := blkb BK518 hb
     have n2_ := blkb BK526 hb
     have n3_ := belb HB hb
     clear BK517
     clear BK518
     clear BK526
     clear HB
     have BK517 := n0_
     have BK518 := n1_
     have BK526 := n2_
     have HB := n3_
     clear n0_ n1_ n2_ n3_
     (try clear hb)
     (try clear hb2)
     (try clear hk)
     (try clear hi)
     refine hK.out _ _ ⟨(blk_cell BK517.out 0).trans rfl, (blk_cell BK517.out 1).trans rfl, (blk_cell BK517.out 2).trans rfl⟩ (fun hHeld => ?_)
     clear hK K
     refine norm_ (a' := ?_) ?_ ?_
     rotate_left
     ·show Act.put _ (some 15) _ = _
      simp only [Act.put, List.setIfInBounds_toArray, List.set_cons_zero, List.set_cons_succ, i64_w, i32_w]
      rfl
     refine pure_ (i := 7) (N := some 8) (v := ?_) (a' := ?_) #[true, true, true, true, true, true, true, true, false, false, true, false, false] rfl rfl (any_of HT_.out (by kernel_rfl)) (fun _ _ _ h => h) (Or.inl ⟨by rfl, ?_⟩) ?_ ?_
     rotate_left
     ·intro w'
      go_simp
      with_reducible rfl
     rotate_left
     ·simp only [Act.put, List.setIfInBounds_toArray, List.set_cons_zero, List.set_cons_succ, i64_w, i32_w]
      rfl
     refine pure_ (i := 8) (N := some 16) (v := ?_) (a' := ?_) #[true, true, true, true, true, true, true, true, true, false, true, false, false] rfl rfl (any_of HT_.out (by kernel_rfl)) (fun _ _ _ h => h) (Or.inl ⟨by rfl, ?_⟩) ?_ ?_
     rotate_left
     ·intro w'
      go_simp
      with_reducible rfl
     rotate_left
     ·simp only [Act.put, List.setIfInBounds_toArray, List.set_cons_zero, List.set_cons_succ, i64_w, i32_w]
      rfl
     refine pure_ (i := 9) (N := some 17) (v := ?_) (a' := ?_) #[true, true, true, true, true, true, true, true, true, true, true, false, false] rfl rfl (any_of HT_.out (by kernel_rfl)) (fun _ _ _ h => h) (Or.inl ⟨by rfl, ?_⟩) ?_ ?_
     rotate_left
     ·intro w'
      go_simp
      with_reducible rfl
     rotate_left
     ·simp only [Act.put, List.setIfInBounds_toArray, List.set_cons_zero, List.set_cons_succ, i64_w, i32_w]
      rfl
     exact norm_ (by simp only [putAll, Act.put, List.setIfInBounds_toArray, List.set_cons_zero, List.set_cons_succ]) (hCont (gb526) _ ⟨hHeld, (blkt BK517), (blkt BK518), (blkt BK526), GW526.out, GE526.out, NB517_526.out, NB526_517.out, NB518_526.out, NB526_518.out, (belt HB)⟩)
   ·skip
    refine box_step ?hg (N := 6) ?hd (cs := #[.int .i64 0, .int .u64 0]) (t := 59) ?hr ?_; (case hd => rfl); (case hg => rfl); (case hr => first | (go_simp; done) | (go_simp; rfl))
    intro gb526 hg w11 hbox hb
    have n0_ := blkb BK517 hb
    have n1_ := blkb BK518 hb
    have n2_ := belb HB hb
    have n3_ := Aside0.mk (hbox)
    have n4_ := bels HB hg
    have n5_ := bels HB hg
    have n6_ := blkl BK517 hg
    have n7_ := blkg BK517 hg
    have n8_ := blkl BK518 hg
    have n9_ := blkg BK518 hg
    clear BK517
    clear BK518
    clear HB
    have BK517 := n0_
    have BK518 := n1_
    have HB := n2_
    have BK526 := n3_
    have GW526 := n4_
    have GE526 := n5_
    have NB517_526 := n6_
    have NB526_517 := n7_
    have NB518_526 := n8_
    have NB526_518 := n9_
    clear n0_ n1_ n2_ n3_ n4_ n5_ n6_ n7_ n8_ n9_
    clear hb hbox hg
    refine hK.out _ _ ⟨(blk_cell BK517.out 0).trans rfl, (blk_cell BK517.out 1).trans rfl, (blk_cell BK517.out 2).trans rfl⟩ (fun hHeld => ?_)
    clear hK K
    refine norm_ (a' := ?_) ?_ ?_
    rotate_left
    ·show Act.put _ (some 6) _ = _
     simp only [Act.put, List.setIfInBounds_toArray, List.set_cons_zero, List.set_cons_succ, i64_w, i32_w]
     rfl
    refine one_ (i := 5) (N := some 14) #[true, true, true, true, true, true, false, false, false, false, true, false, false] rfl rfl (one_of HT_.out (by kernel_rfl)) (by decide) (fun K hK => ?_)
    refine goes_ Try.func80 (by kernel_rfl) rfl #[.int .u64 (IntKind.u64.wrap (a0_1))] (by rfl) rfl rfl argt ?_
    with_reducible refine (wide_OfU.calls (IntKind.u64.wrap (a0_1)) t521 t522 _ A4.out).mono ?_
    rintro e w12 ⟨rfl, hb⟩
    refine ⟨_, rfl, ?_⟩
    have n0_ := blkb BK517 hb
    have n1_ := blkb BK518 hb
    have n2_ := blkb BK526 hb
    have n3_ := belb HB hb
    clear BK517
    clear BK518
    clear BK526
    clear HB
    have BK517 := n0_
    have BK518 := n1_
    have BK526 := n2_
    have HB := n3_
    clear n0_ n1_ n2_ n3_
    (try clear hb)
    (try clear hb2)
    (try clear hk)
    (try clear hi)
    refine hK.out _ _ ⟨(blk_cell BK517.out 0).trans rfl, (blk_cell BK517.out 1).trans rfl, (blk_cell BK517.out 2).trans rfl⟩ (fun hHeld => ?_)
    clear hK K
    refine norm_ (a' := ?_) ?_ ?_
    rotate_left
    ·show Act.put _ (some 14) _ = _
     simp only [Act.put, List.setIfInBounds_toArray, List.set_cons_zero, List.set_cons_succ, i64_w, i32_w]
     rfl
    refine one_ (i := 6) (N := some 15) #[true, true, true, true, true, true, true, false, false, false, true, false, false] rfl rfl (one_of HT_.out (by kernel_rfl)) (by decide) (fun K hK => ?_)
    refine goes_ Try.func81 (by kernel_rfl) rfl #[.agg #[.int .i64 t519, .int .u64 t520], .agg #[.int .i64 t521, .int .u64 t522]] (by rfl) rfl rfl argt ?_
    with_reducible refine (wide_Int_Add.calls t519 t520 t521 t522 t523 t524 t525 _ A5.out).mono ?_
    rintro e w13 ⟨rfl, hb⟩
    refine ⟨_, rfl, ?_⟩
    have n0_ := blkb BK517 hb
    have n1_ := blkb BK518 hb
    have n2_ := blkb BK526 hb
    have n3_ := belb HB hb
    clear BK517
    clear BK518
    clear BK526
    clear HB
    have BK517 := n0_
    have BK518 := n1_
    have BK526 := n2_
    have HB := n3_
    clear n0_ n1_ n2_ n3_
    (try clear hb)
    (try clear hb2)
    (try clear hk)
    (try clear hi)
    refine hK.out _ _ ⟨(blk_cell BK517.out 0).trans rfl, (blk_cell BK517.out 1).trans rfl, (blk_cell BK517.out 2).trans rfl⟩ (fun hHeld => ?_)
    clear hK K
    refine norm_ (a' := ?_) ?_ ?_
    rotate_left
    ·show Act.put _ (some 15) _ = _
     simp only [Act.put, List.setIfInBounds_toArray, List.set_cons_zero, List.set_cons_succ, i64_w, i32_w]
     rfl
    refine pure_ (i := 7) (N := some 8) (v := ?_) (a' := ?_) #[true, true, true, true, true, true, true, true, false, false, true, false, false] rfl rfl (any_of HT_.out (by kernel_rfl)) (fun _ _ _ h => h) (Or.inl ⟨by rfl, ?_⟩) ?_ ?_
    rotate_left
    ·intro w'
     go_simp
     with_reducible rfl
    rotate_left
    ·simp only [Act.put, List.setIfInBounds_toArray, List.set_cons_zero, List.set_cons_succ, i64_w, i32_w]
     rfl
    refine pure_ (i := 8) (N := some 16) (v := ?_) (a' := ?_) #[true, true, true, true, true, true, true, true, true, false, true, false, false] rfl rfl (any_of HT_.out (by kernel_rfl)) (fun _ _ _ h => h) (Or.inl ⟨by rfl, ?_⟩) ?_ ?_
    rotate_left
    ·intro w'
     go_simp
     with_reducible rfl
    rotate_left
    ·simp only [Act.put, List.setIfInBounds_toArray, List.set_cons_zero, List.set_cons_succ, i64_w, i32_w]
     rfl
    refine pure_ (i := 9) (N := some 17) (v := ?_) (a' := ?_) #[true, true, true, true, true, true, true, true, true, true, true, false, false] rfl rfl (any_of HT_.out (by kernel_rfl)) (fun _ _ _ h => h) (Or.inl ⟨by rfl, ?_⟩) ?_ ?_
    rotate_left
    ·intro w'
     go_simp
     with_reducible rfl
    rotate_left
    ·simp only [Act.put, List.setIfInBounds_toArray, List.set_cons_zero, List.set_cons_succ, i64_w, i32_w]
     rfl
    exact norm_ (by simp only [putAll, Act.put, List.setIfInBounds_toArray, List.set_cons_zero, List.set_cons_succ]) (hCont (gb526) _ ⟨hHeld, (blkt BK517), (blkt BK518), (blkt BK526), GW526.out, GE526.out, NB517_526.out, NB526_517.out, NB518_526.out, NB526_518.out, (belt HB)⟩)
  ·skip
   refine box_step ?hg (N := 6) ?hd (cs := #[.int .i64 0, .int .u64 0]) (t := 59) ?hr ?_; (case hd => rfl); (case hg => rfl); (case hr => first | (go_simp; done) | (go_simp; rfl))
   intro gb526 hg w10 hbox hb
   have n0_ := blkb BK517 hb
   have n1_ := blkb BK518 hb
   have n2_ := belb HB hb
   have n3_ := Aside0.mk (hbox)
   have n4_ := bels HB hg
   have n5_ := bels HB hg
   have n6_ := blkl BK517 hg
   have n7_ := blkg BK517 hg
   have n8_ := blkl BK518 hg
   have n9_ := blkg BK518 hg
   clear BK517
   clear BK518
   clear HB
   have BK517 := n0_
   have BK518 := n1_
   have HB := n2_
   have BK526 := n3_
   have GW526 := n4_
   have GE526 := n5_
   have NB517_526 := n6_
   have NB526_517 := n7_
   have NB518_526 := n8_
   have NB526_518 := n9_
   clear n0_ n1_ n2_ n3_ n4_ n5_ n6_ n7_ n8_ n9_
   clear hb hbox hg
   refine hK.out _ _ ⟨(blk_cell BK517.out 0).trans rfl, (blk_cell BK517.out 1).trans rfl, (blk_cell BK517.out 2).trans rfl⟩ (fun hHeld => ?_)
   clear hK K
   refine norm_ (a' := ?_) ?_ ?_
   rotate_left
   ·show Act.put _ (some 6) _ = _
    simp only [Act.put, List.setIfInBounds_toArray, List.set_cons_zero, List.set_cons_succ, i64_w, i32_w]
    rfl
   refine one_ (i := 1) (N := some 10) #[true, true, true, true, true, false, false, false, false, false, true, false, false] rfl rfl (one_of HT_.out (by kernel_rfl)) (by decide) (fun K hK => ?_)
   refine goes_ Try.func80 (by kernel_rfl) rfl #[.int .u64 a1] (by rfl) rfl rfl argt ?_
   with_reducible refine (wide_OfU.calls a1 t519 t520 _ A3.out).mono ?_
   rintro e w11 ⟨rfl, hb⟩
   refine ⟨_, rfl, ?_⟩
   have n0_ := blkb BK517 hb
   have n1_ := blkb BK518 hb
   have n2_ := blkb BK526 hb
   have n3_ := belb HB hb
   clear BK517
   clear BK518
   clear BK526
   clear HB
   have BK517 := n0_
   have BK518 := n1_
   have BK526 := n2_
   have HB := n3_
   clear n0_ n1_ n2_ n3_
   (try clear hb)
   (try clear hb2)
   (try clear hk)
   (try clear hi)
   refine hK.out _ _ ⟨(blk_cell BK517.out 0).trans rfl, (blk_cell BK517.out 1).trans rfl, (blk_cell BK517.out 2).trans rfl⟩ (fun hHeld => ?_)
   clear hK K
   refine norm_ (a' := ?_) ?_ ?_
   rotate_left
   ·show Act.put _ (some 10) _ = _
    simp only [Act.put, List.setIfInBounds_toArray, List.set_cons_zero, List.set_cons_succ, i64_w, i32_w]
    rfl
   refine one_ (i := 5) (N := some 14) #[true, true, true, true, true, true, false, false, false, false, true, false, false] rfl rfl (one_of HT_.out (by kernel_rfl)) (by decide) (fun K hK => ?_)
   refine goes_ Try.func80 (by kernel_rfl) rfl #[.int .u64 (IntKind.u64.wrap (a0_1))] (by rfl) rfl rfl argt ?_
   with_reducible refine (wide_OfU.calls (IntKind.u64.wrap (a0_1)) t521 t522 _ A4.out).mono ?_
   rintro e w12 ⟨rfl, hb⟩
   refine ⟨_, rfl, ?_⟩
   have n0_ := blkb BK517 hb
   have n1_ := blkb BK518 hb
   have n2_ := blkb BK526 hb
   have n3_ := belb HB hb
   clear BK517
   clear BK518
   clear BK526
   clear HB
   have BK517 := n0_
   have BK518 := n1_
   have BK526 := n2_
   have HB := n3_
   clear n0_ n1_ n2_ n3_
   (try clear hb)
   (try clear hb2)
   (try clear hk)
   (try clear hi)
   refine hK.out _ _ ⟨(blk_cell BK517.out 0).trans rfl, (blk_cell BK517.out 1).trans rfl, (blk_cell BK517.out 2).trans rfl⟩ (fun hHeld => ?_)
   clear hK K
   refine norm_ (a' := ?_) ?_ ?_
   rotate_left
   ·show Act.put _ (some 14) _ = _
    simp only [Act.put, List.setIfInBounds_toArray, List.set_cons_zero, List.set_cons_succ, i64_w, i32_w]
    rfl
   refine one_ (i := 6) (N := some 15) #[true, true, true, true, true, true, true, false, false, false, true, false, false] rfl rfl (one_of HT_.out (by kernel_rfl)) (by decide) (fun K hK => ?_)
   refine goes_ Try.func81 (by kernel_rfl) rfl #[.agg #[.int .i64 t519, .int .u64 t520], .agg #[.int .i64 t521, .int .u64 t522]] (by rfl) rfl rfl argt ?_
   with_reducible refine (wide_Int_Add.calls t519 t520 t521 t522 t523 t524 t525 _ A5.out).mono ?_
   rintro e w13 ⟨rfl, hb⟩
   refine ⟨_, rfl, ?_⟩
   have n0_ := blkb BK517 hb
   have n1_ := blkb BK518 hb
   have n2_ := blkb BK526 hb
   have n3_ := belb HB hb
   clear BK517
   clear BK518
   clear BK526
   clear HB
   have BK517 := n0_
   have BK518 := n1_
   have BK526 := n2_
   have HB := n3_
   clear n0_ n1_ n2_ n3_
   (try clear hb)
   (try clear hb2)
   (try clear hk)
   (try clear hi)
   refine hK.out _ _ ⟨(blk_cell BK517.out 0).trans rfl, (blk_cell BK517.out 1).trans rfl, (blk_cell BK517.out 2).trans rfl⟩ (fun hHeld => ?_)
   clear hK K
   refine norm_ (a' := ?_) ?_ ?_
   rotate_left
   ·show Act.put _ (some 15) _ = _
    simp only [Act.put, List.setIfInBounds_toArray, List.set_cons_zero, List.set_cons_succ, i64_w, i32_w]
    rfl
   refine pure_ (i := 7) (N := some 8) (v := ?_) (a' := ?_) #[true, true, true, true, true, true, true, true, false, false, true, false, false] rfl rfl (any_of HT_.out (by kernel_rfl)) (fun _ _ _ h => h) (Or.inl ⟨by rfl, ?_⟩) ?_ ?_
   rotate_left
   ·intro w'
    go_simp
    with_reducible rfl
   rotate_left
   ·simp only [Act.put, List.setIfInBounds_toArray, List.set_cons_zero, List.set_cons_succ, i64_w, i32_w]
    rfl
   refine pure_ (i := 8) (N := some 16) (v := ?_) (a' := ?_) #[true, true, true, true, true, true, true, true, true, false, true, false, false] rfl rfl (any_of HT_.out (by kernel_rfl)) (fun _ _ _ h => h) (Or.inl ⟨by rfl, ?_⟩) ?_ ?_
   rotate_left
   ·intro w'
    go_simp
    with_reducible rfl
   rotate_left
   ·simp only [Act.put, List.setIfInBounds_toArray, List.set_cons_zero, List.set_cons_succ, i64_w, i32_w]
    rfl
   refine pure_ (i := 9) (N := some 17) (v := ?_) (a' := ?_) #[true, true, true, true, true, true, true, true, true, true, true, false, false] rfl rfl (any_of HT_.out (by kernel_rfl)) (fun _ _ _ h => h) (Or.inl ⟨by rfl, ?_⟩) ?_ ?_
   rotate_left
   ·intro w'
    go_simp
    with_reducible rfl
   rotate_left
   ·simp only [Act.put, List.setIfInBounds_toArray, List.set_cons_zero, List.set_cons_succ, i64_w, i32_w]
    rfl
   exact norm_ (by simp only [putAll, Act.put, List.setIfInBounds_toArray, List.set_cons_zero, List.set_cons_succ]) (hCont (gb526) _ ⟨hHeld, (blkt BK517), (blkt BK518), (blkt BK526), GW526.out, GE526.out, NB517_526.out, NB526_517.out, NB518_526.out, NB526_518.out, (belt HB)⟩)
 rintro gb526 w14 ⟨hS_, h0_, h1_, h2_, h3_, h4_, h5_, h6_, h7_, h8_, h9_⟩
 have n0_ : Aside0 (w14.heap[gb517]? = some (.cells #[.int .u64 a0_0, .int .u32 a0_1, .int .u32 a0_2] 67 (0, 0))) := ⟨h0_⟩
 have n1_ : Aside0 (w14.heap[gb518]? = some (.cells #[.int .u64 0, .int .u32 0, .int .u32 0] 67 (0, 0))) := ⟨h1_⟩
 have n2_ : Aside0 (w14.heap[gb526]? = some (.cells #[.int .i64 0, .int .u64 0] 59 (0, 0))) := ⟨h2_⟩
 have n3_ : Aside0 (w.heap.size ≤ gb526) := ⟨h3_⟩
 have n4_ : Aside0 (w.heap.size ≤ gb526) := ⟨h4_⟩
 have n5_ : Aside0 (gb517 ≠ gb526) := ⟨h5_⟩
 have n6_ : Aside0 (gb526 ≠ gb517) := ⟨h6_⟩
 have n7_ : Aside0 (gb518 ≠ gb526) := ⟨h7_⟩
 have n8_ : Aside0 (gb526 ≠ gb518) := ⟨h8_⟩
 have n9_ : Aside0 (Below w.heap.size w w14) := ⟨h9_⟩
 clear BK517
 clear BK518
 clear HB
 clear h0_ h1_ h2_ h3_ h4_ h5_ h6_ h7_ h8_ h9_
 have BK517 := n0_
 have BK518 := n1_
 have BK526 := n2_
 have GW526 := n3_
 have GE526 := n4_
 have NB517_526 := n5_
 have NB526_517 := n6_
 have NB518_526 := n7_
 have NB526_518 := n8_
 have HB := n9_
 clear n0_ n1_ n2_ n3_ n4_ n5_ n6_ n7_ n8_ n9_
 have hHeld : w14.cell? ⟨gb517, 0, none⟩ = some (.int .u64 a0_0) ∧ w14.cell? ⟨gb517, 1, none⟩ = some (.int .u32 a0_1) ∧ w14.cell? ⟨gb517, 2, none⟩ = some (.int .u32 a0_2) := hS_
 refine norm_ (a' := ?_) ?_ ?_
 rotate_left
 ·simp only [putAll, Act.put, List.setIfInBounds_toArray, List.set_cons_zero, List.set_cons_succ]
  rfl
 refine one_ (i := 11) (N := none) #[true, true, true, true, true, true, true, true, true, true, true, true, false] rfl rfl (one_of HT_.out (by kernel_rfl)) (by decide) (fun K hK => ?_)
 have hs15 : w14.cell? ⟨gb526, 0, none⟩ = some (.int .i64 0) := (blk_cell BK526.out 0).trans rfl
 have hfs15 := blk_frozen BK526.out 0
 have hns15_0 := NB517_526.out
 have hns15_1 := NB518_526.out
 have hms15_0 := NB526_517.out
 have hms15_1 := NB526_518.out
 have hs16 : w14.cell? ⟨gb526, 1, none⟩ = some (.int .u64 0) := (blk_cell BK526.out 1).trans rfl
 have hfs16 := blk_frozen BK526.out 1
 have hns16_0 := NB517_526.out
 have hns16_1 := NB518_526.out
 have hms16_0 := NB526_517.out
 have hms16_1 := NB526_518.out
 refine skip_ (w1 := ?_) (by rfl) rfl ?_ ?_
 rotate_left
 ·go_simp
  rfl
 refine hK.out _ _ ⟨((cell_far (p := ⟨gb526, _, none⟩) NB517_526.out _).trans (((cell_far (p := ⟨gb526, _, none⟩) NB517_526.out _).trans (hHeld.1)))), ((cell_far (p := ⟨gb526, _, none⟩) NB517_526.out _).trans (((cell_far (p := ⟨gb526, _, none⟩) NB517_526.out _).trans (hHeld.2.1)))), ((cell_far (p := ⟨gb526, _, none⟩) NB517_526.out _).trans (((cell_far (p := ⟨gb526, _, none⟩) NB517_526.out _).trans (hHeld.2.2))))⟩ (fun hHeld => ?_)
 clear hK K
 refine pure_ (i := 12) (N := some 7) (v := ?_) (a' := ?_) #[true, true, true, true, true, true, true, true, true, true, true, true, true] rfl rfl (any_of HT_.out (by kernel_rfl)) (fun _ _ _ h => h) (Or.inl ⟨by rfl, ?_⟩) ?_ ?_
 rotate_left
 ·intro w'
  go_simp
  with_reducible rfl
 rotate_left
 ·simp only [Act.put, List.setIfInBounds_toArray, List.set_cons_zero, List.set_cons_succ, i64_w, i32_w]
  rfl
 refine done_ (done_of HT_.out (by kernel_rfl)) ?_
 have hnb17 := NB517_518.out
 have hnc17 := NB518_517.out
 have hnb18 := NB517_526.out
 have hnc18 := NB526_517.out
 have hcz19_0 : w14.cell? ⟨gb517, 0, none⟩ = some (.int .u64 a0_0) := (blk_cell BK517.out 0).trans rfl
 have hcz19_1 : w14.cell? ⟨gb517, 1, none⟩ = some (.int .u32 a0_1) := (blk_cell BK517.out 1).trans rfl
 have hcz19_2 : w14.cell? ⟨gb517, 2, none⟩ = some (.int .u32 a0_2) := (blk_cell BK517.out 2).trans rfl
 have hfz19_0 := blk_frozen BK517.out 0
 have hfz19_1 := blk_frozen BK517.out 1
 have hfz19_2 := blk_frozen BK517.out 2
 have hnb20 := NB526_518.out
 have hnc20 := NB518_526.out
 have hcz21_0 : w14.cell? ⟨gb526, 0, none⟩ = some (.int .i64 0) := (blk_cell BK526.out 0).trans rfl
 have hcz21_1 : w14.cell? ⟨gb526, 1, none⟩ = some (.int .u64 0) := (blk_cell BK526.out 1).trans rfl
 have hfz21_0 := blk_frozen BK526.out 0
 have hfz21_1 := blk_frozen BK526.out 1
 try go_wp2_with (first | ((with_reducible refine gate_callee (f := 45) rfl ?_); refine goesL_ (some 23) rfl rfl Try.func45 (by kernel_rfl) rfl #[.int .u64 a0_0, .agg #[.int .i64 t523, .int .u64 t524], .int .u32 a0_2] rfl argt ?_; (with_reducible refine (pos_At.calls k a0_0 t523 t524 a0_2 t527 t528 t529 t530 _ A6.out).mono ?_); rintro e w22 ⟨rfl, hb⟩; refine ⟨_, rfl, ?_⟩; have n0_ := Aside0.mk (blk_below (g := gb517) (o := .cells #[.int .u64 a0_0, .int .u32 a0_1, .int .u32 a0_2] 67 (0, 0)) (by (with_reducible repeat (first | refine blk_drewN ?_ _ | refine blk_drew ?_ | refine blk_alloc ?_ _)); refine blk_far ?_ NB517_526.out _; (with_reducible repeat (first | refine blk_drewN ?_ _ | refine blk_drew ?_ | refine blk_alloc ?_ _)); refine blk_far ?_ NB517_526.out _; (with_reducible repeat (first | refine blk_drewN ?_ _ | refine blk_drew ?_ | refine blk_alloc ?_ _)); exact BK517.out) hb); have n1_ := Aside0.mk (blk_below (g := gb518) (o := .cells #[.int .u64 0, .int .u32 0, .int .u32 0] 67 (0, 0)) (by (with_reducible repeat (first | refine blk_drewN ?_ _ | refine blk_drew ?_ | refine blk_alloc ?_ _)); refine blk_far ?_ NB518_526.out _; (with_reducible repeat (first | refine blk_drewN ?_ _ | refine blk_drew ?_ | refine blk_alloc ?_ _)); refine blk_far ?_ NB518_526.out _; (with_reducible repeat (first | refine blk_drewN ?_ _ | refine blk_drew ?_ | refine blk_alloc ?_ _)); exact BK518.out) hb); have n2_ := Aside0.mk (blk_below (g := gb526) (o := .cells #[.int .i64 t523, .int .u64 t524] 59 (0, 0)) (by (with_reducible repeat (first | refine blk_drewN ?_ _ | refine blk_drew ?_ | refine blk_alloc ?_ _)); refine blk_put (cs := #[.int .i64 t523, .int .u64 0]) ?_ 1 _ rfl; (with_reducible repeat (first | refine blk_drewN ?_ _ | refine blk_drew ?_ | refine blk_alloc ?_ _)); refine blk_put (cs := #[.int .i64 0, .int .u64 0]) ?_ 0 _ rfl; (with_reducible repeat (first | refine blk_drewN ?_ _ | refine blk_drew ?_ | refine blk_alloc ?_ _)); exact BK526.out) hb); have n3_ := belb HB hb; clear BK517; clear BK518; clear BK526; clear HB; have BK517 := n0_; have BK518 := n1_; have BK526 := n2_; have HB := n3_; clear n0_ n1_ n2_ n3_; (try clear hb); (try clear hb2); (try clear hk); (try clear hi); have hcz23_0 : w22.cell? ⟨gb518, 0, none⟩ = some (.int .u64 0) := (blk_cell BK518.out 0).trans rfl; have hcz23_1 : w22.cell? ⟨gb518, 1, none⟩ = some (.int .u32 0) := (blk_cell BK518.out 1).trans rfl; have hcz23_2 : w22.cell? ⟨gb518, 2, none⟩ = some (.int .u32 0) := (blk_cell BK518.out 2).trans rfl; have hfz23_0 := blk_frozen BK518.out 0; have hfz23_1 := blk_frozen BK518.out 1; have hfz23_2 := blk_frozen BK518.out 2))
 refine bodyPost_ret (results_ct rfl _ _ gb518 67 #[.int .u64 t527, .int .u32 t528, .int .u32 t529] (0, 0) _ rfl (by (with_reducible repeat (first | refine blk_drewN ?_ _ | refine blk_drew ?_ | refine blk_alloc ?_ _)); refine blk_put (cs := #[.int .u64 t527, .int .u32 t528, .int .u32 0]) ?_ 2 _ rfl; (with_reducible repeat (first | refine blk_drewN ?_ _ | refine blk_drew ?_ | refine blk_alloc ?_ _)); refine blk_put (cs := #[.int .u64 t527, .int .u32 0, .int .u32 0]) ?_ 1 _ rfl; (with_reducible repeat (first | refine blk_drewN ?_ _ | refine blk_drew ?_ | refine blk_alloc ?_ _)); refine blk_put (cs := #[.int .u64 0, .int .u32 0, .int .u32 0]) ?_ 0 _ rfl; (with_reducible repeat (first | refine blk_drewN ?_ _ | refine blk_drew ?_ | refine blk_alloc ?_ _)); exact BK518.out) Try.underlying67 rfl (by kernel_rfl)) rfl ?_
 exact ⟨by first | rfl | (simp [errW_none, errW_some] <;> rfl) | (simp [*, errW_none, errW_some] <;> rfl), by repeat (first | (with_reducible first | exact HB.out | apply below_alloc | apply pw_below_drewN | apply below_drew1 | refine below_set ?_ GE517.out | refine below_set ?_ GE518.out | refine below_set ?_ GE526.out) | exact HB.out)⟩

end Go.Proofs.Ytimgiiceipjpaaa.Print
