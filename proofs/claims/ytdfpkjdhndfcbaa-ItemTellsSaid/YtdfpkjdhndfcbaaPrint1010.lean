/- What each Go function that is named below answers, as a Lean function, and that its walk comes to just that: for whatever arguments that function gives an answer for. Written by a program of this session (wip/mkpr.py, pr.sh). -/
import Derived.Test.YtdfpkjdhndfcbaaPrint1000
import Derived.Test.YtdfpkjdhndfcbaaPrint1009
import Derived.Test.YtdfpkjdhndfcbaaPrint1008
namespace Go.Proofs.Ytdfpkjdhndfcbaa.Print
open Go.RowKit Go.Proofs.YtdfpkjdhndfcbaaW.PrintWords Go.Proofs.YtdfpkjdhndfcbaaW.PrintLast Go.Proofs.YtdfpkjdhndfcbaaW.PrintMore
attribute [local go_sem] max2_int min2_int max_two min_two max_three min_three max_four min_four   -- for this text's walks alone
open Go.Proofs.Ytdfpkjdhndfcbaa.Bits Go.Proofs.Ytdfpkjdhndfcbaa.Short
attribute [local go_sem] add64_run0 sub64_run0 add64_run sub64_run
set_option linter.unusedVariables false
set_option linter.unusedSimpArgs false

/-! ### turnstonelaw05_Of: function 13 -/
def turnstonelaw05_Of.f (a0_0 : Int) (a0_1 : Int) (a0_2 : Int) (a0_3 : Int) (a0_4 : Int) (a0_5 : Int) (a0_6 : Int) : Option (Int × Int × Int × Int × Int × Int × Int) := (turnstonelaw04_Of.f a0_0 a0_1 a0_2).bind fun bt342 => ((turnstonelaw04_Of.f a0_4 a0_5 a0_6).bind fun bt345 => (some (bt342.1, bt342.2.1, bt342.2.2, a0_3, bt345.1, bt345.2.1, bt345.2.2)))
def turnstonelaw05_Of.T1 : Bool × List (List Nat × List Nat) := (true, [([], []), ([0], [0]), ([1], [1]), ([], []), ([3], [3]), ([], []), ([5], [5]), ([6, 2], [6]), ([2, 4, 7], [2, 4, 7]), ([8, 7, 0, 1, 2, 3, 4, 5, 6, 7, 8], [8])])
def turnstonelaw05_Of.B1 : List Nat := [0, 1, 3, 0, 8, 0, 32, 103, 255, 511]
theorem turnstonelaw05_Of.tab1 : rtab .any (opsOf Try.f13 1) = turnstonelaw05_Of.T1 := by kernel_rfl
theorem turnstonelaw05_Of.bits1 : waitsOk turnstonelaw05_Of.T1.2 turnstonelaw05_Of.B1 = true := by kernel_rfl
set_option maxHeartbeats 8000000 in
set_option maxRecDepth 100000 in
theorem turnstonelaw05_Of.calls (a0_0 : Int) (a0_1 : Int) (a0_2 : Int) (a0_3 : Int) (a0_4 : Int) (a0_5 : Int) (a0_6 : Int) (r1 : Int) (r2 : Int) (r3 : Int) (r4 : Int) (r5 : Int) (r6 : Int) (r7 : Int) (w : World) (h : turnstonelaw05_Of.f a0_0 a0_1 a0_2 a0_3 a0_4 a0_5 a0_6 = some (r1, r2, r3, r4, r5, r6, r7)) :
  Calls Try.prog 13 #[.agg #[.int .u64 a0_0, .int .u32 a0_1, .int .u32 a0_2, .int .i64 a0_3, .int .u64 a0_4, .int .u32 a0_5, .int .u32 a0_6]] w fun e w' => e = .returned (.agg #[.int .u64 r1, .int .u32 r2, .int .u32 r3, .int .i64 r4, .int .u64 r5, .int .u32 r6, .int .u32 r7]) ∧ Below w.heap.size w w' := by
 have hu28 := Try.underlying28
 have hu38 := Try.underlying38
 have hu26 := Try.underlying26
 have HB := Aside0.mk (Below.refl w.heap.size w)
 have H : ((turnstonelaw04_Of.f a0_0 a0_1 a0_2).bind fun bt342 => ((turnstonelaw04_Of.f a0_4 a0_5 a0_6).bind fun bt345 => (some (bt342.1, bt342.2.1, bt342.2.2, a0_3, bt345.1, bt345.2.1, bt345.2.2)))) = some (r1, r2, r3, r4, r5, r6, r7) := h
 clear h
 replace H := Option.bind_eq_some_iff.mp H
 obtain ⟨⟨t342, t343, t344⟩, A20, H⟩ := H
 replace H : ((turnstonelaw04_Of.f a0_4 a0_5 a0_6).bind fun bt345 => (some (t342, t343, t344, a0_3, bt345.1, bt345.2.1, bt345.2.2))) = some (r1, r2, r3, r4, r5, r6, r7) := H
 have A2 := Aside0.mk A20
 clear A20
 replace H := Option.bind_eq_some_iff.mp H
 obtain ⟨⟨t345, t346, t347⟩, A30, H⟩ := H
 replace H : (some (t342, t343, t344, a0_3, t345, t346, t347)) = some (r1, r2, r3, r4, r5, r6, r7) := H
 have A3 := Aside0.mk A30
 clear A30
 simp only [Option.some.injEq, Prod.mk.injEq] at H
 obtain ⟨rfl, rfl, rfl, rfl, rfl, rfl, rfl⟩ := H
 go_enter Try.func13, Try.ntmps13
 try go_wp2_with (first | ((with_reducible refine gate_dst (N := 1) rfl ?_); refine box_event ?hg (N := 1) ?hd (cs := #[.int .u64 a0_0, .int .u32 a0_1, .int .u32 a0_2, .int .i64 a0_3, .int .u64 a0_4, .int .u32 a0_5, .int .u32 a0_6]) (t := 28) ?hr ?_; (case hd => rfl); (case hg => rfl); (case hr => first | (go_simp; done) | (go_simp; rfl)); intro gb340 hg w4 hbox hb; have BK340 := Aside0.mk (hbox); have GW340 := bels HB hg; have GE340 := bels HB hg; replace HB := belb HB hb; clear hb hbox hg) | ((with_reducible refine gate_dst (N := 2) rfl ?_); refine box_event ?hg (N := 2) ?hd (cs := #[.int .u64 0, .int .u32 0, .int .u32 0, .int .i64 0, .int .u64 0, .int .u32 0, .int .u32 0]) (t := 38) ?hr ?_; (case hd => rfl); (case hg => rfl); (case hr => first | (go_simp; done) | (go_simp; rfl)); intro gb341 hg w5 hbox hb; have BK341 := Aside0.mk (hbox); have GW341 := bels HB hg; have GE341 := bels HB hg; have NB340_341 := blkl BK340 hg; have NB341_340 := blkg BK340 hg; replace BK340 := blkb BK340 hb; replace HB := belb HB hb; clear hb hbox hg))
 replace BK340 := Aside0.mk (blk_drew BK340.out)
 replace BK341 := Aside0.mk (blk_drew BK341.out)
 replace HB := Aside0.mk (below_drew1 HB.out)
 refine start_ (n := 10) (S := fun w' => w'.cell? ⟨gb340, 0, none⟩ = some (.int .u64 a0_0) ∧ w'.cell? ⟨gb340, 1, none⟩ = some (.int .u32 a0_1) ∧ w'.cell? ⟨gb340, 2, none⟩ = some (.int .u32 a0_2) ∧ w'.cell? ⟨gb340, 3, none⟩ = some (.int .i64 a0_3) ∧ w'.cell? ⟨gb340, 4, none⟩ = some (.int .u64 a0_4) ∧ w'.cell? ⟨gb340, 5, none⟩ = some (.int .u32 a0_5) ∧ w'.cell? ⟨gb340, 6, none⟩ = some (.int .u32 a0_6)) (ds := []) #[false, false, false, false, false, false, false, false, false, false] (by kernel_rfl) rfl rfl ⟨bc BK340 0, bc BK340 1, bc BK340 2, bc BK340 3, bc BK340 4, bc BK340 5, bc BK340 6⟩ (fun hHeld => ?_); refine with_tabW turnstonelaw05_Of.tab1 turnstonelaw05_Of.bits1 (fun HT_ HW_ => ?_)
 generalize w5.drew = w6 at BK340 BK341 HB hHeld ⊢
 refine pure_ (i := 0) (N := some 3) (v := ?_) (a' := ?_) #[true, false, false, false, false, false, false, false, false, false] rfl rfl (any_of HT_.out (by kernel_rfl)) (fun _ _ _ h => h) (Or.inl ⟨by rfl, ?_⟩) ?_ ?_
 rotate_left
 ·intro w'
  go_simp
  with_reducible rfl
 rotate_left
 ·simp only [Act.put, List.setIfInBounds_toArray, List.set_cons_zero, List.set_cons_succ, i64_w, i32_w]
  rfl
 refine pure_ (i := 3) (N := some 6) (v := ?_) (a' := ?_) #[true, false, false, true, false, false, false, false, false, false] rfl rfl (any_of HT_.out (by kernel_rfl)) (fun _ _ _ h => h) (Or.inl ⟨by rfl, ?_⟩) ?_ ?_
 rotate_left
 ·intro w'
  go_simp
  with_reducible rfl
 rotate_left
 ·simp only [Act.put, List.setIfInBounds_toArray, List.set_cons_zero, List.set_cons_succ, i64_w, i32_w]
  rfl
 refine pure_ (i := 5) (N := some 8) (v := ?_) (a' := ?_) #[true, false, false, true, false, true, false, false, false, false] rfl rfl (any_of HT_.out (by kernel_rfl)) (fun _ _ _ h => h) (Or.inl ⟨by rfl, ?_⟩) ?_ ?_
 rotate_left
 ·intro w'
  go_simp
  with_reducible rfl
 rotate_left
 ·simp only [Act.put, List.setIfInBounds_toArray, List.set_cons_zero, List.set_cons_succ, i64_w, i32_w]
  rfl
 refine take_ (i := 1) (N := some 4) (v := ?_) (a' := ?_) #[true, true, false, true, false, true, false, false, false, false] rfl rfl (take_ofW HT_.out HW_.out (by kernel_rfl)) (fun _ _ _ h => h) (Or.inl ⟨by rfl, ?_⟩) hHeld ?_ ?_
 rotate_left
 ·rintro w' ⟨s0, s1, s2, s3, s4, s5, s6⟩
  go_simp
  with_reducible rfl
 rotate_left
 ·simp only [Act.put, List.setIfInBounds_toArray, List.set_cons_zero, List.set_cons_succ, i64_w, i32_w]
  rfl
 refine take_ (i := 4) (N := some 7) (v := ?_) (a' := ?_) #[true, true, false, true, true, true, false, false, false, false] rfl rfl (take_ofW HT_.out HW_.out (by kernel_rfl)) (fun _ _ _ h => h) (Or.inl ⟨by rfl, ?_⟩) hHeld ?_ ?_
 rotate_left
 ·rintro w' ⟨s0, s1, s2, s3, s4, s5, s6⟩
  go_simp
  with_reducible rfl
 rotate_left
 ·simp only [Act.put, List.setIfInBounds_toArray, List.set_cons_zero, List.set_cons_succ, i64_w, i32_w]
  rfl
 refine take_ (i := 6) (N := some 9) (v := ?_) (a' := ?_) #[true, true, false, true, true, true, true, false, false, false] rfl rfl (take_ofW HT_.out HW_.out (by kernel_rfl)) (fun _ _ _ h => h) (Or.inl ⟨by rfl, ?_⟩) hHeld ?_ ?_
 rotate_left
 ·rintro w' ⟨s0, s1, s2, s3, s4, s5, s6⟩
  go_simp
  with_reducible rfl
 rotate_left
 ·simp only [Act.put, List.setIfInBounds_toArray, List.set_cons_zero, List.set_cons_succ, i64_w, i32_w]
  rfl
 refine one_ (i := 2) (N := some 5) #[true, true, true, true, true, true, true, false, false, false] rfl rfl (one_of HT_.out (by kernel_rfl)) (by decide) (fun K hK => ?_)
 refine goes_ Try.func31 (by kernel_rfl) rfl #[.agg #[.int .u64 a0_0, .int .u32 a0_1, .int .u32 a0_2]] (by rfl) rfl rfl argt ?_
 with_reducible refine (turnstonelaw04_Of.calls a0_0 a0_1 a0_2 t342 t343 t344 _ A2.out).mono ?_
 rintro e w7 ⟨rfl, hb⟩
 refine ⟨_, rfl, ?_⟩
 replace BK340 := blkb BK340 hb
 replace BK341 := blkb BK341 hb
 replace HB := belb HB hb
 (try clear hb)
 (try clear hb2)
 (try clear hk)
 (try clear hi)
 refine hK.out _ _ ⟨bc BK340 0, bc BK340 1, bc BK340 2, bc BK340 3, bc BK340 4, bc BK340 5, bc BK340 6⟩ (fun hHeld => ?_)
 clear hK K
 refine norm_ (a' := ?_) ?_ ?_
 rotate_left
 ·show Act.put _ (some 5) _ = _
  simp only [Act.put, List.setIfInBounds_toArray, List.set_cons_zero, List.set_cons_succ, i64_w, i32_w]
  rfl
 refine one_ (i := 7) (N := some 10) #[true, true, true, true, true, true, true, true, false, false] rfl rfl (one_of HT_.out (by kernel_rfl)) (by decide) (fun K hK => ?_)
 refine goes_ Try.func31 (by kernel_rfl) rfl #[.agg #[.int .u64 a0_4, .int .u32 a0_5, .int .u32 a0_6]] (by rfl) rfl rfl argt ?_
 with_reducible refine (turnstonelaw04_Of.calls a0_4 a0_5 a0_6 t345 t346 t347 _ A3.out).mono ?_
 rintro e w8 ⟨rfl, hb⟩
 refine ⟨_, rfl, ?_⟩
 replace BK340 := blkb BK340 hb
 replace BK341 := blkb BK341 hb
 replace HB := belb HB hb
 (try clear hb)
 (try clear hb2)
 (try clear hk)
 (try clear hi)
 refine hK.out _ _ ⟨bc BK340 0, bc BK340 1, bc BK340 2, bc BK340 3, bc BK340 4, bc BK340 5, bc BK340 6⟩ (fun hHeld => ?_)
 clear hK K
 refine norm_ (a' := ?_) ?_ ?_
 rotate_left
 ·show Act.put _ (some 10) _ = _
  simp only [Act.put, List.setIfInBounds_toArray, List.set_cons_zero, List.set_cons_succ, i64_w, i32_w]
  rfl
 refine pure_ (i := 8) (N := some 11) (v := ?_) (a' := ?_) #[true, true, true, true, true, true, true, true, true, false] rfl rfl (any_of HT_.out (by kernel_rfl)) (fun _ _ _ h => h) (Or.inl ⟨by rfl, ?_⟩) ?_ ?_
 rotate_left
 ·intro w'
  go_simp
  with_reducible rfl
 rotate_left
 ·simp only [Act.put, List.setIfInBounds_toArray, List.set_cons_zero, List.set_cons_succ, i64_w, i32_w]
  rfl
 refine one_ (i := 9) (N := none) #[true, true, true, true, true, true, true, true, true, true] rfl rfl (one_of HT_.out (by kernel_rfl)) (by decide) (fun K hK => ?_)
 have hs9 : w8.cell? ⟨gb341, 0, none⟩ = some (.int .u64 0) := bc BK341 0
 have hfs9 := blk_frozen BK341.out 0
 have hns9_0 := NB340_341.out
 have hms9_0 := NB341_340.out
 have hs10 : w8.cell? ⟨gb341, 1, none⟩ = some (.int .u32 0) := bc BK341 1
 have hfs10 := blk_frozen BK341.out 1
 have hns10_0 := NB340_341.out
 have hms10_0 := NB341_340.out
 have hs11 : w8.cell? ⟨gb341, 2, none⟩ = some (.int .u32 0) := bc BK341 2
 have hfs11 := blk_frozen BK341.out 2
 have hns11_0 := NB340_341.out
 have hms11_0 := NB341_340.out
 have hs12 : w8.cell? ⟨gb341, 3, none⟩ = some (.int .i64 0) := bc BK341 3
 have hfs12 := blk_frozen BK341.out 3
 have hns12_0 := NB340_341.out
 have hms12_0 := NB341_340.out
 have hs13 : w8.cell? ⟨gb341, 4, none⟩ = some (.int .u64 0) := bc BK341 4
 have hfs13 := blk_frozen BK341.out 4
 have hns13_0 := NB340_341.out
 have hms13_0 := NB341_340.out
 have hs14 : w8.cell? ⟨gb341, 5, none⟩ = some (.int .u32 0) := bc BK341 5
 have hfs14 := blk_frozen BK341.out 5
 have hns14_0 := NB340_341.out
 have hms14_0 := NB341_340.out
 have hs15 : w8.cell? ⟨gb341, 6, none⟩ = some (.int .u32 0) := bc BK341 6
 have hfs15 := blk_frozen BK341.out 6
 have hns15_0 := NB340_341.out
 have hms15_0 := NB341_340.out
 refine skip_ (w1 := ?_) (by rfl) rfl ?_ ?_
 rotate_left
 ·go_simp
  rfl
 refine hK.out _ _ ⟨((cell_far (p := ⟨gb341, _, none⟩) NB340_341.out _).trans (((cell_far (p := ⟨gb341, _, none⟩) NB340_341.out _).trans (((cell_far (p := ⟨gb341, _, none⟩) NB340_341.out _).trans (((cell_far (p := ⟨gb341, _, none⟩) NB340_341.out _).trans (((cell_far (p := ⟨gb341, _, none⟩) NB340_341.out _).trans (((cell_far (p := ⟨gb341, _, none⟩) NB340_341.out _).trans (((cell_far (p := ⟨gb341, _, none⟩) NB340_341.out _).trans (hHeld.1)))))))))))))), ((cell_far (p := ⟨gb341, _, none⟩) NB340_341.out _).trans (((cell_far (p := ⟨gb341, _, none⟩) NB340_341.out _).trans (((cell_far (p := ⟨gb341, _, none⟩) NB340_341.out _).trans (((cell_far (p := ⟨gb341, _, none⟩) NB340_341.out _).trans (((cell_far (p := ⟨gb341, _, none⟩) NB340_341.out _).trans (((cell_far (p := ⟨gb341, _, none⟩) NB340_341.out _).trans (((cell_far (p := ⟨gb341, _, none⟩) NB340_341.out _).trans (hHeld.2.1)))))))))))))), ((cell_far (p := ⟨gb341, _, none⟩) NB340_341.out _).trans (((cell_far (p := ⟨gb341, _, none⟩) NB340_341.out _).trans (((cell_far (p := ⟨gb341, _, none⟩) NB340_341.out _).trans (((cell_far (p := ⟨gb341, _, none⟩) NB340_341.out _).trans (((cell_far (p := ⟨gb341, _, none⟩) NB340_341.out _).trans (((cell_far (p := ⟨gb341, _, none⟩) NB340_341.out _).trans (((cell_far (p := ⟨gb341, _, none⟩) NB340_341.out _).trans (hHeld.2.2.1)))))))))))))), ((cell_far (p := ⟨gb341, _, none⟩) NB340_341.out _).trans (((cell_far (p := ⟨gb341, _, none⟩) NB340_341.out _).trans (((cell_far (p := ⟨gb341, _, none⟩) NB340_341.out _).trans (((cell_far (p := ⟨gb341, _, none⟩) NB340_341.out _).trans (((cell_far (p := ⟨gb341, _, none⟩) NB340_341.out _).trans (((cell_far (p := ⟨gb341, _, none⟩) NB340_341.out _).trans (((cell_far (p := ⟨gb341, _, none⟩) NB340_341.out _).trans (hHeld.2.2.2.1)))))))))))))), ((cell_far (p := ⟨gb341, _, none⟩) NB340_341.out _).trans (((cell_far (p := ⟨gb341, _, none⟩) NB340_341.out _).trans (((cell_far (p := ⟨gb341, _, none⟩) NB340_341.out _).trans (((cell_far (p := ⟨gb341, _, none⟩) NB340_341.out _).trans (((cell_far (p := ⟨gb341, _, none⟩) NB340_341.out _).trans (((cell_far (p := ⟨gb341, _, none⟩) NB340_341.out _).trans (((cell_far (p := ⟨gb341, _, none⟩) NB340_341.out _).trans (hHeld.2.2.2.2.1)))))))))))))), ((cell_far (p := ⟨gb341, _, none⟩) NB340_341.out _).trans (((cell_far (p := ⟨gb341, _, none⟩) NB340_341.out _).trans (((cell_far (p := ⟨gb341, _, none⟩) NB340_341.out _).trans (((cell_far (p := ⟨gb341, _, none⟩) NB340_341.out _).trans (((cell_far (p := ⟨gb341, _, none⟩) NB340_341.out _).trans (((cell_far (p := ⟨gb341, _, none⟩) NB340_341.out _).trans (((cell_far (p := ⟨gb341, _, none⟩) NB340_341.out _).trans (hHeld.2.2.2.2.2.1)))))))))))))), ((cell_far (p := ⟨gb341, _, none⟩) NB340_341.out _).trans (((cell_far (p := ⟨gb341, _, none⟩) NB340_341.out _).trans (((cell_far (p := ⟨gb341, _, none⟩) NB340_341.out _).trans (((cell_far (p := ⟨gb341, _, none⟩) NB340_341.out _).trans (((cell_far (p := ⟨gb341, _, none⟩) NB340_341.out _).trans (((cell_far (p := ⟨gb341, _, none⟩) NB340_341.out _).trans (((cell_far (p := ⟨gb341, _, none⟩) NB340_341.out _).trans (hHeld.2.2.2.2.2.2))))))))))))))⟩ (fun hHeld => ?_)
 clear hK K
 refine done_ (done_of HT_.out (by kernel_rfl)) ?_
 try go_wp2
 refine bodyPost_ret (results_cell_row rfl _ _ gb341 38 #[.int .u64 t342, .int .u32 t343, .int .u32 t344, .int .i64 a0_3, .int .u64 t345, .int .u32 t346, .int .u32 t347] (0, 0) _ rfl (by (with_reducible repeat (first | refine blk_drewN ?_ _ | refine blk_drew ?_ | refine blk_alloc ?_ _)); refine blk_put (cs := #[.int .u64 t342, .int .u32 t343, .int .u32 t344, .int .i64 a0_3, .int .u64 t345, .int .u32 t346, .int .u32 0]) ?_ 6 _ rfl; (with_reducible repeat (first | refine blk_drewN ?_ _ | refine blk_drew ?_ | refine blk_alloc ?_ _)); refine blk_put (cs := #[.int .u64 t342, .int .u32 t343, .int .u32 t344, .int .i64 a0_3, .int .u64 t345, .int .u32 0, .int .u32 0]) ?_ 5 _ rfl; (with_reducible repeat (first | refine blk_drewN ?_ _ | refine blk_drew ?_ | refine blk_alloc ?_ _)); refine blk_put (cs := #[.int .u64 t342, .int .u32 t343, .int .u32 t344, .int .i64 a0_3, .int .u64 0, .int .u32 0, .int .u32 0]) ?_ 4 _ rfl; (with_reducible repeat (first | refine blk_drewN ?_ _ | refine blk_drew ?_ | refine blk_alloc ?_ _)); refine blk_put (cs := #[.int .u64 t342, .int .u32 t343, .int .u32 t344, .int .i64 0, .int .u64 0, .int .u32 0, .int .u32 0]) ?_ 3 _ rfl; (with_reducible repeat (first | refine blk_drewN ?_ _ | refine blk_drew ?_ | refine blk_alloc ?_ _)); refine blk_put (cs := #[.int .u64 t342, .int .u32 t343, .int .u32 0, .int .i64 0, .int .u64 0, .int .u32 0, .int .u32 0]) ?_ 2 _ rfl; (with_reducible repeat (first | refine blk_drewN ?_ _ | refine blk_drew ?_ | refine blk_alloc ?_ _)); refine blk_put (cs := #[.int .u64 t342, .int .u32 0, .int .u32 0, .int .i64 0, .int .u64 0, .int .u32 0, .int .u32 0]) ?_ 1 _ rfl; (with_reducible repeat (first | refine blk_drewN ?_ _ | refine blk_drew ?_ | refine blk_alloc ?_ _)); refine blk_put (cs := #[.int .u64 0, .int .u32 0, .int .u32 0, .int .i64 0, .int .u64 0, .int .u32 0, .int .u32 0]) ?_ 0 _ rfl; exact blkt BK341) Try.underlying38 rfl (by kernel_rfl)) rfl ?_
 exact ⟨by first | rfl | (simp [errW_none, errW_some] <;> rfl) | (simp [*, errW_none, errW_some] <;> rfl), belt HB⟩


/-! ### turnstoneref01_Mul: function 43 -/
mutual
def turnstoneref01_Mul.l0 : Nat → List Int → List Int → Int → Int → Bool → List Int → Bool → List Int → Option (Bool × List Int)
 | 0, _, _, _, _, _, _, _, _ => none
 | k + 1, x5, x21, x22, x23, x349000, x349001, x350000, x350001 => if x23 < x22 then (if 0 ≤ x23 then (if x23 < (x21.length : Int) then (turnstoneref01_Mul.l1 k x5 x23 (rd x21 x23) 0 0 x21 x22 x23 x349000 x349001 x350000 x350001) else (none)) else (none)) else ((turnstoneref01_trim.f k (x349000 != x350000) x5).bind fun bt354 => (some (bt354.1, bt354.2)))
def turnstoneref01_Mul.l1 : Nat → List Int → Int → Int → Int → Int → List Int → Int → Int → Bool → List Int → Bool → List Int → Option (Bool × List Int)
 | 0, _, _, _, _, _, _, _, _, _, _, _, _ => none
 | k + 1, x5, x6, x7, x8, x9, x21, x22, x23, x349000, x349001, x350000, x350001 => if x9 < (x350001.length : Int) then (if 0 ≤ (wrap64 (x6 + x9)) then (if (wrap64 (x6 + x9)) < (x5.length : Int) then ((turnstoneref01_digit.f x350000 x350001 x9).bind fun t360 => (turnstoneref01_Mul.l1 k (x5.set ((wrap64 (x6 + x9)) : Int).toNat (Int.tmod (wrap64 ((wrap64 ((rd x5 (wrap64 (x6 + x9))) + (wrap64 (x7 * t360)))) + x8)) 10000)) x6 x7 (wrap64 (Int.tdiv (wrap64 ((wrap64 ((rd x5 (wrap64 (x6 + x9))) + (wrap64 (x7 * t360)))) + x8)) 10000)) (wrap64 (x9 + 1)) x21 x22 x23 x349000 x349001 x350000 x350001)) else (none)) else (none)) else (if x8 > 0 then (if 0 ≤ (wrap64 (x6 + x9)) then (if (wrap64 (x6 + x9)) < (x5.length : Int) then ((turnstoneref01_digit.f x350000 x350001 x9).bind fun t363 => (turnstoneref01_Mul.l1 k (x5.set ((wrap64 (x6 + x9)) : Int).toNat (Int.tmod (wrap64 ((wrap64 ((rd x5 (wrap64 (x6 + x9))) + (wrap64 (x7 * t363)))) + x8)) 10000)) x6 x7 (wrap64 (Int.tdiv (wrap64 ((wrap64 ((rd x5 (wrap64 (x6 + x9))) + (wrap64 (x7 * t363)))) + x8)) 10000)) (wrap64 (x9 + 1)) x21 x22 x23 x349000 x349001 x350000 x350001)) else (none)) else (none)) else (turnstoneref01_Mul.l0 k x5 x21 x22 (wrap64 (x23 + 1)) x349000 x349001 x350000 x350001))
end
def turnstoneref01_Mul.f (k : Nat) (a0_0 : Bool) (l0_1 : List Int) (a1_0 : Bool) (l1_1 : List Int) : Option (Bool × List Int) := if 0 ≤ (wrap64 ((wrap64 ((l0_1.length : Int) + (l1_1.length : Int))) + 1)) then (if (wrap64 ((wrap64 ((l0_1.length : Int) + (l1_1.length : Int))) + 1) : Int).toNat ≤ 35184372088832 then (turnstoneref01_Mul.l0 k (List.replicate (wrap64 ((wrap64 ((l0_1.length : Int) + (l1_1.length : Int))) + 1) : Int).toNat 0) l0_1 (l0_1.length : Int) 0 a0_0 l0_1 a1_0 l1_1) else (none)) else (none)
theorem turnstoneref01_Mul.mono_l : ∀ k, (∀ y0 y1 y2 y3 y4 y5 y6 y7, LeO (turnstoneref01_Mul.l0 k y0 y1 y2 y3 y4 y5 y6 y7) (turnstoneref01_Mul.l0 (k + 1) y0 y1 y2 y3 y4 y5 y6 y7)) ∧ (∀ y0 y1 y2 y3 y4 y5 y6 y7 y8 y9 y10 y11, LeO (turnstoneref01_Mul.l1 k y0 y1 y2 y3 y4 y5 y6 y7 y8 y9 y10 y11) (turnstoneref01_Mul.l1 (k + 1) y0 y1 y2 y3 y4 y5 y6 y7 y8 y9 y10 y11))
 | 0 => ⟨fun _ _ _ _ _ _ _ _ r h => by simp [turnstoneref01_Mul.l0] at h, fun _ _ _ _ _ _ _ _ _ _ _ _ r h => by simp [turnstoneref01_Mul.l1] at h⟩
 | k + 1 => by
  obtain ⟨ih0, ih1⟩ := turnstoneref01_Mul.mono_l k
  refine ⟨?_, ?_⟩
  ·intro y0 y1 y2 y3 y4 y5 y6 y7
   unfold turnstoneref01_Mul.l0
   repeat' first
   | (with_reducible exact ih0 _ _ _ _ _ _ _ _)
   | (with_reducible exact ih1 _ _ _ _ _ _ _ _ _ _ _ _)
   | (with_reducible exact turnstoneref01_trim.mono _ _ _)
   | (with_reducible exact LeO.refl _)
   | (with_reducible exact LeO.none _)
   | (with_reducible refine LeO.ite ?_ ?_)
   | (with_reducible refine LeO.bind ?_ (fun _ => ?_))
   | exact ih0 _ _ _ _ _ _ _ _
   | exact ih1 _ _ _ _ _ _ _ _ _ _ _ _
   | exact turnstoneref01_trim.mono _ _ _
   | exact LeO.none _
   | refine LeO.ite ?_ ?_
   | refine LeO.bind ?_ (fun _ => ?_)
  intro y0 y1 y2 y3 y4 y5 y6 y7 y8 y9 y10 y11
  unfold turnstoneref01_Mul.l1
  repeat' first
  | (with_reducible exact ih0 _ _ _ _ _ _ _ _)
  | (with_reducible exact ih1 _ _ _ _ _ _ _ _ _ _ _ _)
  | (with_reducible exact turnstoneref01_trim.mono _ _ _)
  | (with_reducible exact LeO.refl _)
  | (with_reducible exact LeO.none _)
  | (with_reducible refine LeO.ite ?_ ?_)
  | (with_reducible refine LeO.bind ?_ (fun _ => ?_))
  | exact ih0 _ _ _ _ _ _ _ _
  | exact ih1 _ _ _ _ _ _ _ _ _ _ _ _
  | exact turnstoneref01_trim.mono _ _ _
  | exact LeO.none _
  | refine LeO.ite ?_ ?_
  | refine LeO.bind ?_ (fun _ => ?_)
theorem turnstoneref01_Mul.mono : ∀ a0 a1 a2 a3 k, LeO (turnstoneref01_Mul.f k a0 a1 a2 a3) (turnstoneref01_Mul.f (k + 1) a0 a1 a2 a3) := by
 intro a0 a1 a2 a3 k
 obtain ⟨ih0, ih1⟩ := turnstoneref01_Mul.mono_l k
 unfold turnstoneref01_Mul.f
 repeat' first
   | (with_reducible exact ih0 _ _ _ _ _ _ _ _)
   | (with_reducible exact ih1 _ _ _ _ _ _ _ _ _ _ _ _)
   | (with_reducible exact turnstoneref01_trim.mono _ _ _)
   | (with_reducible exact LeO.refl _)
   | (with_reducible exact LeO.none _)
   | (with_reducible refine LeO.ite ?_ ?_)
   | (with_reducible refine LeO.bind ?_ (fun _ => ?_))
   | exact ih0 _ _ _ _ _ _ _ _
   | exact ih1 _ _ _ _ _ _ _ _ _ _ _ _
   | exact turnstoneref01_trim.mono _ _ _
   | exact LeO.none _
   | refine LeO.ite ?_ ?_
   | refine LeO.bind ?_ (fun _ => ?_)
def turnstoneref01_Mul.T9 : Bool × List (List Nat × List Nat) := (true, [([], []), ([], []), ([], []), ([1, 2], [1, 2]), ([0, 3], [0, 3]), ([4], [4]), ([], []), ([], []), ([], []), ([7, 8], [7, 8]), ([6, 9], [6, 9]), ([5, 10], [5, 10]), ([], []), ([11, 12], [11, 12]), ([13, 9, 0, 1, 2, 3, 4, 5, 6, 7, 8, 9, 10, 11, 12, 13], [13])])
def turnstoneref01_Mul.B9 : List Nat := [0, 0, 0, 6, 15, 31, 0, 0, 0, 384, 960, 2047, 0, 8191, 16383]
theorem turnstoneref01_Mul.tab9 : rtab .any (opsOf Try.f43 9) = turnstoneref01_Mul.T9 := by kernel_rfl
theorem turnstoneref01_Mul.bits9 : waitsOk turnstoneref01_Mul.T9.2 turnstoneref01_Mul.B9 = true := by kernel_rfl
set_option maxHeartbeats 8000000 in
set_option maxRecDepth 100000 in
theorem turnstoneref01_Mul.calls (k : Nat) (a0_0 : Bool) (A0_1 : Option Addr) (c0_1 : Nat) (l0_1 : List Int) (a1_0 : Bool) (A1_1 : Option Addr) (c1_1 : Nat) (l1_1 : List Int) (r1 : Bool) (r2 : List Int) (w : World) (hr0_1 : Kd.C (Kd.int .i64) w A0_1 l0_1.length l0_1) (hc0_1 : l0_1.length ≤ c0_1) (hr1_1 : Kd.C (Kd.int .i64) w A1_1 l1_1.length l1_1) (hc1_1 : l1_1.length ≤ c1_1) (h : turnstoneref01_Mul.f k a0_0 l0_1 a1_0 l1_1 = some (r1, r2)) :
  Calls Try.prog 43 #[.agg #[.bool a0_0, .slice A0_1 l0_1.length c0_1], .agg #[.bool a1_0, .slice A1_1 l1_1.length c1_1]] w fun e w' => ∃ v1_ : Value, e = .returned (.agg #[.bool r1, v1_]) ∧ Kd.V (Kd.int .i64) 3 w' w.heap.size (fun k_ => (w.heap.size ≤ k_)) v1_ r2 ∧ Below w.heap.size w w' := by
 have hu49 := Try.underlying49
 have HR0_1 := Aside0.mk hr0_1
 have HC0_1 := Aside0.mk hc0_1
 clear hr0_1 hc0_1
 have HR1_1 := Aside0.mk hr1_1
 have HC1_1 := Aside0.mk hc1_1
 clear hr1_1 hc1_1
 have HB := Aside0.mk (Below.refl w.heap.size w)
 have H : (if 0 ≤ (wrap64 ((wrap64 ((l0_1.length : Int) + (l1_1.length : Int))) + 1)) then (if (wrap64 ((wrap64 ((l0_1.length : Int) + (l1_1.length : Int))) + 1) : Int).toNat ≤ 35184372088832 then (turnstoneref01_Mul.l0 k (List.replicate (wrap64 ((wrap64 ((l0_1.length : Int) + (l1_1.length : Int))) + 1) : Int).toNat 0) l0_1 (l0_1.length : Int) 0 a0_0 l0_1 a1_0 l1_1) else (none)) else (none)) = some (r1, r2) := h
 clear h
 obtain ⟨ji3, hji3⟩ : ∃ j_ : Int, (wrap64 ((wrap64 ((l0_1.length : Int) + (l1_1.length : Int))) + 1)) = j_ := ⟨_, rfl⟩
 replace H : (if 0 ≤ (ji3) then (if (ji3 : Int).toNat ≤ 35184372088832 then (turnstoneref01_Mul.l0 k (List.replicate (ji3 : Int).toNat 0) l0_1 (l0_1.length : Int) 0 a0_0 l0_1 a1_0 l1_1) else (none)) else (none)) = some (r1, r2) := by first | (rw [hji3] at H; exact H) | (simp only [hji3] at H ⊢; exact H)
 have hji3w : (IntKind.i64.wrap ((wrap64 ((l0_1.length : Int) + (l1_1.length : Int))) + 1)) = ji3 := (i64_w _).trans hji3
 by_cases c4 : 0 ≤ (ji3)
 ·rw [if_pos c4] at H
  have c4b0 := eq_true c4
  have c4b1 : decide (0 ≤ (ji3)) = true := decide_eq_true c4
  clear c4
  by_cases c5 : (ji3 : Int).toNat ≤ 35184372088832
  ·rw [if_pos c5] at H
   have c5b0 := eq_true c5
   have c5b1 : decide ((ji3 : Int).toNat ≤ 35184372088832) = true := decide_eq_true c5
   clear c5
   obtain ⟨y351, hy351⟩ : ∃ y_ : List Int, y_ = (List.replicate (ji3 : Int).toNat 0) := ⟨_, rfl⟩
   replace H : (turnstoneref01_Mul.l0 k y351 l0_1 (l0_1.length : Int) 0 a0_0 l0_1 a1_0 l1_1) = some (r1, r2) := by first | (rw [hy351]; with_reducible exact H) | (have H2_ := (Option.bind_some _ _).symm.trans H; rw [hy351]; with_reducible exact H2_) | (have H2_ := (Option.bind_some _ _).symm.trans H; with_reducible exact H2_) | with_reducible exact H | (rw [hy351]; exact H) | exact H
   have Ny351 := Aside0.mk hy351
   clear hy351
   have H' := Aside0.mk H
   clear H
   go_enter Try.func43, Try.ntmps43
   go_wp2_with (first | ((with_reducible refine gate_dst (N := 2) rfl ?_); refine box_event ?hg (N := 2) ?hd (cs := #[.bool a0_0, .slice A0_1 l0_1.length c0_1]) (t := 49) ?hr ?_; (case hd => rfl); (case hg => rfl); (case hr => first | (go_simp; done) | (go_simp; rfl)); intro gb348 hg w6 hbox hb; have BK348 := Aside0.mk (hbox); have GW348 := bels HB hg; have GE348 := bels HB hg; replace HB := belb HB hb; clear hb hbox hg) | ((with_reducible refine gate_dst (N := 3) rfl ?_); refine box_event ?hg (N := 3) ?hd (cs := #[.bool a1_0, .slice A1_1 l1_1.length c1_1]) (t := 49) ?hr ?_; (case hd => rfl); (case hg => rfl); (case hr => first | (go_simp; done) | (go_simp; rfl)); intro gb349 hg w7 hbox hb; have BK349 := Aside0.mk (hbox); have GW349 := bels HB hg; have GE349 := bels HB hg; have NB348_349 := blkl BK348 hg; have NB349_348 := blkg BK348 hg; replace BK348 := blkb BK348 hb; replace HB := belb HB hb; clear hb hbox hg) | ((with_reducible refine gate_dst (N := 4) rfl ?_); refine box_event ?hg (N := 4) ?hd (cs := #[.bool false, .slice none 0 0]) (t := 49) ?hr ?_; (case hd => rfl); (case hg => rfl); (case hr => first | (go_simp; done) | (go_simp; rfl)); intro gb350 hg w8 hbox hb; have BK350 := Aside0.mk (hbox); have GW350 := bels HB hg; have GE350 := bels HB hg; have NB348_350 := blkl BK348 hg; have NB350_348 := blkg BK348 hg; have NB349_350 := blkl BK349 hg; have NB350_349 := blkg BK349 hg; replace BK348 := blkb BK348 hb; replace BK349 := blkb BK349 hb; replace HB := belb HB hb; clear hb hbox hg; have hnb9 := NB348_349.out; have hnc9 := NB349_348.out; have hnb10 := NB348_350.out; have hnc10 := NB350_348.out; have hcz11_0 : w8.cell? ⟨gb348, 0, none⟩ = some (.bool a0_0) := bc BK348 0; have hcz11_1 : w8.cell? ⟨gb348, 1, none⟩ = some (.slice A0_1 l0_1.length c0_1) := bc BK348 1; have hfz11_0 := blk_frozen BK348.out 0; have hfz11_1 := blk_frozen BK348.out 1; have hnb12 := NB349_350.out; have hnc12 := NB350_349.out; have hcz13_0 : w8.cell? ⟨gb349, 0, none⟩ = some (.bool a1_0) := bc BK349 0; have hcz13_1 : w8.cell? ⟨gb349, 1, none⟩ = some (.slice A1_1 l1_1.length c1_1) := bc BK349 1; have hfz13_0 := blk_frozen BK349.out 0; have hfz13_1 := blk_frozen BK349.out 1) | ((with_reducible refine gate_dst (N := 19) rfl ?_); refine Kd.R_make (Kd.int .i64) _ 3 rfl (N := 19) rfl 47 _ _ rfl ji3 rfl rfl Try.underlying47 (.int .i64 0) 8 info3 rfl (by decide) (by omega) 0 (ok := fun _ => True) (okp := fun _ => True) rfl (fun _ hk => hk) trivial (of_decide_eq_true (by first | (with_reducible assumption) | assumption)) (Nat.le_trans (Nat.mul_le_mul_right _ (of_decide_eq_true (by first | (with_reducible assumption) | assumption) : ji3.toNat ≤ 35184372088832)) (by omega)) (Below.refl _ _) (Nat.le_refl _) ?_; intro v352 w14 ho15 hb hg_ hnew_; clear hg_ hnew_; (first | rw [← Ny351.out] at ho15 | (simp only [Int.reduceToNat] at ho15; rw [← Ny351.out] at ho15)); have HO353 := Aside0.mk (Kd.R_lower (Kd.R_newM (M := fun k_ => (w.heap.size ≤ k_)) ho15 (below_size (belt HB)) (fun k_ h_ => h_)) (below_size (belt HB))); replace BK348 := blkb BK348 hb; replace BK349 := blkb BK349 hb; replace BK350 := blkb BK350 hb; replace HB := belb HB hb; clear hb ho15; have hcz16_0 : w14.cell? ⟨gb348, 0, none⟩ = some (.bool a0_0) := bc BK348 0; have hcz16_1 : w14.cell? ⟨gb348, 1, none⟩ = some (.slice A0_1 l0_1.length c0_1) := bc BK348 1; have hfz16_0 := blk_frozen BK348.out 0; have hfz16_1 := blk_frozen BK348.out 1))
   (try simp only [Act.put, List.setIfInBounds_toArray, List.set_cons_zero, List.set_cons_succ])
   go_loopg [23] k (fun kq v23 w' => ∃ (x5_1 : List Int) (x23_1 : Int), v23 = .int .i64 x23_1 ∧ Aside0 (turnstoneref01_Mul.l0 kq x5_1 l0_1 (l0_1.length : Int) x23_1 a0_0 l0_1 a1_0 l1_1 = some (r1, r2)) ∧ Aside0 (kq ≤ k) ∧ Aside0 (Kd.R (Kd.int .i64) 3 w' w.heap.size (fun k_ => (w.heap.size ≤ k_)) v352 x5_1) ∧ Aside0 (w'.heap[gb348]? = some (.cells #[.bool a0_0, (.slice A0_1 l0_1.length c0_1)] 49 (0, 0))) ∧ Aside0 (w'.heap[gb349]? = some (.cells #[.bool a1_0, (.slice A1_1 l1_1.length c1_1)] 49 (0, 0))) ∧ Aside0 (w'.heap[gb350]? = some (.cells #[.bool false, (.slice none 0 0)] 49 (0, 0))) ∧ Aside0 (Below w.heap.size w w'))
   case atStart => exact ⟨(y351), (0), (by first | rfl | (simp; done) | (simp [*]; done)), H', ⟨Nat.le_refl _⟩, ⟨by (with_reducible repeat (first | apply Kd.R_alloc | apply Kd.R_drewN | apply Kd.R_drew)); exact Kd.R_mono HO353.out (fun _ hk => hk.1)⟩, ⟨blkt BK348⟩, ⟨blkt BK349⟩, ⟨blkt BK350⟩, ⟨belt HB⟩⟩
   case round =>
    clear H'
    try clear c1
    try clear p2
    try clear c4
    try clear c4b0
    try clear c4b1
    try clear c5
    try clear c5b0
    try clear c5b1
    try clear p6
    try clear c9
    try clear c10
    try clear c12
    try clear hcz11_0
    try clear hcz11_1
    try clear hcz13_0
    try clear hcz13_1
    try clear hcz16_0
    try clear hcz16_1
    try clear hfz11_0
    try clear hfz11_1
    try clear hfz13_0
    try clear hfz13_1
    try clear hfz16_0
    try clear hfz16_1
    obtain ⟨x5_1, x23_1, rfl, HA, HK1, HO_5, BK348, BK349, BK350, HB⟩ := hrel
    cases gk with
    | zero => exact absurd HA.out (by simp [turnstoneref01_Mul.l0])
    | succ k1 =>
     have H := HA.out
     clear HA
     simp only [turnstoneref01_Mul.l0] at H
     by_cases c17 : x23_1 < (l0_1.length : Int)
     ·rw [if_pos c17] at H
      have c17b0 : decide (x23_1 < (l0_1.length : Int)) = true := decide_eq_true c17
      clear c17
      by_cases c18 : 0 ≤ x23_1
      ·rw [if_pos c18] at H
       have c18b0 : decide (0 ≤ x23_1) = true := decide_eq_true c18
       clear c18
       by_cases c19 : x23_1 < (l0_1.length : Int)
       ·rw [if_pos c19] at H
        have c19b0 : decide (x23_1 < (l0_1.length : Int)) = true := decide_eq_true c19
        clear c19
        have H' := Aside0.mk H
        clear H
        have p358 : 0 ≤ (x23_1 : Int) := of_decide_eq_true (by first | (with_reducible assumption) | assumption)
        have q358 : x23_1 < (l0_1.length : Int) := of_decide_eq_true (by first | (with_reducible assumption) | assumption)
        obtain ⟨ad358, e358, hx358_0⟩ := Kd.at_int HR0_1.out x23_1 p358 q358
        cases e358
        replace hx358_0 := (HB.out.cell (World.block_lt_of_cell? w _ hx358_0)).trans hx358_0
        replace p358 := eq_true p358
        replace q358 := eq_true q358
        go_wp2
        (try simp only [Act.put, List.setIfInBounds_toArray, List.set_cons_zero, List.set_cons_succ])
        go_loopg [8, 9] k1 (fun kq v8 v9 w' => ∃ (x5_2 : List Int) (x8_2 : Int) (x9_2 : Int), v8 = .int .i64 x8_2 ∧ v9 = .int .i64 x9_2 ∧ Aside0 (turnstoneref01_Mul.l1 kq x5_2 x23_1 (rd l0_1 x23_1) x8_2 x9_2 l0_1 (l0_1.length : Int) x23_1 a0_0 l0_1 a1_0 l1_1 = some (r1, r2)) ∧ Aside0 (kq ≤ k1) ∧ Aside0 (Kd.R (Kd.int .i64) 3 w' w.heap.size (fun k_ => (w.heap.size ≤ k_)) v352 x5_2) ∧ Aside0 (w'.heap[gb348]? = some (.cells #[.bool a0_0, (.slice (some ad358) l0_1.length c0_1)] 49 (0, 0))) ∧ Aside0 (w'.heap[gb349]? = some (.cells #[.bool a1_0, (.slice A1_1 l1_1.length c1_1)] 49 (0, 0))) ∧ Aside0 (w'.heap[gb350]? = some (.cells #[.bool false, (.slice none 0 0)] 49 (0, 0))) ∧ Aside0 (Below w.heap.size w w'))
        case atStart => exact ⟨(x5_1), (0), (0), (by first | rfl | (simp; done) | (simp [*]; done)), (by first | rfl | (simp; done) | (simp [*]; done)), H', ⟨Nat.le_refl _⟩, ⟨by (with_reducible repeat (first | apply Kd.R_alloc | apply Kd.R_drewN | apply Kd.R_drew)); exact HO_5.out⟩, ⟨blkt BK348⟩, ⟨blkt BK349⟩, ⟨blkt BK350⟩, ⟨belt HB⟩⟩
        case round =>
         clear H'
         try clear c1
         try clear p2
         try clear p3
         try clear q3
         try clear hx3
         try clear c4
         try clear c4b0
         try clear c4b1
         try clear c5
         try clear c5b0
         try clear c5b1
         try clear p6
         try clear c9
         try clear c10
         try clear c12
         try clear c17
         try clear c17b0
         try clear c18
         try clear c18b0
         try clear c19
         try clear c19b0
         try clear hcz11_0
         try clear hcz11_1
         try clear hcz13_0
         try clear hcz13_1
         try clear hcz16_0
         try clear hcz16_1
         try clear hfz11_0
         try clear hfz11_1
         try clear hfz13_0
         try clear hfz13_1
         try clear hfz16_0
         try clear hfz16_1
         try clear hx358_0
         try clear p2
         try clear p358
         try clear p6
         try clear q358
         obtain ⟨x5_2, x8_2, x9_2, rfl, rfl, HA, HK2, HO_5, BK348, BK349, BK350, HB⟩ := hrel
         cases gk with
         | zero => exact absurd HA.out (by simp [turnstoneref01_Mul.l1])
         | succ k2 =>
          have H := HA.out
          clear HA
          simp only [turnstoneref01_Mul.l1] at H
          by_cases c20 : x9_2 < (l1_1.length : Int)
          ·rw [if_pos c20] at H
           have c20b0 : decide (x9_2 < (l1_1.length : Int)) = true := decide_eq_true c20
           clear c20
           obtain ⟨ji21, hji21⟩ : ∃ j_ : Int, (wrap64 (x23_1 + x9_2)) = j_ := ⟨_, rfl⟩
           replace H : (if 0 ≤ (ji21) then (if (ji21) < (x5_2.length : Int) then ((turnstoneref01_digit.f a1_0 l1_1 x9_2).bind fun t360 => (turnstoneref01_Mul.l1 k2 (x5_2.set ((ji21) : Int).toNat (Int.tmod (wrap64 ((wrap64 ((rd x5_2 (ji21)) + (wrap64 ((rd l0_1 x23_1) * t360)))) + x8_2)) 10000)) x23_1 (rd l0_1 x23_1) (wrap64 (Int.tdiv (wrap64 ((wrap64 ((rd x5_2 (ji21)) + (wrap64 ((rd l0_1 x23_1) * t360)))) + x8_2)) 10000)) (wrap64 (x9_2 + 1)) l0_1 (l0_1.length : Int) x23_1 a0_0 l0_1 a1_0 l1_1)) else (none)) else (none)) = some (r1, r2) := by first | (rw [hji21] at H; exact H) | (simp only [hji21] at H ⊢; exact H)
           have hji21w : (IntKind.i64.wrap (x23_1 + x9_2)) = ji21 := (i64_w _).trans hji21
           by_cases c22 : 0 ≤ (ji21)
           ·rw [if_pos c22] at H
            have c22b0 : decide (0 ≤ (ji21)) = true := decide_eq_true c22
            clear c22
            by_cases c23 : (ji21) < (x5_2.length : Int)
            ·rw [if_pos c23] at H
             have c23b0 : decide ((ji21) < (x5_2.length : Int)) = true := decide_eq_true c23
             clear c23
             replace H := Option.bind_eq_some_iff.mp H
             obtain ⟨t360, A240, H⟩ := H
             replace H : (turnstoneref01_Mul.l1 k2 (x5_2.set ((ji21) : Int).toNat (Int.tmod (wrap64 ((wrap64 ((rd x5_2 (ji21)) + (wrap64 ((rd l0_1 x23_1) * t360)))) + x8_2)) 10000)) x23_1 (rd l0_1 x23_1) (wrap64 (Int.tdiv (wrap64 ((wrap64 ((rd x5_2 (ji21)) + (wrap64 ((rd l0_1 x23_1) * t360)))) + x8_2)) 10000)) (wrap64 (x9_2 + 1)) l0_1 (l0_1.length : Int) x23_1 a0_0 l0_1 a1_0 l1_1) = some (r1, r2) := H
             have A24 := Aside0.mk A240
             clear A240
             obtain ⟨y361, hy361⟩ : ∃ y_ : List Int, y_ = (x5_2.set ((ji21) : Int).toNat (Int.tmod (wrap64 ((wrap64 ((rd x5_2 (ji21)) + (wrap64 ((rd l0_1 x23_1) * t360)))) + x8_2)) 10000)) := ⟨_, rfl⟩
             replace H : (turnstoneref01_Mul.l1 k2 y361 x23_1 (rd l0_1 x23_1) (wrap64 (Int.tdiv (wrap64 ((wrap64 ((rd x5_2 (ji21)) + (wrap64 ((rd l0_1 x23_1) * t360)))) + x8_2)) 10000)) (wrap64 (x9_2 + 1)) l0_1 (l0_1.length : Int) x23_1 a0_0 l0_1 a1_0 l1_1) = some (r1, r2) := by first | (rw [hy361]; with_reducible exact H) | (have H2_ := (Option.bind_some _ _).symm.trans H; rw [hy361]; with_reducible exact H2_) | (have H2_ := (Option.bind_some _ _).symm.trans H; with_reducible exact H2_) | with_reducible exact H | (rw [hy361]; exact H) | exact H
             have Ny361 := Aside0.mk hy361
             clear hy361
             have H' := Aside0.mk H
             clear H
             have hnb26 := NB349_348.out
             have hnc26 := NB348_349.out
             have hnb27 := NB349_350.out
             have hnc27 := NB350_349.out
             have hcz28_0 : wr.cell? ⟨gb349, 0, none⟩ = some (.bool a1_0) := bc BK349 0
             have hcz28_1 : wr.cell? ⟨gb349, 1, none⟩ = some (.slice A1_1 l1_1.length c1_1) := bc BK349 1
             have hfz28_0 := blk_frozen BK349.out 0
             have hfz28_1 := blk_frozen BK349.out 1
             try go_wp2
             replace HO_5 := Aside0.mk (Kd.R_drew HO_5.out)
             replace BK348 := Aside0.mk (blk_drew BK348.out)
             replace BK349 := Aside0.mk (blk_drew BK349.out)
             replace BK350 := Aside0.mk (blk_drew BK350.out)
             replace HB := Aside0.mk (below_drew1 HB.out)
             obtain ⟨Ao30, co30, eo30⟩ := Kd.R_slice HO_5.out
             (first | subst eo30 | (injection eo30 with f1_ f2_ f3_; have f4_ := f1_.symm; have f5_ := f3_.symm; clear f1_ f2_ f3_; subst f4_; subst f5_))
             have p359 : 0 ≤ ((ji21) : Int) := of_decide_eq_true (by first | (with_reducible assumption) | assumption)
             have q359 : (ji21) < (x5_2.length : Int) := of_decide_eq_true (by first | (with_reducible assumption) | assumption)
             obtain ⟨ad359, e359, hx359_0⟩ := Kd.at_int (Kd.R_reads' HO_5.out).2.2 (ji21) p359 q359
             cases e359
             replace p359 := eq_true p359
             replace q359 := eq_true q359
             refine start_ (n := 15) (S := fun w' => w'.cell? ⟨gb349, 0, none⟩ = some (.bool a1_0) ∧ w'.cell? ⟨gb349, 1, none⟩ = some (.slice A1_1 l1_1.length c1_1) ∧ w'.cell? (ad359.add ((ji21)).toNat) = some (.int .i64 (rd x5_2 (ji21)))) (ds := []) #[false, false, false, false, false, false, false, false, false, false, false, false, false, false, false] (by kernel_rfl) rfl rfl ⟨bc BK349 0, bc BK349 1, hx359_0⟩ (fun hHeld => ?_); refine with_tabW turnstoneref01_Mul.tab9 turnstoneref01_Mul.bits9 (fun HT_ HW_ => ?_)
             generalize wr.drew = w29 at HO_5 BK348 BK349 BK350 HB hx359_0 hHeld ⊢
             refine pure_ (i := 0) (N := some 39) (v := ?_) (a' := ?_) #[true, false, false, false, false, false, false, false, false, false, false, false, false, false, false] rfl rfl (any_of HT_.out (by kernel_rfl)) (fun _ _ _ h => h) (Or.inl ⟨by rfl, ?_⟩) ?_ ?_
             rotate_left
             ·intro w'
              go_simp
              with_reducible rfl
             rotate_left
             ·simp only [Act.put, List.setIfInBounds_toArray, List.set_cons_zero, List.set_cons_succ, i64_w, i32_w]
              rfl
             refine pure_ (i := 1) (N := some 40) (v := ?_) (a' := ?_) #[true, true, false, false, false, false, false, false, false, false, false, false, false, false, false] rfl rfl (any_of HT_.out (by kernel_rfl)) (fun _ _ _ h => h) (Or.inl ⟨by rfl, ?_⟩) ?_ ?_
             rotate_left
             ·intro w'
              go_simp
              with_reducible rfl
             rotate_left
             ·simp only [Act.put, List.setIfInBounds_toArray, List.set_cons_zero, List.set_cons_succ, i64_w, i32_w]
              rfl
             refine pure_ (i := 2) (N := some 41) (v := ?_) (a' := ?_) #[true, true, true, false, false, false, false, false, false, false, false, false, false, false, false] rfl rfl (any_of HT_.out (by kernel_rfl)) (fun _ _ _ h => h) (Or.inl ⟨by rfl, ?_⟩) ?_ ?_
             rotate_left
             ·intro w'
              go_simp
              with_reducible rfl
             rotate_left
             ·simp only [Act.put, List.setIfInBounds_toArray, List.set_cons_zero, List.set_cons_succ, i64_w, i32_w]
              rfl
             refine pure_ (i := 3) (N := some 42) (v := ?_) (a' := ?_) #[true, true, true, true, false, false, false, false, false, false, false, false, false, false, false] rfl rfl (any_of HT_.out (by kernel_rfl)) (fun _ _ _ h => h) (Or.inl ⟨by rfl, ?_⟩) ?_ ?_
             rotate_left
             ·intro w'
              go_simp
              with_reducible rfl
             rotate_left
             ·simp only [Act.put, List.setIfInBounds_toArray, List.set_cons_zero, List.set_cons_succ, i64_w, i32_w]
              rfl
             refine pure_ (i := 4) (N := some 43) (v := ?_) (a' := ?_) #[true, true, true, true, true, false, false, false, false, false, false, false, false, false, false] rfl rfl (any_of HT_.out (by kernel_rfl)) (fun _ _ _ h => h) (Or.inl ⟨by rfl, ?_⟩) ?_ ?_
             rotate_left
             ·intro w'
              go_simp
              with_reducible rfl
             rotate_left
             ·simp only [Act.put, List.setIfInBounds_toArray, List.set_cons_zero, List.set_cons_succ, i64_w, i32_w]
              rfl
             refine pure_ (i := 6) (N := some 45) (v := ?_) (a' := ?_) #[true, true, true, true, true, false, true, false, false, false, false, false, false, false, false] rfl rfl (any_of HT_.out (by kernel_rfl)) (fun _ _ _ h => h) (Or.inl ⟨by rfl, ?_⟩) ?_ ?_
             rotate_left
             ·intro w'
              go_simp
              with_reducible rfl
             rotate_left
             ·simp only [Act.put, List.setIfInBounds_toArray, List.set_cons_zero, List.set_cons_succ, i64_w, i32_w]
              rfl
             refine pure_ (i := 8) (N := some 47) (v := ?_) (a' := ?_) #[true, true, true, true, true, false, true, false, true, false, false, false, false, false, false] rfl rfl (any_of HT_.out (by kernel_rfl)) (fun _ _ _ h => h) (Or.inl ⟨by rfl, ?_⟩) ?_ ?_
             rotate_left
             ·intro w'
              go_simp
              with_reducible rfl
             rotate_left
             ·simp only [Act.put, List.setIfInBounds_toArray, List.set_cons_zero, List.set_cons_succ, i64_w, i32_w]
              rfl
             refine pure_ (i := 12) (N := some 51) (v := ?_) (a' := ?_) #[true, true, true, true, true, false, true, false, true, false, false, false, true, false, false] rfl rfl (any_of HT_.out (by kernel_rfl)) (fun _ _ _ h => h) (Or.inl ⟨by rfl, ?_⟩) ?_ ?_
             rotate_left
             ·intro w'
              go_simp
              with_reducible rfl
             rotate_left
             ·simp only [Act.put, List.setIfInBounds_toArray, List.set_cons_zero, List.set_cons_succ, i64_w, i32_w]
              rfl
             refine take_ (i := 5) (N := some 44) (v := ?_) (a' := ?_) #[true, true, true, true, true, true, true, false, true, false, false, false, true, false, false] rfl rfl (take_ofW HT_.out HW_.out (by kernel_rfl)) (fun _ _ _ h => h) (Or.inl ⟨by rfl, ?_⟩) hHeld ?_ ?_
             rotate_left
             ·rintro w' ⟨s0, s1, s2⟩
              go_simp
              with_reducible rfl
             rotate_left
             ·simp only [Act.put, List.setIfInBounds_toArray, List.set_cons_zero, List.set_cons_succ, i64_w, i32_w]
              rfl
             refine take_ (i := 7) (N := some 46) (v := ?_) (a' := ?_) #[true, true, true, true, true, true, true, true, true, false, false, false, true, false, false] rfl rfl (take_ofW HT_.out HW_.out (by kernel_rfl)) (fun _ _ _ h => h) (Or.inl ⟨by rfl, ?_⟩) hHeld ?_ ?_
             rotate_left
             ·rintro w' ⟨s0, s1, s2⟩
              go_simp
              with_reducible rfl
             rotate_left
             ·simp only [Act.put, List.setIfInBounds_toArray, List.set_cons_zero, List.set_cons_succ, i64_w, i32_w]
              rfl
             refine one_ (i := 9) (N := some 48) #[true, true, true, true, true, true, true, true, true, true, false, false, true, false, false] rfl rfl (one_of HT_.out (by kernel_rfl)) (by decide) (fun K hK => ?_)
             refine goes_ Try.func53 (by kernel_rfl) rfl #[.agg #[.bool a1_0, .slice A1_1 l1_1.length c1_1], .int .i64 x9_2] (by rfl) rfl rfl argt ?_
             with_reducible refine (turnstoneref01_digit.calls a1_0 _ _ l1_1 x9_2 t360 _ ?side1 ?side2 A24.out).mono ?_
             (case side1 => exact (ct (Kd.C_below HR1_1.out HB.out)))
             (case side2 => exact HC1_1.out)
             rintro e w31 ⟨rfl, hb⟩
             have HS2_ := (hb.cell (World.block_lt_of_cell? _ _ (hHeld.2.2))).trans (hHeld.2.2)
             refine ⟨_, rfl, ?_⟩
             replace HO_5 := rb HO_5 hb
             replace BK348 := blkb BK348 hb
             replace BK349 := blkb BK349 hb
             replace BK350 := blkb BK350 hb
             replace HB := belb HB hb
             (try clear hb)
             (try clear hb2)
             (try clear hk)
             (try clear hi)
             refine hK.out _ _ ⟨bc BK349 0, bc BK349 1, HS2_⟩ (fun hHeld => ?_)
             clear hK K
             refine norm_ (a' := ?_) ?_ ?_
             rotate_left
             ·show Act.put _ (some 48) _ = _
              simp only [Act.put, List.setIfInBounds_toArray, List.set_cons_zero, List.set_cons_succ, i64_w, i32_w]
              rfl
             refine pure_ (i := 10) (N := some 49) (v := ?_) (a' := ?_) #[true, true, true, true, true, true, true, true, true, true, true, false, true, false, false] rfl rfl (any_of HT_.out (by kernel_rfl)) (fun _ _ _ h => h) (Or.inl ⟨by rfl, ?_⟩) ?_ ?_
             rotate_left
             ·intro w'
              go_simp
              with_reducible rfl
             rotate_left
             ·simp only [Act.put, List.setIfInBounds_toArray, List.set_cons_zero, List.set_cons_succ, i64_w, i32_w]
              rfl
             refine pure_ (i := 11) (N := some 50) (v := ?_) (a' := ?_) #[true, true, true, true, true, true, true, true, true, true, true, true, true, false, false] rfl rfl (any_of HT_.out (by kernel_rfl)) (fun _ _ _ h => h) (Or.inl ⟨by rfl, ?_⟩) ?_ ?_
             rotate_left
             ·intro w'
              go_simp
              with_reducible rfl
             rotate_left
             ·simp only [Act.put, List.setIfInBounds_toArray, List.set_cons_zero, List.set_cons_succ, i64_w, i32_w]
              rfl
             refine pure_ (i := 13) (N := some 52) (v := ?_) (a' := ?_) #[true, true, true, true, true, true, true, true, true, true, true, true, true, true, false] rfl rfl (any_of HT_.out (by kernel_rfl)) (fun _ _ _ h => h) (Or.inl ⟨by rfl, ?_⟩) ?_ ?_
             rotate_left
             ·intro w'
              go_simp
              with_reducible rfl
             rotate_left
             ·simp only [Act.put, List.setIfInBounds_toArray, List.set_cons_zero, List.set_cons_succ, i64_w, i32_w]
              rfl
             refine pure_ (i := 14) (N := some 10) (v := ?_) (a' := ?_) #[true, true, true, true, true, true, true, true, true, true, true, true, true, true, true] rfl rfl (any_of HT_.out (by kernel_rfl)) (fun _ _ _ h => h) (Or.inl ⟨by rfl, ?_⟩) ?_ ?_
             rotate_left
             ·intro w'
              go_simp
              with_reducible rfl
             rotate_left
             ·simp only [Act.put, List.setIfInBounds_toArray, List.set_cons_zero, List.set_cons_succ, i64_w, i32_w]
              rfl
             refine done_ (done_of HT_.out (by kernel_rfl)) ?_
             have p25 : 0 ≤ ((ji21) : Int) := of_decide_eq_true (by first | (with_reducible assumption) | assumption)
             have q25 : ((ji21) : Int) < ((x5_2.length : Int) : Int) := of_decide_eq_true (by first | (with_reducible assumption) | assumption)
             obtain ⟨go25, co25, eo25, gb25, gl25, cl25, HG25⟩ := Kd.R_form HO_5.out (by omega)
             (first | cases eo25 | (injection eo25 with ea_ en_ ec_; (first | subst ea_ | (injection ea_ with ea_; subst ea_)); subst ec_; clear en_))
             have GB25 := Aside0.mk gb25
             have GG25 := Aside0.mk HG25
             clear gb25 gl25 HG25
             (first | simp only [add_plain] at hx359_0 | skip)
             obtain ⟨hx25_0, hf25_0⟩ := Kd.R_celln 0 HO_5.out ((ji21) : Int) p25 q25
             replace p25 := eq_true p25
             replace q25 := eq_true q25
             obtain ⟨hy32_, hz32_⟩ := Kd.R_celln 0 HO_5.out ((ji21) : Int) (of_decide_eq_true (by first | (with_reducible assumption) | assumption)) (of_decide_eq_true (by first | (with_reducible assumption) | assumption))
             have HP32 := Kd.R_putg HO_5.out ((ji21) : Int) (Int.tmod (wrap64 ((wrap64 ((rd x5_2 (ji21)) + (wrap64 ((rd l0_1 x23_1) * t360)))) + x8_2)) 10000)
             try go_wp2_with (first | ((with_reducible refine gate_store (t := 3) (p := 59) rfl ?_); refine store_event (t := 3) (p := 59) (v := ?vo_w33) (w1 := (w31.setCell ⟨go25, ((ji21) : Int).toNat, none⟩ (.int .i64 (Int.tmod (wrap64 ((wrap64 ((rd x5_2 (ji21)) + (wrap64 ((rd l0_1 x23_1) * t360)))) + x8_2)) 10000)))) ?hg ?ho ?hn ?hr ?_; (case ho => rfl); (case hg => rfl); (case hn => rfl); (case hr => first | (go_simp; done) | (go_simp; rfl)); intro w33 hw; have hg : w31.grownBy w33 (some go25) := (by rw [hw]; exact HP32.2); have hp_ : Kd.R (Kd.int .i64) 3 w33 w.heap.size (fun k_ => (w.heap.size ≤ k_)) (.slice (some ⟨go25, 0, none⟩) x5_2.length co30) y361 := (by rw [hw, Ny361.out]; exact HP32.1); clear HP32; replace BK348 := Aside0.mk (blk_grown (blkt BK348) hg (Kd.R_ne HO_5.out BK348.out (by decide))); replace BK349 := Aside0.mk (blk_grown (blkt BK349) hg (Kd.R_ne HO_5.out BK349.out (by decide))); replace BK350 := Aside0.mk (blk_grown (blkt BK350) hg (Kd.R_ne HO_5.out BK350.out (by decide))); replace HB := Aside0.mk ((by rw [hw]; exact below_set (HB.out) GB25.out : Below w.heap.size w w33)); replace HO_5 := Aside0.mk (hp_); clear hg hw hp_))
             go_roundg k2
             case measure => have := HK1.out; have := HK2.out; omega
             case rel => exact ⟨(y361), (wrap64 (Int.tdiv (wrap64 ((wrap64 ((rd x5_2 (ji21)) + (wrap64 ((rd l0_1 x23_1) * t360)))) + x8_2)) 10000)), (wrap64 (x9_2 + 1)), (by first | rfl | (simp; done) | (simp only [← hji21]; first | rfl | (simp; done) | (simp [mn, mx]; done)) | (simp [*]; done)), (by first | rfl | (simp; done) | (simp [*]; done)), H', ⟨by have := HK1.out; have := HK2.out; omega⟩, ⟨by (with_reducible repeat (first | apply Kd.R_alloc | apply Kd.R_drewN | apply Kd.R_drew)); exact HO_5.out⟩, ⟨blkt BK348⟩, ⟨blkt BK349⟩, ⟨blkt BK350⟩, ⟨belt HB⟩⟩
            rw [if_neg c23] at H
            exact absurd H (by simp)
           rw [if_neg c22] at H
           exact absurd H (by simp)
          rw [if_neg c20] at H
          have c20b0 : decide (x9_2 < (l1_1.length : Int)) = false := decide_eq_false c20
          clear c20
          by_cases c34 : x8_2 > 0
          ·rw [if_pos c34] at H
           have c34b0 : decide (0 < x8_2) = true := decide_eq_true c34
           clear c34
           obtain ⟨ji35, hji35⟩ : ∃ j_ : Int, (wrap64 (x23_1 + x9_2)) = j_ := ⟨_, rfl⟩
           replace H : (if 0 ≤ (ji35) then (if (ji35) < (x5_2.length : Int) then ((turnstoneref01_digit.f a1_0 l1_1 x9_2).bind fun t363 => (turnstoneref01_Mul.l1 k2 (x5_2.set ((ji35) : Int).toNat (Int.tmod (wrap64 ((wrap64 ((rd x5_2 (ji35)) + (wrap64 ((rd l0_1 x23_1) * t363)))) + x8_2)) 10000)) x23_1 (rd l0_1 x23_1) (wrap64 (Int.tdiv (wrap64 ((wrap64 ((rd x5_2 (ji35)) + (wrap64 ((rd l0_1 x23_1) * t363)))) + x8_2)) 10000)) (wrap64 (x9_2 + 1)) l0_1 (l0_1.length : Int) x23_1 a0_0 l0_1 a1_0 l1_1)) else (none)) else (none)) = some (r1, r2) := by first | (rw [hji35] at H; exact H) | (simp only [hji35] at H ⊢; exact H)
           have hji35w : (IntKind.i64.wrap (x23_1 + x9_2)) = ji35 := (i64_w _).trans hji35
           by_cases c36 : 0 ≤ (ji35)
           ·rw [if_pos c36] at H
            have c36b0 : decide (0 ≤ (ji35)) = true := decide_eq_true c36
            clear c36
            by_cases c37 : (ji35) < (x5_2.length : Int)
            ·rw [if_pos c37] at H
             have c37b0 : decide ((ji35) < (x5_2.length : Int)) = true := decide_eq_true c37
             clear c37
             replace H := Option.bind_eq_some_iff.mp H
             obtain ⟨t363, A380, H⟩ := H
             replace H : (turnstoneref01_Mul.l1 k2 (x5_2.set ((ji35) : Int).toNat (Int.tmod (wrap64 ((wrap64 ((rd x5_2 (ji35)) + (wrap64 ((rd l0_1 x23_1) * t363)))) + x8_2)) 10000)) x23_1 (rd l0_1 x23_1) (wrap64 (Int.tdiv (wrap64 ((wrap64 ((rd x5_2 (ji35)) + (wrap64 ((rd l0_1 x23_1) * t363)))) + x8_2)) 10000)) (wrap64 (x9_2 + 1)) l0_1 (l0_1.length : Int) x23_1 a0_0 l0_1 a1_0 l1_1) = some (r1, r2) := H
             have A38 := Aside0.mk A380
             clear A380
             obtain ⟨y364, hy364⟩ : ∃ y_ : List Int, y_ = (x5_2.set ((ji35) : Int).toNat (Int.tmod (wrap64 ((wrap64 ((rd x5_2 (ji35)) + (wrap64 ((rd l0_1 x23_1) * t363)))) + x8_2)) 10000)) := ⟨_, rfl⟩
             replace H : (turnstoneref01_Mul.l1 k2 y364 x23_1 (rd l0_1 x23_1) (wrap64 (Int.tdiv (wrap64 ((wrap64 ((rd x5_2 (ji35)) + (wrap64 ((rd l0_1 x23_1) * t363)))) + x8_2)) 10000)) (wrap64 (x9_2 + 1)) l0_1 (l0_1.length : Int) x23_1 a0_0 l0_1 a1_0 l1_1) = some (r1, r2) := by first | (rw [hy364]; with_reducible exact H) | (have H2_ := (Option.bind_some _ _).symm.trans H; rw [hy364]; with_reducible exact H2_) | (have H2_ := (Option.bind_some _ _).symm.trans H; with_reducible exact H2_) | with_reducible exact H | (rw [hy364]; exact H) | exact H
             have Ny364 := Aside0.mk hy364
             clear hy364
             have H' := Aside0.mk H
             clear H
             have hnb40 := NB349_348.out
             have hnc40 := NB348_349.out
             have hnb41 := NB349_350.out
             have hnc41 := NB350_349.out
             have hcz42_0 : wr.cell? ⟨gb349, 0, none⟩ = some (.bool a1_0) := bc BK349 0
             have hcz42_1 : wr.cell? ⟨gb349, 1, none⟩ = some (.slice A1_1 l1_1.length c1_1) := bc BK349 1
             have hfz42_0 := blk_frozen BK349.out 0
             have hfz42_1 := blk_frozen BK349.out 1
             try go_wp2
             replace HO_5 := Aside0.mk (Kd.R_drew HO_5.out)
             replace BK348 := Aside0.mk (blk_drew BK348.out)
             replace BK349 := Aside0.mk (blk_drew BK349.out)
             replace BK350 := Aside0.mk (blk_drew BK350.out)
             replace HB := Aside0.mk (below_drew1 HB.out)
             obtain ⟨Ao44, co44, eo44⟩ := Kd.R_slice HO_5.out
             (first | subst eo44 | (injection eo44 with f1_ f2_ f3_; have f4_ := f1_.symm; have f5_ := f3_.symm; clear f1_ f2_ f3_; subst f4_; subst f5_))
             have p362 : 0 ≤ ((ji35) : Int) := of_decide_eq_true (by first | (with_reducible assumption) | assumption)
             have q362 : (ji35) < (x5_2.length : Int) := of_decide_eq_true (by first | (with_reducible assumption) | assumption)
             obtain ⟨ad362, e362, hx362_0⟩ := Kd.at_int (Kd.R_reads' HO_5.out).2.2 (ji35) p362 q362
             cases e362
             replace p362 := eq_true p362
             replace q362 := eq_true q362
             refine start_ (n := 15) (S := fun w' => w'.cell? ⟨gb349, 0, none⟩ = some (.bool a1_0) ∧ w'.cell? ⟨gb349, 1, none⟩ = some (.slice A1_1 l1_1.length c1_1) ∧ w'.cell? (ad362.add ((ji35)).toNat) = some (.int .i64 (rd x5_2 (ji35)))) (ds := []) #[false, false, false, false, false, false, false, false, false, false, false, false, false, false, false] (by kernel_rfl) rfl rfl ⟨bc BK349 0, bc BK349 1, hx362_0⟩ (fun hHeld => ?_); refine with_tabW turnstoneref01_Mul.tab9 turnstoneref01_Mul.bits9 (fun HT_ HW_ => ?_)
             generalize wr.drew = w43 at HO_5 BK348 BK349 BK350 HB hx362_0 hHeld ⊢
             refine pure_ (i := 0) (N := some 39) (v := ?_) (a' := ?_) #[true, false, false, false, false, false, false, false, false, false, false, false, false, false, false] rfl rfl (any_of HT_.out (by kernel_rfl)) (fun _ _ _ h => h) (Or.inl ⟨by rfl, ?_⟩) ?_ ?_
             rotate_left
             ·intro w'
              go_simp
              with_reducible rfl
             rotate_left
             ·simp only [Act.put, List.setIfInBounds_toArray, List.set_cons_zero, List.set_cons_succ, i64_w, i32_w]
              rfl
             refine pure_ (i := 1) (N := some 40) (v := ?_) (a' := ?_) #[true, true, false, false, false, false, false, false, false, false, false, false, false, false, false] rfl rfl (any_of HT_.out (by kernel_rfl)) (fun _ _ _ h => h) (Or.inl ⟨by rfl, ?_⟩) ?_ ?_
             rotate_left
             ·intro w'
              go_simp
              with_reducible rfl
             rotate_left
             ·simp only [Act.put, List.setIfInBounds_toArray, List.set_cons_zero, List.set_cons_succ, i64_w, i32_w]
              rfl
             refine pure_ (i := 2) (N := some 41) (v := ?_) (a' := ?_) #[true, true, true, false, false, false, false, false, false, false, false, false, false, false, false] rfl rfl (any_of HT_.out (by kernel_rfl)) (fun _ _ _ h => h) (Or.inl ⟨by rfl, ?_⟩) ?_ ?_
             rotate_left
             ·intro w'
              go_simp
              with_reducible rfl
             rotate_left
             ·simp only [Act.put, List.setIfInBounds_toArray, List.set_cons_zero, List.set_cons_succ, i64_w, i32_w]
              rfl
             refine pure_ (i := 3) (N := some 42) (v := ?_) (a' := ?_) #[true, true, true, true, false, false, false, false, false, false, false, false, false, false, false] rfl rfl (any_of HT_.out (by kernel_rfl)) (fun _ _ _ h => h) (Or.inl ⟨by rfl, ?_⟩) ?_ ?_
             rotate_left
             ·intro w'
              go_simp
              with_reducible rfl
             rotate_left
             ·simp only [Act.put, List.setIfInBounds_toArray, List.set_cons_zero, List.set_cons_succ, i64_w, i32_w]
              rfl
             refine pure_ (i := 4) (N := some 43) (v := ?_) (a' := ?_) #[true, true, true, true, true, false, false, false, false, false, false, false, false, false, false] rfl rfl (any_of HT_.out (by kernel_rfl)) (fun _ _ _ h => h) (Or.inl ⟨by rfl, ?_⟩) ?_ ?_
             rotate_left
             ·intro w'
              go_simp
              with_reducible rfl
             rotate_left
             ·simp only [Act.put, List.setIfInBounds_toArray, List.set_cons_zero, List.set_cons_succ, i64_w, i32_w]
              rfl
             refine pure_ (i := 6) (N := some 45) (v := ?_) (a' := ?_) #[true, true, true, true, true, false, true, false, false, false, false, false, false, false, false] rfl rfl (any_of HT_.out (by kernel_rfl)) (fun _ _ _ h => h) (Or.inl ⟨by rfl, ?_⟩) ?_ ?_
             rotate_left
             ·intro w'
              go_simp
              with_reducible rfl
             rotate_left
             ·simp only [Act.put, List.setIfInBounds_toArray, List.set_cons_zero, List.set_cons_succ, i64_w, i32_w]
              rfl
             refine pure_ (i := 8) (N := some 47) (v := ?_) (a' := ?_) #[true, true, true, true, true, false, true, false, true, false, false, false, false, false, false] rfl rfl (any_of HT_.out (by kernel_rfl)) (fun _ _ _ h => h) (Or.inl ⟨by rfl, ?_⟩) ?_ ?_
             rotate_left
             ·intro w'
              go_simp
              with_reducible rfl
             rotate_left
             ·simp only [Act.put, List.setIfInBounds_toArray, List.set_cons_zero, List.set_cons_succ, i64_w, i32_w]
              rfl
             refine pure_ (i := 12) (N := some 51) (v := ?_) (a' := ?_) #[true, true, true, true, true, false, true, false, true, false, false, false, true, false, false] rfl rfl (any_of HT_.out (by kernel_rfl)) (fun _ _ _ h => h) (Or.inl ⟨by rfl, ?_⟩) ?_ ?_
             rotate_left
             ·intro w'
              go_simp
              with_reducible rfl
             rotate_left
             ·simp only [Act.put, List.setIfInBounds_toArray, List.set_cons_zero, List.set_cons_succ, i64_w, i32_w]
              rfl
             refine take_ (i := 5) (N := some 44) (v := ?_) (a' := ?_) #[true, true, true, true, true, true, true, false, true, false, false, false, true, false, false] rfl rfl (take_ofW HT_.out HW_.out (by kernel_rfl)) (fun _ _ _ h => h) (Or.inl ⟨by rfl, ?_⟩) hHeld ?_ ?_
             rotate_left
             ·rintro w' ⟨s0, s1, s2⟩
              go_simp
              with_reducible rfl
             rotate_left
             ·simp only [Act.put, List.setIfInBounds_toArray, List.set_cons_zero, List.set_cons_succ, i64_w, i32_w]
              rfl
             refine take_ (i := 7) (N := some 46) (v := ?_) (a' := ?_) #[true, true, true, true, true, true, true, true, true, false, false, false, true, false, false] rfl rfl (take_ofW HT_.out HW_.out (by kernel_rfl)) (fun _ _ _ h => h) (Or.inl ⟨by rfl, ?_⟩) hHeld ?_ ?_
             rotate_left
             ·rintro w' ⟨s0, s1, s2⟩
              go_simp
              with_reducible rfl
             rotate_left
             ·simp only [Act.put, List.setIfInBounds_toArray, List.set_cons_zero, List.set_cons_succ, i64_w, i32_w]
              rfl
             refine one_ (i := 9) (N := some 48) #[true, true, true, true, true, true, true, true, true, true, false, false, true, false, false] rfl rfl (one_of HT_.out (by kernel_rfl)) (by decide) (fun K hK => ?_)
             refine goes_ Try.func53 (by kernel_rfl) rfl #[.agg #[.bool a1_0, .slice A1_1 l1_1.length c1_1], .int .i64 x9_2] (by rfl) rfl rfl argt ?_
             with_reducible refine (turnstoneref01_digit.calls a1_0 _ _ l1_1 x9_2 t363 _ ?side1 ?side2 A38.out).mono ?_
             (case side1 => exact (ct (Kd.C_below HR1_1.out HB.out)))
             (case side2 => exact HC1_1.out)
             rintro e w45 ⟨rfl, hb⟩
             have HS2_ := (hb.cell (World.block_lt_of_cell? _ _ (hHeld.2.2))).trans (hHeld.2.2)
             refine ⟨_, rfl, ?_⟩
             replace HO_5 := rb HO_5 hb
             replace BK348 := blkb BK348 hb
             replace BK349 := blkb BK349 hb
             replace BK350 := blkb BK350 hb
             replace HB := belb HB hb
             (try clear hb)
             (try clear hb2)
             (try clear hk)
             (try clear hi)
             refine hK.out _ _ ⟨bc BK349 0, bc BK349 1, HS2_⟩ (fun hHeld => ?_)
             clear hK K
             refine norm_ (a' := ?_) ?_ ?_
             rotate_left
             ·show Act.put _ (some 48) _ = _
              simp only [Act.put, List.setIfInBounds_toArray, List.set_cons_zero, List.set_cons_succ, i64_w, i32_w]
              rfl
             refine pure_ (i := 10) (N := some 49) (v := ?_) (a' := ?_) #[true, true, true, true, true, true, true, true, true, true, true, false, true, false, false] rfl rfl (any_of HT_.out (by kernel_rfl)) (fun _ _ _ h => h) (Or.inl ⟨by rfl, ?_⟩) ?_ ?_
             rotate_left
             ·intro w'
              go_simp
              with_reducible rfl
             rotate_left
             ·simp only [Act.put, List.setIfInBounds_toArray, List.set_cons_zero, List.set_cons_succ, i64_w, i32_w]
              rfl
             refine pure_ (i := 11) (N := some 50) (v := ?_) (a' := ?_) #[true, true, true, true, true, true, true, true, true, true, true, true, true, false, false] rfl rfl (any_of HT_.out (by kernel_rfl)) (fun _ _ _ h => h) (Or.inl ⟨by rfl, ?_⟩) ?_ ?_
             rotate_left
             ·intro w'
              go_simp
              with_reducible rfl
             rotate_left
             ·simp only [Act.put, List.setIfInBounds_toArray, List.set_cons_zero, List.set_cons_succ, i64_w, i32_w]
              rfl
             refine pure_ (i := 13) (N := some 52) (v := ?_) (a' := ?_) #[true, true, true, true, true, true, true, true, true, true, true, true, true, true, false] rfl rfl (any_of HT_.out (by kernel_rfl)) (fun _ _ _ h => h) (Or.inl ⟨by rfl, ?_⟩) ?_ ?_
             rotate_left
             ·intro w'
              go_simp
              with_reducible rfl
             rotate_left
             ·simp only [Act.put, List.setIfInBounds_toArray, List.set_cons_zero, List.set_cons_succ, i64_w, i32_w]
              rfl
             refine pure_ (i := 14) (N := some 10) (v := ?_) (a' := ?_) #[true, true, true, true, true, true, true, true, true, true, true, true, true, true, true] rfl rfl (any_of HT_.out (by kernel_rfl)) (fun _ _ _ h => h) (Or.inl ⟨by rfl, ?_⟩) ?_ ?_
             rotate_left
             ·intro w'
              go_simp
              with_reducible rfl
             rotate_left
             ·simp only [Act.put, List.setIfInBounds_toArray, List.set_cons_zero, List.set_cons_succ, i64_w, i32_w]
              rfl
             refine done_ (done_of HT_.out (by kernel_rfl)) ?_
             have p39 : 0 ≤ ((ji35) : Int) := of_decide_eq_true (by first | (with_reducible assumption) | assumption)
             have q39 : ((ji35) : Int) < ((x5_2.length : Int) : Int) := of_decide_eq_true (by first | (with_reducible assumption) | assumption)
             obtain ⟨go39, co39, eo39, gb39, gl39, cl39, HG39⟩ := Kd.R_form HO_5.out (by omega)
             (first | cases eo39 | (injection eo39 with ea_ en_ ec_; (first | subst ea_ | (injection ea_ with ea_; subst ea_)); subst ec_; clear en_))
             have GB39 := Aside0.mk gb39
             have GG39 := Aside0.mk HG39
             clear gb39 gl39 HG39
             (first | simp only [add_plain] at hx362_0 | skip)
             obtain ⟨hx39_0, hf39_0⟩ := Kd.R_celln 0 HO_5.out ((ji35) : Int) p39 q39
             replace p39 := eq_true p39
             replace q39 := eq_true q39
             obtain ⟨hy46_, hz46_⟩ := Kd.R_celln 0 HO_5.out ((ji35) : Int) (of_decide_eq_true (by first | (with_reducible assumption) | assumption)) (of_decide_eq_true (by first | (with_reducible assumption) | assumption))
             have HP46 := Kd.R_putg HO_5.out ((ji35) : Int) (Int.tmod (wrap64 ((wrap64 ((rd x5_2 (ji35)) + (wrap64 ((rd l0_1 x23_1) * t363)))) + x8_2)) 10000)
             try go_wp2_with (first | ((with_reducible refine gate_store (t := 3) (p := 59) rfl ?_); refine store_event (t := 3) (p := 59) (v := ?vo_w47) (w1 := (w45.setCell ⟨go39, ((ji35) : Int).toNat, none⟩ (.int .i64 (Int.tmod (wrap64 ((wrap64 ((rd x5_2 (ji35)) + (wrap64 ((rd l0_1 x23_1) * t363)))) + x8_2)) 10000)))) ?hg ?ho ?hn ?hr ?_; (case ho => rfl); (case hg => rfl); (case hn => rfl); (case hr => first | (go_simp; done) | (go_simp; rfl)); intro w47 hw; have hg : w45.grownBy w47 (some go39) := (by rw [hw]; exact HP46.2); have hp_ : Kd.R (Kd.int .i64) 3 w47 w.heap.size (fun k_ => (w.heap.size ≤ k_)) (.slice (some ⟨go39, 0, none⟩) x5_2.length co44) y364 := (by rw [hw, Ny364.out]; exact HP46.1); clear HP46; replace BK348 := Aside0.mk (blk_grown (blkt BK348) hg (Kd.R_ne HO_5.out BK348.out (by decide))); replace BK349 := Aside0.mk (blk_grown (blkt BK349) hg (Kd.R_ne HO_5.out BK349.out (by decide))); replace BK350 := Aside0.mk (blk_grown (blkt BK350) hg (Kd.R_ne HO_5.out BK350.out (by decide))); replace HB := Aside0.mk ((by rw [hw]; exact below_set (HB.out) GB39.out : Below w.heap.size w w47)); replace HO_5 := Aside0.mk (hp_); clear hg hw hp_))
             go_roundg k2
             case measure => have := HK1.out; have := HK2.out; omega
             case rel => exact ⟨(y364), (wrap64 (Int.tdiv (wrap64 ((wrap64 ((rd x5_2 (ji35)) + (wrap64 ((rd l0_1 x23_1) * t363)))) + x8_2)) 10000)), (wrap64 (x9_2 + 1)), (by first | rfl | (simp; done) | (simp only [← hji35]; first | rfl | (simp; done) | (simp [mn, mx]; done)) | (simp [*]; done)), (by first | rfl | (simp; done) | (simp [*]; done)), H', ⟨by have := HK1.out; have := HK2.out; omega⟩, ⟨by (with_reducible repeat (first | apply Kd.R_alloc | apply Kd.R_drewN | apply Kd.R_drew)); exact HO_5.out⟩, ⟨blkt BK348⟩, ⟨blkt BK349⟩, ⟨blkt BK350⟩, ⟨belt HB⟩⟩
            rw [if_neg c37] at H
            exact absurd H (by simp)
           rw [if_neg c36] at H
           exact absurd H (by simp)
          rw [if_neg c34] at H
          have c34b0 : decide (0 < x8_2) = false := decide_eq_false c34
          clear c34
          have H' := Aside0.mk H
          clear H
          have hnb48 := NB349_348.out
          have hnc48 := NB348_349.out
          have hnb49 := NB349_350.out
          have hnc49 := NB350_349.out
          have hcz50_0 : wr.cell? ⟨gb349, 0, none⟩ = some (.bool a1_0) := bc BK349 0
          have hcz50_1 : wr.cell? ⟨gb349, 1, none⟩ = some (.slice A1_1 l1_1.length c1_1) := bc BK349 1
          have hfz50_0 := blk_frozen BK349.out 0
          have hfz50_1 := blk_frozen BK349.out 1
          go_wp2
          go_roundg k2
          case measure => have := HK1.out; have := HK2.out; omega
          case rel => exact ⟨(x5_2), (wrap64 (x23_1 + 1)), (by first | rfl | (simp; done) | (simp [*]; done)), H', ⟨by have := HK1.out; have := HK2.out; omega⟩, ⟨by (with_reducible repeat (first | apply Kd.R_alloc | apply Kd.R_drewN | apply Kd.R_drew)); exact HO_5.out⟩, ⟨blkt BK348⟩, ⟨blkt BK349⟩, ⟨blkt BK350⟩, ⟨belt HB⟩⟩
       rw [if_neg c19] at H
       exact absurd H (by simp)
      rw [if_neg c18] at H
      exact absurd H (by simp)
     rw [if_neg c17] at H
     have c17b0 : decide (x23_1 < (l0_1.length : Int)) = false := decide_eq_false c17
     clear c17
     replace H := Option.bind_eq_some_iff.mp H
     obtain ⟨⟨t354, t355⟩, A510, H⟩ := H
     replace H : (some (t354, t355)) = some (r1, r2) := H
     have A51 := Aside0.mk A510
     clear A510
     simp only [Option.some.injEq, Prod.mk.injEq] at H
     obtain ⟨rfl, rfl⟩ := H
     have hnb52 := NB348_349.out
     have hnc52 := NB349_348.out
     have hnb53 := NB348_350.out
     have hnc53 := NB350_348.out
     have hcz54_0 : wr.cell? ⟨gb348, 0, none⟩ = some (.bool a0_0) := bc BK348 0
     have hcz54_1 : wr.cell? ⟨gb348, 1, none⟩ = some (.slice A0_1 l0_1.length c0_1) := bc BK348 1
     have hfz54_0 := blk_frozen BK348.out 0
     have hfz54_1 := blk_frozen BK348.out 1
     have hnb55 := NB349_350.out
     have hnc55 := NB350_349.out
     have hcz56_0 : wr.cell? ⟨gb349, 0, none⟩ = some (.bool a1_0) := bc BK349 0
     have hcz56_1 : wr.cell? ⟨gb349, 1, none⟩ = some (.slice A1_1 l1_1.length c1_1) := bc BK349 1
     have hfz56_0 := blk_frozen BK349.out 0
     have hfz56_1 := blk_frozen BK349.out 1
     obtain ⟨Ao57, co57, eo57⟩ := Kd.R_slice HO_5.out
     subst eo57
     go_wp2_with (first | ((with_reducible refine gate_callee (f := 49) rfl ?_); refine goesL_ (some 70) rfl rfl Try.func49 (by kernel_rfl) rfl #[.agg #[.bool (a0_0 != a1_0), .slice Ao57 x5_1.length co57]] rfl argt ?_; (with_reducible refine (turnstoneref01_trim.calls k1 (a0_0 != a1_0) (fun k_ => some k_ = (.slice Ao57 x5_1.length co57 : Value).ownBlock) _ _ x5_1 t354 t355 _ ?side1 A51.out).mono ?_); (case side1 => exact Kd.R_V (Kd.R_tight rfl (Kd.R_types (Kd.R_types (Kd.R_types (HO_5.out) BK348.out (by decide)) BK349.out (by decide)) BK350.out (by decide)))); rintro e w58 ⟨v356, rfl, ho0, hb⟩; refine ⟨_, rfl, ?_⟩; have HO357 := Aside0.mk (Kd.V_lower (Kd.V_mono (ok' := fun k_ => (w.heap.size ≤ k_) ∧ k_ ≠ gb348 ∧ k_ ≠ gb349 ∧ k_ ≠ gb350) ho0 (fun k_ hk_ => ⟨Or.elim hk_ (fun hs_ => ((Kd.R_types (Kd.R_types (Kd.R_types (HO_5.out) BK348.out (by decide)) BK349.out (by decide)) BK350.out (by decide)).1 k_ hs_.symm).1.1.1) (fun hn_ => (Nat.le_trans (below_size (belt HB)) hn_)), Or.elim hk_ (fun hs_ => ((Kd.R_types (Kd.R_types (Kd.R_types (HO_5.out) BK348.out (by decide)) BK349.out (by decide)) BK350.out (by decide)).1 k_ hs_.symm).1.1.2) (fun hn_ => (Kd.freshB (blkt BK348) k_ hn_)), Or.elim hk_ (fun hs_ => ((Kd.R_types (Kd.R_types (Kd.R_types (HO_5.out) BK348.out (by decide)) BK349.out (by decide)) BK350.out (by decide)).1 k_ hs_.symm).1.2) (fun hn_ => (Kd.freshB (blkt BK349) k_ hn_)), Or.elim hk_ (fun hs_ => ((Kd.R_types (Kd.R_types (Kd.R_types (HO_5.out) BK348.out (by decide)) BK349.out (by decide)) BK350.out (by decide)).1 k_ hs_.symm).2) (fun hn_ => (Kd.freshB (blkt BK350) k_ hn_))⟩)) (below_size (belt HB))); replace HO_5 := rb HO_5 hb; replace BK348 := blkb BK348 hb; replace BK349 := blkb BK349 hb; replace BK350 := blkb BK350 hb; replace HB := belb HB hb; (try clear hb); (try clear hb2); (try clear hk); (try clear hi); (try clear ho0); have hcz59_0 : w58.cell? ⟨gb350, 0, none⟩ = some (.bool false) := bc BK350 0; have hcz59_1 : w58.cell? ⟨gb350, 1, none⟩ = some (.slice none 0 0) := bc BK350 1; have hfz59_0 := blk_frozen BK350.out 0; have hfz59_1 := blk_frozen BK350.out 1; obtain ⟨Ao60, co60, eo60⟩ := Kd.V_slice HO357.out; subst eo60))
     refine bodyPost_ret (results_cell_row rfl _ _ gb350 49 #[.bool t354, .slice Ao60 t355.length co60] (0, 0) _ rfl (by (with_reducible repeat (first | refine blk_drewN ?_ _ | refine blk_drew ?_ | refine blk_alloc ?_ _)); refine blk_put (cs := #[.bool t354, .slice none 0 0]) ?_ 1 _ rfl; (with_reducible repeat (first | refine blk_drewN ?_ _ | refine blk_drew ?_ | refine blk_alloc ?_ _)); refine blk_put (cs := #[.bool false, .slice none 0 0]) ?_ 0 _ rfl; exact blkt BK350) Try.underlying49 rfl (by kernel_rfl)) rfl ?_
     exact ⟨_, by first | rfl | (simp [errW_none, errW_some] <;> rfl) | (simp only [← hji3]; first | rfl | (simp [errW_none, errW_some] <;> rfl)) | (simp [*, errW_none, errW_some] <;> rfl), by (with_reducible repeat (first | apply Kd.V_alloc | apply Kd.V_drewN | apply Kd.V_drew)); exact Kd.V_mono (Kd.V_far (p := ⟨gb350, 1, none⟩) (Kd.V_far (p := ⟨gb350, 0, none⟩) (Kd.V_mono HO357.out (fun k_ hk => (⟨hk, hk.2.2.2⟩ : _ ∧ k_ ≠ gb350))) (fun _ hk => hk.2) (.bool t354)) (fun _ hk => hk.2) (.slice Ao60 t355.length co60)) (fun _ hk => hk.1.1), belt HB⟩
  rw [if_neg c5] at H
  exact absurd H (by simp)
 rw [if_neg c4] at H
 exact absurd H (by simp)


/-! ### turnstoneref04_Cmp: function 32 -/
def turnstoneref04_Cmp.f (k : Nat) (a0_0 : Int) (a0_1 : Int) (a0_2 : Int) (a1_0 : Int) (a1_1 : Int) (a1_2 : Int) : Option (Int) := (turnstoneref03_Since.f k a1_0 a0_0).bind fun bt367 => ((turnstoneref01_Sign.f bt367.1 bt367.2).bind fun t371 => (if t371 = 0 then ((turnstoneref01_U.f k (IntKind.u64.wrap (a0_1))).bind fun bt372 => ((turnstoneref01_U.f k (IntKind.u64.wrap (a1_2))).bind fun bt376 => ((turnstoneref01_Mul.f k bt372.1 bt372.2 bt376.1 bt376.2).bind fun bt380 => ((turnstoneref01_U.f k (IntKind.u64.wrap (a1_1))).bind fun bt384 => ((turnstoneref01_U.f k (IntKind.u64.wrap (a0_2))).bind fun bt388 => ((turnstoneref01_Mul.f k bt384.1 bt384.2 bt388.1 bt388.2).bind fun bt392 => ((turnstoneref01_Cmp.f k bt380.1 bt380.2 bt392.1 bt392.2).bind fun t396 => (some t396)))))))) else (some (wrap64 (-t371)))))
theorem turnstoneref04_Cmp.mono : ∀ a0 a1 a2 a3 a4 a5 k, LeO (turnstoneref04_Cmp.f k a0 a1 a2 a3 a4 a5) (turnstoneref04_Cmp.f (k + 1) a0 a1 a2 a3 a4 a5) := by
 intro a0 a1 a2 a3 a4 a5 k
 unfold turnstoneref04_Cmp.f
 repeat' first
   | (with_reducible exact turnstoneref01_Cmp.mono _ _ _ _ _)
   | (with_reducible exact turnstoneref01_Mul.mono _ _ _ _ _)
   | (with_reducible exact turnstoneref01_U.mono _ _)
   | (with_reducible exact turnstoneref03_Since.mono _ _ _)
   | (with_reducible exact LeO.refl _)
   | (with_reducible exact LeO.none _)
   | (with_reducible refine LeO.ite ?_ ?_)
   | (with_reducible refine LeO.bind ?_ (fun _ => ?_))
   | exact turnstoneref01_Cmp.mono _ _ _ _ _
   | exact turnstoneref01_Mul.mono _ _ _ _ _
   | exact turnstoneref01_U.mono _ _
   | exact turnstoneref03_Since.mono _ _ _
   | exact LeO.none _
   | refine LeO.ite ?_ ?_
   | refine LeO.bind ?_ (fun _ => ?_)
def turnstoneref04_Cmp.T4 : Bool × List (List Nat × List Nat) := (true, [([], []), ([0], [0]), ([1], [1]), ([2], [2]), ([], []), ([4], [4]), ([5], [5]), ([6, 3], [6]), ([3, 7, 7], [3, 7]), ([], []), ([9], [9]), ([10], [10]), ([11, 8], [11]), ([], []), ([13], [13]), ([14], [14]), ([15, 12], [15]), ([12, 16, 16], [12, 16]), ([8, 17, 17], [8, 17]), ([18, 18, 0, 1, 2, 3, 4, 5, 6, 7, 8, 9, 10, 11, 12, 13, 14, 15, 16, 17, 18], [18])])
def turnstoneref04_Cmp.B4 : List Nat := [0, 1, 3, 7, 0, 16, 48, 127, 255, 0, 512, 1536, 4095, 0, 8192, 24576, 65535, 131071, 262143, 524287]
theorem turnstoneref04_Cmp.tab4 : rtab .any (opsOf Try.f32 4) = turnstoneref04_Cmp.T4 := by kernel_rfl
theorem turnstoneref04_Cmp.bits4 : waitsOk turnstoneref04_Cmp.T4.2 turnstoneref04_Cmp.B4 = true := by kernel_rfl
set_option maxHeartbeats 8000000 in
set_option maxRecDepth 100000 in
theorem turnstoneref04_Cmp.calls (k : Nat) (a0_0 : Int) (a0_1 : Int) (a0_2 : Int) (a1_0 : Int) (a1_1 : Int) (a1_2 : Int) (r : Int) (w : World) (h : turnstoneref04_Cmp.f k a0_0 a0_1 a0_2 a1_0 a1_1 a1_2 = some r) :
  Calls Try.prog 32 #[.agg #[.int .u64 a0_0, .int .u32 a0_1, .int .u32 a0_2], .agg #[.int .u64 a1_0, .int .u32 a1_1, .int .u32 a1_2]] w fun e w' => e = .returned (.int .i64 r) ∧ Below w.heap.size w w' := by
 have hu36 := Try.underlying36
 have HB := Aside0.mk (Below.refl w.heap.size w)
 have H : ((turnstoneref03_Since.f k a1_0 a0_0).bind fun bt367 => ((turnstoneref01_Sign.f bt367.1 bt367.2).bind fun t371 => (if t371 = 0 then ((turnstoneref01_U.f k (IntKind.u64.wrap (a0_1))).bind fun bt372 => ((turnstoneref01_U.f k (IntKind.u64.wrap (a1_2))).bind fun bt376 => ((turnstoneref01_Mul.f k bt372.1 bt372.2 bt376.1 bt376.2).bind fun bt380 => ((turnstoneref01_U.f k (IntKind.u64.wrap (a1_1))).bind fun bt384 => ((turnstoneref01_U.f k (IntKind.u64.wrap (a0_2))).bind fun bt388 => ((turnstoneref01_Mul.f k bt384.1 bt384.2 bt388.1 bt388.2).bind fun bt392 => ((turnstoneref01_Cmp.f k bt380.1 bt380.2 bt392.1 bt392.2).bind fun t396 => (some t396)))))))) else (some (wrap64 (-t371)))))) = some r := h
 clear h
 replace H := Option.bind_eq_some_iff.mp H
 obtain ⟨⟨t367, t368⟩, A30, H⟩ := H
 replace H : ((turnstoneref01_Sign.f t367 t368).bind fun t371 => (if t371 = 0 then ((turnstoneref01_U.f k (IntKind.u64.wrap (a0_1))).bind fun bt372 => ((turnstoneref01_U.f k (IntKind.u64.wrap (a1_2))).bind fun bt376 => ((turnstoneref01_Mul.f k bt372.1 bt372.2 bt376.1 bt376.2).bind fun bt380 => ((turnstoneref01_U.f k (IntKind.u64.wrap (a1_1))).bind fun bt384 => ((turnstoneref01_U.f k (IntKind.u64.wrap (a0_2))).bind fun bt388 => ((turnstoneref01_Mul.f k bt384.1 bt384.2 bt388.1 bt388.2).bind fun bt392 => ((turnstoneref01_Cmp.f k bt380.1 bt380.2 bt392.1 bt392.2).bind fun t396 => (some t396)))))))) else (some (wrap64 (-t371))))) = some r := H
 have A3 := Aside0.mk A30
 clear A30
 replace H := Option.bind_eq_some_iff.mp H
 obtain ⟨t371, A40, H⟩ := H
 replace H : (if t371 = 0 then ((turnstoneref01_U.f k (IntKind.u64.wrap (a0_1))).bind fun bt372 => ((turnstoneref01_U.f k (IntKind.u64.wrap (a1_2))).bind fun bt376 => ((turnstoneref01_Mul.f k bt372.1 bt372.2 bt376.1 bt376.2).bind fun bt380 => ((turnstoneref01_U.f k (IntKind.u64.wrap (a1_1))).bind fun bt384 => ((turnstoneref01_U.f k (IntKind.u64.wrap (a0_2))).bind fun bt388 => ((turnstoneref01_Mul.f k bt384.1 bt384.2 bt388.1 bt388.2).bind fun bt392 => ((turnstoneref01_Cmp.f k bt380.1 bt380.2 bt392.1 bt392.2).bind fun t396 => (some t396)))))))) else (some (wrap64 (-t371)))) = some r := H
 have A4 := Aside0.mk A40
 clear A40
 by_cases c5 : t371 = 0
 ·rw [if_pos c5] at H
  have c5b0 : (t371 == 0) = true := beq_iff_eq.mpr c5
  have c5b1 : (t371 != 0) = false := bne_eq_false_iff_eq.mpr c5
  clear c5
  replace H := Option.bind_eq_some_iff.mp H
  obtain ⟨⟨t372, t373⟩, A60, H⟩ := H
  replace H : ((turnstoneref01_U.f k (IntKind.u64.wrap (a1_2))).bind fun bt376 => ((turnstoneref01_Mul.f k t372 t373 bt376.1 bt376.2).bind fun bt380 => ((turnstoneref01_U.f k (IntKind.u64.wrap (a1_1))).bind fun bt384 => ((turnstoneref01_U.f k (IntKind.u64.wrap (a0_2))).bind fun bt388 => ((turnstoneref01_Mul.f k bt384.1 bt384.2 bt388.1 bt388.2).bind fun bt392 => ((turnstoneref01_Cmp.f k bt380.1 bt380.2 bt392.1 bt392.2).bind fun t396 => (some t396))))))) = some r := H
  have A6 := Aside0.mk A60
  clear A60
  replace H := Option.bind_eq_some_iff.mp H
  obtain ⟨⟨t376, t377⟩, A70, H⟩ := H
  replace H : ((turnstoneref01_Mul.f k t372 t373 t376 t377).bind fun bt380 => ((turnstoneref01_U.f k (IntKind.u64.wrap (a1_1))).bind fun bt384 => ((turnstoneref01_U.f k (IntKind.u64.wrap (a0_2))).bind fun bt388 => ((turnstoneref01_Mul.f k bt384.1 bt384.2 bt388.1 bt388.2).bind fun bt392 => ((turnstoneref01_Cmp.f k bt380.1 bt380.2 bt392.1 bt392.2).bind fun t396 => (some t396)))))) = some r := H
  have A7 := Aside0.mk A70
  clear A70
  replace H := Option.bind_eq_some_iff.mp H
  obtain ⟨⟨t380, t381⟩, A80, H⟩ := H
  replace H : ((turnstoneref01_U.f k (IntKind.u64.wrap (a1_1))).bind fun bt384 => ((turnstoneref01_U.f k (IntKind.u64.wrap (a0_2))).bind fun bt388 => ((turnstoneref01_Mul.f k bt384.1 bt384.2 bt388.1 bt388.2).bind fun bt392 => ((turnstoneref01_Cmp.f k t380 t381 bt392.1 bt392.2).bind fun t396 => (some t396))))) = some r := H
  have A8 := Aside0.mk A80
  clear A80
  replace H := Option.bind_eq_some_iff.mp H
  obtain ⟨⟨t384, t385⟩, A90, H⟩ := H
  replace H : ((turnstoneref01_U.f k (IntKind.u64.wrap (a0_2))).bind fun bt388 => ((turnstoneref01_Mul.f k t384 t385 bt388.1 bt388.2).bind fun bt392 => ((turnstoneref01_Cmp.f k t380 t381 bt392.1 bt392.2).bind fun t396 => (some t396)))) = some r := H
  have A9 := Aside0.mk A90
  clear A90
  replace H := Option.bind_eq_some_iff.mp H
  obtain ⟨⟨t388, t389⟩, A100, H⟩ := H
  replace H : ((turnstoneref01_Mul.f k t384 t385 t388 t389).bind fun bt392 => ((turnstoneref01_Cmp.f k t380 t381 bt392.1 bt392.2).bind fun t396 => (some t396))) = some r := H
  have A10 := Aside0.mk A100
  clear A100
  replace H := Option.bind_eq_some_iff.mp H
  obtain ⟨⟨t392, t393⟩, A110, H⟩ := H
  replace H : ((turnstoneref01_Cmp.f k t380 t381 t392 t393).bind fun t396 => (some t396)) = some r := H
  have A11 := Aside0.mk A110
  clear A110
  replace H := Option.bind_eq_some_iff.mp H
  obtain ⟨t396, A120, H⟩ := H
  replace H : (some t396) = some r := H
  have A12 := Aside0.mk A120
  clear A120
  obtain rfl := Option.some.inj H
  go_enter Try.func32, Try.ntmps32
  try go_wp2_with (first | ((with_reducible refine gate_dst (N := 2) rfl ?_); refine box_event ?hg (N := 2) ?hd (cs := #[.int .u64 a0_0, .int .u32 a0_1, .int .u32 a0_2]) (t := 36) ?hr ?_; (case hd => rfl); (case hg => rfl); (case hr => first | (go_simp; done) | (go_simp; rfl)); intro gb365 hg w13 hbox hb; have BK365 := Aside0.mk (hbox); have GW365 := bels HB hg; have GE365 := bels HB hg; replace HB := belb HB hb; clear hb hbox hg) | ((with_reducible refine gate_dst (N := 3) rfl ?_); refine box_event ?hg (N := 3) ?hd (cs := #[.int .u64 a1_0, .int .u32 a1_1, .int .u32 a1_2]) (t := 36) ?hr ?_; (case hd => rfl); (case hg => rfl); (case hr => first | (go_simp; done) | (go_simp; rfl)); intro gb366 hg w14 hbox hb; have BK366 := Aside0.mk (hbox); have GW366 := bels HB hg; have GE366 := bels HB hg; have NB365_366 := blkl BK365 hg; have NB366_365 := blkg BK365 hg; replace BK365 := blkb BK365 hb; replace HB := belb HB hb; clear hb hbox hg; have hnb15 := NB366_365.out; have hnc15 := NB365_366.out; have hcz16_0 : w14.cell? ⟨gb366, 0, none⟩ = some (.int .u64 a1_0) := bc BK366 0; have hcz16_1 : w14.cell? ⟨gb366, 1, none⟩ = some (.int .u32 a1_1) := bc BK366 1; have hcz16_2 : w14.cell? ⟨gb366, 2, none⟩ = some (.int .u32 a1_2) := bc BK366 2; have hfz16_0 := blk_frozen BK366.out 0; have hfz16_1 := blk_frozen BK366.out 1; have hfz16_2 := blk_frozen BK366.out 2; have hcz17_0 : w14.cell? ⟨gb365, 0, none⟩ = some (.int .u64 a0_0) := bc BK365 0; have hcz17_1 : w14.cell? ⟨gb365, 1, none⟩ = some (.int .u32 a0_1) := bc BK365 1; have hcz17_2 : w14.cell? ⟨gb365, 2, none⟩ = some (.int .u32 a0_2) := bc BK365 2; have hfz17_0 := blk_frozen BK365.out 0; have hfz17_1 := blk_frozen BK365.out 1; have hfz17_2 := blk_frozen BK365.out 2) | ((with_reducible refine gate_callee (f := 27) rfl ?_); refine goesL_ (some 10) rfl rfl Try.func27 (by kernel_rfl) rfl #[.int .u64 a1_0, .int .u64 a0_0] rfl argt ?_; (with_reducible refine (turnstoneref03_Since.calls k a1_0 a0_0 t367 t368 _ A3.out).mono ?_); rintro e w18 ⟨v369, rfl, ho0, hb⟩; refine ⟨_, rfl, ?_⟩; have HO370 := Aside0.mk (Kd.V_lower (Kd.V_mono (ok' := fun k_ => k_ ≠ gb365 ∧ k_ ≠ gb366) ho0 (fun k_ hk_ => ⟨(Kd.freshB (blkt BK365) k_ hk_), (Kd.freshB (blkt BK366) k_ hk_)⟩)) (below_size (belt HB))); replace BK365 := blkb BK365 hb; replace BK366 := blkb BK366 hb; replace HB := belb HB hb; (try clear hb); (try clear hb2); (try clear hk); (try clear hi); (try clear ho0); obtain ⟨Ao19, co19, eo19⟩ := Kd.V_slice HO370.out; subst eo19) | ((with_reducible refine gate_callee (f := 29) rfl ?_); refine goesL_ (some 11) rfl rfl Try.func29 (by kernel_rfl) rfl #[.agg #[.bool t367, .slice Ao19 t368.length co19]] rfl argt ?_; (with_reducible refine (turnstoneref01_Sign.calls t367 _ _ t368 t371 _ ?side1 ?side2 A4.out).mono ?_); (case side1 => repeat (first | exact (Kd.V_reads' HO370.out).2.2 | (with_reducible refine Kd.C_alloc ?_ _) | (with_reducible refine Kd.C_drewN ?_ _) | (with_reducible refine Kd.C_drew ?_))); (case side2 => exact (Kd.V_reads' HO370.out).2.1); rintro e w20 ⟨rfl, hb⟩; refine ⟨_, rfl, ?_⟩; replace HO370 := vb HO370 hb; replace BK365 := blkb BK365 hb; replace BK366 := blkb BK366 hb; replace HB := belb HB hb; (try clear hb); (try clear hb2); (try clear hk); (try clear hi)))
  replace HO370 := Aside0.mk (Kd.V_drew HO370.out)
  replace BK365 := Aside0.mk (blk_drew BK365.out)
  replace BK366 := Aside0.mk (blk_drew BK366.out)
  replace HB := Aside0.mk (below_drew1 HB.out)
  refine start_ (n := 20) (S := fun w' => w'.cell? ⟨gb365, 0, none⟩ = some (.int .u64 a0_0) ∧ w'.cell? ⟨gb365, 1, none⟩ = some (.int .u32 a0_1) ∧ w'.cell? ⟨gb365, 2, none⟩ = some (.int .u32 a0_2) ∧ w'.cell? ⟨gb366, 0, none⟩ = some (.int .u64 a1_0) ∧ w'.cell? ⟨gb366, 1, none⟩ = some (.int .u32 a1_1) ∧ w'.cell? ⟨gb366, 2, none⟩ = some (.int .u32 a1_2)) (ds := []) #[false, false, false, false, false, false, false, false, false, false, false, false, false, false, false, false, false, false, false, false] (by kernel_rfl) rfl rfl ⟨bc BK365 0, bc BK365 1, bc BK365 2, bc BK366 0, bc BK366 1, bc BK366 2⟩ (fun hHeld => ?_); refine with_tabW turnstoneref04_Cmp.tab4 turnstoneref04_Cmp.bits4 (fun HT_ HW_ => ?_)
  generalize w20.drew = w21 at HO370 BK365 BK366 HB hHeld ⊢
  refine pure_ (i := 0) (N := some 16) (v := ?_) (a' := ?_) #[true, false, false, false, false, false, false, false, false, false, false, false, false, false, false, false, false, false, false, false] rfl rfl (any_of HT_.out (by kernel_rfl)) (fun _ _ _ h => h) (Or.inl ⟨by rfl, ?_⟩) ?_ ?_
  rotate_left
  ·intro w'
   go_simp
   with_reducible rfl
  rotate_left
  ·simp only [Act.put, List.setIfInBounds_toArray, List.set_cons_zero, List.set_cons_succ, i64_w, i32_w]
   rfl
  refine pure_ (i := 4) (N := some 20) (v := ?_) (a' := ?_) #[true, false, false, false, true, false, false, false, false, false, false, false, false, false, false, false, false, false, false, false] rfl rfl (any_of HT_.out (by kernel_rfl)) (fun _ _ _ h => h) (Or.inl ⟨by rfl, ?_⟩) ?_ ?_
  rotate_left
  ·intro w'
   go_simp
   with_reducible rfl
  rotate_left
  ·simp only [Act.put, List.setIfInBounds_toArray, List.set_cons_zero, List.set_cons_succ, i64_w, i32_w]
   rfl
  refine pure_ (i := 9) (N := some 25) (v := ?_) (a' := ?_) #[true, false, false, false, true, false, false, false, false, true, false, false, false, false, false, false, false, false, false, false] rfl rfl (any_of HT_.out (by kernel_rfl)) (fun _ _ _ h => h) (Or.inl ⟨by rfl, ?_⟩) ?_ ?_
  rotate_left
  ·intro w'
   go_simp
   with_reducible rfl
  rotate_left
  ·simp only [Act.put, List.setIfInBounds_toArray, List.set_cons_zero, List.set_cons_succ, i64_w, i32_w]
   rfl
  refine pure_ (i := 13) (N := some 29) (v := ?_) (a' := ?_) #[true, false, false, false, true, false, false, false, false, true, false, false, false, true, false, false, false, false, false, false] rfl rfl (any_of HT_.out (by kernel_rfl)) (fun _ _ _ h => h) (Or.inl ⟨by rfl, ?_⟩) ?_ ?_
  rotate_left
  ·intro w'
   go_simp
   with_reducible rfl
  rotate_left
  ·simp only [Act.put, List.setIfInBounds_toArray, List.set_cons_zero, List.set_cons_succ, i64_w, i32_w]
   rfl
  refine take_ (i := 1) (N := some 17) (v := ?_) (a' := ?_) #[true, true, false, false, true, false, false, false, false, true, false, false, false, true, false, false, false, false, false, false] rfl rfl (take_ofW HT_.out HW_.out (by kernel_rfl)) (fun _ _ _ h => h) (Or.inl ⟨by rfl, ?_⟩) hHeld ?_ ?_
  rotate_left
  ·rintro w' ⟨s0, s1, s2, s3, s4, s5⟩
   go_simp
   with_reducible rfl
  rotate_left
  ·simp only [Act.put, List.setIfInBounds_toArray, List.set_cons_zero, List.set_cons_succ, i64_w, i32_w]
   rfl
  refine pure_ (i := 2) (N := some 18) (v := ?_) (a' := ?_) #[true, true, true, false, true, false, false, false, false, true, false, false, false, true, false, false, false, false, false, false] rfl rfl (any_of HT_.out (by kernel_rfl)) (fun _ _ _ h => h) (Or.inl ⟨by rfl, ?_⟩) ?_ ?_
  rotate_left
  ·intro w'
   go_simp
   with_reducible rfl
  rotate_left
  ·simp only [Act.put, List.setIfInBounds_toArray, List.set_cons_zero, List.set_cons_succ, i64_w, i32_w]
   rfl
  refine take_ (i := 5) (N := some 21) (v := ?_) (a' := ?_) #[true, true, true, false, true, true, false, false, false, true, false, false, false, true, false, false, false, false, false, false] rfl rfl (take_ofW HT_.out HW_.out (by kernel_rfl)) (fun _ _ _ h => h) (Or.inl ⟨by rfl, ?_⟩) hHeld ?_ ?_
  rotate_left
  ·rintro w' ⟨s0, s1, s2, s3, s4, s5⟩
   go_simp
   with_reducible rfl
  rotate_left
  ·simp only [Act.put, List.setIfInBounds_toArray, List.set_cons_zero, List.set_cons_succ, i64_w, i32_w]
   rfl
  refine pure_ (i := 6) (N := some 22) (v := ?_) (a' := ?_) #[true, true, true, false, true, true, true, false, false, true, false, false, false, true, false, false, false, false, false, false] rfl rfl (any_of HT_.out (by kernel_rfl)) (fun _ _ _ h => h) (Or.inl ⟨by rfl, ?_⟩) ?_ ?_
  rotate_left
  ·intro w'
   go_simp
   with_reducible rfl
  rotate_left
  ·simp only [Act.put, List.setIfInBounds_toArray, List.set_cons_zero, List.set_cons_succ, i64_w, i32_w]
   rfl
  refine take_ (i := 10) (N := some 26) (v := ?_) (a' := ?_) #[true, true, true, false, true, true, true, false, false, true, true, false, false, true, false, false, false, false, false, false] rfl rfl (take_ofW HT_.out HW_.out (by kernel_rfl)) (fun _ _ _ h => h) (Or.inl ⟨by rfl, ?_⟩) hHeld ?_ ?_
  rotate_left
  ·rintro w' ⟨s0, s1, s2, s3, s4, s5⟩
   go_simp
   with_reducible rfl
  rotate_left
  ·simp only [Act.put, List.setIfInBounds_toArray, List.set_cons_zero, List.set_cons_succ, i64_w, i32_w]
   rfl
  refine pure_ (i := 11) (N := some 27) (v := ?_) (a' := ?_) #[true, true, true, false, true, true, true, false, false, true, true, true, false, true, false, false, false, false, false, false] rfl rfl (any_of HT_.out (by kernel_rfl)) (fun _ _ _ h => h) (Or.inl ⟨by rfl, ?_⟩) ?_ ?_
  rotate_left
  ·intro w'
   go_simp
   with_reducible rfl
  rotate_left
  ·simp only [Act.put, List.setIfInBounds_toArray, List.set_cons_zero, List.set_cons_succ, i64_w, i32_w]
   rfl
  refine take_ (i := 14) (N := some 30) (v := ?_) (a' := ?_) #[true, true, true, false, true, true, true, false, false, true, true, true, false, true, true, false, false, false, false, false] rfl rfl (take_ofW HT_.out HW_.out (by kernel_rfl)) (fun _ _ _ h => h) (Or.inl ⟨by rfl, ?_⟩) hHeld ?_ ?_
  rotate_left
  ·rintro w' ⟨s0, s1, s2, s3, s4, s5⟩
   go_simp
   with_reducible rfl
  rotate_left
  ·simp only [Act.put, List.setIfInBounds_toArray, List.set_cons_zero, List.set_cons_succ, i64_w, i32_w]
   rfl
  refine pure_ (i := 15) (N := some 31) (v := ?_) (a' := ?_) #[true, true, true, false, true, true, true, false, false, true, true, true, false, true, true, true, false, false, false, false] rfl rfl (any_of HT_.out (by kernel_rfl)) (fun _ _ _ h => h) (Or.inl ⟨by rfl, ?_⟩) ?_ ?_
  rotate_left
  ·intro w'
   go_simp
   with_reducible rfl
  rotate_left
  ·simp only [Act.put, List.setIfInBounds_toArray, List.set_cons_zero, List.set_cons_succ, i64_w, i32_w]
   rfl
  refine one_ (i := 3) (N := some 19) #[true, true, true, true, true, true, true, false, false, true, true, true, false, true, true, true, false, false, false, false] rfl rfl (one_of HT_.out (by kernel_rfl)) (by decide) (fun K hK => ?_)
  refine goes_ Try.func19 (by kernel_rfl) rfl #[.int .u64 (IntKind.u64.wrap (a0_1))] (by rfl) rfl rfl argt ?_
  with_reducible refine (turnstoneref01_U.calls k (IntKind.u64.wrap (a0_1)) t372 t373 _ A6.out).mono ?_
  rintro e w22 ⟨v374, rfl, ho0, hb⟩
  refine ⟨_, rfl, ?_⟩
  replace HO370 := Aside0.mk (Kd.V_elder' (vt HO370) (Kd.R_base ho0) hb)
  have HO375 := Aside0.mk (Kd.R_lower ho0 (below_size (belt HB)))
  replace BK365 := blkb BK365 hb
  replace BK366 := blkb BK366 hb
  replace HB := belb HB hb
  (try clear hb)
  (try clear hb2)
  (try clear hk)
  (try clear hi)
  (try clear ho0)
  refine hK.out _ _ ⟨bc BK365 0, bc BK365 1, bc BK365 2, bc BK366 0, bc BK366 1, bc BK366 2⟩ (fun hHeld => ?_)
  clear hK K
  refine norm_ (a' := ?_) ?_ ?_
  rotate_left
  ·show Act.put _ (some 19) _ = _
   simp only [Act.put, List.setIfInBounds_toArray, List.set_cons_zero, List.set_cons_succ, i64_w, i32_w]
   rfl
  refine one_ (i := 7) (N := some 23) #[true, true, true, true, true, true, true, true, false, true, true, true, false, true, true, true, false, false, false, false] rfl rfl (one_of HT_.out (by kernel_rfl)) (by decide) (fun K hK => ?_)
  refine goes_ Try.func19 (by kernel_rfl) rfl #[.int .u64 (IntKind.u64.wrap (a1_2))] (by rfl) rfl rfl argt ?_
  with_reducible refine (turnstoneref01_U.calls k (IntKind.u64.wrap (a1_2)) t376 t377 _ A7.out).mono ?_
  rintro e w23 ⟨v378, rfl, ho0, hb⟩
  refine ⟨_, rfl, ?_⟩
  replace HO370 := Aside0.mk (Kd.V_elder' (vt HO370) (Kd.R_base ho0) hb)
  have HO379 := Aside0.mk (Kd.R_lower (Kd.R_new' ho0 (Kd.R_lt (rt HO375))) (below_size (belt HB)))
  replace BK365 := blkb BK365 hb
  replace BK366 := blkb BK366 hb
  replace HO375 := Aside0.mk (Kd.R_elder' (rt HO375) (Kd.R_base ho0) hb)
  replace HB := belb HB hb
  (try clear hb)
  (try clear hb2)
  (try clear hk)
  (try clear hi)
  (try clear ho0)
  obtain ⟨Ao24, co24, eo24⟩ := Kd.R_slice HO375.out
  (first | subst eo24 | (injection eo24 with f1_ f2_ f3_; have f4_ := f1_.symm; have f5_ := f3_.symm; clear f1_ f2_ f3_; subst f4_; subst f5_))
  obtain ⟨Ao25, co25, eo25⟩ := Kd.R_slice HO379.out
  (first | subst eo25 | (injection eo25 with f1_ f2_ f3_; have f4_ := f1_.symm; have f5_ := f3_.symm; clear f1_ f2_ f3_; subst f4_; subst f5_))
  refine hK.out _ _ ⟨bc BK365 0, bc BK365 1, bc BK365 2, bc BK366 0, bc BK366 1, bc BK366 2⟩ (fun hHeld => ?_)
  clear hK K
  refine norm_ (a' := ?_) ?_ ?_
  rotate_left
  ·show Act.put _ (some 23) _ = _
   simp only [Act.put, List.setIfInBounds_toArray, List.set_cons_zero, List.set_cons_succ, i64_w, i32_w]
   rfl
  refine one_ (i := 8) (N := some 24) #[true, true, true, true, true, true, true, true, true, true, true, true, false, true, true, true, false, false, false, false] rfl rfl (one_of HT_.out (by kernel_rfl)) (by decide) (fun K hK => ?_)
  refine goes_ Try.func43 (by kernel_rfl) rfl #[.agg #[.bool t372, .slice Ao24 t373.length co24], .agg #[.bool t376, .slice Ao25 t377.length co25]] (by rfl) rfl rfl argt ?_
  with_reducible refine (turnstoneref01_Mul.calls k t372 _ _ t373 t376 _ _ t377 t380 t381 _ ?side1 ?side2 ?side3 ?side4 A8.out).mono ?_
  (case side1 => repeat (first | exact (Kd.R_reads' HO375.out).2.2 | (with_reducible refine Kd.C_alloc ?_ _) | (with_reducible refine Kd.C_drewN ?_ _) | (with_reducible refine Kd.C_drew ?_)))
  (case side2 => exact (Kd.R_reads' HO375.out).2.1)
  (case side3 => repeat (first | exact (Kd.R_reads' HO379.out).2.2 | (with_reducible refine Kd.C_alloc ?_ _) | (with_reducible refine Kd.C_drewN ?_ _) | (with_reducible refine Kd.C_drew ?_)))
  (case side4 => exact (Kd.R_reads' HO379.out).2.1)
  rintro e w26 ⟨v382, rfl, ho0, hb⟩
  refine ⟨_, rfl, ?_⟩
  replace HO370 := vb HO370 hb
  have HO383 := Aside0.mk (Kd.V_lower (Kd.V_mono (ok' := fun k_ => some k_ ≠ (.slice Ao24 t373.length co24 : Value).ownBlock ∧ some k_ ≠ (.slice Ao25 t377.length co25 : Value).ownBlock ∧ k_ ≠ gb365 ∧ k_ ≠ gb366) ho0 (fun k_ hk_ => ⟨(Kd.fresh' (Kd.R_lt (rt HO375)) k_ hk_), (Kd.fresh' (Kd.R_lt (rt HO379)) k_ hk_), (Kd.freshB (blkt BK365) k_ hk_), (Kd.freshB (blkt BK366) k_ hk_)⟩)) (below_size (belt HB)))
  replace HO375 := rb HO375 hb
  replace HO379 := rb HO379 hb
  replace BK365 := blkb BK365 hb
  replace BK366 := blkb BK366 hb
  replace HB := belb HB hb
  (try clear hb)
  (try clear hb2)
  (try clear hk)
  (try clear hi)
  (try clear ho0)
  refine hK.out _ _ ⟨bc BK365 0, bc BK365 1, bc BK365 2, bc BK366 0, bc BK366 1, bc BK366 2⟩ (fun hHeld => ?_)
  clear hK K
  refine norm_ (a' := ?_) ?_ ?_
  rotate_left
  ·show Act.put _ (some 24) _ = _
   simp only [Act.put, List.setIfInBounds_toArray, List.set_cons_zero, List.set_cons_succ, i64_w, i32_w]
   rfl
  refine one_ (i := 12) (N := some 28) #[true, true, true, true, true, true, true, true, true, true, true, true, true, true, true, true, false, false, false, false] rfl rfl (one_of HT_.out (by kernel_rfl)) (by decide) (fun K hK => ?_)
  refine goes_ Try.func19 (by kernel_rfl) rfl #[.int .u64 (IntKind.u64.wrap (a1_1))] (by rfl) rfl rfl argt ?_
  with_reducible refine (turnstoneref01_U.calls k (IntKind.u64.wrap (a1_1)) t384 t385 _ A9.out).mono ?_
  rintro e w27 ⟨v386, rfl, ho0, hb⟩
  refine ⟨_, rfl, ?_⟩
  replace HO370 := Aside0.mk (Kd.V_elder' (vt HO370) (Kd.R_base ho0) hb)
  replace HO383 := Aside0.mk (Kd.V_elder' (vt HO383) (Kd.R_base ho0) hb)
  have HO387 := Aside0.mk (Kd.R_lower (Kd.R_new' (Kd.R_new' ho0 (Kd.R_lt (rt HO375))) (Kd.R_lt (rt HO379))) (below_size (belt HB)))
  replace BK365 := blkb BK365 hb
  replace BK366 := blkb BK366 hb
  replace HO375 := Aside0.mk (Kd.R_elder' (rt HO375) (Kd.R_base ho0) hb)
  replace HO379 := Aside0.mk (Kd.R_elder' (rt HO379) (Kd.R_base ho0) hb)
  replace HB := belb HB hb
  (try clear hb)
  (try clear hb2)
  (try clear hk)
  (try clear hi)
  (try clear ho0)
  refine hK.out _ _ ⟨bc BK365 0, bc BK365 1, bc BK365 2, bc BK366 0, bc BK366 1, bc BK366 2⟩ (fun hHeld => ?_)
  clear hK K
  refine norm_ (a' := ?_) ?_ ?_
  rotate_left
  ·show Act.put _ (some 28) _ = _
   simp only [Act.put, List.setIfInBounds_toArray, List.set_cons_zero, List.set_cons_succ, i64_w, i32_w]
   rfl
  refine one_ (i := 16) (N := some 32) #[true, true, true, true, true, true, true, true, true, true, true, true, true, true, true, true, true, false, false, false] rfl rfl (one_of HT_.out (by kernel_rfl)) (by decide) (fun K hK => ?_)
  refine goes_ Try.func19 (by kernel_rfl) rfl #[.int .u64 (IntKind.u64.wrap (a0_2))] (by rfl) rfl rfl argt ?_
  with_reducible refine (turnstoneref01_U.calls k (IntKind.u64.wrap (a0_2)) t388 t389 _ A10.out).mono ?_
  rintro e w28 ⟨v390, rfl, ho0, hb⟩
  refine ⟨_, rfl, ?_⟩
  replace HO370 := Aside0.mk (Kd.V_elder' (vt HO370) (Kd.R_base ho0) hb)
  replace HO383 := Aside0.mk (Kd.V_elder' (vt HO383) (Kd.R_base ho0) hb)
  have HO391 := Aside0.mk (Kd.R_lower (Kd.R_new' (Kd.R_new' (Kd.R_new' ho0 (Kd.R_lt (rt HO375))) (Kd.R_lt (rt HO379))) (Kd.R_lt (rt HO387))) (below_size (belt HB)))
  replace BK365 := blkb BK365 hb
  replace BK366 := blkb BK366 hb
  replace HO375 := Aside0.mk (Kd.R_elder' (rt HO375) (Kd.R_base ho0) hb)
  replace HO379 := Aside0.mk (Kd.R_elder' (rt HO379) (Kd.R_base ho0) hb)
  replace HO387 := Aside0.mk (Kd.R_elder' (rt HO387) (Kd.R_base ho0) hb)
  replace HB := belb HB hb
  (try clear hb)
  (try clear hb2)
  (try clear hk)
  (try clear hi)
  (try clear ho0)
  obtain ⟨Ao29, co29, eo29⟩ := Kd.R_slice HO387.out
  (first | subst eo29 | (injection eo29 with f1_ f2_ f3_; have f4_ := f1_.symm; have f5_ := f3_.symm; clear f1_ f2_ f3_; subst f4_; subst f5_))
  obtain ⟨Ao30, co30, eo30⟩ := Kd.R_slice HO391.out
  (first | subst eo30 | (injection eo30 with f1_ f2_ f3_; have f4_ := f1_.symm; have f5_ := f3_.symm; clear f1_ f2_ f3_; subst f4_; subst f5_))
  refine hK.out _ _ ⟨bc BK365 0, bc BK365 1, bc BK365 2, bc BK366 0, bc BK366 1, bc BK366 2⟩ (fun hHeld => ?_)
  clear hK K
  refine norm_ (a' := ?_) ?_ ?_
  rotate_left
  ·show Act.put _ (some 32) _ = _
   simp only [Act.put, List.setIfInBounds_toArray, List.set_cons_zero, List.set_cons_succ, i64_w, i32_w]
   rfl
  refine one_ (i := 17) (N := some 33) #[true, true, true, true, true, true, true, true, true, true, true, true, true, true, true, true, true, true, false, false] rfl rfl (one_of HT_.out (by kernel_rfl)) (by decide) (fun K hK => ?_)
  refine goes_ Try.func43 (by kernel_rfl) rfl #[.agg #[.bool t384, .slice Ao29 t385.length co29], .agg #[.bool t388, .slice Ao30 t389.length co30]] (by rfl) rfl rfl argt ?_
  with_reducible refine (turnstoneref01_Mul.calls k t384 _ _ t385 t388 _ _ t389 t392 t393 _ ?side1 ?side2 ?side3 ?side4 A11.out).mono ?_
  (case side1 => repeat (first | exact (Kd.R_reads' HO387.out).2.2 | (with_reducible refine Kd.C_alloc ?_ _) | (with_reducible refine Kd.C_drewN ?_ _) | (with_reducible refine Kd.C_drew ?_)))
  (case side2 => exact (Kd.R_reads' HO387.out).2.1)
  (case side3 => repeat (first | exact (Kd.R_reads' HO391.out).2.2 | (with_reducible refine Kd.C_alloc ?_ _) | (with_reducible refine Kd.C_drewN ?_ _) | (with_reducible refine Kd.C_drew ?_)))
  (case side4 => exact (Kd.R_reads' HO391.out).2.1)
  rintro e w31 ⟨v394, rfl, ho0, hb⟩
  refine ⟨_, rfl, ?_⟩
  replace HO370 := vb HO370 hb
  replace HO383 := vb HO383 hb
  have HO395 := Aside0.mk (Kd.V_lower (Kd.V_mono (ok' := fun k_ => some k_ ≠ (.slice Ao24 t373.length co24 : Value).ownBlock ∧ some k_ ≠ (.slice Ao25 t377.length co25 : Value).ownBlock ∧ some k_ ≠ (.slice Ao29 t385.length co29 : Value).ownBlock ∧ some k_ ≠ (.slice Ao30 t389.length co30 : Value).ownBlock ∧ k_ ≠ gb365 ∧ k_ ≠ gb366) ho0 (fun k_ hk_ => ⟨(Kd.fresh' (Kd.R_lt (rt HO375)) k_ hk_), (Kd.fresh' (Kd.R_lt (rt HO379)) k_ hk_), (Kd.fresh' (Kd.R_lt (rt HO387)) k_ hk_), (Kd.fresh' (Kd.R_lt (rt HO391)) k_ hk_), (Kd.freshB (blkt BK365) k_ hk_), (Kd.freshB (blkt BK366) k_ hk_)⟩)) (below_size (belt HB)))
  replace HO375 := rb HO375 hb
  replace HO379 := rb HO379 hb
  replace HO387 := rb HO387 hb
  replace HO391 := rb HO391 hb
  replace BK365 := blkb BK365 hb
  replace BK366 := blkb BK366 hb
  replace HB := belb HB hb
  (try clear hb)
  (try clear hb2)
  (try clear hk)
  (try clear hi)
  (try clear ho0)
  obtain ⟨Ao32, co32, eo32⟩ := Kd.V_slice HO383.out
  (first | subst eo32 | (injection eo32 with f1_ f2_ f3_; have f4_ := f1_.symm; have f5_ := f3_.symm; clear f1_ f2_ f3_; subst f4_; subst f5_))
  obtain ⟨Ao33, co33, eo33⟩ := Kd.V_slice HO395.out
  (first | subst eo33 | (injection eo33 with f1_ f2_ f3_; have f4_ := f1_.symm; have f5_ := f3_.symm; clear f1_ f2_ f3_; subst f4_; subst f5_))
  refine hK.out _ _ ⟨bc BK365 0, bc BK365 1, bc BK365 2, bc BK366 0, bc BK366 1, bc BK366 2⟩ (fun hHeld => ?_)
  clear hK K
  refine norm_ (a' := ?_) ?_ ?_
  rotate_left
  ·show Act.put _ (some 33) _ = _
   simp only [Act.put, List.setIfInBounds_toArray, List.set_cons_zero, List.set_cons_succ, i64_w, i32_w]
   rfl
  refine one_ (i := 18) (N := some 34) #[true, true, true, true, true, true, true, true, true, true, true, true, true, true, true, true, true, true, true, false] rfl rfl (one_of HT_.out (by kernel_rfl)) (by decide) (fun K hK => ?_)
  refine goes_ Try.func18 (by kernel_rfl) rfl #[.agg #[.bool t380, .slice Ao32 t381.length co32], .agg #[.bool t392, .slice Ao33 t393.length co33]] (by rfl) rfl rfl argt ?_
  with_reducible refine (turnstoneref01_Cmp.calls k t380 _ _ t381 t392 _ _ t393 t396 _ ?side1 ?side2 ?side3 ?side4 A12.out).mono ?_
  (case side1 => repeat (first | exact (Kd.V_reads' HO383.out).2.2 | (with_reducible refine Kd.C_alloc ?_ _) | (with_reducible refine Kd.C_drewN ?_ _) | (with_reducible refine Kd.C_drew ?_)))
  (case side2 => exact (Kd.V_reads' HO383.out).2.1)
  (case side3 => repeat (first | exact (Kd.V_reads' HO395.out).2.2 | (with_reducible refine Kd.C_alloc ?_ _) | (with_reducible refine Kd.C_drewN ?_ _) | (with_reducible refine Kd.C_drew ?_)))
  (case side4 => exact (Kd.V_reads' HO395.out).2.1)
  rintro e w34 ⟨rfl, hb⟩
  refine ⟨_, rfl, ?_⟩
  replace HO370 := vb HO370 hb
  replace HO375 := rb HO375 hb
  replace HO379 := rb HO379 hb
  replace HO383 := vb HO383 hb
  replace HO387 := rb HO387 hb
  replace HO391 := rb HO391 hb
  replace HO395 := vb HO395 hb
  replace BK365 := blkb BK365 hb
  replace BK366 := blkb BK366 hb
  replace HB := belb HB hb
  (try clear hb)
  (try clear hb2)
  (try clear hk)
  (try clear hi)
  refine hK.out _ _ ⟨bc BK365 0, bc BK365 1, bc BK365 2, bc BK366 0, bc BK366 1, bc BK366 2⟩ (fun hHeld => ?_)
  clear hK K
  refine norm_ (a' := ?_) ?_ ?_
  rotate_left
  ·show Act.put _ (some 34) _ = _
   simp only [Act.put, List.setIfInBounds_toArray, List.set_cons_zero, List.set_cons_succ, i64_w, i32_w]
   rfl
  refine pure_ (i := 19) (N := some 4) (v := ?_) (a' := ?_) #[true, true, true, true, true, true, true, true, true, true, true, true, true, true, true, true, true, true, true, true] rfl rfl (any_of HT_.out (by kernel_rfl)) (fun _ _ _ h => h) (Or.inl ⟨by rfl, ?_⟩) ?_ ?_
  rotate_left
  ·intro w'
   go_simp
   with_reducible rfl
  rotate_left
  ·simp only [Act.put, List.setIfInBounds_toArray, List.set_cons_zero, List.set_cons_succ, i64_w, i32_w]
   rfl
  refine done_ (done_of HT_.out (by kernel_rfl)) ?_
  try go_wp2
  go_ret
  exact ⟨by first | rfl | (simp [errW_none, errW_some] <;> rfl) | (simp [*, errW_none, errW_some] <;> rfl), belt HB⟩
 rw [if_neg c5] at H
 have c5b0 : (t371 == 0) = false := beq_eq_false_iff_ne.mpr c5
 have c5b1 : (t371 != 0) = true := bne_iff_ne.mpr c5
 obtain rfl := Option.some.inj H
 go_enter Try.func32, Try.ntmps32
 go_wp2_with (first | ((with_reducible refine gate_dst (N := 2) rfl ?_); refine box_event ?hg (N := 2) ?hd (cs := #[.int .u64 a0_0, .int .u32 a0_1, .int .u32 a0_2]) (t := 36) ?hr ?_; (case hd => rfl); (case hg => rfl); (case hr => first | (go_simp; done) | (go_simp; rfl)); intro gb365 hg w35 hbox hb; have BK365 := Aside0.mk (hbox); have GW365 := bels HB hg; have GE365 := bels HB hg; replace HB := belb HB hb; clear hb hbox hg) | ((with_reducible refine gate_dst (N := 3) rfl ?_); refine box_event ?hg (N := 3) ?hd (cs := #[.int .u64 a1_0, .int .u32 a1_1, .int .u32 a1_2]) (t := 36) ?hr ?_; (case hd => rfl); (case hg => rfl); (case hr => first | (go_simp; done) | (go_simp; rfl)); intro gb366 hg w36 hbox hb; have BK366 := Aside0.mk (hbox); have GW366 := bels HB hg; have GE366 := bels HB hg; have NB365_366 := blkl BK365 hg; have NB366_365 := blkg BK365 hg; replace BK365 := blkb BK365 hb; replace HB := belb HB hb; clear hb hbox hg; have hnb37 := NB366_365.out; have hnc37 := NB365_366.out; have hcz38_0 : w36.cell? ⟨gb366, 0, none⟩ = some (.int .u64 a1_0) := bc BK366 0; have hcz38_1 : w36.cell? ⟨gb366, 1, none⟩ = some (.int .u32 a1_1) := bc BK366 1; have hcz38_2 : w36.cell? ⟨gb366, 2, none⟩ = some (.int .u32 a1_2) := bc BK366 2; have hfz38_0 := blk_frozen BK366.out 0; have hfz38_1 := blk_frozen BK366.out 1; have hfz38_2 := blk_frozen BK366.out 2; have hcz39_0 : w36.cell? ⟨gb365, 0, none⟩ = some (.int .u64 a0_0) := bc BK365 0; have hcz39_1 : w36.cell? ⟨gb365, 1, none⟩ = some (.int .u32 a0_1) := bc BK365 1; have hcz39_2 : w36.cell? ⟨gb365, 2, none⟩ = some (.int .u32 a0_2) := bc BK365 2; have hfz39_0 := blk_frozen BK365.out 0; have hfz39_1 := blk_frozen BK365.out 1; have hfz39_2 := blk_frozen BK365.out 2) | ((with_reducible refine gate_callee (f := 27) rfl ?_); refine goesL_ (some 10) rfl rfl Try.func27 (by kernel_rfl) rfl #[.int .u64 a1_0, .int .u64 a0_0] rfl argt ?_; (with_reducible refine (turnstoneref03_Since.calls k a1_0 a0_0 t367 t368 _ A3.out).mono ?_); rintro e w40 ⟨v369, rfl, ho0, hb⟩; refine ⟨_, rfl, ?_⟩; have HO370 := Aside0.mk (Kd.V_lower (Kd.V_mono (ok' := fun k_ => k_ ≠ gb365 ∧ k_ ≠ gb366) ho0 (fun k_ hk_ => ⟨(Kd.freshB (blkt BK365) k_ hk_), (Kd.freshB (blkt BK366) k_ hk_)⟩)) (below_size (belt HB))); replace BK365 := blkb BK365 hb; replace BK366 := blkb BK366 hb; replace HB := belb HB hb; (try clear hb); (try clear hb2); (try clear hk); (try clear hi); (try clear ho0); obtain ⟨Ao41, co41, eo41⟩ := Kd.V_slice HO370.out; subst eo41) | ((with_reducible refine gate_callee (f := 29) rfl ?_); refine goesL_ (some 11) rfl rfl Try.func29 (by kernel_rfl) rfl #[.agg #[.bool t367, .slice Ao41 t368.length co41]] rfl argt ?_; (with_reducible refine (turnstoneref01_Sign.calls t367 _ _ t368 t371 _ ?side1 ?side2 A4.out).mono ?_); (case side1 => repeat (first | exact (Kd.V_reads' HO370.out).2.2 | (with_reducible refine Kd.C_alloc ?_ _) | (with_reducible refine Kd.C_drewN ?_ _) | (with_reducible refine Kd.C_drew ?_))); (case side2 => exact (Kd.V_reads' HO370.out).2.1); rintro e w42 ⟨rfl, hb⟩; refine ⟨_, rfl, ?_⟩; replace HO370 := vb HO370 hb; replace BK365 := blkb BK365 hb; replace BK366 := blkb BK366 hb; replace HB := belb HB hb; (try clear hb); (try clear hb2); (try clear hk); (try clear hi)))
 go_ret
 exact ⟨by first | rfl | (simp [errW_none, errW_some] <;> rfl) | (simp [*, errW_none, errW_some] <;> rfl), belt HB⟩


/-! ### turnstoneref05_Ahead: function 15 -/
def turnstoneref05_Ahead.f (k : Nat) (a0_0 : Int) (a0_1 : Int) (a0_2 : Int) (a0_3 : Int) (a0_4 : Int) (a0_5 : Int) (a0_6 : Int) (a1_0 : Int) (a1_1 : Int) (a1_2 : Int) (a1_3 : Int) (a1_4 : Int) (a1_5 : Int) (a1_6 : Int) : Option (Bool) := (turnstoneref04_Cmp.f k a0_0 a0_1 a0_2 a1_0 a1_1 a1_2).bind fun t399 => (if t399 < 0 then (some true) else (if t399 = 0 then (some (decide (a0_3 < a1_3))) else (some false)))
theorem turnstoneref05_Ahead.mono : ∀ a0 a1 a2 a3 a4 a5 a6 a7 a8 a9 a10 a11 a12 a13 k, LeO (turnstoneref05_Ahead.f k a0 a1 a2 a3 a4 a5 a6 a7 a8 a9 a10 a11 a12 a13) (turnstoneref05_Ahead.f (k + 1) a0 a1 a2 a3 a4 a5 a6 a7 a8 a9 a10 a11 a12 a13) := by
 intro a0 a1 a2 a3 a4 a5 a6 a7 a8 a9 a10 a11 a12 a13 k
 unfold turnstoneref05_Ahead.f
 repeat' first
   | (with_reducible exact turnstoneref04_Cmp.mono _ _ _ _ _ _ _)
   | (with_reducible exact LeO.refl _)
   | (with_reducible exact LeO.none _)
   | (with_reducible refine LeO.ite ?_ ?_)
   | (with_reducible refine LeO.bind ?_ (fun _ => ?_))
   | exact turnstoneref04_Cmp.mono _ _ _ _ _ _ _
   | exact LeO.none _
   | refine LeO.ite ?_ ?_
   | refine LeO.bind ?_ (fun _ => ?_)
set_option maxHeartbeats 8000000 in
set_option maxRecDepth 100000 in
theorem turnstoneref05_Ahead.calls (k : Nat) (a0_0 : Int) (a0_1 : Int) (a0_2 : Int) (a0_3 : Int) (a0_4 : Int) (a0_5 : Int) (a0_6 : Int) (a1_0 : Int) (a1_1 : Int) (a1_2 : Int) (a1_3 : Int) (a1_4 : Int) (a1_5 : Int) (a1_6 : Int) (r : Bool) (w : World) (h : turnstoneref05_Ahead.f k a0_0 a0_1 a0_2 a0_3 a0_4 a0_5 a0_6 a1_0 a1_1 a1_2 a1_3 a1_4 a1_5 a1_6 = some r) :
  Calls Try.prog 15 #[.agg #[.int .u64 a0_0, .int .u32 a0_1, .int .u32 a0_2, .int .i64 a0_3, .int .u64 a0_4, .int .u32 a0_5, .int .u32 a0_6], .agg #[.int .u64 a1_0, .int .u32 a1_1, .int .u32 a1_2, .int .i64 a1_3, .int .u64 a1_4, .int .u32 a1_5, .int .u32 a1_6]] w fun e w' => e = .returned (.bool r) ∧ Below w.heap.size w w' := by
 have hu38 := Try.underlying38
 have hu36 := Try.underlying36
 have HB := Aside0.mk (Below.refl w.heap.size w)
 have H : ((turnstoneref04_Cmp.f k a0_0 a0_1 a0_2 a1_0 a1_1 a1_2).bind fun t399 => (if t399 < 0 then (some true) else (if t399 = 0 then (some (decide (a0_3 < a1_3))) else (some false)))) = some r := h
 clear h
 replace H := Option.bind_eq_some_iff.mp H
 obtain ⟨t399, A30, H⟩ := H
 replace H : (if t399 < 0 then (some true) else (if t399 = 0 then (some (decide (a0_3 < a1_3))) else (some false))) = some r := H
 have A3 := Aside0.mk A30
 clear A30
 by_cases c4 : t399 < 0
 ·rw [if_pos c4] at H
  have c4b0 : decide (t399 < 0) = true := decide_eq_true c4
  clear c4
  obtain rfl := Option.some.inj H
  go_enter Try.func15, Try.ntmps15
  go_wp2_with (first | ((with_reducible refine gate_dst (N := 2) rfl ?_); refine box_event ?hg (N := 2) ?hd (cs := #[.int .u64 a0_0, .int .u32 a0_1, .int .u32 a0_2, .int .i64 a0_3, .int .u64 a0_4, .int .u32 a0_5, .int .u32 a0_6]) (t := 38) ?hr ?_; (case hd => rfl); (case hg => rfl); (case hr => first | (go_simp; done) | (go_simp; rfl)); intro gb397 hg w5 hbox hb; have BK397 := Aside0.mk (hbox); have GW397 := bels HB hg; have GE397 := bels HB hg; replace HB := belb HB hb; clear hb hbox hg) | ((with_reducible refine gate_dst (N := 3) rfl ?_); refine box_event ?hg (N := 3) ?hd (cs := #[.int .u64 a1_0, .int .u32 a1_1, .int .u32 a1_2, .int .i64 a1_3, .int .u64 a1_4, .int .u32 a1_5, .int .u32 a1_6]) (t := 38) ?hr ?_; (case hd => rfl); (case hg => rfl); (case hr => first | (go_simp; done) | (go_simp; rfl)); intro gb398 hg w6 hbox hb; have BK398 := Aside0.mk (hbox); have GW398 := bels HB hg; have GE398 := bels HB hg; have NB397_398 := blkl BK397 hg; have NB398_397 := blkg BK397 hg; replace BK397 := blkb BK397 hb; replace HB := belb HB hb; clear hb hbox hg; have hnb7 := NB397_398.out; have hnc7 := NB398_397.out; have hcz8_0 : w6.cell? ⟨gb397, 0, none⟩ = some (.int .u64 a0_0) := bc BK397 0; have hcz8_1 : w6.cell? ⟨gb397, 1, none⟩ = some (.int .u32 a0_1) := bc BK397 1; have hcz8_2 : w6.cell? ⟨gb397, 2, none⟩ = some (.int .u32 a0_2) := bc BK397 2; have hcz8_3 : w6.cell? ⟨gb397, 3, none⟩ = some (.int .i64 a0_3) := bc BK397 3; have hcz8_4 : w6.cell? ⟨gb397, 4, none⟩ = some (.int .u64 a0_4) := bc BK397 4; have hcz8_5 : w6.cell? ⟨gb397, 5, none⟩ = some (.int .u32 a0_5) := bc BK397 5; have hcz8_6 : w6.cell? ⟨gb397, 6, none⟩ = some (.int .u32 a0_6) := bc BK397 6; have hfz8_0 := blk_frozen BK397.out 0; have hfz8_1 := blk_frozen BK397.out 1; have hfz8_2 := blk_frozen BK397.out 2; have hfz8_3 := blk_frozen BK397.out 3; have hfz8_4 := blk_frozen BK397.out 4; have hfz8_5 := blk_frozen BK397.out 5; have hfz8_6 := blk_frozen BK397.out 6; have hcz9_0 : w6.cell? ⟨gb398, 0, none⟩ = some (.int .u64 a1_0) := bc BK398 0; have hcz9_1 : w6.cell? ⟨gb398, 1, none⟩ = some (.int .u32 a1_1) := bc BK398 1; have hcz9_2 : w6.cell? ⟨gb398, 2, none⟩ = some (.int .u32 a1_2) := bc BK398 2; have hcz9_3 : w6.cell? ⟨gb398, 3, none⟩ = some (.int .i64 a1_3) := bc BK398 3; have hcz9_4 : w6.cell? ⟨gb398, 4, none⟩ = some (.int .u64 a1_4) := bc BK398 4; have hcz9_5 : w6.cell? ⟨gb398, 5, none⟩ = some (.int .u32 a1_5) := bc BK398 5; have hcz9_6 : w6.cell? ⟨gb398, 6, none⟩ = some (.int .u32 a1_6) := bc BK398 6; have hfz9_0 := blk_frozen BK398.out 0; have hfz9_1 := blk_frozen BK398.out 1; have hfz9_2 := blk_frozen BK398.out 2; have hfz9_3 := blk_frozen BK398.out 3; have hfz9_4 := blk_frozen BK398.out 4; have hfz9_5 := blk_frozen BK398.out 5; have hfz9_6 := blk_frozen BK398.out 6) | ((with_reducible refine gate_callee (f := 32) rfl ?_); refine goesL_ (some 10) rfl rfl Try.func32 (by kernel_rfl) rfl #[.agg #[.int .u64 a0_0, .int .u32 a0_1, .int .u32 a0_2], .agg #[.int .u64 a1_0, .int .u32 a1_1, .int .u32 a1_2]] rfl argt ?_; (with_reducible refine (turnstoneref04_Cmp.calls k a0_0 a0_1 a0_2 a1_0 a1_1 a1_2 t399 _ A3.out).mono ?_); rintro e w10 ⟨rfl, hb⟩; refine ⟨_, rfl, ?_⟩; replace BK397 := blkb BK397 hb; replace BK398 := blkb BK398 hb; replace HB := belb HB hb; (try clear hb); (try clear hb2); (try clear hk); (try clear hi)))
  go_ret
  exact ⟨by first | rfl | (simp [errW_none, errW_some] <;> rfl) | (simp [*, errW_none, errW_some] <;> rfl), belt HB⟩
 rw [if_neg c4] at H
 have c4b0 : decide (t399 < 0) = false := decide_eq_false c4
 clear c4
 by_cases c11 : t399 = 0
 ·rw [if_pos c11] at H
  have c11b0 : (t399 == 0) = true := beq_iff_eq.mpr c11
  have c11b1 : (t399 != 0) = false := bne_eq_false_iff_eq.mpr c11
  clear c11
  obtain rfl := Option.some.inj H
  go_enter Try.func15, Try.ntmps15
  go_wp2_with (first | ((with_reducible refine gate_dst (N := 2) rfl ?_); refine box_event ?hg (N := 2) ?hd (cs := #[.int .u64 a0_0, .int .u32 a0_1, .int .u32 a0_2, .int .i64 a0_3, .int .u64 a0_4, .int .u32 a0_5, .int .u32 a0_6]) (t := 38) ?hr ?_; (case hd => rfl); (case hg => rfl); (case hr => first | (go_simp; done) | (go_simp; rfl)); intro gb397 hg w12 hbox hb; have BK397 := Aside0.mk (hbox); have GW397 := bels HB hg; have GE397 := bels HB hg; replace HB := belb HB hb; clear hb hbox hg) | ((with_reducible refine gate_dst (N := 3) rfl ?_); refine box_event ?hg (N := 3) ?hd (cs := #[.int .u64 a1_0, .int .u32 a1_1, .int .u32 a1_2, .int .i64 a1_3, .int .u64 a1_4, .int .u32 a1_5, .int .u32 a1_6]) (t := 38) ?hr ?_; (case hd => rfl); (case hg => rfl); (case hr => first | (go_simp; done) | (go_simp; rfl)); intro gb398 hg w13 hbox hb; have BK398 := Aside0.mk (hbox); have GW398 := bels HB hg; have GE398 := bels HB hg; have NB397_398 := blkl BK397 hg; have NB398_397 := blkg BK397 hg; replace BK397 := blkb BK397 hb; replace HB := belb HB hb; clear hb hbox hg; have hnb14 := NB397_398.out; have hnc14 := NB398_397.out; have hcz15_0 : w13.cell? ⟨gb397, 0, none⟩ = some (.int .u64 a0_0) := bc BK397 0; have hcz15_1 : w13.cell? ⟨gb397, 1, none⟩ = some (.int .u32 a0_1) := bc BK397 1; have hcz15_2 : w13.cell? ⟨gb397, 2, none⟩ = some (.int .u32 a0_2) := bc BK397 2; have hcz15_3 : w13.cell? ⟨gb397, 3, none⟩ = some (.int .i64 a0_3) := bc BK397 3; have hcz15_4 : w13.cell? ⟨gb397, 4, none⟩ = some (.int .u64 a0_4) := bc BK397 4; have hcz15_5 : w13.cell? ⟨gb397, 5, none⟩ = some (.int .u32 a0_5) := bc BK397 5; have hcz15_6 : w13.cell? ⟨gb397, 6, none⟩ = some (.int .u32 a0_6) := bc BK397 6; have hfz15_0 := blk_frozen BK397.out 0; have hfz15_1 := blk_frozen BK397.out 1; have hfz15_2 := blk_frozen BK397.out 2; have hfz15_3 := blk_frozen BK397.out 3; have hfz15_4 := blk_frozen BK397.out 4; have hfz15_5 := blk_frozen BK397.out 5; have hfz15_6 := blk_frozen BK397.out 6; have hcz16_0 : w13.cell? ⟨gb398, 0, none⟩ = some (.int .u64 a1_0) := bc BK398 0; have hcz16_1 : w13.cell? ⟨gb398, 1, none⟩ = some (.int .u32 a1_1) := bc BK398 1; have hcz16_2 : w13.cell? ⟨gb398, 2, none⟩ = some (.int .u32 a1_2) := bc BK398 2; have hcz16_3 : w13.cell? ⟨gb398, 3, none⟩ = some (.int .i64 a1_3) := bc BK398 3; have hcz16_4 : w13.cell? ⟨gb398, 4, none⟩ = some (.int .u64 a1_4) := bc BK398 4; have hcz16_5 : w13.cell? ⟨gb398, 5, none⟩ = some (.int .u32 a1_5) := bc BK398 5; have hcz16_6 : w13.cell? ⟨gb398, 6, none⟩ = some (.int .u32 a1_6) := bc BK398 6; have hfz16_0 := blk_frozen BK398.out 0; have hfz16_1 := blk_frozen BK398.out 1; have hfz16_2 := blk_frozen BK398.out 2; have hfz16_3 := blk_frozen BK398.out 3; have hfz16_4 := blk_frozen BK398.out 4; have hfz16_5 := blk_frozen BK398.out 5; have hfz16_6 := blk_frozen BK398.out 6) | ((with_reducible refine gate_callee (f := 32) rfl ?_); refine goesL_ (some 10) rfl rfl Try.func32 (by kernel_rfl) rfl #[.agg #[.int .u64 a0_0, .int .u32 a0_1, .int .u32 a0_2], .agg #[.int .u64 a1_0, .int .u32 a1_1, .int .u32 a1_2]] rfl argt ?_; (with_reducible refine (turnstoneref04_Cmp.calls k a0_0 a0_1 a0_2 a1_0 a1_1 a1_2 t399 _ A3.out).mono ?_); rintro e w17 ⟨rfl, hb⟩; refine ⟨_, rfl, ?_⟩; replace BK397 := blkb BK397 hb; replace BK398 := blkb BK398 hb; replace HB := belb HB hb; (try clear hb); (try clear hb2); (try clear hk); (try clear hi); have hcz18_0 : w17.cell? ⟨gb397, 0, none⟩ = some (.int .u64 a0_0) := bc BK397 0; have hcz18_1 : w17.cell? ⟨gb397, 1, none⟩ = some (.int .u32 a0_1) := bc BK397 1; have hcz18_2 : w17.cell? ⟨gb397, 2, none⟩ = some (.int .u32 a0_2) := bc BK397 2; have hcz18_3 : w17.cell? ⟨gb397, 3, none⟩ = some (.int .i64 a0_3) := bc BK397 3; have hcz18_4 : w17.cell? ⟨gb397, 4, none⟩ = some (.int .u64 a0_4) := bc BK397 4; have hcz18_5 : w17.cell? ⟨gb397, 5, none⟩ = some (.int .u32 a0_5) := bc BK397 5; have hcz18_6 : w17.cell? ⟨gb397, 6, none⟩ = some (.int .u32 a0_6) := bc BK397 6; have hfz18_0 := blk_frozen BK397.out 0; have hfz18_1 := blk_frozen BK397.out 1; have hfz18_2 := blk_frozen BK397.out 2; have hfz18_3 := blk_frozen BK397.out 3; have hfz18_4 := blk_frozen BK397.out 4; have hfz18_5 := blk_frozen BK397.out 5; have hfz18_6 := blk_frozen BK397.out 6; have hcz19_0 : w17.cell? ⟨gb398, 0, none⟩ = some (.int .u64 a1_0) := bc BK398 0; have hcz19_1 : w17.cell? ⟨gb398, 1, none⟩ = some (.int .u32 a1_1) := bc BK398 1; have hcz19_2 : w17.cell? ⟨gb398, 2, none⟩ = some (.int .u32 a1_2) := bc BK398 2; have hcz19_3 : w17.cell? ⟨gb398, 3, none⟩ = some (.int .i64 a1_3) := bc BK398 3; have hcz19_4 : w17.cell? ⟨gb398, 4, none⟩ = some (.int .u64 a1_4) := bc BK398 4; have hcz19_5 : w17.cell? ⟨gb398, 5, none⟩ = some (.int .u32 a1_5) := bc BK398 5; have hcz19_6 : w17.cell? ⟨gb398, 6, none⟩ = some (.int .u32 a1_6) := bc BK398 6; have hfz19_0 := blk_frozen BK398.out 0; have hfz19_1 := blk_frozen BK398.out 1; have hfz19_2 := blk_frozen BK398.out 2; have hfz19_3 := blk_frozen BK398.out 3; have hfz19_4 := blk_frozen BK398.out 4; have hfz19_5 := blk_frozen BK398.out 5; have hfz19_6 := blk_frozen BK398.out 6))
  go_ret
  exact ⟨by first | rfl | (simp [errW_none, errW_some] <;> rfl) | (simp [*, errW_none, errW_some] <;> rfl), belt HB⟩
 rw [if_neg c11] at H
 have c11b0 : (t399 == 0) = false := beq_eq_false_iff_ne.mpr c11
 have c11b1 : (t399 != 0) = true := bne_iff_ne.mpr c11
 obtain rfl := Option.some.inj H
 go_enter Try.func15, Try.ntmps15
 go_wp2_with (first | ((with_reducible refine gate_dst (N := 2) rfl ?_); refine box_event ?hg (N := 2) ?hd (cs := #[.int .u64 a0_0, .int .u32 a0_1, .int .u32 a0_2, .int .i64 a0_3, .int .u64 a0_4, .int .u32 a0_5, .int .u32 a0_6]) (t := 38) ?hr ?_; (case hd => rfl); (case hg => rfl); (case hr => first | (go_simp; done) | (go_simp; rfl)); intro gb397 hg w20 hbox hb; have BK397 := Aside0.mk (hbox); have GW397 := bels HB hg; have GE397 := bels HB hg; replace HB := belb HB hb; clear hb hbox hg) | ((with_reducible refine gate_dst (N := 3) rfl ?_); refine box_event ?hg (N := 3) ?hd (cs := #[.int .u64 a1_0, .int .u32 a1_1, .int .u32 a1_2, .int .i64 a1_3, .int .u64 a1_4, .int .u32 a1_5, .int .u32 a1_6]) (t := 38) ?hr ?_; (case hd => rfl); (case hg => rfl); (case hr => first | (go_simp; done) | (go_simp; rfl)); intro gb398 hg w21 hbox hb; have BK398 := Aside0.mk (hbox); have GW398 := bels HB hg; have GE398 := bels HB hg; have NB397_398 := blkl BK397 hg; have NB398_397 := blkg BK397 hg; replace BK397 := blkb BK397 hb; replace HB := belb HB hb; clear hb hbox hg; have hnb22 := NB397_398.out; have hnc22 := NB398_397.out; have hcz23_0 : w21.cell? ⟨gb397, 0, none⟩ = some (.int .u64 a0_0) := bc BK397 0; have hcz23_1 : w21.cell? ⟨gb397, 1, none⟩ = some (.int .u32 a0_1) := bc BK397 1; have hcz23_2 : w21.cell? ⟨gb397, 2, none⟩ = some (.int .u32 a0_2) := bc BK397 2; have hcz23_3 : w21.cell? ⟨gb397, 3, none⟩ = some (.int .i64 a0_3) := bc BK397 3; have hcz23_4 : w21.cell? ⟨gb397, 4, none⟩ = some (.int .u64 a0_4) := bc BK397 4; have hcz23_5 : w21.cell? ⟨gb397, 5, none⟩ = some (.int .u32 a0_5) := bc BK397 5; have hcz23_6 : w21.cell? ⟨gb397, 6, none⟩ = some (.int .u32 a0_6) := bc BK397 6; have hfz23_0 := blk_frozen BK397.out 0; have hfz23_1 := blk_frozen BK397.out 1; have hfz23_2 := blk_frozen BK397.out 2; have hfz23_3 := blk_frozen BK397.out 3; have hfz23_4 := blk_frozen BK397.out 4; have hfz23_5 := blk_frozen BK397.out 5; have hfz23_6 := blk_frozen BK397.out 6; have hcz24_0 : w21.cell? ⟨gb398, 0, none⟩ = some (.int .u64 a1_0) := bc BK398 0; have hcz24_1 : w21.cell? ⟨gb398, 1, none⟩ = some (.int .u32 a1_1) := bc BK398 1; have hcz24_2 : w21.cell? ⟨gb398, 2, none⟩ = some (.int .u32 a1_2) := bc BK398 2; have hcz24_3 : w21.cell? ⟨gb398, 3, none⟩ = some (.int .i64 a1_3) := bc BK398 3; have hcz24_4 : w21.cell? ⟨gb398, 4, none⟩ = some (.int .u64 a1_4) := bc BK398 4; have hcz24_5 : w21.cell? ⟨gb398, 5, none⟩ = some (.int .u32 a1_5) := bc BK398 5; have hcz24_6 : w21.cell? ⟨gb398, 6, none⟩ = some (.int .u32 a1_6) := bc BK398 6; have hfz24_0 := blk_frozen BK398.out 0; have hfz24_1 := blk_frozen BK398.out 1; have hfz24_2 := blk_frozen BK398.out 2; have hfz24_3 := blk_frozen BK398.out 3; have hfz24_4 := blk_frozen BK398.out 4; have hfz24_5 := blk_frozen BK398.out 5; have hfz24_6 := blk_frozen BK398.out 6) | ((with_reducible refine gate_callee (f := 32) rfl ?_); refine goesL_ (some 10) rfl rfl Try.func32 (by kernel_rfl) rfl #[.agg #[.int .u64 a0_0, .int .u32 a0_1, .int .u32 a0_2], .agg #[.int .u64 a1_0, .int .u32 a1_1, .int .u32 a1_2]] rfl argt ?_; (with_reducible refine (turnstoneref04_Cmp.calls k a0_0 a0_1 a0_2 a1_0 a1_1 a1_2 t399 _ A3.out).mono ?_); rintro e w25 ⟨rfl, hb⟩; refine ⟨_, rfl, ?_⟩; replace BK397 := blkb BK397 hb; replace BK398 := blkb BK398 hb; replace HB := belb HB hb; (try clear hb); (try clear hb2); (try clear hk); (try clear hi)))
 go_ret
 exact ⟨by first | rfl | (simp [errW_none, errW_some] <;> rfl) | (simp [*, errW_none, errW_some] <;> rfl), belt HB⟩


/-! ### turnstoneref05_Due: function 16 -/
def turnstoneref05_Due.f (k : Nat) (a0_0 : Int) (a0_1 : Int) (a0_2 : Int) (a0_3 : Int) (a0_4 : Int) (a0_5 : Int) (a0_6 : Int) (a1_0 : Int) (a1_1 : Int) (a1_2 : Int) (a1_3 : Int) (a1_4 : Int) (a1_5 : Int) (a1_6 : Int) : Option (Bool) := (turnstoneref04_Cmp.f k a0_4 a0_5 a0_6 a1_4 a1_5 a1_6).bind fun t402 => (if t402 < 0 then (some true) else (if t402 = 0 then ((turnstoneref05_Ahead.f k a0_0 a0_1 a0_2 a0_3 a0_4 a0_5 a0_6 a1_0 a1_1 a1_2 a1_3 a1_4 a1_5 a1_6).bind fun t403 => (some t403)) else (some false)))
theorem turnstoneref05_Due.mono : ∀ a0 a1 a2 a3 a4 a5 a6 a7 a8 a9 a10 a11 a12 a13 k, LeO (turnstoneref05_Due.f k a0 a1 a2 a3 a4 a5 a6 a7 a8 a9 a10 a11 a12 a13) (turnstoneref05_Due.f (k + 1) a0 a1 a2 a3 a4 a5 a6 a7 a8 a9 a10 a11 a12 a13) := by
 intro a0 a1 a2 a3 a4 a5 a6 a7 a8 a9 a10 a11 a12 a13 k
 unfold turnstoneref05_Due.f
 repeat' first
   | (with_reducible exact turnstoneref04_Cmp.mono _ _ _ _ _ _ _)
   | (with_reducible exact turnstoneref05_Ahead.mono _ _ _ _ _ _ _ _ _ _ _ _ _ _ _)
   | (with_reducible exact LeO.refl _)
   | (with_reducible exact LeO.none _)
   | (with_reducible refine LeO.ite ?_ ?_)
   | (with_reducible refine LeO.bind ?_ (fun _ => ?_))
   | exact turnstoneref04_Cmp.mono _ _ _ _ _ _ _
   | exact turnstoneref05_Ahead.mono _ _ _ _ _ _ _ _ _ _ _ _ _ _ _
   | exact LeO.none _
   | refine LeO.ite ?_ ?_
   | refine LeO.bind ?_ (fun _ => ?_)
set_option maxHeartbeats 8000000 in
set_option maxRecDepth 100000 in
theorem turnstoneref05_Due.calls (k : Nat) (a0_0 : Int) (a0_1 : Int) (a0_2 : Int) (a0_3 : Int) (a0_4 : Int) (a0_5 : Int) (a0_6 : Int) (a1_0 : Int) (a1_1 : Int) (a1_2 : Int) (a1_3 : Int) (a1_4 : Int) (a1_5 : Int) (a1_6 : Int) (r : Bool) (w : World) (h : turnstoneref05_Due.f k a0_0 a0_1 a0_2 a0_3 a0_4 a0_5 a0_6 a1_0 a1_1 a1_2 a1_3 a1_4 a1_5 a1_6 = some r) :
  Calls Try.prog 16 #[.agg #[.int .u64 a0_0, .int .u32 a0_1, .int .u32 a0_2, .int .i64 a0_3, .int .u64 a0_4, .int .u32 a0_5, .int .u32 a0_6], .agg #[.int .u64 a1_0, .int .u32 a1_1, .int .u32 a1_2, .int .i64 a1_3, .int .u64 a1_4, .int .u32 a1_5, .int .u32 a1_6]] w fun e w' => e = .returned (.bool r) ∧ Below w.heap.size w w' := by
 have hu38 := Try.underlying38
 have hu36 := Try.underlying36
 have HB := Aside0.mk (Below.refl w.heap.size w)
 have H : ((turnstoneref04_Cmp.f k a0_4 a0_5 a0_6 a1_4 a1_5 a1_6).bind fun t402 => (if t402 < 0 then (some true) else (if t402 = 0 then ((turnstoneref05_Ahead.f k a0_0 a0_1 a0_2 a0_3 a0_4 a0_5 a0_6 a1_0 a1_1 a1_2 a1_3 a1_4 a1_5 a1_6).bind fun t403 => (some t403)) else (some false)))) = some r := h
 clear h
 replace H := Option.bind_eq_some_iff.mp H
 obtain ⟨t402, A30, H⟩ := H
 replace H : (if t402 < 0 then (some true) else (if t402 = 0 then ((turnstoneref05_Ahead.f k a0_0 a0_1 a0_2 a0_3 a0_4 a0_5 a0_6 a1_0 a1_1 a1_2 a1_3 a1_4 a1_5 a1_6).bind fun t403 => (some t403)) else (some false))) = some r := H
 have A3 := Aside0.mk A30
 clear A30
 by_cases c4 : t402 < 0
 ·rw [if_pos c4] at H
  have c4b0 : decide (t402 < 0) = true := decide_eq_true c4
  clear c4
  obtain rfl := Option.some.inj H
  go_enter Try.func16, Try.ntmps16
  go_wp2_with (first | ((with_reducible refine gate_dst (N := 2) rfl ?_); refine box_event ?hg (N := 2) ?hd (cs := #[.int .u64 a0_0, .int .u32 a0_1, .int .u32 a0_2, .int .i64 a0_3, .int .u64 a0_4, .int .u32 a0_5, .int .u32 a0_6]) (t := 38) ?hr ?_; (case hd => rfl); (case hg => rfl); (case hr => first | (go_simp; done) | (go_simp; rfl)); intro gb400 hg w5 hbox hb; have BK400 := Aside0.mk (hbox); have GW400 := bels HB hg; have GE400 := bels HB hg; replace HB := belb HB hb; clear hb hbox hg) | ((with_reducible refine gate_dst (N := 3) rfl ?_); refine box_event ?hg (N := 3) ?hd (cs := #[.int .u64 a1_0, .int .u32 a1_1, .int .u32 a1_2, .int .i64 a1_3, .int .u64 a1_4, .int .u32 a1_5, .int .u32 a1_6]) (t := 38) ?hr ?_; (case hd => rfl); (case hg => rfl); (case hr => first | (go_simp; done) | (go_simp; rfl)); intro gb401 hg w6 hbox hb; have BK401 := Aside0.mk (hbox); have GW401 := bels HB hg; have GE401 := bels HB hg; have NB400_401 := blkl BK400 hg; have NB401_400 := blkg BK400 hg; replace BK400 := blkb BK400 hb; replace HB := belb HB hb; clear hb hbox hg; have hnb7 := NB400_401.out; have hnc7 := NB401_400.out; have hcz8_0 : w6.cell? ⟨gb400, 0, none⟩ = some (.int .u64 a0_0) := bc BK400 0; have hcz8_1 : w6.cell? ⟨gb400, 1, none⟩ = some (.int .u32 a0_1) := bc BK400 1; have hcz8_2 : w6.cell? ⟨gb400, 2, none⟩ = some (.int .u32 a0_2) := bc BK400 2; have hcz8_3 : w6.cell? ⟨gb400, 3, none⟩ = some (.int .i64 a0_3) := bc BK400 3; have hcz8_4 : w6.cell? ⟨gb400, 4, none⟩ = some (.int .u64 a0_4) := bc BK400 4; have hcz8_5 : w6.cell? ⟨gb400, 5, none⟩ = some (.int .u32 a0_5) := bc BK400 5; have hcz8_6 : w6.cell? ⟨gb400, 6, none⟩ = some (.int .u32 a0_6) := bc BK400 6; have hfz8_0 := blk_frozen BK400.out 0; have hfz8_1 := blk_frozen BK400.out 1; have hfz8_2 := blk_frozen BK400.out 2; have hfz8_3 := blk_frozen BK400.out 3; have hfz8_4 := blk_frozen BK400.out 4; have hfz8_5 := blk_frozen BK400.out 5; have hfz8_6 := blk_frozen BK400.out 6; have hcz9_0 : w6.cell? ⟨gb401, 0, none⟩ = some (.int .u64 a1_0) := bc BK401 0; have hcz9_1 : w6.cell? ⟨gb401, 1, none⟩ = some (.int .u32 a1_1) := bc BK401 1; have hcz9_2 : w6.cell? ⟨gb401, 2, none⟩ = some (.int .u32 a1_2) := bc BK401 2; have hcz9_3 : w6.cell? ⟨gb401, 3, none⟩ = some (.int .i64 a1_3) := bc BK401 3; have hcz9_4 : w6.cell? ⟨gb401, 4, none⟩ = some (.int .u64 a1_4) := bc BK401 4; have hcz9_5 : w6.cell? ⟨gb401, 5, none⟩ = some (.int .u32 a1_5) := bc BK401 5; have hcz9_6 : w6.cell? ⟨gb401, 6, none⟩ = some (.int .u32 a1_6) := bc BK401 6; have hfz9_0 := blk_frozen BK401.out 0; have hfz9_1 := blk_frozen BK401.out 1; have hfz9_2 := blk_frozen BK401.out 2; have hfz9_3 := blk_frozen BK401.out 3; have hfz9_4 := blk_frozen BK401.out 4; have hfz9_5 := blk_frozen BK401.out 5; have hfz9_6 := blk_frozen BK401.out 6) | ((with_reducible refine gate_callee (f := 32) rfl ?_); refine goesL_ (some 10) rfl rfl Try.func32 (by kernel_rfl) rfl #[.agg #[.int .u64 a0_4, .int .u32 a0_5, .int .u32 a0_6], .agg #[.int .u64 a1_4, .int .u32 a1_5, .int .u32 a1_6]] rfl argt ?_; (with_reducible refine (turnstoneref04_Cmp.calls k a0_4 a0_5 a0_6 a1_4 a1_5 a1_6 t402 _ A3.out).mono ?_); rintro e w10 ⟨rfl, hb⟩; refine ⟨_, rfl, ?_⟩; replace BK400 := blkb BK400 hb; replace BK401 := blkb BK401 hb; replace HB := belb HB hb; (try clear hb); (try clear hb2); (try clear hk); (try clear hi)))
  go_ret
  exact ⟨by first | rfl | (simp [errW_none, errW_some] <;> rfl) | (simp [*, errW_none, errW_some] <;> rfl), belt HB⟩
 rw [if_neg c4] at H
 have c4b0 : decide (t402 < 0) = false := decide_eq_false c4
 clear c4
 by_cases c11 : t402 = 0
 ·rw [if_pos c11] at H
  have c11b0 : (t402 == 0) = true := beq_iff_eq.mpr c11
  have c11b1 : (t402 != 0) = false := bne_eq_false_iff_eq.mpr c11
  clear c11
  replace H := Option.bind_eq_some_iff.mp H
  obtain ⟨t403, A120, H⟩ := H
  replace H : (some t403) = some r := H
  have A12 := Aside0.mk A120
  clear A120
  obtain rfl := Option.some.inj H
  go_enter Try.func16, Try.ntmps16
  go_wp2_with (first | ((with_reducible refine gate_dst (N := 2) rfl ?_); refine box_event ?hg (N := 2) ?hd (cs := #[.int .u64 a0_0, .int .u32 a0_1, .int .u32 a0_2, .int .i64 a0_3, .int .u64 a0_4, .int .u32 a0_5, .int .u32 a0_6]) (t := 38) ?hr ?_; (case hd => rfl); (case hg => rfl); (case hr => first | (go_simp; done) | (go_simp; rfl)); intro gb400 hg w13 hbox hb; have BK400 := Aside0.mk (hbox); have GW400 := bels HB hg; have GE400 := bels HB hg; replace HB := belb HB hb; clear hb hbox hg) | ((with_reducible refine gate_dst (N := 3) rfl ?_); refine box_event ?hg (N := 3) ?hd (cs := #[.int .u64 a1_0, .int .u32 a1_1, .int .u32 a1_2, .int .i64 a1_3, .int .u64 a1_4, .int .u32 a1_5, .int .u32 a1_6]) (t := 38) ?hr ?_; (case hd => rfl); (case hg => rfl); (case hr => first | (go_simp; done) | (go_simp; rfl)); intro gb401 hg w14 hbox hb; have BK401 := Aside0.mk (hbox); have GW401 := bels HB hg; have GE401 := bels HB hg; have NB400_401 := blkl BK400 hg; have NB401_400 := blkg BK400 hg; replace BK400 := blkb BK400 hb; replace HB := belb HB hb; clear hb hbox hg; have hnb15 := NB400_401.out; have hnc15 := NB401_400.out; have hcz16_0 : w14.cell? ⟨gb400, 0, none⟩ = some (.int .u64 a0_0) := bc BK400 0; have hcz16_1 : w14.cell? ⟨gb400, 1, none⟩ = some (.int .u32 a0_1) := bc BK400 1; have hcz16_2 : w14.cell? ⟨gb400, 2, none⟩ = some (.int .u32 a0_2) := bc BK400 2; have hcz16_3 : w14.cell? ⟨gb400, 3, none⟩ = some (.int .i64 a0_3) := bc BK400 3; have hcz16_4 : w14.cell? ⟨gb400, 4, none⟩ = some (.int .u64 a0_4) := bc BK400 4; have hcz16_5 : w14.cell? ⟨gb400, 5, none⟩ = some (.int .u32 a0_5) := bc BK400 5; have hcz16_6 : w14.cell? ⟨gb400, 6, none⟩ = some (.int .u32 a0_6) := bc BK400 6; have hfz16_0 := blk_frozen BK400.out 0; have hfz16_1 := blk_frozen BK400.out 1; have hfz16_2 := blk_frozen BK400.out 2; have hfz16_3 := blk_frozen BK400.out 3; have hfz16_4 := blk_frozen BK400.out 4; have hfz16_5 := blk_frozen BK400.out 5; have hfz16_6 := blk_frozen BK400.out 6; have hcz17_0 : w14.cell? ⟨gb401, 0, none⟩ = some (.int .u64 a1_0) := bc BK401 0; have hcz17_1 : w14.cell? ⟨gb401, 1, none⟩ = some (.int .u32 a1_1) := bc BK401 1; have hcz17_2 : w14.cell? ⟨gb401, 2, none⟩ = some (.int .u32 a1_2) := bc BK401 2; have hcz17_3 : w14.cell? ⟨gb401, 3, none⟩ = some (.int .i64 a1_3) := bc BK401 3; have hcz17_4 : w14.cell? ⟨gb401, 4, none⟩ = some (.int .u64 a1_4) := bc BK401 4; have hcz17_5 : w14.cell? ⟨gb401, 5, none⟩ = some (.int .u32 a1_5) := bc BK401 5; have hcz17_6 : w14.cell? ⟨gb401, 6, none⟩ = some (.int .u32 a1_6) := bc BK401 6; have hfz17_0 := blk_frozen BK401.out 0; have hfz17_1 := blk_frozen BK401.out 1; have hfz17_2 := blk_frozen BK401.out 2; have hfz17_3 := blk_frozen BK401.out 3; have hfz17_4 := blk_frozen BK401.out 4; have hfz17_5 := blk_frozen BK401.out 5; have hfz17_6 := blk_frozen BK401.out 6) | ((with_reducible refine gate_callee (f := 32) rfl ?_); refine goesL_ (some 10) rfl rfl Try.func32 (by kernel_rfl) rfl #[.agg #[.int .u64 a0_4, .int .u32 a0_5, .int .u32 a0_6], .agg #[.int .u64 a1_4, .int .u32 a1_5, .int .u32 a1_6]] rfl argt ?_; (with_reducible refine (turnstoneref04_Cmp.calls k a0_4 a0_5 a0_6 a1_4 a1_5 a1_6 t402 _ A3.out).mono ?_); rintro e w18 ⟨rfl, hb⟩; refine ⟨_, rfl, ?_⟩; replace BK400 := blkb BK400 hb; replace BK401 := blkb BK401 hb; replace HB := belb HB hb; (try clear hb); (try clear hb2); (try clear hk); (try clear hi); have hcz19_0 : w18.cell? ⟨gb400, 0, none⟩ = some (.int .u64 a0_0) := bc BK400 0; have hcz19_1 : w18.cell? ⟨gb400, 1, none⟩ = some (.int .u32 a0_1) := bc BK400 1; have hcz19_2 : w18.cell? ⟨gb400, 2, none⟩ = some (.int .u32 a0_2) := bc BK400 2; have hcz19_3 : w18.cell? ⟨gb400, 3, none⟩ = some (.int .i64 a0_3) := bc BK400 3; have hcz19_4 : w18.cell? ⟨gb400, 4, none⟩ = some (.int .u64 a0_4) := bc BK400 4; have hcz19_5 : w18.cell? ⟨gb400, 5, none⟩ = some (.int .u32 a0_5) := bc BK400 5; have hcz19_6 : w18.cell? ⟨gb400, 6, none⟩ = some (.int .u32 a0_6) := bc BK400 6; have hfz19_0 := blk_frozen BK400.out 0; have hfz19_1 := blk_frozen BK400.out 1; have hfz19_2 := blk_frozen BK400.out 2; have hfz19_3 := blk_frozen BK400.out 3; have hfz19_4 := blk_frozen BK400.out 4; have hfz19_5 := blk_frozen BK400.out 5; have hfz19_6 := blk_frozen BK400.out 6; have hcz20_0 : w18.cell? ⟨gb401, 0, none⟩ = some (.int .u64 a1_0) := bc BK401 0; have hcz20_1 : w18.cell? ⟨gb401, 1, none⟩ = some (.int .u32 a1_1) := bc BK401 1; have hcz20_2 : w18.cell? ⟨gb401, 2, none⟩ = some (.int .u32 a1_2) := bc BK401 2; have hcz20_3 : w18.cell? ⟨gb401, 3, none⟩ = some (.int .i64 a1_3) := bc BK401 3; have hcz20_4 : w18.cell? ⟨gb401, 4, none⟩ = some (.int .u64 a1_4) := bc BK401 4; have hcz20_5 : w18.cell? ⟨gb401, 5, none⟩ = some (.int .u32 a1_5) := bc BK401 5; have hcz20_6 : w18.cell? ⟨gb401, 6, none⟩ = some (.int .u32 a1_6) := bc BK401 6; have hfz20_0 := blk_frozen BK401.out 0; have hfz20_1 := blk_frozen BK401.out 1; have hfz20_2 := blk_frozen BK401.out 2; have hfz20_3 := blk_frozen BK401.out 3; have hfz20_4 := blk_frozen BK401.out 4; have hfz20_5 := blk_frozen BK401.out 5; have hfz20_6 := blk_frozen BK401.out 6) | (go_at_call 15; (with_reducible refine (turnstoneref05_Ahead.calls k a0_0 a0_1 a0_2 a0_3 a0_4 a0_5 a0_6 a1_0 a1_1 a1_2 a1_3 a1_4 a1_5 a1_6 t403 _ A12.out).mono ?_); rintro e w21 ⟨rfl, hb⟩; replace BK400 := blkb BK400 hb; replace BK401 := blkb BK401 hb; replace HB := belb HB hb; (try clear hb); (try clear hb2); (try clear hk); (try clear hi)))
  go_ret
  exact ⟨by first | rfl | (simp [errW_none, errW_some] <;> rfl) | (simp [*, errW_none, errW_some] <;> rfl), belt HB⟩
 rw [if_neg c11] at H
 have c11b0 : (t402 == 0) = false := beq_eq_false_iff_ne.mpr c11
 have c11b1 : (t402 != 0) = true := bne_iff_ne.mpr c11
 obtain rfl := Option.some.inj H
 go_enter Try.func16, Try.ntmps16
 go_wp2_with (first | ((with_reducible refine gate_dst (N := 2) rfl ?_); refine box_event ?hg (N := 2) ?hd (cs := #[.int .u64 a0_0, .int .u32 a0_1, .int .u32 a0_2, .int .i64 a0_3, .int .u64 a0_4, .int .u32 a0_5, .int .u32 a0_6]) (t := 38) ?hr ?_; (case hd => rfl); (case hg => rfl); (case hr => first | (go_simp; done) | (go_simp; rfl)); intro gb400 hg w22 hbox hb; have BK400 := Aside0.mk (hbox); have GW400 := bels HB hg; have GE400 := bels HB hg; replace HB := belb HB hb; clear hb hbox hg) | ((with_reducible refine gate_dst (N := 3) rfl ?_); refine box_event ?hg (N := 3) ?hd (cs := #[.int .u64 a1_0, .int .u32 a1_1, .int .u32 a1_2, .int .i64 a1_3, .int .u64 a1_4, .int .u32 a1_5, .int .u32 a1_6]) (t := 38) ?hr ?_; (case hd => rfl); (case hg => rfl); (case hr => first | (go_simp; done) | (go_simp; rfl)); intro gb401 hg w23 hbox hb; have BK401 := Aside0.mk (hbox); have GW401 := bels HB hg; have GE401 := bels HB hg; have NB400_401 := blkl BK400 hg; have NB401_400 := blkg BK400 hg; replace BK400 := blkb BK400 hb; replace HB := belb HB hb; clear hb hbox hg; have hnb24 := NB400_401.out; have hnc24 := NB401_400.out; have hcz25_0 : w23.cell? ⟨gb400, 0, none⟩ = some (.int .u64 a0_0) := bc BK400 0; have hcz25_1 : w23.cell? ⟨gb400, 1, none⟩ = some (.int .u32 a0_1) := bc BK400 1; have hcz25_2 : w23.cell? ⟨gb400, 2, none⟩ = some (.int .u32 a0_2) := bc BK400 2; have hcz25_3 : w23.cell? ⟨gb400, 3, none⟩ = some (.int .i64 a0_3) := bc BK400 3; have hcz25_4 : w23.cell? ⟨gb400, 4, none⟩ = some (.int .u64 a0_4) := bc BK400 4; have hcz25_5 : w23.cell? ⟨gb400, 5, none⟩ = some (.int .u32 a0_5) := bc BK400 5; have hcz25_6 : w23.cell? ⟨gb400, 6, none⟩ = some (.int .u32 a0_6) := bc BK400 6; have hfz25_0 := blk_frozen BK400.out 0; have hfz25_1 := blk_frozen BK400.out 1; have hfz25_2 := blk_frozen BK400.out 2; have hfz25_3 := blk_frozen BK400.out 3; have hfz25_4 := blk_frozen BK400.out 4; have hfz25_5 := blk_frozen BK400.out 5; have hfz25_6 := blk_frozen BK400.out 6; have hcz26_0 : w23.cell? ⟨gb401, 0, none⟩ = some (.int .u64 a1_0) := bc BK401 0; have hcz26_1 : w23.cell? ⟨gb401, 1, none⟩ = some (.int .u32 a1_1) := bc BK401 1; have hcz26_2 : w23.cell? ⟨gb401, 2, none⟩ = some (.int .u32 a1_2) := bc BK401 2; have hcz26_3 : w23.cell? ⟨gb401, 3, none⟩ = some (.int .i64 a1_3) := bc BK401 3; have hcz26_4 : w23.cell? ⟨gb401, 4, none⟩ = some (.int .u64 a1_4) := bc BK401 4; have hcz26_5 : w23.cell? ⟨gb401, 5, none⟩ = some (.int .u32 a1_5) := bc BK401 5; have hcz26_6 : w23.cell? ⟨gb401, 6, none⟩ = some (.int .u32 a1_6) := bc BK401 6; have hfz26_0 := blk_frozen BK401.out 0; have hfz26_1 := blk_frozen BK401.out 1; have hfz26_2 := blk_frozen BK401.out 2; have hfz26_3 := blk_frozen BK401.out 3; have hfz26_4 := blk_frozen BK401.out 4; have hfz26_5 := blk_frozen BK401.out 5; have hfz26_6 := blk_frozen BK401.out 6) | ((with_reducible refine gate_callee (f := 32) rfl ?_); refine goesL_ (some 10) rfl rfl Try.func32 (by kernel_rfl) rfl #[.agg #[.int .u64 a0_4, .int .u32 a0_5, .int .u32 a0_6], .agg #[.int .u64 a1_4, .int .u32 a1_5, .int .u32 a1_6]] rfl argt ?_; (with_reducible refine (turnstoneref04_Cmp.calls k a0_4 a0_5 a0_6 a1_4 a1_5 a1_6 t402 _ A3.out).mono ?_); rintro e w27 ⟨rfl, hb⟩; refine ⟨_, rfl, ?_⟩; replace BK400 := blkb BK400 hb; replace BK401 := blkb BK401 hb; replace HB := belb HB hb; (try clear hb); (try clear hb2); (try clear hk); (try clear hi)))
 go_ret
 exact ⟨by first | rfl | (simp [errW_none, errW_some] <;> rfl) | (simp [*, errW_none, errW_some] <;> rfl), belt HB⟩

end Go.Proofs.Ytdfpkjdhndfcbaa.Print
