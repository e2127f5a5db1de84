/- What each Go function that is named below answers, as a Lean function, and that its walk comes to just that: for whatever arguments that function gives an answer for. Written by a program of this session (wip/mkpr.py, pr.sh). -/
import Derived.Test.YtdfpkjdhndfcbaaPrint1000
namespace Go.Proofs.Ytdfpkjdhndfcbaa.Print
open Go.RowKit Go.Proofs.YtdfpkjdhndfcbaaW.PrintWords Go.Proofs.YtdfpkjdhndfcbaaW.PrintLast Go.Proofs.YtdfpkjdhndfcbaaW.PrintMore
attribute [local go_sem] max2_int min2_int max_two min_two max_three min_three max_four min_four   -- for this text's walks alone
open Go.Proofs.Ytdfpkjdhndfcbaa.Bits Go.Proofs.Ytdfpkjdhndfcbaa.Short
attribute [local go_sem] add64_run0 sub64_run0 add64_run sub64_run
set_option linter.unusedVariables false
set_option linter.unusedSimpArgs false

theorem eqA26 (d : Nat) (w : World) (x0 y0 : Int) (x1 y1 : Int) (x2 y2 : Int) :
  (Op.equalIn (d + 2) 26 (.agg #[.int .u64 x0, .int .u32 x1, .int .u32 x2]) (.agg #[.int .u64 y0, .int .u32 y1, .int .u32 y2])).run Try.prog w = .ok (x0 == y0 && (x1 == y1 && (x2 == y2))) w := by
 refine eqA_of Try.underlying26 (by kernel_rfl) ?_
 refine eqf_cons (by rfl) (by go_simp; rfl) (by go_simp; rfl) (by go_simp) ?_
 refine eqf_cons (by rfl) (by go_simp; rfl) (by go_simp; rfl) (by go_simp) ?_
 exact eqf_last (by rfl) (by go_simp; rfl) (by go_simp; rfl) (by go_simp)

/-! ### pos_Pos_Shift: function 14 -/
def pos_Pos_Shift.f (a0_0 : Int) (a0_1 : Int) (a0_2 : Int) (a1 : Int) : Option (Int × Int × Int) := some (IntKind.u64.wrap (a0_0 + a1), a0_1, a0_2)
set_option maxHeartbeats 8000000 in
set_option maxRecDepth 100000 in
theorem pos_Pos_Shift.calls (a0_0 : Int) (a0_1 : Int) (a0_2 : Int) (a1 : Int) (r1 : Int) (r2 : Int) (r3 : Int) (w : World) (h : pos_Pos_Shift.f a0_0 a0_1 a0_2 a1 = some (r1, r2, r3)) :
  Calls Try.prog 14 #[.agg #[.int .u64 a0_0, .int .u32 a0_1, .int .u32 a0_2], .int .u64 a1] w fun e w' => e = .returned (.agg #[.int .u64 r1, .int .u32 r2, .int .u32 r3]) ∧ Below w.heap.size w w' := by
 have hu26 := Try.underlying26
 have HB := Aside0.mk (Below.refl w.heap.size w)
 have H : (some (IntKind.u64.wrap (a0_0 + a1), a0_1, a0_2)) = some (r1, r2, r3) := h
 clear h
 simp only [Option.some.injEq, Prod.mk.injEq] at H
 obtain ⟨rfl, rfl, rfl⟩ := H
 go_enter Try.func14, Try.ntmps14
 go_wp2_with (first | ((with_reducible refine gate_dst (N := 2) rfl ?_); refine box_event ?hg (N := 2) ?hd (cs := #[.int .u64 a0_0, .int .u32 a0_1, .int .u32 a0_2]) (t := 26) ?hr ?_; (case hd => rfl); (case hg => rfl); (case hr => first | (go_simp; done) | (go_simp; rfl)); intro gb161 hg w3 hbox hb; have BK161 := Aside0.mk (hbox); have GW161 := bels HB hg; have GE161 := bels HB hg; replace HB := belb HB hb; clear hb hbox hg) | ((with_reducible refine gate_dst (N := 4) rfl ?_); refine box_event ?hg (N := 4) ?hd (cs := #[.int .u64 0, .int .u32 0, .int .u32 0]) (t := 26) ?hr ?_; (case hd => rfl); (case hg => rfl); (case hr => first | (go_simp; done) | (go_simp; rfl)); intro gb162 hg w4 hbox hb; have BK162 := Aside0.mk (hbox); have GW162 := bels HB hg; have GE162 := bels HB hg; have NB161_162 := blkl BK161 hg; have NB162_161 := blkg BK161 hg; replace BK161 := blkb BK161 hb; replace HB := belb HB hb; clear hb hbox hg; have hnb5 := NB161_162.out; have hnc5 := NB162_161.out; have hcz6_0 : w4.cell? ⟨gb161, 0, none⟩ = some (.int .u64 a0_0) := bc BK161 0; have hcz6_1 : w4.cell? ⟨gb161, 1, none⟩ = some (.int .u32 a0_1) := bc BK161 1; have hcz6_2 : w4.cell? ⟨gb161, 2, none⟩ = some (.int .u32 a0_2) := bc BK161 2; have hfz6_0 := blk_frozen BK161.out 0; have hfz6_1 := blk_frozen BK161.out 1; have hfz6_2 := blk_frozen BK161.out 2; have hcz7_0 : w4.cell? ⟨gb162, 0, none⟩ = some (.int .u64 0) := bc BK162 0; have hcz7_1 : w4.cell? ⟨gb162, 1, none⟩ = some (.int .u32 0) := bc BK162 1; have hcz7_2 : w4.cell? ⟨gb162, 2, none⟩ = some (.int .u32 0) := bc BK162 2; have hfz7_0 := blk_frozen BK162.out 0; have hfz7_1 := blk_frozen BK162.out 1; have hfz7_2 := blk_frozen BK162.out 2))
 refine bodyPost_ret (results_cell_row rfl _ _ gb162 26 #[.int .u64 (IntKind.u64.wrap (a0_0 + a1)), .int .u32 a0_1, .int .u32 a0_2] (0, 0) _ rfl (by (with_reducible repeat (first | refine blk_drewN ?_ _ | refine blk_drew ?_ | refine blk_alloc ?_ _)); refine blk_put (cs := #[.int .u64 (IntKind.u64.wrap (a0_0 + a1)), .int .u32 a0_1, .int .u32 0]) ?_ 2 _ rfl; (with_reducible repeat (first | refine blk_drewN ?_ _ | refine blk_drew ?_ | refine blk_alloc ?_ _)); refine blk_put (cs := #[.int .u64 (IntKind.u64.wrap (a0_0 + a1)), .int .u32 0, .int .u32 0]) ?_ 1 _ rfl; (with_reducible repeat (first | refine blk_drewN ?_ _ | refine blk_drew ?_ | refine blk_alloc ?_ _)); refine blk_put (cs := #[.int .u64 0, .int .u32 0, .int .u32 0]) ?_ 0 _ rfl; (with_reducible repeat (first | refine blk_drewN ?_ _ | refine blk_drew ?_ | refine blk_alloc ?_ _)); refine blk_far ?_ NB162_161.out _; exact blkt BK162) Try.underlying26 rfl (by kernel_rfl)) rfl ?_
 exact ⟨by first | rfl | (simp [errW_none, errW_some] <;> rfl) | (simp [*, errW_none, errW_some] <;> rfl), belt HB⟩


/-! ### item_Item_Shift: function 10 -/
def item_Item_Shift.f (a0_0 : Int) (a0_1 : Int) (a0_2 : Int) (a0_3 : Int) (a0_4 : Int) (a0_5 : Int) (a0_6 : Int) (a1 : Int) : Option (Int × Int × Int × Int × Int × Int × Int) := (pos_Pos_Shift.f a0_0 a0_1 a0_2 a1).bind fun bt165 => ((pos_Pos_Shift.f a0_4 a0_5 a0_6 a1).bind fun bt168 => (some (bt165.1, bt165.2.1, bt165.2.2, a0_3, bt168.1, bt168.2.1, bt168.2.2)))
def item_Item_Shift.T1 : Bool × List (List Nat × List Nat) := (true, [([], []), ([0], [0]), ([], []), ([1, 2], [1, 2]), ([], []), ([4], [4]), ([], []), ([5, 6, 3], [5, 6]), ([0, 1, 2, 3, 4, 5], []), ([8, 3, 7, 0, 1, 2, 3, 4, 5], [3, 8]), ([0, 1, 2, 3, 4, 5, 6, 7, 8, 9], []), ([10, 7, 9, 0, 1, 2, 3, 4, 5, 6, 7, 8, 9], [7, 10])])
def item_Item_Shift.B1 : List Nat := [0, 1, 0, 7, 0, 16, 0, 127, 63, 511, 1023, 2047]
theorem item_Item_Shift.tab1 : rtab .any (opsOf Try.f10 1) = item_Item_Shift.T1 := by kernel_rfl
theorem item_Item_Shift.bits1 : waitsOk item_Item_Shift.T1.2 item_Item_Shift.B1 = true := by kernel_rfl
set_option maxHeartbeats 8000000 in
set_option maxRecDepth 100000 in
theorem item_Item_Shift.calls (a0_0 : Int) (a0_1 : Int) (a0_2 : Int) (a0_3 : Int) (a0_4 : Int) (a0_5 : Int) (a0_6 : Int) (a1 : Int) (r1 : Int) (r2 : Int) (r3 : Int) (r4 : Int) (r5 : Int) (r6 : Int) (r7 : Int) (w : World) (h : item_Item_Shift.f a0_0 a0_1 a0_2 a0_3 a0_4 a0_5 a0_6 a1 = some (r1, r2, r3, r4, r5, r6, r7)) :
  Calls Try.prog 10 #[.agg #[.int .u64 a0_0, .int .u32 a0_1, .int .u32 a0_2, .int .i64 a0_3, .int .u64 a0_4, .int .u32 a0_5, .int .u32 a0_6], .int .u64 a1] w fun e w' => e = .returned (.agg #[.int .u64 r1, .int .u32 r2, .int .u32 r3, .int .i64 r4, .int .u64 r5, .int .u32 r6, .int .u32 r7]) ∧ Below w.heap.size w w' := by
 have hu28 := Try.underlying28
 have hu26 := Try.underlying26
 have HB := Aside0.mk (Below.refl w.heap.size w)
 have H : ((pos_Pos_Shift.f a0_0 a0_1 a0_2 a1).bind fun bt165 => ((pos_Pos_Shift.f a0_4 a0_5 a0_6 a1).bind fun bt168 => (some (bt165.1, bt165.2.1, bt165.2.2, a0_3, bt168.1, bt168.2.1, bt168.2.2)))) = some (r1, r2, r3, r4, r5, r6, r7) := h
 clear h
 replace H := Option.bind_eq_some_iff.mp H
 obtain ⟨⟨t165, t166, t167⟩, A30, H⟩ := H
 replace H : ((pos_Pos_Shift.f a0_4 a0_5 a0_6 a1).bind fun bt168 => (some (t165, t166, t167, a0_3, bt168.1, bt168.2.1, bt168.2.2))) = some (r1, r2, r3, r4, r5, r6, r7) := H
 have A3 := Aside0.mk A30
 clear A30
 replace H := Option.bind_eq_some_iff.mp H
 obtain ⟨⟨t168, t169, t170⟩, A40, H⟩ := H
 replace H : (some (t165, t166, t167, a0_3, t168, t169, t170)) = some (r1, r2, r3, r4, r5, r6, r7) := H
 have A4 := Aside0.mk A40
 clear A40
 simp only [Option.some.injEq, Prod.mk.injEq] at H
 obtain ⟨rfl, rfl, rfl, rfl, rfl, rfl, rfl⟩ := H
 go_enter Try.func10, Try.ntmps10
 try go_wp2_with (first | ((with_reducible refine gate_dst (N := 2) rfl ?_); refine box_event ?hg (N := 2) ?hd (cs := #[.int .u64 a0_0, .int .u32 a0_1, .int .u32 a0_2, .int .i64 a0_3, .int .u64 a0_4, .int .u32 a0_5, .int .u32 a0_6]) (t := 28) ?hr ?_; (case hd => rfl); (case hg => rfl); (case hr => first | (go_simp; done) | (go_simp; rfl)); intro gb163 hg w5 hbox hb; have BK163 := Aside0.mk (hbox); have GW163 := bels HB hg; have GE163 := bels HB hg; replace HB := belb HB hb; clear hb hbox hg) | ((with_reducible refine gate_dst (N := 4) rfl ?_); refine box_event ?hg (N := 4) ?hd (cs := #[.int .u64 0, .int .u32 0, .int .u32 0, .int .i64 0, .int .u64 0, .int .u32 0, .int .u32 0]) (t := 28) ?hr ?_; (case hd => rfl); (case hg => rfl); (case hr => first | (go_simp; done) | (go_simp; rfl)); intro gb164 hg w6 hbox hb; have BK164 := Aside0.mk (hbox); have GW164 := bels HB hg; have GE164 := bels HB hg; have NB163_164 := blkl BK163 hg; have NB164_163 := blkg BK163 hg; replace BK163 := blkb BK163 hb; replace HB := belb HB hb; clear hb hbox hg))
 replace BK163 := Aside0.mk (blk_drew BK163.out)
 replace BK164 := Aside0.mk (blk_drew BK164.out)
 replace HB := Aside0.mk (below_drew1 HB.out)
 refine start_ (n := 12) (S := fun w' => w'.cell? ⟨gb163, 0, none⟩ = some (.int .u64 a0_0) ∧ w'.cell? ⟨gb163, 1, none⟩ = some (.int .u32 a0_1) ∧ w'.cell? ⟨gb163, 2, none⟩ = some (.int .u32 a0_2) ∧ w'.cell? ⟨gb163, 3, none⟩ = some (.int .i64 a0_3) ∧ w'.cell? ⟨gb163, 4, none⟩ = some (.int .u64 a0_4) ∧ w'.cell? ⟨gb163, 5, none⟩ = some (.int .u32 a0_5) ∧ w'.cell? ⟨gb163, 6, none⟩ = some (.int .u32 a0_6)) (ds := [9, 11]) #[false, false, false, false, false, false, false, false, false, false, false, false] (by kernel_rfl) rfl rfl ⟨bc BK163 0, bc BK163 1, bc BK163 2, bc BK163 3, bc BK163 4, bc BK163 5, bc BK163 6⟩ (fun hHeld => ?_); refine with_tabW item_Item_Shift.tab1 item_Item_Shift.bits1 (fun HT_ HW_ => ?_)
 generalize w6.drew = w7 at BK163 BK164 HB hHeld ⊢
 refine pure_ (i := 0) (N := some 5) (v := ?_) (a' := ?_) #[true, false, false, false, false, false, false, false, false, false, false, false] rfl rfl (any_of HT_.out (by kernel_rfl)) (fun _ _ _ h => h) (Or.inl ⟨by rfl, ?_⟩) ?_ ?_
 rotate_left
 ·intro w'
  go_simp
  with_reducible rfl
 rotate_left
 ·simp only [Act.put, List.setIfInBounds_toArray, List.set_cons_zero, List.set_cons_succ, i64_w, i32_w]
  rfl
 refine pure_ (i := 2) (N := some 7) (v := ?_) (a' := ?_) #[true, false, true, false, false, false, false, false, false, false, false, false] rfl rfl (any_of HT_.out (by kernel_rfl)) (fun _ _ _ h => h) (Or.inl ⟨by rfl, ?_⟩) ?_ ?_
 rotate_left
 ·intro w'
  go_simp
  with_reducible rfl
 rotate_left
 ·simp only [Act.put, List.setIfInBounds_toArray, List.set_cons_zero, List.set_cons_succ, i64_w, i32_w]
  rfl
 refine pure_ (i := 4) (N := some 9) (v := ?_) (a' := ?_) #[true, false, true, false, true, false, false, false, false, false, false, false] rfl rfl (any_of HT_.out (by kernel_rfl)) (fun _ _ _ h => h) (Or.inl ⟨by rfl, ?_⟩) ?_ ?_
 rotate_left
 ·intro w'
  go_simp
  with_reducible rfl
 rotate_left
 ·simp only [Act.put, List.setIfInBounds_toArray, List.set_cons_zero, List.set_cons_succ, i64_w, i32_w]
  rfl
 refine pure_ (i := 6) (N := some 11) (v := ?_) (a' := ?_) #[true, false, true, false, true, false, true, false, false, false, false, false] rfl rfl (any_of HT_.out (by kernel_rfl)) (fun _ _ _ h => h) (Or.inl ⟨by rfl, ?_⟩) ?_ ?_
 rotate_left
 ·intro w'
  go_simp
  with_reducible rfl
 rotate_left
 ·simp only [Act.put, List.setIfInBounds_toArray, List.set_cons_zero, List.set_cons_succ, i64_w, i32_w]
  rfl
 refine take_ (i := 1) (N := some 6) (v := ?_) (a' := ?_) #[true, true, true, false, true, false, true, false, false, false, false, false] rfl rfl (take_ofW HT_.out HW_.out (by kernel_rfl)) (fun _ _ _ h => h) (Or.inl ⟨by rfl, ?_⟩) hHeld ?_ ?_
 rotate_left
 ·rintro w' ⟨s0, s1, s2, s3, s4, s5, s6⟩
  go_simp
  with_reducible rfl
 rotate_left
 ·simp only [Act.put, List.setIfInBounds_toArray, List.set_cons_zero, List.set_cons_succ, i64_w, i32_w]
  rfl
 refine take_ (i := 5) (N := some 10) (v := ?_) (a' := ?_) #[true, true, true, false, true, true, true, false, false, false, false, false] rfl rfl (take_ofW HT_.out HW_.out (by kernel_rfl)) (fun _ _ _ h => h) (Or.inl ⟨by rfl, ?_⟩) hHeld ?_ ?_
 rotate_left
 ·rintro w' ⟨s0, s1, s2, s3, s4, s5, s6⟩
  go_simp
  with_reducible rfl
 rotate_left
 ·simp only [Act.put, List.setIfInBounds_toArray, List.set_cons_zero, List.set_cons_succ, i64_w, i32_w]
  rfl
 refine one_ (i := 3) (N := some 8) #[true, true, true, true, true, true, true, false, false, false, false, false] rfl rfl (one_of HT_.out (by kernel_rfl)) (by decide) (fun K hK => ?_)
 refine goes_ Try.func14 (by kernel_rfl) rfl #[.agg #[.int .u64 a0_0, .int .u32 a0_1, .int .u32 a0_2], .int .u64 a1] (by rfl) rfl rfl argt ?_
 with_reducible refine (pos_Pos_Shift.calls a0_0 a0_1 a0_2 a1 t165 t166 t167 _ A3.out).mono ?_
 rintro e w8 ⟨rfl, hb⟩
 refine ⟨_, rfl, ?_⟩
 replace BK163 := blkb BK163 hb
 replace BK164 := blkb BK164 hb
 replace HB := belb HB hb
 (try clear hb)
 (try clear hb2)
 (try clear hk)
 (try clear hi)
 refine hK.out _ _ ⟨bc BK163 0, bc BK163 1, bc BK163 2, bc BK163 3, bc BK163 4, bc BK163 5, bc BK163 6⟩ (fun hHeld => ?_)
 clear hK K
 refine norm_ (a' := ?_) ?_ ?_
 rotate_left
 ·show Act.put _ (some 8) _ = _
  simp only [Act.put, List.setIfInBounds_toArray, List.set_cons_zero, List.set_cons_succ, i64_w, i32_w]
  rfl
 refine pure_ (i := 8) (N := some 13) (v := ?_) (a' := ?_) #[true, true, true, true, true, true, true, false, true, false, false, false] rfl rfl (any_of HT_.out (by kernel_rfl)) (fun _ _ _ h => h) (Or.inl ⟨by rfl, ?_⟩) ?_ ?_
 rotate_left
 ·intro w'
  go_simp
  with_reducible rfl
 rotate_left
 ·simp only [Act.put, List.setIfInBounds_toArray, List.set_cons_zero, List.set_cons_succ, i64_w, i32_w]
  rfl
 refine one_ (i := 7) (N := some 12) #[true, true, true, true, true, true, true, true, true, false, false, false] rfl rfl (one_of HT_.out (by kernel_rfl)) (by decide) (fun K hK => ?_)
 refine goes_ Try.func14 (by kernel_rfl) rfl #[.agg #[.int .u64 a0_4, .int .u32 a0_5, .int .u32 a0_6], .int .u64 a1] (by rfl) rfl rfl argt ?_
 with_reducible refine (pos_Pos_Shift.calls a0_4 a0_5 a0_6 a1 t168 t169 t170 _ A4.out).mono ?_
 rintro e w9 ⟨rfl, hb⟩
 refine ⟨_, rfl, ?_⟩
 replace BK163 := blkb BK163 hb
 replace BK164 := blkb BK164 hb
 replace HB := belb HB hb
 (try clear hb)
 (try clear hb2)
 (try clear hk)
 (try clear hi)
 refine hK.out _ _ ⟨bc BK163 0, bc BK163 1, bc BK163 2, bc BK163 3, bc BK163 4, bc BK163 5, bc BK163 6⟩ (fun hHeld => ?_)
 clear hK K
 refine norm_ (a' := ?_) ?_ ?_
 rotate_left
 ·show Act.put _ (some 12) _ = _
  simp only [Act.put, List.setIfInBounds_toArray, List.set_cons_zero, List.set_cons_succ, i64_w, i32_w]
  rfl
 refine last_ (i := 9) (N := none) #[true, true, true, true, true, true, true, true, true, true, false, false] rfl rfl (one_of HT_.out (by kernel_rfl)) (by decide) (fun K hK => ?_)
 have hs10 : w9.cell? ⟨gb163, 0, none⟩ = some (.int .u64 a0_0) := bc BK163 0
 have hfs10 := blk_frozen BK163.out 0
 have hns10_1 := NB164_163.out
 have hms10_1 := NB163_164.out
 have hs11 : w9.cell? ⟨gb163, 1, none⟩ = some (.int .u32 a0_1) := bc BK163 1
 have hfs11 := blk_frozen BK163.out 1
 have hns11_1 := NB164_163.out
 have hms11_1 := NB163_164.out
 have hs12 : w9.cell? ⟨gb163, 2, none⟩ = some (.int .u32 a0_2) := bc BK163 2
 have hfs12 := blk_frozen BK163.out 2
 have hns12_1 := NB164_163.out
 have hms12_1 := NB163_164.out
 refine skip_ (w1 := ?_) (by rfl) rfl ?_ ?_
 rotate_left
 ·go_simp
  rfl
 refine hK.out _ _ ?_
 clear hK K
 refine pure_ (i := 10) (N := some 14) (v := ?_) (a' := ?_) #[true, true, true, true, true, true, true, true, true, true, true, false] rfl rfl (any_of HT_.out (by kernel_rfl)) (fun _ _ _ h => h) (Or.inl ⟨by rfl, ?_⟩) ?_ ?_
 rotate_left
 ·intro w'
  go_simp
  with_reducible rfl
 rotate_left
 ·simp only [Act.put, List.setIfInBounds_toArray, List.set_cons_zero, List.set_cons_succ, i64_w, i32_w]
  rfl
 refine last_ (i := 11) (N := none) #[true, true, true, true, true, true, true, true, true, true, true, true] rfl rfl (one_of HT_.out (by kernel_rfl)) (by decide) (fun K hK => ?_)
 have hs13 : w9.cell? ⟨gb163, 4, none⟩ = some (.int .u64 a0_4) := bc BK163 4
 have hfs13 := blk_frozen BK163.out 4
 have hns13_1 := NB164_163.out
 have hms13_1 := NB163_164.out
 have hs14 : w9.cell? ⟨gb163, 5, none⟩ = some (.int .u32 a0_5) := bc BK163 5
 have hfs14 := blk_frozen BK163.out 5
 have hns14_1 := NB164_163.out
 have hms14_1 := NB163_164.out
 have hs15 : w9.cell? ⟨gb163, 6, none⟩ = some (.int .u32 a0_6) := bc BK163 6
 have hfs15 := blk_frozen BK163.out 6
 have hns15_1 := NB164_163.out
 have hms15_1 := NB163_164.out
 refine skip_ (w1 := ?_) (by rfl) rfl ?_ ?_
 rotate_left
 ·go_simp
  rfl
 refine hK.out _ _ ?_
 clear hK K
 refine done_ (done_of HT_.out (by kernel_rfl)) ?_
 have hnb16 := NB163_164.out
 have hnc16 := NB164_163.out
 have hcz17_0 : w9.cell? ⟨gb163, 0, none⟩ = some (.int .u64 a0_0) := bc BK163 0
 have hcz17_1 : w9.cell? ⟨gb163, 1, none⟩ = some (.int .u32 a0_1) := bc BK163 1
 have hcz17_2 : w9.cell? ⟨gb163, 2, none⟩ = some (.int .u32 a0_2) := bc BK163 2
 have hcz17_3 : w9.cell? ⟨gb163, 3, none⟩ = some (.int .i64 a0_3) := bc BK163 3
 have hcz17_4 : w9.cell? ⟨gb163, 4, none⟩ = some (.int .u64 a0_4) := bc BK163 4
 have hcz17_5 : w9.cell? ⟨gb163, 5, none⟩ = some (.int .u32 a0_5) := bc BK163 5
 have hcz17_6 : w9.cell? ⟨gb163, 6, none⟩ = some (.int .u32 a0_6) := bc BK163 6
 have hfz17_0 := blk_frozen BK163.out 0
 have hfz17_1 := blk_frozen BK163.out 1
 have hfz17_2 := blk_frozen BK163.out 2
 have hfz17_3 := blk_frozen BK163.out 3
 have hfz17_4 := blk_frozen BK163.out 4
 have hfz17_5 := blk_frozen BK163.out 5
 have hfz17_6 := blk_frozen BK163.out 6
 have hcz18_0 : w9.cell? ⟨gb164, 0, none⟩ = some (.int .u64 0) := bc BK164 0
 have hcz18_1 : w9.cell? ⟨gb164, 1, none⟩ = some (.int .u32 0) := bc BK164 1
 have hcz18_2 : w9.cell? ⟨gb164, 2, none⟩ = some (.int .u32 0) := bc BK164 2
 have hcz18_3 : w9.cell? ⟨gb164, 3, none⟩ = some (.int .i64 0) := bc BK164 3
 have hcz18_4 : w9.cell? ⟨gb164, 4, none⟩ = some (.int .u64 0) := bc BK164 4
 have hcz18_5 : w9.cell? ⟨gb164, 5, none⟩ = some (.int .u32 0) := bc BK164 5
 have hcz18_6 : w9.cell? ⟨gb164, 6, none⟩ = some (.int .u32 0) := bc BK164 6
 have hfz18_0 := blk_frozen BK164.out 0
 have hfz18_1 := blk_frozen BK164.out 1
 have hfz18_2 := blk_frozen BK164.out 2
 have hfz18_3 := blk_frozen BK164.out 3
 have hfz18_4 := blk_frozen BK164.out 4
 have hfz18_5 := blk_frozen BK164.out 5
 have hfz18_6 := blk_frozen BK164.out 6
 try go_wp2
 refine bodyPost_ret (results_cell_row rfl _ _ gb164 28 #[.int .u64 t165, .int .u32 t166, .int .u32 t167, .int .i64 a0_3, .int .u64 t168, .int .u32 t169, .int .u32 t170] (0, 0) _ rfl (by (with_reducible repeat (first | refine blk_drewN ?_ _ | refine blk_drew ?_ | refine blk_alloc ?_ _)); refine blk_put (cs := #[.int .u64 t165, .int .u32 t166, .int .u32 t167, .int .i64 a0_3, .int .u64 t168, .int .u32 t169, .int .u32 0]) ?_ 6 _ rfl; (with_reducible repeat (first | refine blk_drewN ?_ _ | refine blk_drew ?_ | refine blk_alloc ?_ _)); refine blk_put (cs := #[.int .u64 t165, .int .u32 t166, .int .u32 t167, .int .i64 a0_3, .int .u64 t168, .int .u32 0, .int .u32 0]) ?_ 5 _ rfl; (with_reducible repeat (first | refine blk_drewN ?_ _ | refine blk_drew ?_ | refine blk_alloc ?_ _)); refine blk_put (cs := #[.int .u64 t165, .int .u32 t166, .int .u32 t167, .int .i64 a0_3, .int .u64 0, .int .u32 0, .int .u32 0]) ?_ 4 _ rfl; (with_reducible repeat (first | refine blk_drewN ?_ _ | refine blk_drew ?_ | refine blk_alloc ?_ _)); refine blk_put (cs := #[.int .u64 t165, .int .u32 t166, .int .u32 t167, .int .i64 0, .int .u64 0, .int .u32 0, .int .u32 0]) ?_ 3 _ rfl; (with_reducible repeat (first | refine blk_drewN ?_ _ | refine blk_drew ?_ | refine blk_alloc ?_ _)); refine blk_put (cs := #[.int .u64 t165, .int .u32 t166, .int .u32 0, .int .i64 0, .int .u64 0, .int .u32 0, .int .u32 0]) ?_ 2 _ rfl; (with_reducible repeat (first | refine blk_drewN ?_ _ | refine blk_drew ?_ | refine blk_alloc ?_ _)); refine blk_put (cs := #[.int .u64 t165, .int .u32 0, .int .u32 0, .int .i64 0, .int .u64 0, .int .u32 0, .int .u32 0]) ?_ 1 _ rfl; (with_reducible repeat (first | refine blk_drewN ?_ _ | refine blk_drew ?_ | refine blk_alloc ?_ _)); refine blk_put (cs := #[.int .u64 0, .int .u32 0, .int .u32 0, .int .i64 0, .int .u64 0, .int .u32 0, .int .u32 0]) ?_ 0 _ rfl; (with_reducible repeat (first | refine blk_drewN ?_ _ | refine blk_drew ?_ | refine blk_alloc ?_ _)); refine blk_far ?_ NB164_163.out _; (with_reducible repeat (first | refine blk_drewN ?_ _ | refine blk_drew ?_ | refine blk_alloc ?_ _)); refine blk_far ?_ NB164_163.out _; (with_reducible repeat (first | refine blk_drewN ?_ _ | refine blk_drew ?_ | refine blk_alloc ?_ _)); refine blk_far ?_ NB164_163.out _; (with_reducible repeat (first | refine blk_drewN ?_ _ | refine blk_drew ?_ | refine blk_alloc ?_ _)); refine blk_far ?_ NB164_163.out _; (with_reducible repeat (first | refine blk_drewN ?_ _ | refine blk_drew ?_ | refine blk_alloc ?_ _)); refine blk_far ?_ NB164_163.out _; (with_reducible repeat (first | refine blk_drewN ?_ _ | refine blk_drew ?_ | refine blk_alloc ?_ _)); refine blk_far ?_ NB164_163.out _; exact blkt BK164) Try.underlying28 rfl (by kernel_rfl)) rfl ?_
 exact ⟨by first | rfl | (simp [errW_none, errW_some] <;> rfl) | (simp [*, errW_none, errW_some] <;> rfl), belt HB⟩

end Go.Proofs.Ytdfpkjdhndfcbaa.Print
