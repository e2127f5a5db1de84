/- What each Go function that is named below answers, as a Lean function, and that its walk comes to just that: for whatever arguments that function gives an answer for. Written by a program of this session (wip/mkpr.py, pr.sh). -/
import Derived.Test.YtimgiiceipjpaaaPrint0
import Derived.Test.YtimgiiceipjpaaaPrint1
import Derived.Test.YtimgiiceipjpaaaPrint5
import Derived.Test.YtimgiiceipjpaaaPrint6
namespace Go.Proofs.Ytimgiiceipjpaaa.Print
open Go.RowKit Go.Proofs.YtimgiiceipjpaaaW.PrintWords Go.Proofs.YtimgiiceipjpaaaW.PrintLast Go.Proofs.YtimgiiceipjpaaaW.PrintMore
attribute [local go_sem] max2_int min2_int max_two min_two max_three min_three max_four min_four   -- for this text's walks alone
open Go.Proofs.Ytimgiiceipjpaaa.Bits Go.Proofs.Ytimgiiceipjpaaa.Short
attribute [local go_sem] add64_run0 sub64_run0 add64_run sub64_run
set_option linter.unusedVariables false
set_option linter.unusedSimpArgs false

attribute [local go_sem high] eqA59
/-! ### vtime_Time_Add: function 25 -/
def vtime_Time_Add.f (a0 : Int) (a1 : Int) : Option (Int) := some (IntKind.u64.wrap (a0 + (IntKind.u64.wrap (a1))))
set_option maxHeartbeats 8000000 in
set_option maxRecDepth 100000 in
theorem vtime_Time_Add.calls (a0 : Int) (a1 : Int) (r : Int) (w : World) (h : vtime_Time_Add.f a0 a1 = some r) :
  Calls Try.prog 25 #[.int .u64 a0, .int .i64 a1] w fun e w' => e = .returned (.int .u64 r) ∧ Drawn0 w w' := by
 have H : (some (IntKind.u64.wrap (a0 + (IntKind.u64.wrap (a1))))) = some r := h
 clear h
 obtain rfl := Option.some.inj H
 go_enter Try.func25, Try.ntmps25
 go_wp2
 go_ret
 exact ⟨by first | rfl | (simp; done) | (simp [*]; done), by repeat (first | exact Drawn0.refl _ | apply Drawn0.step)⟩

/-! ### pos_weight: function 75 -/
def pos_weight.f (a0 : Int) : Option (Bool) := if a0 ≥ 1 then (some (decide (a0 ≤ 1048576))) else (some false)
set_option maxHeartbeats 8000000 in
set_option maxRecDepth 100000 in
theorem pos_weight.calls (a0 : Int) (r : Bool) (w : World) (h : pos_weight.f a0 = some r) :
  Calls Try.prog 75 #[.int .u32 a0] w fun e w' => e = .returned (.bool r) ∧ Drawn0 w w' := by
 have H : (if a0 ≥ 1 then (some (decide (a0 ≤ 1048576))) else (some false)) = some r := h
 clear h
 by_cases c2 : a0 ≥ 1
 ·rw [if_pos c2] at H
  have c2b0 : decide (1 ≤ a0) = true := decide_eq_true c2
  clear c2
  obtain rfl := Option.some.inj H
  go_enter Try.func75, Try.ntmps75
  go_wp2
  go_ret
  exact ⟨by first | rfl | (simp; done) | (simp [*]; done), by repeat (first | exact Drawn0.refl _ | apply Drawn0.step)⟩
 ·rw [if_neg c2] at H
  have c2b0 : decide (1 ≤ a0) = false := decide_eq_false c2
  clear c2
  obtain rfl := Option.some.inj H
  go_enter Try.func75, Try.ntmps75
  go_wp2
  go_ret
  exact ⟨by first | rfl | (simp; done) | (simp [*]; done), by repeat (first | exact Drawn0.refl _ | apply Drawn0.step)⟩

/-! ### wide_Int_Small: function 76 -/
def wide_Int_Small.f (a0_0 : Int) (a0_1 : Int) : Option (Int × Bool) := (wide_Of.f (wrap64 (a0_1))).bind fun bt474 => (if (!(bt474.1 == a0_0) || (!(bt474.2 == a0_1))) = true then (some (0, false)) else (some (wrap64 (a0_1), true)))
set_option maxHeartbeats 8000000 in
set_option maxRecDepth 100000 in
theorem wide_Int_Small.calls (a0_0 : Int) (a0_1 : Int) (r1 : Int) (r2 : Bool) (w : World) (h : wide_Int_Small.f a0_0 a0_1 = some (r1, r2)) :
  Calls Try.prog 76 #[.agg #[.int .i64 a0_0, .int .u64 a0_1]] w fun e w' => e = .returned (.tuple #[.int .i64 r1, .bool r2]) ∧ Below w.heap.size w w' := by
 have hu59 := Try.underlying59
 have HB := Aside0.mk (Below.refl w.heap.size w)
 have H : ((wide_Of.f (wrap64 (a0_1))).bind fun bt474 => (if (!(bt474.1 == a0_0) || (!(bt474.2 == a0_1))) = true then (some (0, false)) else (some (wrap64 (a0_1), true)))) = some (r1, r2) := h
 clear h
 replace H := Option.bind_eq_some_iff.mp H
 obtain ⟨⟨t474, t475⟩, A20, H⟩ := H
 replace H : (if (!(t474 == a0_0) || (!(t475 == a0_1))) = true then (some (0, false)) else (some (wrap64 (a0_1), true))) = some (r1, r2) := H
 have A2 := Aside0.mk A20
 clear A20
 by_cases c3 : (!(t474 == a0_0) || (!(t475 == a0_1))) = true
 ·rw [if_pos c3] at H
  have c3b0 : (!(t474 == a0_0) || (!(t475 == a0_1))) = true := c3
  clear c3
  simp only [Option.some.injEq, Prod.mk.injEq] at H
  obtain ⟨rfl, rfl⟩ := H
  go_enter Try.func76, Try.ntmps76
  try go_wp2_with (first | ((with_reducible refine gate_dst (N := 1) rfl ?_); refine box_event ?hg (N := 1) ?hd (cs := #[.int .i64 a0_0, .int .u64 a0_1]) (t := 59) ?hr ?_; (case hd => rfl); (case hg => rfl); (case hr => first | (go_simp; done) | (go_simp; rfl)); intro gb473 hg w4 hbox hb; have n0_ := belb HB hb; have n1_ := Aside0.mk (hbox); have n2_ := bels HB hg; have n3_ := bels HB hg; clear HB; have HB := n0_; have BK473 := n1_; have GW473 := n2_; have GE473 := n3_; clear n0_ n1_ n2_ n3_; clear hb hbox hg; have hcz5_0 : w4.cell? ⟨gb473, 0, none⟩ = some (.int .i64 a0_0) := (blk_cell BK473.out 0).trans rfl; have hcz5_1 : w4.cell? ⟨gb473, 1, none⟩ = some (.int .u64 a0_1) := (blk_cell BK473.out 1).trans rfl; have hfz5_0 := blk_frozen BK473.out 0; have hfz5_1 := blk_frozen BK473.out 1))
  have n0_ := Aside0.mk (blk_drew BK473.out)
  have n1_ := Aside0.mk (below_drew1 HB.out)
  clear BK473
  clear HB
  have BK473 := n0_
  have HB := n1_
  clear n0_ n1_
  refine start_ (n := 4) (S := fun w' => w'.cell? ⟨gb473, 0, none⟩ = some (.int .i64 a0_0) ∧ w'.cell? ⟨gb473, 1, none⟩ = some (.int .u64 a0_1)) (ds := []) #[false, false, false, false] (by kernel_rfl) rfl rfl ⟨(blk_cell BK473.out 0).trans rfl, (blk_cell BK473.out 1).trans rfl⟩ (fun hHeld => ?_)
  generalize w4.drew = w6 at BK473 HB hHeld ⊢
  refine pure_ (i := 0) (N := some 8) (v := ?_) (a' := ?_) #[true, false, false, false] rfl rfl (by kernel_rfl) (fun _ _ _ h => h) (Or.inl ⟨by rfl, ?_⟩) ?_ ?_
  rotate_left
  ·intro w'
   go_simp
   with_reducible rfl
  rotate_left
  ·simp only [Act.put, List.setIfInBounds_toArray, List.set_cons_zero, List.set_cons_succ, i64_w, i32_w]
   rfl
  refine take_ (i := 2) (N := some 10) (v := ?_) (a' := ?_) #[true, false, true, false] rfl rfl (by kernel_rfl) (fun _ _ _ h => h) (Or.inl ⟨by rfl, ?_⟩) hHeld ?_ ?_
  rotate_left
  ·rintro w' ⟨s0, s1⟩
   go_simp
   with_reducible rfl
  rotate_left
  ·simp only [Act.put, List.setIfInBounds_toArray, List.set_cons_zero, List.set_cons_succ, i64_w, i32_w]
   rfl
  refine one_ (i := 1) (N := some 9) #[true, true, true, false] rfl rfl (by kernel_rfl) (by decide) (fun K hK => ?_)
  refine goes_ Try.func88 (by kernel_rfl) rfl #[.int .i64 (wrap64 (a0_1))] (by rfl) rfl rfl argt ?_
  with_reducible refine (wide_Of.calls (wrap64 (a0_1)) t474 t475 _ A2.out).mono ?_
  rintro e w7 ⟨rfl, hb⟩
  refine ⟨_, rfl, ?_⟩
  have n0_ := blkb BK473 hb
  have n1_ := belb HB hb
  clear BK473
  clear HB
  have BK473 := n0_
  have HB := n1_
  clear n0_ n1_
  (try clear hb)
  (try clear hb2)
  (try clear hk)
  (try clear hi)
  refine hK.out _ _ ⟨(blk_cell BK473.out 0).trans rfl, (blk_cell BK473.out 1).trans rfl⟩ (fun hHeld => ?_)
  clear hK K
  refine norm_ (a' := ?_) ?_ ?_
  rotate_left
  ·show Act.put _ (some 9) _ = _
   simp only [Act.put, List.setIfInBounds_toArray, List.set_cons_zero, List.set_cons_succ, i64_w, i32_w]
   rfl
  refine pure_ (i := 3) (N := some 11) (v := ?_) (a' := ?_) #[true, true, true, true] rfl rfl (by kernel_rfl) (fun _ _ _ h => h) (Or.inl ⟨by rfl, ?_⟩) ?_ ?_
  rotate_left
  ·intro w'
   go_simp
   with_reducible rfl
  rotate_left
  ·simp only [Act.put, List.setIfInBounds_toArray, List.set_cons_zero, List.set_cons_succ, i64_w, i32_w]
   rfl
  refine done_ (by kernel_rfl) ?_
  try go_wp2
  go_ret2
  exact ⟨by first | rfl | (simp [errW_none, errW_some] <;> rfl) | (simp [*, errW_none, errW_some] <;> rfl), by repeat (first | (with_reducible first | exact HB.out | apply below_alloc | apply pw_below_drewN | apply below_drew1 | refine below_set ?_ GE473.out) | exact HB.out)⟩
 ·rw [if_neg c3] at H
  have c3b0 : (!(t474 == a0_0) || (!(t475 == a0_1))) = false := by simpa using c3
  clear c3
  simp only [Option.some.injEq, Prod.mk.injEq] at H
  obtain ⟨rfl, rfl⟩ := H
  go_enter Try.func76, Try.ntmps76
  try go_wp2_with (first | ((with_reducible refine gate_dst (N := 1) rfl ?_); refine box_event ?hg (N := 1) ?hd (cs := #[.int .i64 a0_0, .int .u64 a0_1]) (t := 59) ?hr ?_; (case hd => rfl); (case hg => rfl); (case hr => first | (go_simp; done) | (go_simp; rfl)); intro gb473 hg w8 hbox hb; have n0_ := belb HB hb; have n1_ := Aside0.mk (hbox); have n2_ := bels HB hg; have n3_ := bels HB hg; clear HB; have HB := n0_; have BK473 := n1_; have GW473 := n2_; have GE473 := n3_; clear n0_ n1_ n2_ n3_; clear hb hbox hg; have hcz9_0 : w8.cell? ⟨gb473, 0, none⟩ = some (.int .i64 a0_0) := (blk_cell BK473.out 0).trans rfl; have hcz9_1 : w8.cell? ⟨gb473, 1, none⟩ = some (.int .u64 a0_1) := (blk_cell BK473.out 1).trans rfl; have hfz9_0 := blk_frozen BK473.out 0; have hfz9_1 := blk_frozen BK473.out 1))
  have n0_ := Aside0.mk (blk_drew BK473.out)
  have n1_ := Aside0.mk (below_drew1 HB.out)
  clear BK473
  clear HB
  have BK473 := n0_
  have HB := n1_
  clear n0_ n1_
  refine start_ (n := 4) (S := fun w' => w'.cell? ⟨gb473, 0, none⟩ = some (.int .i64 a0_0) ∧ w'.cell? ⟨gb473, 1, none⟩ = some (.int .u64 a0_1)) (ds := []) #[false, false, false, false] (by kernel_rfl) rfl rfl ⟨(blk_cell BK473.out 0).trans rfl, (blk_cell BK473.out 1).trans rfl⟩ (fun hHeld => ?_)
  generalize w8.drew = w10 at BK473 HB hHeld ⊢
  refine pure_ (i := 0) (N := some 8) (v := ?_) (a' := ?_) #[true, false, false, false] rfl rfl (by kernel_rfl) (fun _ _ _ h => h) (Or.inl ⟨by rfl, ?_⟩) ?_ ?_
  rotate_left
  ·intro w'
   go_simp
   with_reducible rfl
  rotate_left
  ·simp only [Act.put, List.setIfInBounds_toArray, List.set_cons_zero, List.set_cons_succ, i64_w, i32_w]
   rfl
  refine take_ (i := 2) (N := some 10) (v := ?_) (a' := ?_) #[true, false, true, false] rfl rfl (by kernel_rfl) (fun _ _ _ h => h) (Or.inl ⟨by rfl, ?_⟩) hHeld ?_ ?_
  rotate_left
  ·rintro w' ⟨s0, s1⟩
   go_simp
   with_reducible rfl
  rotate_left
  ·simp only [Act.put, List.setIfInBounds_toArray, List.set_cons_zero, List.set_cons_succ, i64_w, i32_w]
   rfl
  refine one_ (i := 1) (N := some 9) #[true, true, true, false] rfl rfl (by kernel_rfl) (by decide) (fun K hK => ?_)
  refine goes_ Try.func88 (by kernel_rfl) rfl #[.int .i64 (wrap64 (a0_1))] (by rfl) rfl rfl argt ?_
  with_reducible refine (wide_Of.calls (wrap64 (a0_1)) t474 t475 _ A2.out).mono ?_
  rintro e w11 ⟨rfl, hb⟩
  refine ⟨_, rfl, ?_⟩
  have n0_ := blkb BK473 hb
  have n1_ := belb HB hb
  clear BK473
  clear HB
  have BK473 := n0_
  have HB := n1_
  clear n0_ n1_
  (try clear hb)
  (try clear hb2)
  (try clear hk)
  (try clear hi)
  refine hK.out _ _ ⟨(blk_cell BK473.out 0).trans rfl, (blk_cell BK473.out 1).trans rfl⟩ (fun hHeld => ?_)
  clear hK K
  refine norm_ (a' := ?_) ?_ ?_
  rotate_left
  ·show Act.put _ (some 9) _ = _
   simp only [Act.put, List.setIfInBounds_toArray, List.set_cons_zero, List.set_cons_succ, i64_w, i32_w]
   rfl
  refine pure_ (i := 3) (N := some 11) (v := ?_) (a' := ?_) #[true, true, true, true] rfl rfl (by kernel_rfl) (fun _ _ _ h => h) (Or.inl ⟨by rfl, ?_⟩) ?_ ?_
  rotate_left
  ·intro w'
   go_simp
   with_reducible rfl
  rotate_left
  ·simp only [Act.put, List.setIfInBounds_toArray, List.set_cons_zero, List.set_cons_succ, i64_w, i32_w]
   rfl
  refine done_ (by kernel_rfl) ?_
  try go_wp2
  go_ret2
  exact ⟨by first | rfl | (simp [errW_none, errW_some] <;> rfl) | (simp [*, errW_none, errW_some] <;> rfl), by repeat (first | (with_reducible first | exact HB.out | apply below_alloc | apply pw_below_drewN | apply below_drew1 | refine below_set ?_ GE473.out) | exact HB.out)⟩

/-! ### pos_At: function 45 -/
def pos_At.f (k : Nat) (a0 : Int) (a1_0 : Int) (a1_1 : Int) (a2 : Int) : Option (Int × Int × Int × Bool) := (pos_weight.f a2).bind fun t478 => (if t478 = true then ((wide_Int_Div.f k a1_0 a1_1 (IntKind.u64.wrap (a2))).bind fun bt479 => ((wide_Int_Small.f bt479.1 bt479.2.1).bind fun bt484 => (if bt484.2 = true then ((vtime_Time_Add.f a0 bt484.1).bind fun t486 => (some (t486, (bt479.2.2.1) % 4294967296, a2, true))) else (some (0, 0, 0, false))))) else (some (0, 0, 0, false)))
theorem pos_At.mono : ∀ a0 a1 a2 a3 k, LeO (pos_At.f k a0 a1 a2 a3) (pos_At.f (k + 1) a0 a1 a2 a3) := by
 intro a0 a1 a2 a3 k
 unfold pos_At.f
 repeat' first
   | (with_reducible exact wide_Int_Div.mono _ _ _ _)
   | (with_reducible exact LeO.refl _)
   | (with_reducible exact LeO.none _)
   | (with_reducible refine LeO.ite ?_ ?_)
   | (with_reducible refine LeO.bind ?_ (fun _ => ?_))
   | exact wide_Int_Div.mono _ _ _ _
   | exact LeO.none _
   | refine LeO.ite ?_ ?_
   | refine LeO.bind ?_ (fun _ => ?_)
set_option maxHeartbeats 8000000 in
set_option maxRecDepth 100000 in
theorem pos_At.calls (k : Nat) (a0 : Int) (a1_0 : Int) (a1_1 : Int) (a2 : Int) (r1 : Int) (r2 : Int) (r3 : Int) (r4 : Bool) (w : World) (h : pos_At.f k a0 a1_0 a1_1 a2 = some (r1, r2, r3, r4)) :
  Calls Try.prog 45 #[.int .u64 a0, .agg #[.int .i64 a1_0, .int .u64 a1_1], .int .u32 a2] w fun e w' => e = .returned (.tuple #[.agg #[.int .u64 r1, .int .u32 r2, .int .u32 r3], .bool r4]) ∧ Below w.heap.size w w' := by
 have hu59 := Try.underlying59
 have hu67 := Try.underlying67
 have HB := Aside0.mk (Below.refl w.heap.size w)
 have H : ((pos_weight.f a2).bind fun t478 => (if t478 = true then ((wide_Int_Div.f k a1_0 a1_1 (IntKind.u64.wrap (a2))).bind fun bt479 => ((wide_Int_Small.f bt479.1 bt479.2.1).bind fun bt484 => (if bt484.2 = true then ((vtime_Time_Add.f a0 bt484.1).bind fun t486 => (some (t486, (bt479.2.2.1) % 4294967296, a2, true))) else (some (0, 0, 0, false))))) else (some (0, 0, 0, false)))) = some (r1, r2, r3, r4) := h
 clear h
 replace H := Option.bind_eq_some_iff.mp H
 obtain ⟨t478, A40, H⟩ := H
 replace H : (if t478 = true then ((wide_Int_Div.f k a1_0 a1_1 (IntKind.u64.wrap (a2))).bind fun bt479 => ((wide_Int_Small.f bt479.1 bt479.2.1).bind fun bt484 => (if bt484.2 = true then ((vtime_Time_Add.f a0 bt484.1).bind fun t486 => (some (t486, (bt479.2.2.1) % 4294967296, a2, true))) else (some (0, 0, 0, false))))) else (some (0, 0, 0, false))) = some (r1, r2, r3, r4) := H
 have A4 := Aside0.mk A40
 clear A40
 by_cases c5 : t478 = true
 ·subst c5
  have H1 : ((wide_Int_Div.f k a1_0 a1_1 (IntKind.u64.wrap (a2))).bind fun bt479 => ((wide_Int_Small.f bt479.1 bt479.2.1).bind fun bt484 => (if bt484.2 = true then ((vtime_Time_Add.f a0 bt484.1).bind fun t486 => (some (t486, (bt479.2.2.1) % 4294967296, a2, true))) else (some (0, 0, 0, false))))) = some (r1, r2, r3, r4) := by rw [if_pos rfl] at H; exact H
  clear H
  have H := H1
  clear H1
  replace H := Option.bind_eq_some_iff.mp H
  obtain ⟨⟨t479, t480, t481, t482⟩, A60, H⟩ := H
  replace H : ((wide_Int_Small.f t479 t480).bind fun bt484 => (if bt484.2 = true then ((vtime_Time_Add.f a0 bt484.1).bind fun t486 => (some (t486, (t481) % 4294967296, a2, true))) else (some (0, 0, 0, false)))) = some (r1, r2, r3, r4) := H
  have A6 := Aside0.mk A60
  clear A60
  replace H := Option.bind_eq_some_iff.mp H
  obtain ⟨⟨t484, t485⟩, A70, H⟩ := H
  replace H : (if t485 = true then ((vtime_Time_Add.f a0 t484).bind fun t486 => (some (t486, (t481) % 4294967296, a2, true))) else (some (0, 0, 0, false))) = some (r1, r2, r3, r4) := H
  have A7 := Aside0.mk A70
  clear A70
  by_cases c8 : t485 = true
  ·subst c8
   have H1 : ((vtime_Time_Add.f a0 t484).bind fun t486 => (some (t486, (t481) % 4294967296, a2, true))) = some (r1, r2, r3, r4) := by rw [if_pos rfl] at H; exact H
   clear H
   have H := H1
   clear H1
   replace H := Option.bind_eq_some_iff.mp H
   obtain ⟨t486, A90, H⟩ := H
   replace H : (some (t486, (t481) % 4294967296, a2, true)) = some (r1, r2, r3, r4) := H
   have A9 := Aside0.mk A90
   clear A90
   simp only [Option.some.injEq, Prod.mk.injEq] at H
   obtain ⟨rfl, rfl, rfl, rfl⟩ := H
   go_enter Try.func45, Try.ntmps45
   go_wp2_with (first | ((with_reducible refine gate_dst (N := 4) rfl ?_); refine box_event ?hg (N := 4) ?hd (cs := #[.int .i64 a1_0, .int .u64 a1_1]) (t := 59) ?hr ?_; (case hd => rfl); (case hg => rfl); (case hr => first | (go_simp; done) | (go_simp; rfl)); intro gb476 hg w10 hbox hb; have n0_ := belb HB hb; have n1_ := Aside0.mk (hbox); have n2_ := bels HB hg; have n3_ := bels HB hg; clear HB; have HB := n0_; have BK476 := n1_; have GW476 := n2_; have GE476 := n3_; clear n0_ n1_ n2_ n3_; clear hb hbox hg) | ((with_reducible refine gate_dst (N := 6) rfl ?_); refine box_event ?hg (N := 6) ?hd (cs := #[.int .u64 0, .int .u32 0, .int .u32 0]) (t := 67) ?hr ?_; (case hd => rfl); (case hg => rfl); (case hr => first | (go_simp; done) | (go_simp; rfl)); intro gb477 hg w11 hbox hb; have n0_ := blkb BK476 hb; have n1_ := belb HB hb; have n2_ := Aside0.mk (hbox); have n3_ := bels HB hg; have n4_ := bels HB hg; have n5_ := blkl BK476 hg; have n6_ := blkg BK476 hg; clear BK476; clear HB; have BK476 := n0_; have HB := n1_; have BK477 := n2_; have GW477 := n3_; have GE477 := n4_; have NB476_477 := n5_; have NB477_476 := n6_; clear n0_ n1_ n2_ n3_ n4_ n5_ n6_; clear hb hbox hg) | ((with_reducible refine gate_callee (f := 75) rfl ?_); refine goesL_ (some 14) rfl rfl Try.func75 (by kernel_rfl) rfl #[.int .u32 a2] rfl argt ?_; (with_reducible refine (pos_weight.calls a2 true _ A4.out).mono ?_); rintro e w' ⟨rfl, ⟨nd, rfl⟩⟩; refine ⟨_, rfl, ?_⟩; (try (rw [drewN_self w11]; generalize hq_ : World.drewN w11 _ = w11; have n0_ : Aside0 (w11.heap[gb476]? = some (.cells #[.int .i64 a1_0, .int .u64 a1_1] 59 (0, 0))) := ⟨by rw [← hq_]; exact (blkt BK476)⟩; have n1_ : Aside0 (w11.heap[gb477]? = some (.cells #[.int .u64 0, .int .u32 0, .int .u32 0] 67 (0, 0))) := ⟨by rw [← hq_]; exact (blkt BK477)⟩; have n2_ : Aside0 (Below w.heap.size w w11) := ⟨by rw [← hq_]; exact (belt HB)⟩; clear BK476 BK477 HB hq_; have BK476 := n0_; have BK477 := n1_; have HB := n2_; clear n0_ n1_ n2_)); have hnb12 := NB476_477.out; have hnc12 := NB477_476.out; have hcz13_0 : w11.cell? ⟨gb476, 0, none⟩ = some (.int .i64 a1_0) := (blk_cell BK476.out 0).trans rfl; have hcz13_1 : w11.cell? ⟨gb476, 1, none⟩ = some (.int .u64 a1_1) := (blk_cell BK476.out 1).trans rfl; have hfz13_0 := blk_frozen BK476.out 0; have hfz13_1 := blk_frozen BK476.out 1) | ((with_reducible refine gate_callee (f := 70) rfl ?_); refine goesL_ (some 21) rfl rfl Try.func70 (by kernel_rfl) rfl #[.agg #[.int .i64 a1_0, .int .u64 a1_1], .int .u64 (IntKind.u64.wrap (a2))] rfl argt ?_; (with_reducible refine (wide_Int_Div.calls k a1_0 a1_1 (IntKind.u64.wrap (a2)) t479 t480 t481 t482 _ A6.out).mono ?_); rintro e w14 ⟨rfl, hb⟩; refine ⟨_, rfl, ?_⟩; have n0_ := blkb BK476 hb; have n1_ := blkb BK477 hb; have n2_ := belb HB hb; clear BK476; clear BK477; clear HB; have BK476 := n0_; have BK477 := n1_; have HB := n2_; clear n0_ n1_ n2_; (try clear hb); (try clear hb2); (try clear hk); (try clear hi)) | ((with_reducible refine gate_dst (N := 8) rfl ?_); refine box_event ?hg (N := 8) ?hd (cs := #[.int .i64 0, .int .u64 0]) (t := 59) ?hr ?_; (case hd => rfl); (case hg => rfl); (case hr => first | (go_simp; done) | (go_simp; rfl)); intro gb483 hg w15 hbox hb; have n0_ := blkb BK476 hb; have n1_ := blkb BK477 hb; have n2_ := belb HB hb; have n3_ := Aside0.mk (hbox); have n4_ := bels HB hg; have n5_ := bels HB hg; have n6_ := blkl BK476 hg; have n7_ := blkg BK476 hg; have n8_ := blkl BK477 hg; have n9_ := blkg BK477 hg; clear BK476; clear BK477; clear HB; have BK476 := n0_; have BK477 := n1_; have HB := n2_; have BK483 := n3_; have GW483 := n4_; have GE483 := n5_; have NB476_483 := n6_; have NB483_476 := n7_; have NB477_483 := n8_; have NB483_477 := n9_; clear n0_ n1_ n2_ n3_ n4_ n5_ n6_ n7_ n8_ n9_; clear hb hbox hg; have hnb16 := NB483_476.out; have hnc16 := NB476_483.out; have hnb17 := NB483_477.out; have hnc17 := NB477_483.out; have hcz18_0 : w15.cell? ⟨gb483, 0, none⟩ = some (.int .i64 0) := (blk_cell BK483.out 0).trans rfl; have hcz18_1 : w15.cell? ⟨gb483, 1, none⟩ = some (.int .u64 0) := (blk_cell BK483.out 1).trans rfl; have hfz18_0 := blk_frozen BK483.out 0; have hfz18_1 := blk_frozen BK483.out 1) | ((with_reducible refine gate_callee (f := 76) rfl ?_); refine goesL_ (some 27) rfl rfl Try.func76 (by kernel_rfl) rfl #[.agg #[.int .i64 t479, .int .u64 t480]] rfl argt ?_; (with_reducible refine (wide_Int_Small.calls t479 t480 t484 true _ A7.out).mono ?_); rintro e w19 ⟨rfl, hb⟩; refine ⟨_, rfl, ?_⟩; have n0_ := Aside0.mk (blk_below (g := gb476) (o := .cells #[.int .i64 a1_0, .int .u64 a1_1] 59 (0, 0)) (by (with_reducible repeat (first | refine blk_drewN ?_ _ | refine blk_drew ?_ | refine blk_alloc ?_ _)); refine blk_far ?_ NB476_483.out _; (with_reducible repeat (first | refine blk_drewN ?_ _ | refine blk_drew ?_ | refine blk_alloc ?_ _)); refine blk_far ?_ NB476_483.out _; (with_reducible repeat (first | refine blk_drewN ?_ _ | refine blk_drew ?_ | refine blk_alloc ?_ _)); exact BK476.out) hb); have n1_ := Aside0.mk (blk_below (g := gb477) (o := .cells #[.int .u64 0, .int .u32 0, .int .u32 0] 67 (0, 0)) (by (with_reducible repeat (first | refine blk_drewN ?_ _ | refine blk_drew ?_ | refine blk_alloc ?_ _)); refine blk_far ?_ NB477_483.out _; (with_reducible repeat (first | refine blk_drewN ?_ _ | refine blk_drew ?_ | refine blk_alloc ?_ _)); refine blk_far ?_ NB477_483.out _; (with_reducible repeat (first | refine blk_drewN ?_ _ | refine blk_drew ?_ | refine blk_alloc ?_ _)); exact BK477.out) hb); have n2_ := Aside0.mk (blk_below (g := gb483) (o := .cells #[.int .i64 t479, .int .u64 t480] 59 (0, 0)) (by (with_reducible repeat (first | refine blk_drewN ?_ _ | refine blk_drew ?_ | refine blk_alloc ?_ _)); refine blk_put (cs := #[.int .i64 t479, .int .u64 0]) ?_ 1 _ rfl; (with_reducible repeat (first | refine blk_drewN ?_ _ | refine blk_drew ?_ | refine blk_alloc ?_ _)); refine blk_put (cs := #[.int .i64 0, .int .u64 0]) ?_ 0 _ rfl; (with_reducible repeat (first | refine blk_drewN ?_ _ | refine blk_drew ?_ | refine blk_alloc ?_ _)); exact BK483.out) hb); have n3_ := belb HB hb; clear BK476; clear BK477; clear BK483; clear HB; have BK476 := n0_; have BK477 := n1_; have BK483 := n2_; have HB := n3_; clear n0_ n1_ n2_ n3_; (try clear hb); (try clear hb2); (try clear hk); (try clear hi)) | ((with_reducible refine gate_callee (f := 25) rfl ?_); refine goesL_ (some 35) rfl rfl Try.func25 (by kernel_rfl) rfl #[.int .u64 a0, .int .i64 t484] rfl argt ?_; (with_reducible refine (vtime_Time_Add.calls a0 t484 t486 _ A9.out).mono ?_); rintro e w' ⟨rfl, ⟨nd, rfl⟩⟩; refine ⟨_, rfl, ?_⟩; (try (rw [drewN_self w19]; generalize hq_ : World.drewN w19 _ = w19; have n0_ : Aside0 (w19.heap[gb476]? = some (.cells #[.int .i64 a1_0, .int .u64 a1_1] 59 (0, 0))) := ⟨by rw [← hq_]; exact (blkt BK476)⟩; have n1_ : Aside0 (w19.heap[gb477]? = some (.cells #[.int .u64 0, .int .u32 0, .int .u32 0] 67 (0, 0))) := ⟨by rw [← hq_]; exact (blkt BK477)⟩; have n2_ : Aside0 (w19.heap[gb483]? = some (.cells #[.int .i64 t479, .int .u64 t480] 59 (0, 0))) := ⟨by rw [← hq_]; exact (blkt BK483)⟩; have n3_ : Aside0 (Below w.heap.size w w19) := ⟨by rw [← hq_]; exact (belt HB)⟩; clear BK476 BK477 BK483 HB hq_; have BK476 := n0_; have BK477 := n1_; have BK483 := n2_; have HB := n3_; clear n0_ n1_ n2_ n3_)); have hcz20_0 : w19.cell? ⟨gb477, 0, none⟩ = some (.int .u64 0) := (blk_cell BK477.out 0).trans rfl; have hcz20_1 : w19.cell? ⟨gb477, 1, none⟩ = some (.int .u32 0) := (blk_cell BK477.out 1).trans rfl; have hcz20_2 : w19.cell? ⟨gb477, 2, none⟩ = some (.int .u32 0) := (blk_cell BK477.out 2).trans rfl; have hfz20_0 := blk_frozen BK477.out 0; have hfz20_1 := blk_frozen BK477.out 1; have hfz20_2 := blk_frozen BK477.out 2))
   refine bodyPost_ret (results_ct rfl _ _ gb477 67 #[.int .u64 t486, .int .u32 ((t481) % 4294967296), .int .u32 a2] (0, 0) _ rfl (by (with_reducible repeat (first | refine blk_drewN ?_ _ | refine blk_drew ?_ | refine blk_alloc ?_ _)); refine blk_put (cs := #[.int .u64 t486, .int .u32 ((t481) % 4294967296), .int .u32 0]) ?_ 2 _ rfl; (with_reducible repeat (first | refine blk_drewN ?_ _ | refine blk_drew ?_ | refine blk_alloc ?_ _)); refine blk_put (cs := #[.int .u64 t486, .int .u32 0, .int .u32 0]) ?_ 1 _ rfl; (with_reducible repeat (first | refine blk_drewN ?_ _ | refine blk_drew ?_ | refine blk_alloc ?_ _)); refine blk_put (cs := #[.int .u64 0, .int .u32 0, .int .u32 0]) ?_ 0 _ rfl; (with_reducible repeat (first | refine blk_drewN ?_ _ | refine blk_drew ?_ | refine blk_alloc ?_ _)); exact BK477.out) Try.underlying67 rfl (by kernel_rfl)) rfl ?_
   exact ⟨by first | rfl | (simp [errW_none, errW_some] <;> rfl) | (simp [*, errW_none, errW_some] <;> rfl), by repeat (first | (with_reducible first | exact HB.out | apply below_alloc | apply pw_below_drewN | apply below_drew1 | refine below_set ?_ GE476.out | refine below_set ?_ GE477.out | refine below_set ?_ GE483.out) | exact HB.out)⟩
  ·replace c8 := Bool.eq_false_iff.mpr c8
   subst c8
   have H1 : (some (0, 0, 0, false)) = some (r1, r2, r3, r4) := by rw [if_neg (show ¬ (false = true) by decide)] at H; exact H
   clear H
   have H := H1
   clear H1
   simp only [Option.some.injEq, Prod.mk.injEq] at H
   obtain ⟨rfl, rfl, rfl, rfl⟩ := H
   go_enter Try.func45, Try.ntmps45
   go_wp2_with (first | ((with_reducible refine gate_dst (N := 4) rfl ?_); refine box_event ?hg (N := 4) ?hd (cs := #[.int .i64 a1_0, .int .u64 a1_1]) (t := 59) ?hr ?_; (case hd => rfl); (case hg => rfl); (case hr => first | (go_simp; done) | (go_simp; rfl)); intro gb476 hg w21 hbox hb; have n0_ := belb HB hb; have n1_ := Aside0.mk (hbox); have n2_ := bels HB hg; have n3_ := bels HB hg; clear HB; have HB := n0_; have BK476 := n1_; have GW476 := n2_; have GE476 := n3_; clear n0_ n1_ n2_ n3_; clear hb hbox hg) | ((with_reducible refine gate_dst (N := 6) rfl ?_); refine box_event ?hg (N := 6) ?hd (cs := #[.int .u64 0, .int .u32 0, .int .u32 0]) (t := 67) ?hr ?_; (case hd => rfl); (case hg => rfl); (case hr => first | (go_simp; done) | (go_simp; rfl)); intro gb477 hg w22 hbox hb; have n0_ := blkb BK476 hb; have n1_ := belb HB hb; have n2_ := Aside0.mk (hbox); have n3_ := bels HB hg; have n4_ := bels HB hg; have n5_ := blkl BK476 hg; have n6_ := blkg BK476 hg; clear BK476; clear HB; have BK476 := n0_; have HB := n1_; have BK477 := n2_; have GW477 := n3_; have GE477 := n4_; have NB476_477 := n5_; have NB477_476 := n6_; clear n0_ n1_ n2_ n3_ n4_ n5_ n6_; clear hb hbox hg) | ((with_reducible refine gate_callee (f := 75) rfl ?_); refine goesL_ (some 14) rfl rfl Try.func75 (by kernel_rfl) rfl #[.int .u32 a2] rfl argt ?_; (with_reducible refine (pos_weight.calls a2 true _ A4.out).mono ?_); rintro e w' ⟨rfl, ⟨nd, rfl⟩⟩; refine ⟨_, rfl, ?_⟩; (try (rw [drewN_self w22]; generalize hq_ : World.drewN w22 _ = w22; have n0_ : Aside0 (w22.heap[gb476]? = some (.cells #[.int .i64 a1_0, .int .u64 a1_1] 59 (0, 0))) := ⟨by rw [← hq_]; exact (blkt BK476)⟩; have n1_ : Aside0 (w22.heap[gb477]? = some (.cells #[.int .u64 0, .int .u32 0, .int .u32 0] 67 (0, 0))) := ⟨by rw [← hq_]; exact (blkt BK477)⟩; have n2_ : Aside0 (Below w.heap.size w w22) := ⟨by rw [← hq_]; exact (belt HB)⟩; clear BK476 BK477 HB hq_; have BK476 := n0_; have BK477 := n1_; have HB := n2_; clear n0_ n1_ n2_)); have hnb23 := NB476_477.out; have hnc23 := NB477_476.out; have hcz24_0 : w22.cell? ⟨gb476, 0, none⟩ = some (.int .i64 a1_0) := (blk_cell BK476.out 0).trans rfl; have hcz24_1 : w22.cell? ⟨gb476, 1, none⟩ = some (.int .u64 a1_1) := (blk_cell BK476.out 1).trans rfl; have hfz24_0 := blk_frozen BK476.out 0; have hfz24_1 := blk_frozen BK476.out 1) | ((with_reducible refine gate_callee (f := 70) rfl ?_); refine goesL_ (some 21) rfl rfl Try.func70 (by kernel_rfl) rfl #[.agg #[.int .i64 a1_0, .int .u64 a1_1], .int .u64 (IntKind.u64.wrap (a2))] rfl argt ?_; (with_reducible refine (wide_Int_Div.calls k a1_0 a1_1 (IntKind.u64.wrap (a2)) t479 t480 t481 t482 _ A6.out).mono ?_); rintro e w25 ⟨rfl, hb⟩; refine ⟨_, rfl, ?_⟩; have n0_ := blkb BK476 hb; have n1_ := blkb BK477 hb; have n2_ := belb HB hb; clear BK476; clear BK477; clear HB; have BK476 := n0_; have BK477 := n1_; have HB := n2_; clear n0_ n1_ n2_; (try clear hb); (try clear hb2); (try clear hk); (try clear hi)) | ((with_reducible refine gate_dst (N := 8) rfl ?_); refine box_event ?hg (N := 8) ?hd (cs := #[.int .i64 0, .int .u64 0]) (t := 59) ?hr ?_; (case hd => rfl); (case hg => rfl); (case hr => first | (go_simp; done) | (go_simp; rfl)); intro gb483 hg w26 hbox hb; have n0_ := blkb BK476 hb; have n1_ := blkb BK477 hb; have n2_ := belb HB hb; have n3_ := Aside0.mk (hbox); have n4_ := bels HB hg; have n5_ := bels HB hg; have n6_ := blkl BK476 hg; have n7_ := blkg BK476 hg; have n8_ := blkl BK477 hg; have n9_ := blkg BK477 hg; clear BK476; clear BK477; clear HB; have BK476 := n0_; have BK477 := n1_; have HB := n2_; have BK483 := n3_; have GW483 := n4_; have GE483 := n5_; have NB476_483 := n6_; have NB483_476 := n7_; have NB477_483 := n8_; have NB483_477 := n9_; clear n0_ n1_ n2_ n3_ n4_ n5_ n6_ n7_ n8_ n9_; clear hb hbox hg; have hnb27 := NB483_476.out; have hnc27 := NB476_483.out; have hnb28 := NB483_477.out; have hnc28 := NB477_483.out; have hcz29_0 : w26.cell? ⟨gb483, 0, none⟩ = some (.int .i64 0) := (blk_cell BK483.out 0).trans rfl; have hcz29_1 : w26.cell? ⟨gb483, 1, none⟩ = some (.int .u64 0) := (blk_cell BK483.out 1).trans rfl; have hfz29_0 := blk_frozen BK483.out 0; have hfz29_1 := blk_frozen BK483.out 1) | ((with_reducible refine gate_callee (f := 76) rfl ?_); refine goesL_ (some 27) rfl rfl Try.func76 (by kernel_rfl) rfl #[.agg #[.int .i64 t479, .int .u64 t480]] rfl argt ?_; (with_reducible refine (wide_Int_Small.calls t479 t480 t484 false _ A7.out).mono ?_); rintro e w30 ⟨rfl, hb⟩; refine ⟨_, rfl, ?_⟩; have n0_ := Aside0.mk (blk_below (g := gb476) (o := .cells #[.int .i64 a1_0, .int .u64 a1_1] 59 (0, 0)) (by (with_reducible repeat (first | refine blk_drewN ?_ _ | refine blk_drew ?_ | refine blk_alloc ?_ _)); refine blk_far ?_ NB476_483.out _; (with_reducible repeat (first | refine blk_drewN ?_ _ | refine blk_drew ?_ | refine blk_alloc ?_ _)); refine blk_far ?_ NB476_483.out _; (with_reducible repeat (first | refine blk_drewN ?_ _ | refine blk_drew ?_ | refine blk_alloc ?_ _)); exact BK476.out) hb); have n1_ := Aside0.mk (blk_below (g := gb477) (o := .cells #[.int .u64 0, .int .u32 0, .int .u32 0] 67 (0, 0)) (by (with_reducible repeat (first | refine blk_drewN ?_ _ | refine blk_drew ?_ | refine blk_alloc ?_ _)); refine blk_far ?_ NB477_483.out _; (with_reducible repeat (first | refine blk_drewN ?_ _ | refine blk_drew ?_ | refine blk_alloc ?_ _)); refine blk_far ?_ NB477_483.out _; (with_reducible repeat (first | refine blk_drewN ?_ _ | refine blk_drew ?_ | refine blk_alloc ?_ _)); exact BK477.out) hb); have n2_ := Aside0.mk (blk_below (g := gb483) (o := .cells #[.int .i64 t479, .int .u64 t480] 59 (0, 0)) (by (with_reducible repeat (first | refine blk_drewN ?_ _ | refine blk_drew ?_ | refine blk_alloc ?_ _)); refine blk_put (cs := #[.int .i64 t479, .int .u64 0]) ?_ 1 _ rfl; (with_reducible repeat (first | refine blk_drewN ?_ _ | refine blk_drew ?_ | refine blk_alloc ?_ _)); refine blk_put (cs := #[.int .i64 0, .int .u64 0]) ?_ 0 _ rfl; (with_reducible repeat (first | refine blk_drewN ?_ _ | refine blk_drew ?_ | refine blk_alloc ?_ _)); exact BK483.out) hb); have n3_ := belb HB hb; clear BK476; clear BK477; clear BK483; clear HB; have BK476 := n0_; have BK477 := n1_; have BK483 := n2_; have HB := n3_; clear n0_ n1_ n2_ n3_; (try clear hb); (try clear hb2); (try clear hk); (try clear hi); have hcz31_0 : w30.cell? ⟨gb477, 0, none⟩ = some (.int .u64 0) := (blk_cell BK477.out 0).trans rfl; have hcz31_1 : w30.cell? ⟨gb477, 1, none⟩ = some (.int .u32 0) := (blk_cell BK477.out 1).trans rfl; have hcz31_2 : w30.cell? ⟨gb477, 2, none⟩ = some (.int .u32 0) := (blk_cell BK477.out 2).trans rfl; have hfz31_0 := blk_frozen BK477.out 0; have hfz31_1 := blk_frozen BK477.out 1; have hfz31_2 := blk_frozen BK477.out 2))
   refine bodyPost_ret (results_ct rfl _ _ gb477 67 #[.int .u64 0, .int .u32 0, .int .u32 0] (0, 0) _ rfl (by (with_reducible repeat (first | refine blk_drewN ?_ _ | refine blk_drew ?_ | refine blk_alloc ?_ _)); refine blk_put (cs := #[.int .u64 0, .int .u32 0, .int .u32 0]) ?_ 2 _ rfl; (with_reducible repeat (first | refine blk_drewN ?_ _ | refine blk_drew ?_ | refine blk_alloc ?_ _)); refine blk_put (cs := #[.int .u64 0, .int .u32 0, .int .u32 0]) ?_ 1 _ rfl; (with_reducible repeat (first | refine blk_drewN ?_ _ | refine blk_drew ?_ | refine blk_alloc ?_ _)); refine blk_put (cs := #[.int .u64 0, .int .u32 0, .int .u32 0]) ?_ 0 _ rfl; (with_reducible repeat (first | refine blk_drewN ?_ _ | refine blk_drew ?_ | refine blk_alloc ?_ _)); exact BK477.out) Try.underlying67 rfl (by kernel_rfl)) rfl ?_
   exact ⟨by first | rfl | (simp [errW_none, errW_some] <;> rfl) | (simp [*, errW_none, errW_some] <;> rfl), by repeat (first | (with_reducible first | exact HB.out | apply below_alloc | apply pw_below_drewN | apply below_drew1 | refine below_set ?_ GE476.out | refine below_set ?_ GE477.out | refine below_set ?_ GE483.out) | exact HB.out)⟩
 ·replace c5 := Bool.eq_false_iff.mpr c5
  subst c5
  have H1 : (some (0, 0, 0, false)) = some (r1, r2, r3, r4) := by rw [if_neg (show ¬ (false = true) by decide)] at H; exact H
  clear H
  have H := H1
  clear H1
  simp only [Option.some.injEq, Prod.mk.injEq] at H
  obtain ⟨rfl, rfl, rfl, rfl⟩ := H
  go_enter Try.func45, Try.ntmps45
  go_wp2_with (first | ((with_reducible refine gate_dst (N := 4) rfl ?_); refine box_event ?hg (N := 4) ?hd (cs := #[.int .i64 a1_0, .int .u64 a1_1]) (t := 59) ?hr ?_; (case hd => rfl); (case hg => rfl); (case hr => first | (go_simp; done) | (go_simp; rfl)); intro gb476 hg w32 hbox hb; have n0_ := belb HB hb; have n1_ := Aside0.mk (hbox); have n2_ := bels HB hg; have n3_ := bels HB hg; clear HB; have HB := n0_; have BK476 := n1_; have GW476 := n2_; have GE476 := n3_; clear n0_ n1_ n2_ n3_; clear hb hbox hg) | ((with_reducible refine gate_dst (N := 6) rfl ?_); refine box_event ?hg (N := 6) ?hd (cs := #[.int .u64 0, .int .u32 0, .int .u32 0]) (t := 67) ?hr ?_; (case hd => rfl); (case hg => rfl); (case hr => first | (go_simp; done) | (go_simp; rfl)); intro gb477 hg w33 hbox hb; have n0_ := blkb BK476 hb; have n1_ := belb HB hb; have n2_ := Aside0.mk (hbox); have n3_ := bels HB hg; have n4_ := bels HB hg; have n5_ := blkl BK476 hg; have n6_ := blkg BK476 hg; clear BK476; clear HB; have BK476 := n0_; have HB := n1_; have BK477 := n2_; have GW477 := n3_; have GE477 := n4_; have NB476_477 := n5_; have NB477_476 := n6_; clear n0_ n1_ n2_ n3_ n4_ n5_ n6_; clear hb hbox hg) | ((with_reducible refine gate_callee (f := 75) rfl ?_); refine goesL_ (some 14) rfl rfl Try.func75 (by kernel_rfl) rfl #[.int .u32 a2] rfl argt ?_; (with_reducible refine (pos_weight.calls a2 false _ A4.out).mono ?_); rintro e w' ⟨rfl, ⟨nd, rfl⟩⟩; refine ⟨_, rfl, ?_⟩; (try (rw [drewN_self w33]; generalize hq_ : World.drewN w33 _ = w33; have n0_ : Aside0 (w33.heap[gb476]? = some (.cells #[.int .i64 a1_0, .int .u64 a1_1] 59 (0, 0))) := ⟨by rw [← hq_]; exact (blkt BK476)⟩; have n1_ : Aside0 (w33.heap[gb477]? = some (.cells #[.int .u64 0, .int .u32 0, .int .u32 0] 67 (0, 0))) := ⟨by rw [← hq_]; exact (blkt BK477)⟩; have n2_ : Aside0 (Below w.heap.size w w33) := ⟨by rw [← hq_]; exact (belt HB)⟩; clear BK476 BK477 HB hq_; have BK476 := n0_; have BK477 := n1_; have HB := n2_; clear n0_ n1_ n2_)); have hnb34 := NB477_476.out; have hnc34 := NB476_477.out; have hcz35_0 : w33.cell? ⟨gb477, 0, none⟩ = some (.int .u64 0) := (blk_cell BK477.out 0).trans rfl; have hcz35_1 : w33.cell? ⟨gb477, 1, none⟩ = some (.int .u32 0) := (blk_cell BK477.out 1).trans rfl; have hcz35_2 : w33.cell? ⟨gb477, 2, none⟩ = some (.int .u32 0) := (blk_cell BK477.out 2).trans rfl; have hfz35_0 := blk_frozen BK477.out 0; have hfz35_1 := blk_frozen BK477.out 1; have hfz35_2 := blk_frozen BK477.out 2))
  refine bodyPost_ret (results_ct rfl _ _ gb477 67 #[.int .u64 0, .int .u32 0, .int .u32 0] (0, 0) _ rfl (by (with_reducible repeat (first | refine blk_drewN ?_ _ | refine blk_drew ?_ | refine blk_alloc ?_ _)); refine blk_put (cs := #[.int .u64 0, .int .u32 0, .int .u32 0]) ?_ 2 _ rfl; (with_reducible repeat (first | refine blk_drewN ?_ _ | refine blk_drew ?_ | refine blk_alloc ?_ _)); refine blk_put (cs := #[.int .u64 0, .int .u32 0, .int .u32 0]) ?_ 1 _ rfl; (with_reducible repeat (first | refine blk_drewN ?_ _ | refine blk_drew ?_ | refine blk_alloc ?_ _)); refine blk_put (cs := #[.int .u64 0, .int .u32 0, .int .u32 0]) ?_ 0 _ rfl; (with_reducible repeat (first | refine blk_drewN ?_ _ | refine blk_drew ?_ | refine blk_alloc ?_ _)); exact BK477.out) Try.underlying67 rfl (by kernel_rfl)) rfl ?_
  exact ⟨by first | rfl | (simp [errW_none, errW_some] <;> rfl) | (simp [*, errW_none, errW_some] <;> rfl), by repeat (first | (with_reducible first | exact HB.out | apply below_alloc | apply pw_below_drewN | apply below_drew1 | refine below_set ?_ GE476.out | refine below_set ?_ GE477.out) | exact HB.out)⟩

/-! ### wide_Int_Add: function 81 -/
def wide_Int_Add.f (a0_0 : Int) (a0_1 : Int) (a1_0 : Int) (a1_1 : Int) : Option (Int × Int × Bool) := if (addHi a0_1 a1_1 0) ≤ 1 then (if ((decide (a0_0 < 0)) == (decide (a1_0 < 0))) = true then (if ((decide (a0_0 < 0)) != (decide ((wrap64 ((addLo (IntKind.u64.wrap (a0_0)) (IntKind.u64.wrap (a1_0)) (addHi a0_1 a1_1 0)))) < 0))) = true then (some (0, 0, false)) else (some (wrap64 ((addLo (IntKind.u64.wrap (a0_0)) (IntKind.u64.wrap (a1_0)) (addHi a0_1 a1_1 0))), (addLo a0_1 a1_1 0), true))) else (some (wrap64 ((addLo (IntKind.u64.wrap (a0_0)) (IntKind.u64.wrap (a1_0)) (addHi a0_1 a1_1 0))), (addLo a0_1 a1_1 0), true))) else (none)
set_option maxHeartbeats 8000000 in
set_option maxRecDepth 100000 in
theorem wide_Int_Add.calls (a0_0 : Int) (a0_1 : Int) (a1_0 : Int) (a1_1 : Int) (r1 : Int) (r2 : Int) (r3 : Bool) (w : World) (h : wide_Int_Add.f a0_0 a0_1 a1_0 a1_1 = some (r1, r2, r3)) :
  Calls Try.prog 81 #[.agg #[.int .i64 a0_0, .int .u64 a0_1], .agg #[.int .i64 a1_0, .int .u64 a1_1]] w fun e w' => e = .returned (.tuple #[.agg #[.int .i64 r1, .int .u64 r2], .bool r3]) ∧ Below w.heap.size w w' := by
 have hu59 := Try.underlying59
 have HB := Aside0.mk (Below.refl w.heap.size w)
 have H : (if (addHi a0_1 a1_1 0) ≤ 1 then (if ((decide (a0_0 < 0)) == (decide (a1_0 < 0))) = true then (if ((decide (a0_0 < 0)) != (decide ((wrap64 ((addLo (IntKind.u64.wrap (a0_0)) (IntKind.u64.wrap (a1_0)) (addHi a0_1 a1_1 0)))) < 0))) = true then (some (0, 0, false)) else (some (wrap64 ((addLo (IntKind.u64.wrap (a0_0)) (IntKind.u64.wrap (a1_0)) (addHi a0_1 a1_1 0))), (addLo a0_1 a1_1 0), true))) else (some (wrap64 ((addLo (IntKind.u64.wrap (a0_0)) (IntKind.u64.wrap (a1_0)) (addHi a0_1 a1_1 0))), (addLo a0_1 a1_1 0), true))) else (none)) = some (r1, r2, r3) := h
 clear h
 by_cases c3 : (addHi a0_1 a1_1 0) ≤ 1
 ·rw [if_pos c3] at H
  have c3b0 : decide ((addHi a0_1 a1_1 0) ≤ 1) = true := decide_eq_true c3
  clear c3
  by_cases c4 : ((decide (a0_0 < 0)) == (decide (a1_0 < 0))) = true
  ·rw [if_pos c4] at H
   have c4b0 : ((decide (a0_0 < 0)) == (decide (a1_0 < 0))) = true := c4
   (try (have c4b1 : decide ((decide (a0_0 < 0)) = (decide (a1_0 < 0))) = true := by simpa using c4))
   (try (have c4b2 : ((decide (a0_0 < 0)) == (decide (a1_0 < 0))) = true := by simpa using c4))
   clear c4
   by_cases c5 : ((decide (a0_0 < 0)) != (decide ((wrap64 ((addLo (IntKind.u64.wrap (a0_0)) (IntKind.u64.wrap (a1_0)) (addHi a0_1 a1_1 0)))) < 0))) = true
   ·rw [if_pos c5] at H
    have c5b0 : ((decide (a0_0 < 0)) != (decide ((wrap64 ((addLo (IntKind.u64.wrap (a0_0)) (IntKind.u64.wrap (a1_0)) (addHi a0_1 a1_1 0)))) < 0))) = true := c5
    (try (have c5b1 : decide ((decide (a0_0 < 0)) = (decide ((wrap64 ((addLo (IntKind.u64.wrap (a0_0)) (IntKind.u64.wrap (a1_0)) (addHi a0_1 a1_1 0)))) < 0))) = false := by simpa using c5))
    (try (have c5b2 : ((decide (a0_0 < 0)) == (decide ((wrap64 ((addLo (IntKind.u64.wrap (a0_0)) (IntKind.u64.wrap (a1_0)) (addHi a0_1 a1_1 0)))) < 0))) = false := by simpa using c5))
    (try (have c5b3 : ¬ ((decide (a0_0 < 0)) = (decide ((wrap64 ((addLo (IntKind.u64.wrap (a0_0)) (IntKind.u64.wrap (a1_0)) (addHi a0_1 a1_1 0)))) < 0))) := by simpa using c5))
    clear c5
    simp only [Option.some.injEq, Prod.mk.injEq] at H
    obtain ⟨rfl, rfl, rfl⟩ := H
    go_enter Try.func81, Try.ntmps81
    go_wp2_with (first | ((with_reducible refine gate_dst (N := 2) rfl ?_); refine box_event ?hg (N := 2) ?hd (cs := #[.int .i64 a0_0, .int .u64 a0_1]) (t := 59) ?hr ?_; (case hd => rfl); (case hg => rfl); (case hr => first | (go_simp; done) | (go_simp; rfl)); intro gb487 hg w6 hbox hb; have n0_ := belb HB hb; have n1_ := Aside0.mk (hbox); have n2_ := bels HB hg; have n3_ := bels HB hg; clear HB; have HB := n0_; have BK487 := n1_; have GW487 := n2_; have GE487 := n3_; clear n0_ n1_ n2_ n3_; clear hb hbox hg) | ((with_reducible refine gate_dst (N := 3) rfl ?_); refine box_event ?hg (N := 3) ?hd (cs := #[.int .i64 a1_0, .int .u64 a1_1]) (t := 59) ?hr ?_; (case hd => rfl); (case hg => rfl); (case hr => first | (go_simp; done) | (go_simp; rfl)); intro gb488 hg w7 hbox hb; have n0_ := blkb BK487 hb; have n1_ := belb HB hb; have n2_ := Aside0.mk (hbox); have n3_ := bels HB hg; have n4_ := bels HB hg; have n5_ := blkl BK487 hg; have n6_ := blkg BK487 hg; clear BK487; clear HB; have BK487 := n0_; have HB := n1_; have BK488 := n2_; have GW488 := n3_; have GE488 := n4_; have NB487_488 := n5_; have NB488_487 := n6_; clear n0_ n1_ n2_ n3_ n4_ n5_ n6_; clear hb hbox hg) | ((with_reducible refine gate_dst (N := 4) rfl ?_); refine box_event ?hg (N := 4) ?hd (cs := #[.int .i64 0, .int .u64 0]) (t := 59) ?hr ?_; (case hd => rfl); (case hg => rfl); (case hr => first | (go_simp; done) | (go_simp; rfl)); intro gb489 hg w8 hbox hb; have n0_ := blkb BK487 hb; have n1_ := blkb BK488 hb; have n2_ := belb HB hb; have n3_ := Aside0.mk (hbox); have n4_ := bels HB hg; have n5_ := bels HB hg; have n6_ := blkl BK487 hg; have n7_ := blkg BK487 hg; have n8_ := blkl BK488 hg; have n9_ := blkg BK488 hg; clear BK487; clear BK488; clear HB; have BK487 := n0_; have BK488 := n1_; have HB := n2_; have BK489 := n3_; have GW489 := n4_; have GE489 := n5_; have NB487_489 := n6_; have NB489_487 := n7_; have NB488_489 := n8_; have NB489_488 := n9_; clear n0_ n1_ n2_ n3_ n4_ n5_ n6_ n7_ n8_ n9_; clear hb hbox hg; have hnb9 := NB487_488.out; have hnc9 := NB488_487.out; have hnb10 := NB487_489.out; have hnc10 := NB489_487.out; have hcz11_0 : w8.cell? ⟨gb487, 0, none⟩ = some (.int .i64 a0_0) := (blk_cell BK487.out 0).trans rfl; have hcz11_1 : w8.cell? ⟨gb487, 1, none⟩ = some (.int .u64 a0_1) := (blk_cell BK487.out 1).trans rfl; have hfz11_0 := blk_frozen BK487.out 0; have hfz11_1 := blk_frozen BK487.out 1; have hnb12 := NB488_489.out; have hnc12 := NB489_488.out; have hcz13_0 : w8.cell? ⟨gb488, 0, none⟩ = some (.int .i64 a1_0) := (blk_cell BK488.out 0).trans rfl; have hcz13_1 : w8.cell? ⟨gb488, 1, none⟩ = some (.int .u64 a1_1) := (blk_cell BK488.out 1).trans rfl; have hfz13_0 := blk_frozen BK488.out 0; have hfz13_1 := blk_frozen BK488.out 1) | ((with_reducible refine gate_dst (N := 10) rfl ?_); refine box_event ?hg (N := 10) ?hd (cs := #[.int .i64 0, .int .u64 0]) (t := 59) ?hr ?_; (case hd => rfl); (case hg => rfl); (case hr => first | (go_simp; done) | (go_simp; rfl)); intro gb490 hg w14 hbox hb; have n0_ := blkb BK487 hb; have n1_ := blkb BK488 hb; have n2_ := blkb BK489 hb; have n3_ := belb HB hb; have n4_ := Aside0.mk (hbox); have n5_ := bels HB hg; have n6_ := bels HB hg; have n7_ := blkl BK487 hg; have n8_ := blkg BK487 hg; have n9_ := blkl BK488 hg; have n10_ := blkg BK488 hg; have n11_ := blkl BK489 hg; have n12_ := blkg BK489 hg; clear BK487; clear BK488; clear BK489; clear HB; have BK487 := n0_; have BK488 := n1_; have BK489 := n2_; have HB := n3_; have BK490 := n4_; have GW490 := n5_; have GE490 := n6_; have NB487_490 := n7_; have NB490_487 := n8_; have NB488_490 := n9_; have NB490_488 := n10_; have NB489_490 := n11_; have NB490_489 := n12_; clear n0_ n1_ n2_ n3_ n4_ n5_ n6_ n7_ n8_ n9_ n10_ n11_ n12_; clear hb hbox hg; have hnb15 := NB490_487.out; have hnc15 := NB487_490.out; have hnb16 := NB490_488.out; have hnc16 := NB488_490.out; have hnb17 := NB490_489.out; have hnc17 := NB489_490.out; have hcz18_0 : w14.cell? ⟨gb490, 0, none⟩ = some (.int .i64 0) := (blk_cell BK490.out 0).trans rfl; have hcz18_1 : w14.cell? ⟨gb490, 1, none⟩ = some (.int .u64 0) := (blk_cell BK490.out 1).trans rfl; have hfz18_0 := blk_frozen BK490.out 0; have hfz18_1 := blk_frozen BK490.out 1; have hcz19_0 : w14.cell? ⟨gb487, 0, none⟩ = some (.int .i64 a0_0) := (blk_cell BK487.out 0).trans rfl; have hcz19_1 : w14.cell? ⟨gb487, 1, none⟩ = some (.int .u64 a0_1) := (blk_cell BK487.out 1).trans rfl; have hfz19_0 := blk_frozen BK487.out 0; have hfz19_1 := blk_frozen BK487.out 1; have hcz20_0 : w14.cell? ⟨gb488, 0, none⟩ = some (.int .i64 a1_0) := (blk_cell BK488.out 0).trans rfl; have hcz20_1 : w14.cell? ⟨gb488, 1, none⟩ = some (.int .u64 a1_1) := (blk_cell BK488.out 1).trans rfl; have hfz20_0 := blk_frozen BK488.out 0; have hfz20_1 := blk_frozen BK488.out 1; have hcz21_0 : w14.cell? ⟨gb489, 0, none⟩ = some (.int .i64 0) := (blk_cell BK489.out 0).trans rfl; have hcz21_1 : w14.cell? ⟨gb489, 1, none⟩ = some (.int .u64 0) := (blk_cell BK489.out 1).trans rfl; have hfz21_0 := blk_frozen BK489.out 0; have hfz21_1 := blk_frozen BK489.out 1))
    refine bodyPost_ret (results_ct rfl _ _ gb489 59 #[.int .i64 0, .int .u64 0] (0, 0) _ rfl (by (with_reducible repeat (first | refine blk_drewN ?_ _ | refine blk_drew ?_ | refine blk_alloc ?_ _)); refine blk_put (cs := #[.int .i64 0, .int .u64 0]) ?_ 1 _ rfl; (with_reducible repeat (first | refine blk_drewN ?_ _ | refine blk_drew ?_ | refine blk_alloc ?_ _)); refine blk_put (cs := #[.int .i64 0, .int .u64 0]) ?_ 0 _ rfl; (with_reducible repeat (first | refine blk_drewN ?_ _ | refine blk_drew ?_ | refine blk_alloc ?_ _)); refine blk_far ?_ NB489_490.out _; (with_reducible repeat (first | refine blk_drewN ?_ _ | refine blk_drew ?_ | refine blk_alloc ?_ _)); refine blk_far ?_ NB489_490.out _; (with_reducible repeat (first | refine blk_drewN ?_ _ | refine blk_drew ?_ | refine blk_alloc ?_ _)); exact BK489.out) Try.underlying59 rfl (by kernel_rfl)) rfl ?_
    exact ⟨by first | rfl | (simp [errW_none, errW_some] <;> rfl) | (simp [*, errW_none, errW_some] <;> rfl), by repeat (first | (with_reducible first | exact HB.out | apply below_alloc | apply pw_below_drewN | apply below_drew1 | refine below_set ?_ GE487.out | refine below_set ?_ GE488.out | refine below_set ?_ GE489.out | refine below_set ?_ GE490.out) | exact HB.out)⟩
   ·rw [if_neg c5] at H
    have c5b0 : ((decide (a0_0 < 0)) != (decide ((wrap64 ((addLo (IntKind.u64.wrap (a0_0)) (IntKind.u64.wrap (a1_0)) (addHi a0_1 a1_1 0)))) < 0))) = false := by simpa using c5
    (try (have c5b1 : decide ((decide (a0_0 < 0)) = (decide ((wrap64 ((addLo (IntKind.u64.wrap (a0_0)) (IntKind.u64.wrap (a1_0)) (addHi a0_1 a1_1 0)))) < 0))) = true := by simpa using c5))
    (try (have c5b2 : ((decide (a0_0 < 0)) == (decide ((wrap64 ((addLo (IntKind.u64.wrap (a0_0)) (IntKind.u64.wrap (a1_0)) (addHi a0_1 a1_1 0)))) < 0))) = true := by simpa using c5))
    clear c5
    simp only [Option.some.injEq, Prod.mk.injEq] at H
    obtain ⟨rfl, rfl, rfl⟩ := H
    go_enter Try.func81, Try.ntmps81
    go_wp2_with (first | ((with_reducible refine gate_dst (N := 2) rfl ?_); refine box_event ?hg (N := 2) ?hd (cs := #[.int .i64 a0_0, .int .u64 a0_1]) (t := 59) ?hr ?_; (case hd => rfl); (case hg => rfl); (case hr => first | (go_simp; done) | (go_simp; rfl)); intro gb487 hg w22 hbox hb; have n0_ := belb HB hb; have n1_ := Aside0.mk (hbox); have n2_ := bels HB hg; have n3_ := bels HB hg; clear HB; have HB := n0_; have BK487 := n1_; have GW487 := n2_; have GE487 := n3_; clear n0_ n1_ n2_ n3_; clear hb hbox hg) | ((with_reducible refine gate_dst (N := 3) rfl ?_); refine box_event ?hg (N := 3) ?hd (cs := #[.int .i64 a1_0, .int .u64 a1_1]) (t := 59) ?hr ?_; (case hd => rfl); (case hg => rfl); (case hr => first | (go_simp; done) | (go_simp; rfl)); intro gb488 hg w23 hbox hb; have n0_ := blkb BK487 hb; have n1_ := belb HB hb; have n2_ := Aside0.mk (hbox); have n3_ := bels HB hg; have n4_ := bels HB hg; have n5_ := blkl BK487 hg; have n6_ := blkg BK487 hg; clear BK487; clear HB; have BK487 := n0_; have HB := n1_; have BK488 := n2_; have GW488 := n3_; have GE488 := n4_; have NB487_488 := n5_; have NB488_487 := n6_; clear n0_ n1_ n2_ n3_ n4_ n5_ n6_; clear hb hbox hg) | ((with_reducible refine gate_dst (N := 4) rfl ?_); refine box_event ?hg (N := 4) ?hd (cs := #[.int .i64 0, .int .u64 0]) (t := 59) ?hr ?_; (case hd => rfl); (case hg => rfl); (case hr => first | (go_simp; done) | (go_simp; rfl)); intro gb489 hg w24 hbox hb; have n0_ := blkb BK487 hb; have n1_ := blkb BK488 hb; have n2_ := belb HB hb; have n3_ := Aside0.mk (hbox); have n4_ := bels HB hg; have n5_ := bels HB hg; have n6_ := blkl BK487 hg; have n7_ := blkg BK487 hg; have n8_ := blkl BK488 hg; have n9_ := blkg BK488 hg; clear BK487; clear BK488; clear HB; have BK487 := n0_; have BK488 := n1_; have HB := n2_; have BK489 := n3_; have GW489 := n4_; have GE489 := n5_; have NB487_489 := n6_; have NB489_487 := n7_; have NB488_489 := n8_; have NB489_488 := n9_; clear n0_ n1_ n2_ n3_ n4_ n5_ n6_ n7_ n8_ n9_; clear hb hbox hg; have hnb25 := NB487_488.out; have hnc25 := NB488_487.out; have hnb26 := NB487_489.out; have hnc26 := NB489_487.out; have hcz27_0 : w24.cell? ⟨gb487, 0, none⟩ = some (.int .i64 a0_0) := (blk_cell BK487.out 0).trans rfl; have hcz27_1 : w24.cell? ⟨gb487, 1, none⟩ = some (.int .u64 a0_1) := (blk_cell BK487.out 1).trans rfl; have hfz27_0 := blk_frozen BK487.out 0; have hfz27_1 := blk_frozen BK487.out 1; have hnb28 := NB488_489.out; have hnc28 := NB489_488.out; have hcz29_0 : w24.cell? ⟨gb488, 0, none⟩ = some (.int .i64 a1_0) := (blk_cell BK488.out 0).trans rfl; have hcz29_1 : w24.cell? ⟨gb488, 1, none⟩ = some (.int .u64 a1_1) := (blk_cell BK488.out 1).trans rfl; have hfz29_0 := blk_frozen BK488.out 0; have hfz29_1 := blk_frozen BK488.out 1) | ((with_reducible refine gate_dst (N := 10) rfl ?_); refine box_event ?hg (N := 10) ?hd (cs := #[.int .i64 0, .int .u64 0]) (t := 59) ?hr ?_; (case hd => rfl); (case hg => rfl); (case hr => first | (go_simp; done) | (go_simp; rfl)); intro gb490 hg w30 hbox hb; have n0_ := blkb BK487 hb; have n1_ := blkb BK488 hb; have n2_ := blkb BK489 hb; have n3_ := belb HB hb; have n4_ := Aside0.mk (hbox); have n5_ := bels HB hg; have n6_ := bels HB hg; have n7_ := blkl BK487 hg; have n8_ := blkg BK487 hg; have n9_ := blkl BK488 hg; have n10_ := blkg BK488 hg; have n11_ := blkl BK489 hg; have n12_ := blkg BK489 hg; clear BK487; clear BK488; clear BK489; clear HB; have BK487 := n0_; have BK488 := n1_; have BK489 := n2_; have HB := n3_; have BK490 := n4_; have GW490 := n5_; have GE490 := n6_; have NB487_490 := n7_; have NB490_487 := n8_; have NB488_490 := n9_; have NB490_488 := n10_; have NB489_490 := n11_; have NB490_489 := n12_; clear n0_ n1_ n2_ n3_ n4_ n5_ n6_ n7_ n8_ n9_ n10_ n11_ n12_; clear hb hbox hg; have hnb31 := NB490_487.out; have hnc31 := NB487_490.out; have hnb32 := NB490_488.out; have hnc32 := NB488_490.out; have hnb33 := NB490_489.out; have hnc33 := NB489_490.out; have hcz34_0 : w30.cell? ⟨gb490, 0, none⟩ = some (.int .i64 0) := (blk_cell BK490.out 0).trans rfl; have hcz34_1 : w30.cell? ⟨gb490, 1, none⟩ = some (.int .u64 0) := (blk_cell BK490.out 1).trans rfl; have hfz34_0 := blk_frozen BK490.out 0; have hfz34_1 := blk_frozen BK490.out 1; have hcz35_0 : w30.cell? ⟨gb487, 0, none⟩ = some (.int .i64 a0_0) := (blk_cell BK487.out 0).trans rfl; have hcz35_1 : w30.cell? ⟨gb487, 1, none⟩ = some (.int .u64 a0_1) := (blk_cell BK487.out 1).trans rfl; have hfz35_0 := blk_frozen BK487.out 0; have hfz35_1 := blk_frozen BK487.out 1; have hcz36_0 : w30.cell? ⟨gb488, 0, none⟩ = some (.int .i64 a1_0) := (blk_cell BK488.out 0).trans rfl; have hcz36_1 : w30.cell? ⟨gb488, 1, none⟩ = some (.int .u64 a1_1) := (blk_cell BK488.out 1).trans rfl; have hfz36_0 := blk_frozen BK488.out 0; have hfz36_1 := blk_frozen BK488.out 1; have hcz37_0 : w30.cell? ⟨gb489, 0, none⟩ = some (.int .i64 0) := (blk_cell BK489.out 0).trans rfl; have hcz37_1 : w30.cell? ⟨gb489, 1, none⟩ = some (.int .u64 0) := (blk_cell BK489.out 1).trans rfl; have hfz37_0 := blk_frozen BK489.out 0; have hfz37_1 := blk_frozen BK489.out 1))
    refine bodyPost_ret (results_ct rfl _ _ gb489 59 #[.int .i64 (wrap64 ((addLo (IntKind.u64.wrap (a0_0)) (IntKind.u64.wrap (a1_0)) (addHi a0_1 a1_1 0)))), .int .u64 (addLo a0_1 a1_1 0)] (0, 0) _ rfl (by (with_reducible repeat (first | refine blk_drewN ?_ _ | refine blk_drew ?_ | refine blk_alloc ?_ _)); refine blk_put (cs := #[.int .i64 (wrap64 ((addLo (IntKind.u64.wrap (a0_0)) (IntKind.u64.wrap (a1_0)) (addHi a0_1 a1_1 0)))), .int .u64 0]) ?_ 1 _ rfl; (with_reducible repeat (first | refine blk_drewN ?_ _ | refine blk_drew ?_ | refine blk_alloc ?_ _)); refine blk_put (cs := #[.int .i64 0, .int .u64 0]) ?_ 0 _ rfl; (with_reducible repeat (first | refine blk_drewN ?_ _ | refine blk_drew ?_ | refine blk_alloc ?_ _)); refine blk_far ?_ NB489_490.out _; (with_reducible repeat (first | refine blk_drewN ?_ _ | refine blk_drew ?_ | refine blk_alloc ?_ _)); refine blk_far ?_ NB489_490.out _; (with_reducible repeat (first | refine blk_drewN ?_ _ | refine blk_drew ?_ | refine blk_alloc ?_ _)); exact BK489.out) Try.underlying59 rfl (by kernel_rfl)) rfl ?_
    exact ⟨by first | rfl | (simp [errW_none, errW_some] <;> rfl) | (simp [*, errW_none, errW_some] <;> rfl), by repeat (first | (with_reducible first | exact HB.out | apply below_alloc | apply pw_below_drewN | apply below_drew1 | refine below_set ?_ GE487.out | refine below_set ?_ GE488.out | refine below_set ?_ GE489.out | refine below_set ?_ GE490.out) | exact HB.out)⟩
  ·rw [if_neg c4] at H
   have c4b0 : ((decide (a0_0 < 0)) == (decide (a1_0 < 0))) = false := by simpa using c4
   (try (have c4b1 : decide ((decide (a0_0 < 0)) = (decide (a1_0 < 0))) = false := by simpa using c4))
   (try (have c4b2 : ((decide (a0_0 < 0)) == (decide (a1_0 < 0))) = false := by simpa using c4))
   (try (have c4b3 : ¬ ((decide (a0_0 < 0)) = (decide (a1_0 < 0))) := by simpa using c4))
   clear c4
   simp only [Option.some.injEq, Prod.mk.injEq] at H
   obtain ⟨rfl, rfl, rfl⟩ := H
   go_enter Try.func81, Try.ntmps81
   go_wp2_with (first | ((with_reducible refine gate_dst (N := 2) rfl ?_); refine box_event ?hg (N := 2) ?hd (cs := #[.int .i64 a0_0, .int .u64 a0_1]) (t := 59) ?hr ?_; (case hd => rfl); (case hg => rfl); (case hr => first | (go_simp; done) | (go_simp; rfl)); intro gb487 hg w38 hbox hb; have n0_ := belb HB hb; have n1_ := Aside0.mk (hbox); have n2_ := bels HB hg; have n3_ := bels HB hg; clear HB; have HB := n0_; have BK487 := n1_; have GW487 := n2_; have GE487 := n3_; clear n0_ n1_ n2_ n3_; clear hb hbox hg) | ((with_reducible refine gate_dst (N := 3) rfl ?_); refine box_event ?hg (N := 3) ?hd (cs := #[.int .i64 a1_0, .int .u64 a1_1]) (t := 59) ?hr ?_; (case hd => rfl); (case hg => rfl); (case hr => first | (go_simp; done) | (go_simp; rfl)); intro gb488 hg w39 hbox hb; have n0_ := blkb BK487 hb; have n1_ := belb HB hb; have n2_ := Aside0.mk (hbox); have n3_ := bels HB hg; have n4_ := bels HB hg; have n5_ := blkl BK487 hg; have n6_ := blkg BK487 hg; clear BK487; clear HB; have BK487 := n0_; have HB := n1_; have BK488 := n2_; have GW488 := n3_; have GE488 := n4_; have NB487_488 := n5_; have NB488_487 := n6_; clear n0_ n1_ n2_ n3_ n4_ n5_ n6_; clear hb hbox hg) | ((with_reducible refine gate_dst (N := 4) rfl ?_); refine box_event ?hg (N := 4) ?hd (cs := #[.int .i64 0, .int .u64 0]) (t := 59) ?hr ?_; (case hd => rfl); (case hg => rfl); (case hr => first | (go_simp; done) | (go_simp; rfl)); intro gb489 hg w40 hbox hb; have n0_ := blkb BK487 hb; have n1_ := blkb BK488 hb; have n2_ := belb HB hb; have n3_ := Aside0.mk (hbox); have n4_ := bels HB hg; have n5_ := bels HB hg; have n6_ := blkl BK487 hg; have n7_ := blkg BK487 hg; have n8_ := blkl BK488 hg; have n9_ := blkg BK488 hg; clear BK487; clear BK488; clear HB; have BK487 := n0_; have BK488 := n1_; have HB := n2_; have BK489 := n3_; have GW489 := n4_; have GE489 := n5_; have NB487_489 := n6_; have NB489_487 := n7_; have NB488_489 := n8_; have NB489_488 := n9_; clear n0_ n1_ n2_ n3_ n4_ n5_ n6_ n7_ n8_ n9_; clear hb hbox hg; have hnb41 := NB487_488.out; have hnc41 := NB488_487.out; have hnb42 := NB487_489.out; have hnc42 := NB489_487.out; have hcz43_0 : w40.cell? ⟨gb487, 0, none⟩ = some (.int .i64 a0_0) := (blk_cell BK487.out 0).trans rfl; have hcz43_1 : w40.cell? ⟨gb487, 1, none⟩ = some (.int .u64 a0_1) := (blk_cell BK487.out 1).trans rfl; have hfz43_0 := blk_frozen BK487.out 0; have hfz43_1 := blk_frozen BK487.out 1; have hnb44 := NB488_489.out; have hnc44 := NB489_488.out; have hcz45_0 : w40.cell? ⟨gb488, 0, none⟩ = some (.int .i64 a1_0) := (blk_cell BK488.out 0).trans rfl; have hcz45_1 : w40.cell? ⟨gb488, 1, none⟩ = some (.int .u64 a1_1) := (blk_cell BK488.out 1).trans rfl; have hfz45_0 := blk_frozen BK488.out 0; have hfz45_1 := blk_frozen BK488.out 1) | ((with_reducible refine gate_dst (N := 10) rfl ?_); refine box_event ?hg (N := 10) ?hd (cs := #[.int .i64 0, .int .u64 0]) (t := 59) ?hr ?_; (case hd => rfl); (case hg => rfl); (case hr => first | (go_simp; done) | (go_simp; rfl)); intro gb490 hg w46 hbox hb; have n0_ := blkb BK487 hb; have n1_ := blkb BK488 hb; have n2_ := blkb BK489 hb; have n3_ := belb HB hb; have n4_ := Aside0.mk (hbox); have n5_ := bels HB hg; have n6_ := bels HB hg; have n7_ := blkl BK487 hg; have n8_ := blkg BK487 hg; have n9_ := blkl BK488 hg; have n10_ := blkg BK488 hg; have n11_ := blkl BK489 hg; have n12_ := blkg BK489 hg; clear BK487; clear BK488; clear BK489; clear HB; have BK487 := n0_; have BK488 := n1_; have BK489 := n2_; have HB := n3_; have BK490 := n4_; have GW490 := n5_; have GE490 := n6_; have NB487_490 := n7_; have NB490_487 := n8_; have NB488_490 := n9_; have NB490_488 := n10_; have NB489_490 := n11_; have NB490_489 := n12_; clear n0_ n1_ n2_ n3_ n4_ n5_ n6_ n7_ n8_ n9_ n10_ n11_ n12_; clear hb hbox hg; have hnb47 := NB490_487.out; have hnc47 := NB487_490.out; have hnb48 := NB490_488.out; have hnc48 := NB488_490.out; have hnb49 := NB490_489.out; have hnc49 := NB489_490.out; have hcz50_0 : w46.cell? ⟨gb490, 0, none⟩ = some (.int .i64 0) := (blk_cell BK490.out 0).trans rfl; have hcz50_1 : w46.cell? ⟨gb490, 1, none⟩ = some (.int .u64 0) := (blk_cell BK490.out 1).trans rfl; have hfz50_0 := blk_frozen BK490.out 0; have hfz50_1 := blk_frozen BK490.out 1; have hcz51_0 : w46.cell? ⟨gb487, 0, none⟩ = some (.int .i64 a0_0) := (blk_cell BK487.out 0).trans rfl; have hcz51_1 : w46.cell? ⟨gb487, 1, none⟩ = some (.int .u64 a0_1) := (blk_cell BK487.out 1).trans rfl; have hfz51_0 := blk_frozen BK487.out 0; have hfz51_1 := blk_frozen BK487.out 1; have hcz52_0 : w46.cell? ⟨gb488, 0, none⟩ = some (.int .i64 a1_0) := (blk_cell BK488.out 0).trans rfl; have hcz52_1 : w46.cell? ⟨gb488, 1, none⟩ = some (.int .u64 a1_1) := (blk_cell BK488.out 1).trans rfl; have hfz52_0 := blk_frozen BK488.out 0; have hfz52_1 := blk_frozen BK488.out 1; have hcz53_0 : w46.cell? ⟨gb489, 0, none⟩ = some (.int .i64 0) := (blk_cell BK489.out 0).trans rfl; have hcz53_1 : w46.cell? ⟨gb489, 1, none⟩ = some (.int .u64 0) := (blk_cell BK489.out 1).trans rfl; have hfz53_0 := blk_frozen BK489.out 0; have hfz53_1 := blk_frozen BK489.out 1))
   refine bodyPost_ret (results_ct rfl _ _ gb489 59 #[.int .i64 (wrap64 ((addLo (IntKind.u64.wrap (a0_0)) (IntKind.u64.wrap (a1_0)) (addHi a0_1 a1_1 0)))), .int .u64 (addLo a0_1 a1_1 0)] (0, 0) _ rfl (by (with_reducible repeat (first | refine blk_drewN ?_ _ | refine blk_drew ?_ | refine blk_alloc ?_ _)); refine blk_put (cs := #[.int .i64 (wrap64 ((addLo (IntKind.u64.wrap (a0_0)) (IntKind.u64.wrap (a1_0)) (addHi a0_1 a1_1 0)))), .int .u64 0]) ?_ 1 _ rfl; (with_reducible repeat (first | refine blk_drewN ?_ _ | refine blk_drew ?_ | refine blk_alloc ?_ _)); refine blk_put (cs := #[.int .i64 0, .int .u64 0]) ?_ 0 _ rfl; (with_reducible repeat (first | refine blk_drewN ?_ _ | refine blk_drew ?_ | refine blk_alloc ?_ _)); refine blk_far ?_ NB489_490.out _; (with_reducible repeat (first | refine blk_drewN ?_ _ | refine blk_drew ?_ | refine blk_alloc ?_ _)); refine blk_far ?_ NB489_490.out _; (with_reducible repeat (first | refine blk_drewN ?_ _ | refine blk_drew ?_ | refine blk_alloc ?_ _)); exact BK489.out) Try.underlying59 rfl (by kernel_rfl)) rfl ?_
   exact ⟨by first | rfl | (simp [errW_none, errW_some] <;> rfl) | (simp [*, errW_none, errW_some] <;> rfl), by repeat (first | (with_reducible first | exact HB.out | apply below_alloc | apply pw_below_drewN | apply below_drew1 | refine below_set ?_ GE487.out | refine below_set ?_ GE488.out | refine below_set ?_ GE489.out | refine below_set ?_ GE490.out) | exact HB.out)⟩
 ·rw [if_neg c3] at H
  exact absurd H (by simp)

end Go.Proofs.Ytimgiiceipjpaaa.Print
