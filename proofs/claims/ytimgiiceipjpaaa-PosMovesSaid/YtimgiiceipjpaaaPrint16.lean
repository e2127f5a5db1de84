/- What each Go function that is named below answers, as a Lean function, and that its walk comes to just that: for whatever arguments that function gives an answer for. Written by a program of this session (wip/mkpr.py, pr.sh). -/
import Derived.Test.YtimgiiceipjpaaaPrint0
import Derived.Test.YtimgiiceipjpaaaPrint2
import Derived.Test.YtimgiiceipjpaaaPrint8
import Derived.Test.YtimgiiceipjpaaaPrint12
import Derived.Test.YtimgiiceipjpaaaPrint14
import Derived.Test.YtimgiiceipjpaaaPrint15
namespace Go.Proofs.Ytimgiiceipjpaaa.Print
open Go.RowKit Go.Proofs.YtimgiiceipjpaaaW.PrintWords Go.Proofs.YtimgiiceipjpaaaW.PrintLast Go.Proofs.YtimgiiceipjpaaaW.PrintMore
attribute [local go_sem] max2_int min2_int max_two min_two max_three min_three max_four min_four   -- for this text's walks alone
open Go.Proofs.Ytimgiiceipjpaaa.Bits
attribute [local go_sem] add64_run0 sub64_run0 add64_run sub64_run
set_option linter.unusedVariables false
set_option linter.unusedSimpArgs false

attribute [local go_sem high] eqA67
/-! ### turnstonelaw02_Awake: function 73 -/
def turnstonelaw02_Awake.f (k : Nat)  : Option (Bool) := (turnstonelaw02_awake.f k).bind fun t315 => (some t315)
theorem turnstonelaw02_Awake.mono : ∀ k, LeO (turnstonelaw02_Awake.f k ) (turnstonelaw02_Awake.f (k + 1) ) := by
 intro  k
 unfold turnstonelaw02_Awake.f
 repeat' first
   | (with_reducible exact turnstonelaw02_awake.mono _)
   | (with_reducible exact LeO.refl _)
   | (with_reducible exact LeO.none _)
   | (with_reducible refine LeO.ite ?_ ?_)
   | (with_reducible refine LeO.bind ?_ (fun _ => ?_))
   | exact turnstonelaw02_awake.mono _
   | exact LeO.none _
   | refine LeO.ite ?_ ?_
   | refine LeO.bind ?_ (fun _ => ?_)
set_option maxHeartbeats 8000000 in
set_option maxRecDepth 100000 in
theorem turnstonelaw02_Awake.calls (k : Nat)  (r : Bool) (w : World) (h : turnstonelaw02_Awake.f k  = some r) :
  Calls Try.prog 73 #[] w fun e w' => e = .returned (.bool r) ∧ Below w.heap.size w w' := by
 have HB := Aside0.mk (Below.refl w.heap.size w)
 have H : ((turnstonelaw02_awake.f k).bind fun t315 => (some t315)) = some r := h
 clear h
 replace H := Option.bind_eq_some_iff.mp H
 obtain ⟨t315, A10, H⟩ := H
 replace H : (some t315) = some r := H
 have A1 := Aside0.mk A10
 clear A10
 obtain rfl := Option.some.inj H
 go_enter Try.func73, Try.ntmps73
 go_wp2_with (first | ((with_reducible refine gate_callee (f := 33) rfl ?_); refine goesL_ (some 1) rfl rfl Try.func33 (by kernel_rfl) rfl #[] rfl (by (try simp only [List.map_toArray, List.map_cons, List.map_nil]); first | done | rfl | (simp only [List.length_drop, List.length_take]; rfl)) ?_; (with_reducible refine (turnstonelaw02_awake.calls k  t315 _ A1.out).mono ?_); rintro e w2 ⟨rfl, hb⟩; refine ⟨_, rfl, ?_⟩; have n0_ := Aside0.mk (below_step (by repeat (first | (with_reducible first | exact HB.out | apply below_alloc | apply pw_below_drewN | apply below_drew1) | exact HB.out)) hb); clear HB; have HB := n0_; clear n0_; (try clear hb); (try clear hb2); (try clear hk); (try clear hi)))
 go_ret
 exact ⟨by first | rfl | (simp [errW_none, errW_some] <;> rfl) | (simp [*, errW_none, errW_some] <;> rfl), by repeat (first | (with_reducible first | exact HB.out | apply below_alloc | apply pw_below_drewN | apply below_drew1) | exact HB.out)⟩

/-! ### turnstonelaw03_Awake: function 74 -/
def turnstonelaw03_Awake.f (k : Nat)  : Option (Bool) := (turnstonelaw03_awake.f k).bind fun t316 => (some t316)
theorem turnstonelaw03_Awake.mono : ∀ k, LeO (turnstonelaw03_Awake.f k ) (turnstonelaw03_Awake.f (k + 1) ) := by
 intro  k
 unfold turnstonelaw03_Awake.f
 repeat' first
   | (with_reducible exact turnstonelaw03_awake.mono _)
   | (with_reducible exact LeO.refl _)
   | (with_reducible exact LeO.none _)
   | (with_reducible refine LeO.ite ?_ ?_)
   | (with_reducible refine LeO.bind ?_ (fun _ => ?_))
   | exact turnstonelaw03_awake.mono _
   | exact LeO.none _
   | refine LeO.ite ?_ ?_
   | refine LeO.bind ?_ (fun _ => ?_)
set_option maxHeartbeats 8000000 in
set_option maxRecDepth 100000 in
theorem turnstonelaw03_Awake.calls (k : Nat)  (r : Bool) (w : World) (h : turnstonelaw03_Awake.f k  = some r) :
  Calls Try.prog 74 #[] w fun e w' => e = .returned (.bool r) ∧ Below w.heap.size w w' := by
 have HB := Aside0.mk (Below.refl w.heap.size w)
 have H : ((turnstonelaw03_awake.f k).bind fun t316 => (some t316)) = some r := h
 clear h
 replace H := Option.bind_eq_some_iff.mp H
 obtain ⟨t316, A10, H⟩ := H
 replace H : (some t316) = some r := H
 have A1 := Aside0.mk A10
 clear A10
 obtain rfl := Option.some.inj H
 go_enter Try.func74, Try.ntmps74
 go_wp2_with (first | ((with_reducible refine gate_callee (f := 17) rfl ?_); refine goesL_ (some 1) rfl rfl Try.func17 (by kernel_rfl) rfl #[] rfl (by (try simp only [List.map_toArray, List.map_cons, List.map_nil]); first | done | rfl | (simp only [List.length_drop, List.length_take]; rfl)) ?_; (with_reducible refine (turnstonelaw03_awake.calls k  t316 _ A1.out).mono ?_); rintro e w2 ⟨rfl, hb⟩; refine ⟨_, rfl, ?_⟩; have n0_ := Aside0.mk (below_step (by repeat (first | (with_reducible first | exact HB.out | apply below_alloc | apply pw_below_drewN | apply below_drew1) | exact HB.out)) hb); clear HB; have HB := n0_; clear n0_; (try clear hb); (try clear hb2); (try clear hk); (try clear hi)))
 go_ret
 exact ⟨by first | rfl | (simp [errW_none, errW_some] <;> rfl) | (simp [*, errW_none, errW_some] <;> rfl), by repeat (first | (with_reducible first | exact HB.out | apply below_alloc | apply pw_below_drewN | apply below_drew1) | exact HB.out)⟩

/-! ### turnstonelaw04_awake: function 44 -/
def turnstonelaw04_awake.f (k : Nat)  : Option (Bool) := (pos_Pos_Move.f k 5 0 3 7).bind fun bt317 => ((turnstonelaw02_Awake.f k).bind fun t322 => (if t322 = true then ((turnstonelaw03_Awake.f k).bind fun t323 => (if t323 = true then (if bt317.2.2.2 = true then (some (bt317.1 == 7 && (bt317.2.1 == 1 && (bt317.2.2.1 == 3)))) else (none)) else (none))) else (none)))
theorem turnstonelaw04_awake.mono : ∀ k, LeO (turnstonelaw04_awake.f k ) (turnstonelaw04_awake.f (k + 1) ) := by
 intro  k
 unfold turnstonelaw04_awake.f
 repeat' first
   | (with_reducible exact pos_Pos_Move.mono _ _ _ _ _)
   | (with_reducible exact turnstonelaw02_Awake.mono _)
   | (with_reducible exact turnstonelaw03_Awake.mono _)
   | (with_reducible exact LeO.refl _)
   | (with_reducible exact LeO.none _)
   | (with_reducible refine LeO.ite ?_ ?_)
   | (with_reducible refine LeO.bind ?_ (fun _ => ?_))
   | exact pos_Pos_Move.mono _ _ _ _ _
   | exact turnstonelaw02_Awake.mono _
   | exact turnstonelaw03_Awake.mono _
   | exact LeO.none _
   | refine LeO.ite ?_ ?_
   | refine LeO.bind ?_ (fun _ => ?_)
set_option maxHeartbeats 8000000 in
set_option maxRecDepth 100000 in
theorem turnstonelaw04_awake.calls (k : Nat)  (r : Bool) (w : World) (h : turnstonelaw04_awake.f k  = some r) :
  Calls Try.prog 44 #[] w fun e w' => e = .returned (.bool r) ∧ Below w.heap.size w w' := by
 have hu67 := Try.underlying67
 have HB := Aside0.mk (Below.refl w.heap.size w)
 have H : ((pos_Pos_Move.f k 5 0 3 7).bind fun bt317 => ((turnstonelaw02_Awake.f k).bind fun t322 => (if t322 = true then ((turnstonelaw03_Awake.f k).bind fun t323 => (if t323 = true then (if bt317.2.2.2 = true then (some (bt317.1 == 7 && (bt317.2.1 == 1 && (bt317.2.2.1 == 3)))) else (none)) else (none))) else (none)))) = some r := h
 clear h
 replace H := Option.bind_eq_some_iff.mp H
 obtain ⟨⟨t317, t318, t319, t320⟩, A10, H⟩ := H
 replace H : ((turnstonelaw02_Awake.f k).bind fun t322 => (if t322 = true then ((turnstonelaw03_Awake.f k).bind fun t323 => (if t323 = true then (if t320 = true then (some (t317 == 7 && (t318 == 1 && (t319 == 3)))) else (none)) else (none))) else (none))) = some r := H
 have A1 := Aside0.mk A10
 clear A10
 replace H := Option.bind_eq_some_iff.mp H
 obtain ⟨t322, A20, H⟩ := H
 replace H : (if t322 = true then ((turnstonelaw03_Awake.f k).bind fun t323 => (if t323 = true then (if t320 = true then (some (t317 == 7 && (t318 == 1 && (t319 == 3)))) else (none)) else (none))) else (none)) = some r := H
 have A2 := Aside0.mk A20
 clear A20
 by_cases c3 : t322 = true
 ·subst c3
  have H1 : ((turnstonelaw03_Awake.f k).bind fun t323 => (if t323 = true then (if t320 = true then (some (t317 == 7 && (t318 == 1 && (t319 == 3)))) else (none)) else (none))) = some r := by rw [if_pos rfl] at H; exact H
  clear H
  have H := H1
  clear H1
  replace H := Option.bind_eq_some_iff.mp H
  obtain ⟨t323, A40, H⟩ := H
  replace H : (if t323 = true then (if t320 = true then (some (t317 == 7 && (t318 == 1 && (t319 == 3)))) else (none)) else (none)) = some r := H
  have A4 := Aside0.mk A40
  clear A40
  by_cases c5 : t323 = true
  ·subst c5
   have H1 : (if t320 = true then (some (t317 == 7 && (t318 == 1 && (t319 == 3)))) else (none)) = some r := by rw [if_pos rfl] at H; exact H
   clear H
   have H := H1
   clear H1
   by_cases c6 : t320 = true
   ·subst c6
    have H1 : (some (t317 == 7 && (t318 == 1 && (t319 == 3)))) = some r := by rw [if_pos rfl] at H; exact H
    clear H
    have H := H1
    clear H1
    obtain rfl := Option.some.inj H
    go_enter Try.func44, Try.ntmps44
    go_wp2_with (first | ((with_reducible refine gate_callee (f := 47) rfl ?_); refine goesL_ (some 5) rfl rfl Try.func47 (by kernel_rfl) rfl #[.agg #[.int .u64 5, .int .u32 0, .int .u32 3], .int .u64 7] rfl (by (try simp only [List.map_toArray, List.map_cons, List.map_nil]); first | done | rfl | (simp only [List.length_drop, List.length_take]; rfl)) ?_; (with_reducible refine (pos_Pos_Move.calls k 5 0 3 7 t317 t318 t319 true _ A1.out).mono ?_); rintro e w7 ⟨rfl, hb⟩; refine ⟨_, rfl, ?_⟩; have n0_ := Aside0.mk (below_step (by repeat (first | (with_reducible first | exact HB.out | apply below_alloc | apply pw_below_drewN | apply below_drew1) | exact HB.out)) hb); clear HB; have HB := n0_; clear n0_; (try clear hb); (try clear hb2); (try clear hk); (try clear hi)) | ((with_reducible refine gate_dst (N := 1) rfl ?_); refine box_event ?hg (N := 1) ?hd (cs := #[.int .u64 0, .int .u32 0, .int .u32 0]) (t := 67) ?hr ?_; (case hd => rfl); (case hg => rfl); (case hr => first | (go_simp; done) | (go_simp; rfl)); intro gb321 hg w8 hbox hb; have n0_ := Aside0.mk (below_step (by repeat (first | (with_reducible first | exact HB.out | apply below_alloc | apply pw_below_drewN | apply below_drew1) | exact HB.out)) hb); have n1_ := Aside0.mk (hbox); have n2_ := Aside0.mk ((by rw [hg]; exact (below_size (by repeat (first | (with_reducible first | exact HB.out | apply below_alloc | apply pw_below_drewN | apply below_drew1) | exact HB.out))) : w.heap.size ≤ gb321)); have n3_ := Aside0.mk ((by rw [hg]; exact (below_size (by repeat (first | (with_reducible first | exact HB.out | apply below_alloc | apply pw_below_drewN | apply below_drew1) | exact HB.out))) : w.heap.size ≤ gb321)); clear HB; have HB := n0_; have BK321 := n1_; have GW321 := n2_; have GE321 := n3_; clear n0_ n1_ n2_ n3_; clear hb hbox hg; have hcz9_0 : w8.cell? ⟨gb321, 0, none⟩ = some (.int .u64 0) := (blk_cell BK321.out 0).trans rfl; have hcz9_1 : w8.cell? ⟨gb321, 1, none⟩ = some (.int .u32 0) := (blk_cell BK321.out 1).trans rfl; have hcz9_2 : w8.cell? ⟨gb321, 2, none⟩ = some (.int .u32 0) := (blk_cell BK321.out 2).trans rfl; have hfz9_0 := blk_frozen BK321.out 0; have hfz9_1 := blk_frozen BK321.out 1; have hfz9_2 := blk_frozen BK321.out 2) | ((with_reducible refine gate_callee (f := 73) rfl ?_); refine goesL_ (some 8) rfl rfl Try.func73 (by kernel_rfl) rfl #[] rfl (by (try simp only [List.map_toArray, List.map_cons, List.map_nil]); first | done | rfl | (simp only [List.length_drop, List.length_take]; rfl)) ?_; (with_reducible refine (turnstonelaw02_Awake.calls k  true _ A2.out).mono ?_); rintro e w10 ⟨rfl, hb⟩; refine ⟨_, rfl, ?_⟩; have n0_ := Aside0.mk (blk_below (g := gb321) (o := .cells #[.int .u64 t317, .int .u32 t318, .int .u32 t319] 67 (0, 0)) (by (with_reducible repeat (first | refine blk_drewN ?_ _ | refine blk_drew ?_ | refine blk_alloc ?_ _)); refine blk_put (cs := #[.int .u64 t317, .int .u32 t318, .int .u32 0]) ?_ 2 _ rfl; (with_reducible repeat (first | refine blk_drewN ?_ _ | refine blk_drew ?_ | refine blk_alloc ?_ _)); refine blk_put (cs := #[.int .u64 t317, .int .u32 0, .int .u32 0]) ?_ 1 _ rfl; (with_reducible repeat (first | refine blk_drewN ?_ _ | refine blk_drew ?_ | refine blk_alloc ?_ _)); refine blk_put (cs := #[.int .u64 0, .int .u32 0, .int .u32 0]) ?_ 0 _ rfl; (with_reducible repeat (first | refine blk_drewN ?_ _ | refine blk_drew ?_ | refine blk_alloc ?_ _)); exact BK321.out) hb); have n1_ := Aside0.mk (below_step (by repeat (first | (with_reducible first | exact HB.out | apply below_alloc | apply pw_below_drewN | apply below_drew1 | refine below_set ?_ GE321.out) | exact HB.out)) hb); clear BK321; clear HB; have BK321 := n0_; have HB := n1_; clear n0_ n1_; (try clear hb); (try clear hb2); (try clear hk); (try clear hi)) | (go_at_call 74; (with_reducible refine (turnstonelaw03_Awake.calls k  true _ A4.out).mono ?_); rintro e w11 ⟨rfl, hb⟩; have n0_ := Aside0.mk (blk_below (g := gb321) (o := .cells #[.int .u64 t317, .int .u32 t318, .int .u32 t319] 67 (0, 0)) (by (with_reducible repeat (first | refine blk_drewN ?_ _ | refine blk_drew ?_ | refine blk_alloc ?_ _)); exact BK321.out) hb); have n1_ := Aside0.mk (below_step (by repeat (first | (with_reducible first | exact HB.out | apply below_alloc | apply pw_below_drewN | apply below_drew1 | refine below_set ?_ GE321.out) | exact HB.out)) hb); clear BK321; clear HB; have BK321 := n0_; have HB := n1_; clear n0_ n1_; (try clear hb); (try clear hb2); (try clear hk); (try clear hi); have hcz12_0 : w11.cell? ⟨gb321, 0, none⟩ = some (.int .u64 t317) := (blk_cell BK321.out 0).trans rfl; have hcz12_1 : w11.cell? ⟨gb321, 1, none⟩ = some (.int .u32 t318) := (blk_cell BK321.out 1).trans rfl; have hcz12_2 : w11.cell? ⟨gb321, 2, none⟩ = some (.int .u32 t319) := (blk_cell BK321.out 2).trans rfl; have hfz12_0 := blk_frozen BK321.out 0; have hfz12_1 := blk_frozen BK321.out 1; have hfz12_2 := blk_frozen BK321.out 2))
    go_ret
    exact ⟨by first | rfl | (simp [errW_none, errW_some] <;> rfl) | (simp [*, errW_none, errW_some] <;> rfl), by repeat (first | (with_reducible first | exact HB.out | apply below_alloc | apply pw_below_drewN | apply below_drew1 | refine below_set ?_ GE321.out) | exact HB.out)⟩
   ·replace c6 := Bool.eq_false_iff.mpr c6
    subst c6
    have H1 : (none) = some r := by rw [if_neg (show ¬ (false = true) by decide)] at H; exact H
    clear H
    have H := H1
    clear H1
    exact absurd H (by simp)
  ·replace c5 := Bool.eq_false_iff.mpr c5
   subst c5
   have H1 : (none) = some r := by rw [if_neg (show ¬ (false = true) by decide)] at H; exact H
   clear H
   have H := H1
   clear H1
   exact absurd H (by simp)
 ·replace c3 := Bool.eq_false_iff.mpr c3
  subst c3
  have H1 : (none) = some r := by rw [if_neg (show ¬ (false = true) by decide)] at H; exact H
  clear H
  have H := H1
  clear H1
  exact absurd H (by simp)

/-! ### pos_Pos_Right: function 50 -/
def pos_Pos_Right.f (a0_0 : Int) (a0_1 : Int) (a0_2 : Int) : Option (Bool) := (pos_weight.f a0_2).bind fun t325 => (if t325 = true then (some (decide (a0_1 < a0_2))) else (some false))
set_option maxHeartbeats 8000000 in
set_option maxRecDepth 100000 in
theorem pos_Pos_Right.calls (a0_0 : Int) (a0_1 : Int) (a0_2 : Int) (r : Bool) (w : World) (h : pos_Pos_Right.f a0_0 a0_1 a0_2 = some r) :
  Calls Try.prog 50 #[.agg #[.int .u64 a0_0, .int .u32 a0_1, .int .u32 a0_2]] w fun e w' => e = .returned (.bool r) ∧ Below w.heap.size w w' := by
 have hu67 := Try.underlying67
 have HB := Aside0.mk (Below.refl w.heap.size w)
 have H : ((pos_weight.f a0_2).bind fun t325 => (if t325 = true then (some (decide (a0_1 < a0_2))) else (some false))) = some r := h
 clear h
 replace H := Option.bind_eq_some_iff.mp H
 obtain ⟨t325, A20, H⟩ := H
 replace H : (if t325 = true then (some (decide (a0_1 < a0_2))) else (some false)) = some r := H
 have A2 := Aside0.mk A20
 clear A20
 by_cases c3 : t325 = true
 ·subst c3
  have H1 : (some (decide (a0_1 < a0_2))) = some r := by rw [if_pos rfl] at H; exact H
  clear H
  have H := H1
  clear H1
  obtain rfl := Option.some.inj H
  go_enter Try.func50, Try.ntmps50
  go_wp2_with (first | ((with_reducible refine gate_dst (N := 1) rfl ?_); refine box_event ?hg (N := 1) ?hd (cs := #[.int .u64 a0_0, .int .u32 a0_1, .int .u32 a0_2]) (t := 67) ?hr ?_; (case hd => rfl); (case hg => rfl); (case hr => first | (go_simp; done) | (go_simp; rfl)); intro gb324 hg w4 hbox hb; have n0_ := Aside0.mk (below_step (by repeat (first | (with_reducible first | exact HB.out | apply below_alloc | apply pw_below_drewN | apply below_drew1) | exact HB.out)) hb); have n1_ := Aside0.mk (hbox); have n2_ := Aside0.mk ((by rw [hg]; exact (below_size (by repeat (first | (with_reducible first | exact HB.out | apply below_alloc | apply pw_below_drewN | apply below_drew1) | exact HB.out))) : w.heap.size ≤ gb324)); have n3_ := Aside0.mk ((by rw [hg]; exact (below_size (by repeat (first | (with_reducible first | exact HB.out | apply below_alloc | apply pw_below_drewN | apply below_drew1) | exact HB.out))) : w.heap.size ≤ gb324)); clear HB; have HB := n0_; have BK324 := n1_; have GW324 := n2_; have GE324 := n3_; clear n0_ n1_ n2_ n3_; clear hb hbox hg; have hcz5_0 : w4.cell? ⟨gb324, 0, none⟩ = some (.int .u64 a0_0) := (blk_cell BK324.out 0).trans rfl; have hcz5_1 : w4.cell? ⟨gb324, 1, none⟩ = some (.int .u32 a0_1) := (blk_cell BK324.out 1).trans rfl; have hcz5_2 : w4.cell? ⟨gb324, 2, none⟩ = some (.int .u32 a0_2) := (blk_cell BK324.out 2).trans rfl; have hfz5_0 := blk_frozen BK324.out 0; have hfz5_1 := blk_frozen BK324.out 1; have hfz5_2 := blk_frozen BK324.out 2) | ((with_reducible refine gate_callee (f := 75) rfl ?_); refine goesL_ (some 5) rfl rfl Try.func75 (by kernel_rfl) rfl #[.int .u32 a0_2] rfl (by (try simp only [List.map_toArray, List.map_cons, List.map_nil]); first | done | rfl | (simp only [List.length_drop, List.length_take]; rfl)) ?_; (with_reducible refine (pos_weight.calls a0_2 true _ A2.out).mono ?_); rintro e w' ⟨rfl, ⟨nd, rfl⟩⟩; refine ⟨_, rfl, ?_⟩))
  go_ret
  exact ⟨by first | rfl | (simp [errW_none, errW_some] <;> rfl) | (simp [*, errW_none, errW_some] <;> rfl), by repeat (first | (with_reducible first | exact HB.out | apply below_alloc | apply pw_below_drewN | apply below_drew1 | refine below_set ?_ GE324.out) | exact HB.out)⟩
 ·replace c3 := Bool.eq_false_iff.mpr c3
  subst c3
  have H1 : (some false) = some r := by rw [if_neg (show ¬ (false = true) by decide)] at H; exact H
  clear H
  have H := H1
  clear H1
  obtain rfl := Option.some.inj H
  go_enter Try.func50, Try.ntmps50
  go_wp2_with (first | ((with_reducible refine gate_dst (N := 1) rfl ?_); refine box_event ?hg (N := 1) ?hd (cs := #[.int .u64 a0_0, .int .u32 a0_1, .int .u32 a0_2]) (t := 67) ?hr ?_; (case hd => rfl); (case hg => rfl); (case hr => first | (go_simp; done) | (go_simp; rfl)); intro gb324 hg w6 hbox hb; have n0_ := Aside0.mk (below_step (by repeat (first | (with_reducible first | exact HB.out | apply below_alloc | apply pw_below_drewN | apply below_drew1) | exact HB.out)) hb); have n1_ := Aside0.mk (hbox); have n2_ := Aside0.mk ((by rw [hg]; exact (below_size (by repeat (first | (with_reducible first | exact HB.out | apply below_alloc | apply pw_below_drewN | apply below_drew1) | exact HB.out))) : w.heap.size ≤ gb324)); have n3_ := Aside0.mk ((by rw [hg]; exact (below_size (by repeat (first | (with_reducible first | exact HB.out | apply below_alloc | apply pw_below_drewN | apply below_drew1) | exact HB.out))) : w.heap.size ≤ gb324)); clear HB; have HB := n0_; have BK324 := n1_; have GW324 := n2_; have GE324 := n3_; clear n0_ n1_ n2_ n3_; clear hb hbox hg; have hcz7_0 : w6.cell? ⟨gb324, 0, none⟩ = some (.int .u64 a0_0) := (blk_cell BK324.out 0).trans rfl; have hcz7_1 : w6.cell? ⟨gb324, 1, none⟩ = some (.int .u32 a0_1) := (blk_cell BK324.out 1).trans rfl; have hcz7_2 : w6.cell? ⟨gb324, 2, none⟩ = some (.int .u32 a0_2) := (blk_cell BK324.out 2).trans rfl; have hfz7_0 := blk_frozen BK324.out 0; have hfz7_1 := blk_frozen BK324.out 1; have hfz7_2 := blk_frozen BK324.out 2) | ((with_reducible refine gate_callee (f := 75) rfl ?_); refine goesL_ (some 5) rfl rfl Try.func75 (by kernel_rfl) rfl #[.int .u32 a0_2] rfl (by (try simp only [List.map_toArray, List.map_cons, List.map_nil]); first | done | rfl | (simp only [List.length_drop, List.length_take]; rfl)) ?_; (with_reducible refine (pos_weight.calls a0_2 false _ A2.out).mono ?_); rintro e w' ⟨rfl, ⟨nd, rfl⟩⟩; refine ⟨_, rfl, ?_⟩))
  go_ret
  exact ⟨by first | rfl | (simp [errW_none, errW_some] <;> rfl) | (simp [*, errW_none, errW_some] <;> rfl), by repeat (first | (with_reducible first | exact HB.out | apply below_alloc | apply pw_below_drewN | apply below_drew1 | refine below_set ?_ GE324.out) | exact HB.out)⟩

/-! ### cmp_Or_int: function 82 -/
def cmp_Or_int.l0 : Nat → Int → List Int → Int → Int → Option (Int)
 | 0, _, _, _, _ => none
 | k + 1, x3, x6, x7, x8 => if x8 < x7 then (if 0 ≤ x8 then (if x8 < (x6.length : Int) then (if (rd x6 x8) = x3 then (cmp_Or_int.l0 k x3 x6 x7 (wrap64 (x8 + 1))) else (some (rd x6 x8))) else (none)) else (none)) else (some x3)
def cmp_Or_int.f (k : Nat) (l0 : List Int) : Option (Int) := cmp_Or_int.l0 k 0 l0 (l0.length : Int) 0
theorem cmp_Or_int.mono_l : ∀ k, (∀ y0 y1 y2 y3, LeO (cmp_Or_int.l0 k y0 y1 y2 y3) (cmp_Or_int.l0 (k + 1) y0 y1 y2 y3))
 | 0 => fun _ _ _ _ r h => by simp [cmp_Or_int.l0] at h
 | k + 1 => by
  have ih0 := cmp_Or_int.mono_l k
  ·intro y0 y1 y2 y3
   unfold cmp_Or_int.l0
   repeat' first
   | (with_reducible exact ih0 _ _ _ _)
   | (with_reducible exact LeO.refl _)
   | (with_reducible exact LeO.none _)
   | (with_reducible refine LeO.ite ?_ ?_)
   | (with_reducible refine LeO.bind ?_ (fun _ => ?_))
   | exact ih0 _ _ _ _
   | exact LeO.none _
   | refine LeO.ite ?_ ?_
   | refine LeO.bind ?_ (fun _ => ?_)
theorem cmp_Or_int.mono : ∀ a0 k, LeO (cmp_Or_int.f k a0) (cmp_Or_int.f (k + 1) a0) := by
 intro a0 k
 have ih0 := cmp_Or_int.mono_l k
 unfold cmp_Or_int.f
 repeat' first
   | (with_reducible exact ih0 _ _ _ _)
   | (with_reducible exact LeO.refl _)
   | (with_reducible exact LeO.none _)
   | (with_reducible refine LeO.ite ?_ ?_)
   | (with_reducible refine LeO.bind ?_ (fun _ => ?_))
   | exact ih0 _ _ _ _
   | exact LeO.none _
   | refine LeO.ite ?_ ?_
   | refine LeO.bind ?_ (fun _ => ?_)
set_option maxHeartbeats 8000000 in
set_option maxRecDepth 100000 in
theorem cmp_Or_int.calls (k : Nat) (A0 : Option Addr) (c0 : Nat) (l0 : List Int) (r : Int) (w : World) (hr0 : Kd.C (Kd.int .i64) w A0 l0.length l0) (hc0 : l0.length ≤ c0) (h : cmp_Or_int.f k l0 = some r) :
  Calls Try.prog 82 #[.slice A0 l0.length c0] w fun e w' => e = .returned (.int .i64 r) ∧ Drawn0 w w' := by
 have HR0 := Aside0.mk hr0
 have HC0 := Aside0.mk hc0
 clear hr0 hc0
 have H : (cmp_Or_int.l0 k 0 l0 (l0.length : Int) 0) = some r := h
 clear h
 have H' := Aside0.mk H
 clear H
 go_enter Try.func82, Try.ntmps82
 go_wp2
 (try simp only [Act.put, List.setIfInBounds_toArray, List.set_cons_zero, List.set_cons_succ])
 go_loopg [8] k (fun kq v8 w' => ∃ (x8_1 : Int), v8 = .int .i64 x8_1 ∧ Aside0 (cmp_Or_int.l0 kq 0 l0 (l0.length : Int) x8_1 = some r) ∧ Aside0 (kq ≤ k) ∧ Drawn0 w w')
 case atStart => exact ⟨(0), (by first | rfl | (simp; done) | (simp [*]; done)), H', ⟨Nat.le_refl _⟩, by repeat (first | exact Drawn0.refl _ | apply Drawn0.step)⟩
 case round =>
  clear H'
  obtain ⟨x8_1, rfl, HA, HK1, ⟨m1, rfl⟩⟩ := hrel
  cases gk with
  | zero => exact absurd HA.out (by simp [cmp_Or_int.l0])
  | succ k1 =>
   have H := HA.out
   clear HA
   simp only [cmp_Or_int.l0] at H
   by_cases c2 : x8_1 < (l0.length : Int)
   ·rw [if_pos c2] at H
    have c2b0 : decide (x8_1 < (l0.length : Int)) = true := decide_eq_true c2
    clear c2
    by_cases c3 : 0 ≤ x8_1
    ·rw [if_pos c3] at H
     have c3b0 : decide (0 ≤ x8_1) = true := decide_eq_true c3
     clear c3
     by_cases c4 : x8_1 < (l0.length : Int)
     ·rw [if_pos c4] at H
      have c4b0 : decide (x8_1 < (l0.length : Int)) = true := decide_eq_true c4
      clear c4
      by_cases c5 : (rd l0 x8_1) = 0
      ·rw [if_pos c5] at H
       have c5b0 : ((rd l0 x8_1) == 0) = true := beq_iff_eq.mpr c5
       have c5b1 : ((rd l0 x8_1) != 0) = false := bne_eq_false_iff_eq.mpr c5
       clear c5
       have H' := Aside0.mk H
       clear H
       have p326 : 0 ≤ (x8_1 : Int) := of_decide_eq_true (by first | (with_reducible assumption) | assumption)
       have q326 : x8_1 < (l0.length : Int) := of_decide_eq_true (by first | (with_reducible assumption) | assumption)
       obtain ⟨ad326, e326, hx326_0⟩ := Kd.at_int HR0.out x8_1 p326 q326
       cases e326
       replace p326 := eq_true p326
       replace q326 := eq_true q326
       go_wp2
       go_roundg k1
       case measure => have := HK1.out; omega
       case rel => exact ⟨(wrap64 (x8_1 + 1)), (by first | rfl | (simp; done) | (simp [*]; done)), H', ⟨by have := HK1.out; omega⟩, by repeat (first | exact Drawn0.refl _ | apply Drawn0.step)⟩
      ·rw [if_neg c5] at H
       have c5b0 : ((rd l0 x8_1) == 0) = false := beq_eq_false_iff_ne.mpr c5
       have c5b1 : ((rd l0 x8_1) != 0) = true := bne_iff_ne.mpr c5
       obtain rfl := Option.some.inj H
       have p326 : 0 ≤ (x8_1 : Int) := of_decide_eq_true (by first | (with_reducible assumption) | assumption)
       have q326 : x8_1 < (l0.length : Int) := of_decide_eq_true (by first | (with_reducible assumption) | assumption)
       obtain ⟨ad326, e326, hx326_0⟩ := Kd.at_int HR0.out x8_1 p326 q326
       cases e326
       replace p326 := eq_true p326
       replace q326 := eq_true q326
       go_wp2
       go_ret
       exact ⟨by first | rfl | (simp; done) | (simp [*]; done), by repeat (first | exact Drawn0.refl _ | apply Drawn0.step)⟩
     ·rw [if_neg c4] at H
      exact absurd H (by simp)
    ·rw [if_neg c3] at H
     exact absurd H (by simp)
   ·rw [if_neg c2] at H
    have c2b0 : decide (x8_1 < (l0.length : Int)) = false := decide_eq_false c2
    clear c2
    obtain rfl := Option.some.inj H
    go_wp2
    go_ret
    exact ⟨by first | rfl | (simp; done) | (simp [*]; done), by repeat (first | exact Drawn0.refl _ | apply Drawn0.step)⟩

/-! ### cmp_isNaN_int64: function 91 -/
def cmp_isNaN_int64.f (a0 : Int) : Option (Bool) := some (a0 != a0)
set_option maxHeartbeats 8000000 in
set_option maxRecDepth 100000 in
theorem cmp_isNaN_int64.calls (a0 : Int) (r : Bool) (w : World) (h : cmp_isNaN_int64.f a0 = some r) :
  Calls Try.prog 91 #[.int .i64 a0] w fun e w' => e = .returned (.bool r) ∧ Drawn0 w w' := by
 have H : (some (a0 != a0)) = some r := h
 clear h
 obtain rfl := Option.some.inj H
 go_enter Try.func91, Try.ntmps91
 go_wp2
 go_ret
 exact ⟨by first | rfl | (simp; done) | (simp [*]; done), by repeat (first | exact Drawn0.refl _ | apply Drawn0.step)⟩

end Go.Proofs.Ytimgiiceipjpaaa.Print
