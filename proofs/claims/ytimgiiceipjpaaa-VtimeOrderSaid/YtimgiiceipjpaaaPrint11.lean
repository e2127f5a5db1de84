/- What each Go function that is named below answers, as a Lean function, and that its walk comes to just that: for whatever arguments that function gives an answer for. Written by a program of this session (wip/mkpr.py, pr.sh). -/
import Derived.Test.YtimgiiceipjpaaaPrint0
import Derived.Test.YtimgiiceipjpaaaPrint3
import Derived.Test.YtimgiiceipjpaaaPrint8
import Derived.Test.YtimgiiceipjpaaaPrint9
namespace Go.Proofs.Ytimgiiceipjpaaa.Print
open Go.RowKit Go.Proofs.YtimgiiceipjpaaaW.PrintWords Go.Proofs.YtimgiiceipjpaaaW.PrintLast Go.Proofs.YtimgiiceipjpaaaW.PrintMore
attribute [local go_sem] max2_int min2_int max_two min_two max_three min_three max_four min_four   -- for this text's walks alone
open Go.Proofs.Ytimgiiceipjpaaa.Bits
attribute [local go_sem] add64_run0 sub64_run0 add64_run sub64_run
set_option linter.unusedVariables false
set_option linter.unusedSimpArgs false

/-! ### turnstonelaw03_VtimeOrder: function 7 -/
mutual
def turnstonelaw03_VtimeOrder.j0 : Nat → Int → List Int → Bool → Option (Bool)
 | 0, _, _, _ => none
 | k + 1, x0, x1, x23 => if x23 = true then (some true) else (turnstonelaw03_VtimeOrder.l0 k x0 x1 ([] : List Int) ([] : List Int) x1 (x1.length : Int) 0)
def turnstonelaw03_VtimeOrder.l0 : Nat → Int → List Int → List Int → List Int → List Int → Int → Int → Option (Bool)
 | 0, _, _, _, _, _, _, _ => none
 | k + 1, x0, x1, x5, x6, x24, x25, x26 => if x26 < x25 then (if 0 ≤ x26 then (if x26 < (x24.length : Int) then (if 0 ≤ (wrap64 ((wrap64 ((x1.length : Int) - 1)) - x26)) then (if (wrap64 ((wrap64 ((x1.length : Int) - 1)) - x26)) < (x1.length : Int) then (if (rd x24 x26) ≤ (-2305843009213693952) then (turnstonelaw03_VtimeOrder.j2 k x0 x1 x5 x6 (rd x24 x26) (rd x1 (wrap64 ((wrap64 ((x1.length : Int) - 1)) - x26))) x24 x25 x26 true) else (turnstonelaw03_VtimeOrder.j2 k x0 x1 x5 x6 (rd x24 x26) (rd x1 (wrap64 ((wrap64 ((x1.length : Int) - 1)) - x26))) x24 x25 x26 (decide ((rd x24 x26) ≥ 2305843009213693952)))) else (none)) else (none)) else (none)) else (none)) else (if 0 < (x5.length : Int) then ((vtime_First.f k (rd x5 0) x5).bind fun t230 => ((vtime_Last.f k (rd x5 0) x5).bind fun t232 => (turnstonelaw03_VtimeOrder.l1 k x6 t230 t232 x5 (x5.length : Int) 0))) else (none))
def turnstonelaw03_VtimeOrder.j2 : Nat → Int → List Int → List Int → List Int → Int → Int → List Int → Int → Int → Bool → Option (Bool)
 | 0, _, _, _, _, _, _, _, _, _, _ => none
 | k + 1, x0, x1, x5, x6, x8, x9, x24, x25, x26, x44 => if x44 = true then (some true) else ((vtime_Time_Add.f x0 x8).bind fun t221 => (if x5.length < 17592186044416 then ((vtime_Time_Add.f x0 x9).bind fun t225 => (if x6.length < 17592186044416 then (turnstonelaw03_VtimeOrder.l0 k x0 x1 (x5 ++ [t221]) (x6 ++ [t225]) x24 x25 (wrap64 (x26 + 1))) else (none))) else (none)))
def turnstonelaw03_VtimeOrder.l1 : Nat → List Int → Int → Int → List Int → Int → Int → Option (Bool)
 | 0, _, _, _, _, _, _ => none
 | k + 1, x6, x10, x11, x68, x69, x70 => if x70 < x69 then (if 0 ≤ x70 then (if x70 < (x68.length : Int) then ((vtime_Time_Before.f (rd x68 x70) x10).bind fun t234 => (if t234 = true then (none) else ((vtime_Time_Before.f x11 (rd x68 x70)).bind fun t235 => (if t235 = true then (none) else (turnstonelaw03_VtimeOrder.l1 k x6 x10 x11 x68 x69 (wrap64 (x70 + 1))))))) else (none)) else (none)) else (if 0 < (x6.length : Int) then ((vtime_First.f k (rd x6 0) x6).bind fun t237 => (if t237 = x10 then ((vtime_Last.f k (rd x6 0) x6).bind fun t239 => (if t239 = x11 then ((vtime_Spread.f k x6).bind fun t240 => ((vtime_Time_Since.f x11 x10).bind fun t241 => (some (t240 == (IntKind.u64.wrap (t241)))))) else (none))) else (none))) else (none))
end
def turnstonelaw03_VtimeOrder.f (k : Nat) (a0 : Int) (l1 : List Int) : Option (Bool) := (turnstonelaw03_awake.f k).bind fun t218 => (if t218 = true then (if (l1.length : Int) > 100 then (turnstonelaw03_VtimeOrder.j0 k a0 l1 true) else (turnstonelaw03_VtimeOrder.j0 k a0 l1 ((l1.length : Int) == 0))) else (none))
theorem turnstonelaw03_VtimeOrder.mono_l : ∀ k, (∀ y0 y1 y2, LeO (turnstonelaw03_VtimeOrder.j0 k y0 y1 y2) (turnstonelaw03_VtimeOrder.j0 (k + 1) y0 y1 y2)) ∧ (∀ y0 y1 y2 y3 y4 y5 y6, LeO (turnstonelaw03_VtimeOrder.l0 k y0 y1 y2 y3 y4 y5 y6) (turnstonelaw03_VtimeOrder.l0 (k + 1) y0 y1 y2 y3 y4 y5 y6)) ∧ (∀ y0 y1 y2 y3 y4 y5 y6 y7 y8 y9, LeO (turnstonelaw03_VtimeOrder.j2 k y0 y1 y2 y3 y4 y5 y6 y7 y8 y9) (turnstonelaw03_VtimeOrder.j2 (k + 1) y0 y1 y2 y3 y4 y5 y6 y7 y8 y9)) ∧ (∀ y0 y1 y2 y3 y4 y5, LeO (turnstonelaw03_VtimeOrder.l1 k y0 y1 y2 y3 y4 y5) (turnstonelaw03_VtimeOrder.l1 (k + 1) y0 y1 y2 y3 y4 y5))
 | 0 => ⟨fun _ _ _ r h => by simp [turnstonelaw03_VtimeOrder.j0] at h, fun _ _ _ _ _ _ _ r h => by simp [turnstonelaw03_VtimeOrder.l0] at h, fun _ _ _ _ _ _ _ _ _ _ r h => by simp [turnstonelaw03_VtimeOrder.j2] at h, fun _ _ _ _ _ _ r h => by simp [turnstonelaw03_VtimeOrder.l1] at h⟩
 | k + 1 => by
  obtain ⟨ih0, ih1, ih2, ih3⟩ := turnstonelaw03_VtimeOrder.mono_l k
  refine ⟨?_, ?_, ?_, ?_⟩
  ·intro y0 y1 y2
   unfold turnstonelaw03_VtimeOrder.j0
   repeat' first
   | (with_reducible exact ih0 _ _ _)
   | (with_reducible exact ih1 _ _ _ _ _ _ _)
   | (with_reducible exact ih2 _ _ _ _ _ _ _ _ _ _)
   | (with_reducible exact ih3 _ _ _ _ _ _)
   | (with_reducible exact turnstonelaw03_awake.mono _)
   | (with_reducible exact vtime_First.mono _ _ _)
   | (with_reducible exact vtime_Last.mono _ _ _)
   | (with_reducible exact vtime_Spread.mono _ _)
   | (with_reducible exact LeO.refl _)
   | (with_reducible exact LeO.none _)
   | (with_reducible refine LeO.ite ?_ ?_)
   | (with_reducible refine LeO.bind ?_ (fun _ => ?_))
   | exact ih0 _ _ _
   | exact ih1 _ _ _ _ _ _ _
   | exact ih2 _ _ _ _ _ _ _ _ _ _
   | exact ih3 _ _ _ _ _ _
   | exact turnstonelaw03_awake.mono _
   | exact vtime_First.mono _ _ _
   | exact vtime_Last.mono _ _ _
   | exact vtime_Spread.mono _ _
   | exact LeO.none _
   | refine LeO.ite ?_ ?_
   | refine LeO.bind ?_ (fun _ => ?_)
  ·intro y0 y1 y2 y3 y4 y5 y6
   unfold turnstonelaw03_VtimeOrder.l0
   repeat' first
   | (with_reducible exact ih0 _ _ _)
   | (with_reducible exact ih1 _ _ _ _ _ _ _)
   | (with_reducible exact ih2 _ _ _ _ _ _ _ _ _ _)
   | (with_reducible exact ih3 _ _ _ _ _ _)
   | (with_reducible exact turnstonelaw03_awake.mono _)
   | (with_reducible exact vtime_First.mono _ _ _)
   | (with_reducible exact vtime_Last.mono _ _ _)
   | (with_reducible exact vtime_Spread.mono _ _)
   | (with_reducible exact LeO.refl _)
   | (with_reducible exact LeO.none _)
   | (with_reducible refine LeO.ite ?_ ?_)
   | (with_reducible refine LeO.bind ?_ (fun _ => ?_))
   | exact ih0 _ _ _
   | exact ih1 _ _ _ _ _ _ _
   | exact ih2 _ _ _ _ _ _ _ _ _ _
   | exact ih3 _ _ _ _ _ _
   | exact turnstonelaw03_awake.mono _
   | exact vtime_First.mono _ _ _
   | exact vtime_Last.mono _ _ _
   | exact vtime_Spread.mono _ _
   | exact LeO.none _
   | refine LeO.ite ?_ ?_
   | refine LeO.bind ?_ (fun _ => ?_)
  ·intro y0 y1 y2 y3 y4 y5 y6 y7 y8 y9
   unfold turnstonelaw03_VtimeOrder.j2
   repeat' first
   | (with_reducible exact ih0 _ _ _)
   | (with_reducible exact ih1 _ _ _ _ _ _ _)
   | (with_reducible exact ih2 _ _ _ _ _ _ _ _ _ _)
   | (with_reducible exact ih3 _ _ _ _ _ _)
   | (with_reducible exact turnstonelaw03_awake.mono _)
   | (with_reducible exact vtime_First.mono _ _ _)
   | (with_reducible exact vtime_Last.mono _ _ _)
   | (with_reducible exact vtime_Spread.mono _ _)
   | (with_reducible exact LeO.refl _)
   | (with_reducible exact LeO.none _)
   | (with_reducible refine LeO.ite ?_ ?_)
   | (with_reducible refine LeO.bind ?_ (fun _ => ?_))
   | exact ih0 _ _ _
   | exact ih1 _ _ _ _ _ _ _
   | exact ih2 _ _ _ _ _ _ _ _ _ _
   | exact ih3 _ _ _ _ _ _
   | exact turnstonelaw03_awake.mono _
   | exact vtime_First.mono _ _ _
   | exact vtime_Last.mono _ _ _
   | exact vtime_Spread.mono _ _
   | exact LeO.none _
   | refine LeO.ite ?_ ?_
   | refine LeO.bind ?_ (fun _ => ?_)
  ·intro y0 y1 y2 y3 y4 y5
   unfold turnstonelaw03_VtimeOrder.l1
   repeat' first
   | (with_reducible exact ih0 _ _ _)
   | (with_reducible exact ih1 _ _ _ _ _ _ _)
   | (with_reducible exact ih2 _ _ _ _ _ _ _ _ _ _)
   | (with_reducible exact ih3 _ _ _ _ _ _)
   | (with_reducible exact turnstonelaw03_awake.mono _)
   | (with_reducible exact vtime_First.mono _ _ _)
   | (with_reducible exact vtime_Last.mono _ _ _)
   | (with_reducible exact vtime_Spread.mono _ _)
   | (with_reducible exact LeO.refl _)
   | (with_reducible exact LeO.none _)
   | (with_reducible refine LeO.ite ?_ ?_)
   | (with_reducible refine LeO.bind ?_ (fun _ => ?_))
   | exact ih0 _ _ _
   | exact ih1 _ _ _ _ _ _ _
   | exact ih2 _ _ _ _ _ _ _ _ _ _
   | exact ih3 _ _ _ _ _ _
   | exact turnstonelaw03_awake.mono _
   | exact vtime_First.mono _ _ _
   | exact vtime_Last.mono _ _ _
   | exact vtime_Spread.mono _ _
   | exact LeO.none _
   | refine LeO.ite ?_ ?_
   | refine LeO.bind ?_ (fun _ => ?_)
theorem turnstonelaw03_VtimeOrder.mono : ∀ a0 a1 k, LeO (turnstonelaw03_VtimeOrder.f k a0 a1) (turnstonelaw03_VtimeOrder.f (k + 1) a0 a1) := by
 intro a0 a1 k
 obtain ⟨ih0, ih1, ih2, ih3⟩ := turnstonelaw03_VtimeOrder.mono_l k
 unfold turnstonelaw03_VtimeOrder.f
 repeat' first
   | (with_reducible exact ih0 _ _ _)
   | (with_reducible exact ih1 _ _ _ _ _ _ _)
   | (with_reducible exact ih2 _ _ _ _ _ _ _ _ _ _)
   | (with_reducible exact ih3 _ _ _ _ _ _)
   | (with_reducible exact turnstonelaw03_awake.mono _)
   | (with_reducible exact vtime_First.mono _ _ _)
   | (with_reducible exact vtime_Last.mono _ _ _)
   | (with_reducible exact vtime_Spread.mono _ _)
   | (with_reducible exact LeO.refl _)
   | (with_reducible exact LeO.none _)
   | (with_reducible refine LeO.ite ?_ ?_)
   | (with_reducible refine LeO.bind ?_ (fun _ => ?_))
   | exact ih0 _ _ _
   | exact ih1 _ _ _ _ _ _ _
   | exact ih2 _ _ _ _ _ _ _ _ _ _
   | exact ih3 _ _ _ _ _ _
   | exact turnstonelaw03_awake.mono _
   | exact vtime_First.mono _ _ _
   | exact vtime_Last.mono _ _ _
   | exact vtime_Spread.mono _ _
   | exact LeO.none _
   | refine LeO.ite ?_ ?_
   | refine LeO.bind ?_ (fun _ => ?_)
set_option maxHeartbeats 8000000 in
set_option maxRecDepth 100000 in
theorem turnstonelaw03_VtimeOrder.calls (k : Nat) (a0 : Int) (A1 : Option Addr) (c1 : Nat) (l1 : List Int) (r : Bool) (w : World) (hr1 : Kd.C (Kd.int .i64) w A1 l1.length l1) (hc1 : l1.length ≤ c1) (h : turnstonelaw03_VtimeOrder.f k a0 l1 = some r) :
  Calls Try.prog 7 #[.int .u64 a0, .slice A1 l1.length c1] w fun e w' => e = .returned (.bool r) ∧ Below w.heap.size w w' := by
 have HR1 := Aside0.mk hr1
 have HC1 := Aside0.mk hc1
 clear hr1 hc1
 have HB := Aside0.mk (Below.refl w.heap.size w)
 have H : ((turnstonelaw03_awake.f k).bind fun t218 => (if t218 = true then (if (l1.length : Int) > 100 then (turnstonelaw03_VtimeOrder.j0 k a0 l1 true) else (turnstonelaw03_VtimeOrder.j0 k a0 l1 ((l1.length : Int) == 0))) else (none))) = some r := h
 clear h
 replace H := Option.bind_eq_some_iff.mp H
 obtain ⟨t218, A30, H⟩ := H
 replace H : (if t218 = true then (if (l1.length : Int) > 100 then (turnstonelaw03_VtimeOrder.j0 k a0 l1 true) else (turnstonelaw03_VtimeOrder.j0 k a0 l1 ((l1.length : Int) == 0))) else (none)) = some r := H
 have A3 := Aside0.mk A30
 clear A30
 by_cases c4 : t218 = true
 ·subst c4
  have H1 : (if (l1.length : Int) > 100 then (turnstonelaw03_VtimeOrder.j0 k a0 l1 true) else (turnstonelaw03_VtimeOrder.j0 k a0 l1 ((l1.length : Int) == 0))) = some r := by rw [if_pos rfl] at H; exact H
  clear H
  have H := H1
  clear H1
  have HC5 := Aside0.mk H
  clear H
  go_enter Try.func7, Try.ntmps7
  go_upto_region 3 with (first | (go_at_call 17; (with_reducible refine (turnstonelaw03_awake.calls k  true _ A3.out).mono ?_); rintro e w6 ⟨rfl, hb⟩; have n0_ := Aside0.mk (below_step (by repeat (first | (with_reducible first | exact HB.out | apply below_alloc | apply pw_below_drewN | apply below_drew1) | exact HB.out)) hb); clear HB; have HB := n0_; clear n0_; (try clear hb); (try clear hb2); (try clear hk); (try clear hi)))
  repeat (go_quiet (first | (go_at_call 17; (with_reducible refine (turnstonelaw03_awake.calls k  true _ A3.out).mono ?_); rintro e w6 ⟨rfl, hb⟩; have n0_ := Aside0.mk (below_step (by repeat (first | (with_reducible first | exact HB.out | apply below_alloc | apply pw_below_drewN | apply below_drew1) | exact HB.out)) hb); clear HB; have HB := n0_; clear n0_; (try clear hb); (try clear hb2); (try clear hk); (try clear hi))); go_upto_region 3 with (first | (go_at_call 17; (with_reducible refine (turnstonelaw03_awake.calls k  true _ A3.out).mono ?_); rintro e w6 ⟨rfl, hb⟩; have n0_ := Aside0.mk (below_step (by repeat (first | (with_reducible first | exact HB.out | apply below_alloc | apply pw_below_drewN | apply below_drew1) | exact HB.out)) hb); clear HB; have HB := n0_; clear n0_; (try clear hb); (try clear hb2); (try clear hk); (try clear hi))))
  (try simp only [Act.put, List.setIfInBounds_toArray, List.set_cons_zero, List.set_cons_succ])
  go_cut [23] (fun v23 wc => ∃ (kq : Nat) (x23_4 : Bool), v23 = .bool x23_4 ∧ Aside0 (turnstonelaw03_VtimeOrder.j0 kq a0 l1 x23_4 = some r) ∧ Aside0 (kq ≤ k) ∧ Aside0 (Below w.heap.size w wc))
  case first =>
   have H := HC5.out
   clear HC5
   by_cases c7 : (l1.length : Int) > 100
   ·rw [if_pos c7] at H
    have c7b0 : decide (100 < (l1.length : Int)) = true := decide_eq_true c7
    have c7b1 : decide (100 < l1.length) = true := decide_eq_true (by omega)
    clear c7
    (first | rw [c7b0] | (simp only [i64_w, i32_w]; rw [c7b0]) | skip)
    have H' := Aside0.mk H
    clear H
    go_wp2
    repeat (go_quiet (fail); try go_wp2)
    go_meet
    case rel => exact ⟨_, (true), (by first | rfl | (simp; done) | (simp [*]; done)), H', ⟨by first | omega | exact Nat.le_refl _⟩, ⟨by repeat (first | (with_reducible first | exact HB.out | apply below_alloc | apply pw_below_drewN | apply below_drew1) | exact HB.out)⟩⟩
   ·rw [if_neg c7] at H
    have c7b0 : decide (100 < (l1.length : Int)) = false := decide_eq_false c7
    have c7b1 : decide (100 < l1.length) = false := decide_eq_false (by omega)
    clear c7
    (first | rw [c7b0] | (simp only [i64_w, i32_w]; rw [c7b0]) | skip)
    have H' := Aside0.mk H
    clear H
    go_wp2
    repeat (go_quiet (fail); try go_wp2)
    go_meet
    case rel => exact ⟨_, (((l1.length : Int) == 0)), (by first | rfl | (simp; done) | (simp [*]; done)), H', ⟨by first | omega | exact Nat.le_refl _⟩, ⟨by repeat (first | (with_reducible first | exact HB.out | apply below_alloc | apply pw_below_drewN | apply below_drew1) | exact HB.out)⟩⟩
  case rest =>
   clear HC5
   try clear c1
   try clear p2
   try clear c4
   try clear c7
   try clear c7b0
   try clear c7b1
   obtain ⟨kq, x23_4, rfl, HA, HJ4, HB⟩ := hcut
   cases kq with
   | zero => exact absurd HA.out (by simp [turnstonelaw03_VtimeOrder.j0])
   | succ kj4 =>
    have H := HA.out
    clear HA
    simp only [turnstonelaw03_VtimeOrder.j0] at H
    by_cases c8 : x23_4 = true
    ·subst c8
     have H1 : (some true) = some r := by rw [if_pos rfl] at H; exact H
     clear H
     have H := H1
     clear H1
     obtain rfl := Option.some.inj H
     go_wp2
     repeat (go_quiet (fail); try go_wp2)
     go_ret
     exact ⟨by first | rfl | (simp [errW_none, errW_some] <;> rfl) | (simp [*, errW_none, errW_some] <;> rfl), by repeat (first | (with_reducible first | exact HB.out | apply below_alloc | apply pw_below_drewN | apply below_drew1) | exact HB.out)⟩
    ·replace c8 := Bool.eq_false_iff.mpr c8
     subst c8
     have H1 : (turnstonelaw03_VtimeOrder.l0 kj4 a0 l1 ([] : List Int) ([] : List Int) l1 (l1.length : Int) 0) = some r := by rw [if_neg (show ¬ (false = true) by decide)] at H; exact H
     clear H
     have H := H1
     clear H1
     have H' := Aside0.mk H
     clear H
     go_wp2
     repeat (go_quiet (fail); try go_wp2)
     (try simp only [Act.put, List.setIfInBounds_toArray, List.set_cons_zero, List.set_cons_succ])
     go_loopg [5, 6, 26] kj4 (fun kq v5 v6 v26 w' => ∃ (x5_2 : List Int) (x6_2 : List Int) (x26_2 : Int), v26 = .int .i64 x26_2 ∧ Aside0 (turnstonelaw03_VtimeOrder.l0 kq a0 l1 x5_2 x6_2 l1 (l1.length : Int) x26_2 = some r) ∧ Aside0 (kq ≤ kj4) ∧ Aside0 (Kd.R (Kd.int .u64) 24 w' w.heap.size (fun k_ => some k_ ≠ (v6 : Value).ownBlock) v5 x5_2) ∧ Aside0 (Kd.R (Kd.int .u64) 24 w' w.heap.size (fun k_ => some k_ ≠ (v5 : Value).ownBlock) v6 x6_2) ∧ Aside0 (Below w.heap.size w w'))
     case atStart => exact ⟨(([] : List Int)), (([] : List Int)), (0), (by first | rfl | (simp; done) | (simp [*]; done)), H', ⟨Nat.le_refl _⟩, ⟨by first | exact Kd.R_nil _ _ _ _ _ | exact Kd.N_nil _ _ _ _ _ | exact Kd.V_nil _ _ _ _ _ | exact Kd.Q_nil _ _ _ _ _ | exact Kd.S_nil _ _ _ _ _⟩, ⟨by first | exact Kd.R_nil _ _ _ _ _ | exact Kd.N_nil _ _ _ _ _ | exact Kd.V_nil _ _ _ _ _ | exact Kd.Q_nil _ _ _ _ _ | exact Kd.S_nil _ _ _ _ _⟩, ⟨by repeat (first | (with_reducible first | exact HB.out | apply below_alloc | apply pw_below_drewN | apply below_drew1) | exact HB.out)⟩⟩
     case round =>
      clear H'
      try clear c1
      try clear p2
      try clear c4
      try clear c7
      try clear c7b0
      try clear c7b1
      try clear c8
      try clear p2
      obtain ⟨x5_2, x6_2, x26_2, rfl, HA, HK2, HO_5, HO_6, HB⟩ := hrel
      cases gk with
      | zero => exact absurd HA.out (by simp [turnstonelaw03_VtimeOrder.l0])
      | succ k2 =>
       have H := HA.out
       clear HA
       simp only [turnstonelaw03_VtimeOrder.l0] at H
       by_cases c9 : x26_2 < (l1.length : Int)
       ·rw [if_pos c9] at H
        have c9b0 : decide (x26_2 < (l1.length : Int)) = true := decide_eq_true c9
        clear c9
        by_cases c10 : 0 ≤ x26_2
        ·rw [if_pos c10] at H
         have c10b0 : decide (0 ≤ x26_2) = true := decide_eq_true c10
         clear c10
         by_cases c11 : x26_2 < (l1.length : Int)
         ·rw [if_pos c11] at H
          have c11b0 : decide (x26_2 < (l1.length : Int)) = true := decide_eq_true c11
          clear c11
          obtain ⟨ji12, hji12⟩ : ∃ j_ : Int, (wrap64 ((wrap64 ((l1.length : Int) - 1)) - x26_2)) = j_ := ⟨_, rfl⟩
          replace H : (if 0 ≤ (ji12) then (if (ji12) < (l1.length : Int) then (if (rd l1 x26_2) ≤ (-2305843009213693952) then (turnstonelaw03_VtimeOrder.j2 k2 a0 l1 x5_2 x6_2 (rd l1 x26_2) (rd l1 (ji12)) l1 (l1.length : Int) x26_2 true) else (turnstonelaw03_VtimeOrder.j2 k2 a0 l1 x5_2 x6_2 (rd l1 x26_2) (rd l1 (ji12)) l1 (l1.length : Int) x26_2 (decide ((rd l1 x26_2) ≥ 2305843009213693952)))) else (none)) else (none)) = some r := by first | (rw [hji12] at H; exact H) | (simp only [hji12] at H ⊢; exact H)
          have hji12w : (IntKind.i64.wrap ((wrap64 ((l1.length : Int) - 1)) - x26_2)) = ji12 := (i64_w _).trans hji12
          by_cases c13 : 0 ≤ (ji12)
          ·rw [if_pos c13] at H
           have c13b0 : decide (0 ≤ (ji12)) = true := decide_eq_true c13
           clear c13
           by_cases c14 : (ji12) < (l1.length : Int)
           ·rw [if_pos c14] at H
            have c14b0 : decide ((ji12) < (l1.length : Int)) = true := decide_eq_true c14
            clear c14
            have HC15 := Aside0.mk H
            clear H
            have p219 : 0 ≤ (x26_2 : Int) := of_decide_eq_true (by first | (with_reducible assumption) | assumption)
            have q219 : x26_2 < (l1.length : Int) := of_decide_eq_true (by first | (with_reducible assumption) | assumption)
            obtain ⟨ad219, e219, hx219_0⟩ := Kd.at_int HR1.out x26_2 p219 q219
            cases e219
            replace hx219_0 := (HB.out.cell (World.block_lt_of_cell? w _ hx219_0)).trans hx219_0
            replace p219 := eq_true p219
            replace q219 := eq_true q219
            have p220 : 0 ≤ ((ji12) : Int) := of_decide_eq_true (by first | (with_reducible assumption) | assumption)
            have q220 : (ji12) < (l1.length : Int) := of_decide_eq_true (by first | (with_reducible assumption) | assumption)
            obtain ⟨ad220, e220, hx220_0⟩ := Kd.at_int HR1.out (ji12) p220 q220
            obtain rfl : ad219 = ad220 := (by injection e220)
            replace hx220_0 := (HB.out.cell (World.block_lt_of_cell? w _ hx220_0)).trans hx220_0
            replace p220 := eq_true p220
            replace q220 := eq_true q220
            go_upto_region 10 with (fail)
            repeat (go_quiet (fail); go_upto_region 10 with (fail))
            go_cut [44] (fun v44 wc => ∃ (kq : Nat) (x44_14 : Bool), v44 = .bool x44_14 ∧ Aside0 (turnstonelaw03_VtimeOrder.j2 kq a0 l1 x5_2 x6_2 (rd l1 x26_2) (rd l1 (ji12)) l1 (l1.length : Int) x26_2 x44_14 = some r) ∧ Aside0 (kq ≤ k2) ∧ Aside0 (Kd.R (Kd.int .u64) 24 wc w.heap.size (fun k_ => some k_ ≠ (u6 : Value).ownBlock) u5 x5_2) ∧ Aside0 (Kd.R (Kd.int .u64) 24 wc w.heap.size (fun k_ => some k_ ≠ (u5 : Value).ownBlock) u6 x6_2) ∧ Aside0 (Below w.heap.size w wc))
            case first =>
             have H := HC15.out
             clear HC15
             by_cases c16 : (rd l1 x26_2) ≤ (-2305843009213693952)
             ·rw [if_pos c16] at H
              have c16b0 : decide ((rd l1 x26_2) ≤ (-2305843009213693952)) = true := decide_eq_true c16
              clear c16
              (first | rw [c16b0] | (simp only [i64_w, i32_w]; rw [c16b0]) | skip)
              have H' := Aside0.mk H
              clear H
              go_wp2
              repeat (go_quiet (fail); try go_wp2)
              go_meet
              case rel => exact ⟨_, (true), (by first | rfl | (simp; done) | (simp [*]; done)), H', ⟨by have := HJ4.out; have := HK2.out; first | omega | exact Nat.le_refl _⟩, ⟨by (with_reducible repeat (first | apply Kd.R_alloc | apply Kd.R_drewN | apply Kd.R_drew)); exact HO_5.out⟩, ⟨by (with_reducible repeat (first | apply Kd.R_alloc | apply Kd.R_drewN | apply Kd.R_drew)); exact HO_6.out⟩, ⟨by repeat (first | (with_reducible first | exact HB.out | apply below_alloc | apply pw_below_drewN | apply below_drew1) | exact HB.out)⟩⟩
             ·rw [if_neg c16] at H
              have c16b0 : decide ((rd l1 x26_2) ≤ (-2305843009213693952)) = false := decide_eq_false c16
              clear c16
              (first | rw [c16b0] | (simp only [i64_w, i32_w]; rw [c16b0]) | skip)
              have H' := Aside0.mk H
              clear H
              go_wp2
              repeat (go_quiet (fail); try go_wp2)
              go_meet
              case rel => exact ⟨_, (decide ((rd l1 x26_2) ≥ 2305843009213693952)), (by first | rfl | (simp; done) | (simp [*]; done)), H', ⟨by have := HJ4.out; have := HK2.out; first | omega | exact Nat.le_refl _⟩, ⟨by (with_reducible repeat (first | apply Kd.R_alloc | apply Kd.R_drewN | apply Kd.R_drew)); exact HO_5.out⟩, ⟨by (with_reducible repeat (first | apply Kd.R_alloc | apply Kd.R_drewN | apply Kd.R_drew)); exact HO_6.out⟩, ⟨by repeat (first | (with_reducible first | exact HB.out | apply below_alloc | apply pw_below_drewN | apply below_drew1) | exact HB.out)⟩⟩
            case rest =>
             clear HC15
             try clear c1
             try clear p2
             try clear q2
             try clear hx2
             try clear c4
             try clear p6
             try clear c7
             try clear c7b0
             try clear c7b1
             try clear c8
             try clear c9
             try clear c9b0
             try clear c10
             try clear c10b0
             try clear c11
             try clear c11b0
             try clear c13
             try clear c13b0
             try clear c14
             try clear c14b0
             try clear c16
             try clear c16b0
             try clear hx219_0
             try clear hx220_0
             try clear p2
             try clear p219
             try clear p220
             try clear q219
             try clear q220
             obtain ⟨kq, x44_14, rfl, HA, HJ14, HO_5, HO_6, HB⟩ := hcut
             cases kq with
             | zero => exact absurd HA.out (by simp [turnstonelaw03_VtimeOrder.j2])
             | succ kj14 =>
              have H := HA.out
              clear HA
              simp only [turnstonelaw03_VtimeOrder.j2] at H
              by_cases c17 : x44_14 = true
              ·subst c17
               have H1 : (some true) = some r := by rw [if_pos rfl] at H; exact H
               clear H
               have H := H1
               clear H1
               obtain rfl := Option.some.inj H
               go_wp2
               repeat (go_quiet (fail); try go_wp2)
               go_ret
               exact ⟨by first | rfl | (simp [errW_none, errW_some] <;> rfl) | (simp only [← hji12]; first | rfl | (simp [errW_none, errW_some] <;> rfl)) | (simp [*, errW_none, errW_some] <;> rfl), by repeat (first | (with_reducible first | exact HB.out | apply below_alloc | apply pw_below_drewN | apply below_drew1) | exact HB.out)⟩
              ·replace c17 := Bool.eq_false_iff.mpr c17
               subst c17
               have H1 : ((vtime_Time_Add.f a0 (rd l1 x26_2)).bind fun t221 => (if x5_2.length < 17592186044416 then ((vtime_Time_Add.f a0 (rd l1 (ji12))).bind fun t225 => (if x6_2.length < 17592186044416 then (turnstonelaw03_VtimeOrder.l0 kj14 a0 l1 (x5_2 ++ [t221]) (x6_2 ++ [t225]) l1 (l1.length : Int) (wrap64 (x26_2 + 1))) else (none))) else (none))) = some r := by rw [if_neg (show ¬ (false = true) by decide)] at H; exact H
               clear H
               have H := H1
               clear H1
               replace H := Option.bind_eq_some_iff.mp H
               obtain ⟨t221, A180, H⟩ := H
               replace H : (if x5_2.length < 17592186044416 then ((vtime_Time_Add.f a0 (rd l1 (ji12))).bind fun t225 => (if x6_2.length < 17592186044416 then (turnstonelaw03_VtimeOrder.l0 kj14 a0 l1 (x5_2 ++ [t221]) (x6_2 ++ [t225]) l1 (l1.length : Int) (wrap64 (x26_2 + 1))) else (none))) else (none)) = some r := H
               have A18 := Aside0.mk A180
               clear A180
               by_cases c19 : x5_2.length < 17592186044416
               ·rw [if_pos c19] at H
                have LMc19 := Aside0.mk c19
                clear c19
                obtain ⟨y222, hy222⟩ : ∃ y_ : List Int, y_ = (x5_2 ++ [t221]) := ⟨_, rfl⟩
                replace H : ((vtime_Time_Add.f a0 (rd l1 (ji12))).bind fun t225 => (if x6_2.length < 17592186044416 then (turnstonelaw03_VtimeOrder.l0 kj14 a0 l1 y222 (x6_2 ++ [t225]) l1 (l1.length : Int) (wrap64 (x26_2 + 1))) else (none))) = some r := by first | (rw [hy222]; with_reducible exact H) | (have H2_ := (Option.bind_some _ _).symm.trans H; rw [hy222]; with_reducible exact H2_) | (have H2_ := (Option.bind_some _ _).symm.trans H; with_reducible exact H2_) | with_reducible exact H | (rw [hy222]; exact H) | exact H
                have Ny222 := Aside0.mk hy222
                clear hy222
                replace H := Option.bind_eq_some_iff.mp H
                obtain ⟨t225, A200, H⟩ := H
                replace H : (if x6_2.length < 17592186044416 then (turnstonelaw03_VtimeOrder.l0 kj14 a0 l1 y222 (x6_2 ++ [t225]) l1 (l1.length : Int) (wrap64 (x26_2 + 1))) else (none)) = some r := H
                have A20 := Aside0.mk A200
                clear A200
                by_cases c21 : x6_2.length < 17592186044416
                ·rw [if_pos c21] at H
                 have LMc21 := Aside0.mk c21
                 clear c21
                 obtain ⟨y226, hy226⟩ : ∃ y_ : List Int, y_ = (x6_2 ++ [t225]) := ⟨_, rfl⟩
                 replace H : (turnstonelaw03_VtimeOrder.l0 kj14 a0 l1 y222 y226 l1 (l1.length : Int) (wrap64 (x26_2 + 1))) = some r := by first | (rw [hy226]; with_reducible exact H) | (have H2_ := (Option.bind_some _ _).symm.trans H; rw [hy226]; with_reducible exact H2_) | (have H2_ := (Option.bind_some _ _).symm.trans H; with_reducible exact H2_) | with_reducible exact H | (rw [hy226]; exact H) | exact H
                 have Ny226 := Aside0.mk hy226
                 clear hy226
                 have H' := Aside0.mk H
                 clear H
                 go_wp2_with (first | (go_at_call 25; (with_reducible refine (vtime_Time_Add.calls a0 (rd l1 x26_2) t221 _ A18.out).mono ?_); rintro e w' ⟨rfl, ⟨nd, rfl⟩⟩; (try first | exact ⟨rfl, _, World.drewN_drewN _ _ _⟩ | exact ⟨rfl, _, Eq.trans (World.drewN_drewN _ _ _) (congrArg (World.drewN _) (Nat.add_assoc _ _ _))⟩)) | ((with_reducible refine gate_builtin (b := .append) (xs := #[.tmp 45, .tmp 49]) rfl ?_); (try (refine gate_guard (by rfl) ?_; dsimp only)); at_builtin; refine Kd.R_append (Kd.int .u64) (w0 := w) w.heap.size rfl (.tmp 45) (.tmp 49) 41 24 (.int .u64 0) 8 rfl Try.underlying41 info24 rfl (by decide) (by omega) u5 x5_2 t221 [.int .u64 t221] (fun k_ => some k_ ≠ (u6 : Value).ownBlock) (fun _ => False) rfl rfl ?aP (fun _ hk => hk.elim) ?aF ?aO ?aB ?aS ?aL ?_; (case aP => exact rfl); (case aB => exact (by repeat (first | (with_reducible first | exact HB.out | apply below_alloc | apply pw_below_drewN | apply below_drew1) | exact HB.out))); (case aF => exact (fun k_ hk => Kd.fresh' (Kd.R_lt (by (with_reducible repeat (first | apply Kd.R_alloc | apply Kd.R_drewN | apply Kd.R_drew)); exact HO_6.out)) k_ hk)); (case aO => exact (by (with_reducible repeat (first | apply Kd.R_alloc | apply Kd.R_drewN | apply Kd.R_drew)); exact HO_5.out)); (case aS => exact (below_size (by repeat (first | (with_reducible first | exact HB.out | apply below_alloc | apply pw_below_drewN | apply below_drew1) | exact HB.out)))); (case aL => have := LMc19.out; omega); intro v223 w22 ho hb hg hat; rw [← Ny222.out] at ho; have n0_ := Aside0.mk (Kd.R_after (ok := (fun _ => True)) (by (with_reducible repeat (first | apply Kd.R_alloc | apply Kd.R_drewN | apply Kd.R_drew)); exact Kd.R_mono HO_6.out (fun _ hk => ⟨trivial, hk⟩)) hg hat); have n1_ := Aside0.mk (hb); have n2_ := Aside0.mk (ho); clear HO_6; clear HB; clear HO_5; have HO_6 := n0_; have HB := n1_; have HO224 := n2_; clear n0_ n1_ n2_; clear ho hb hg hat) | (go_at_call 25; (with_reducible refine (vtime_Time_Add.calls a0 (rd l1 (ji12)) t225 _ A20.out).mono ?_); rintro e w' ⟨rfl, ⟨nd, rfl⟩⟩; (try first | exact ⟨rfl, _, World.drewN_drewN _ _ _⟩ | exact ⟨rfl, _, Eq.trans (World.drewN_drewN _ _ _) (congrArg (World.drewN _) (Nat.add_assoc _ _ _))⟩)) | ((with_reducible refine gate_builtin (b := .append) (xs := #[.tmp 51, .tmp 55]) rfl ?_); (try (refine gate_guard (by rfl) ?_; dsimp only)); at_builtin; refine Kd.R_append (Kd.int .u64) (w0 := w) w.heap.size rfl (.tmp 51) (.tmp 55) 41 24 (.int .u64 0) 8 rfl Try.underlying41 info24 rfl (by decide) (by omega) u6 x6_2 t225 [.int .u64 t225] (fun k_ => some k_ ≠ (v223 : Value).ownBlock) (fun _ => False) rfl rfl ?aP (fun _ hk => hk.elim) ?aF ?aO ?aB ?aS ?aL ?_; (case aP => exact rfl); (case aB => exact (by repeat (first | (with_reducible first | exact HB.out | apply below_alloc | apply pw_below_drewN | apply below_drew1) | exact HB.out))); (case aF => exact (fun k_ hk => Kd.fresh' (Kd.R_lt (by (with_reducible repeat (first | apply Kd.R_alloc | apply Kd.R_drewN | apply Kd.R_drew)); exact HO224.out)) k_ hk)); (case aO => exact (by (with_reducible repeat (first | apply Kd.R_alloc | apply Kd.R_drewN | apply Kd.R_drew)); exact Kd.R_mono HO_6.out (fun _ hk => hk.2))); (case aS => exact (below_size (by repeat (first | (with_reducible first | exact HB.out | apply below_alloc | apply pw_below_drewN | apply below_drew1) | exact HB.out)))); (case aL => have := LMc21.out; omega); intro v227 w23 ho hb hg hat; rw [← Ny226.out] at ho; have n0_ := Aside0.mk (Kd.R_after (ok := (fun _ => True)) (by (with_reducible repeat (first | apply Kd.R_alloc | apply Kd.R_drewN | apply Kd.R_drew)); exact Kd.R_mono HO224.out (fun _ hk => ⟨trivial, hk⟩)) hg hat); have n1_ := Aside0.mk (hb); have n2_ := Aside0.mk (ho); clear HO224; clear HB; clear HO_6; have HO224 := n0_; have HB := n1_; have HO228 := n2_; clear n0_ n1_ n2_; clear ho hb hg hat))
                 repeat (go_quiet (first | (go_at_call 25; (with_reducible refine (vtime_Time_Add.calls a0 (rd l1 x26_2) t221 _ A18.out).mono ?_); rintro e w' ⟨rfl, ⟨nd, rfl⟩⟩; (try first | exact ⟨rfl, _, World.drewN_drewN _ _ _⟩ | exact ⟨rfl, _, Eq.trans (World.drewN_drewN _ _ _) (congrArg (World.drewN _) (Nat.add_assoc _ _ _))⟩)) | ((with_reducible refine gate_builtin (b := .append) (xs := #[.tmp 45, .tmp 49]) rfl ?_); (try (refine gate_guard (by rfl) ?_; dsimp only)); at_builtin; refine Kd.R_append (Kd.int .u64) (w0 := w) w.heap.size rfl (.tmp 45) (.tmp 49) 41 24 (.int .u64 0) 8 rfl Try.underlying41 info24 rfl (by decide) (by omega) u5 x5_2 t221 [.int .u64 t221] (fun k_ => some k_ ≠ (u6 : Value).ownBlock) (fun _ => False) rfl rfl ?aP (fun _ hk => hk.elim) ?aF ?aO ?aB ?aS ?aL ?_; (case aP => exact rfl); (case aB => exact (by repeat (first | (with_reducible first | exact HB.out | apply below_alloc | apply pw_below_drewN | apply below_drew1) | exact HB.out))); (case aF => exact (fun k_ hk => Kd.fresh' (Kd.R_lt (by (with_reducible repeat (first | apply Kd.R_alloc | apply Kd.R_drewN | apply Kd.R_drew)); exact HO_6.out)) k_ hk)); (case aO => exact (by (with_reducible repeat (first | apply Kd.R_alloc | apply Kd.R_drewN | apply Kd.R_drew)); exact HO_5.out)); (case aS => exact (below_size (by repeat (first | (with_reducible first | exact HB.out | apply below_alloc | apply pw_below_drewN | apply below_drew1) | exact HB.out)))); (case aL => have := LMc19.out; omega); intro v223 w22 ho hb hg hat; rw [← Ny222.out] at ho; have n0_ := Aside0.mk (Kd.R_after (ok := (fun _ => True)) (by (with_reducible repeat (first | apply Kd.R_alloc | apply Kd.R_drewN | apply Kd.R_drew)); exact Kd.R_mono HO_6.out (fun _ hk => ⟨trivial, hk⟩)) hg hat); have n1_ := Aside0.mk (hb); have n2_ := Aside0.mk (ho); clear HO_6; clear HB; clear HO_5; have HO_6 := n0_; have HB := n1_; have HO224 := n2_; clear n0_ n1_ n2_; clear ho hb hg hat) | (go_at_call 25; (with_reducible refine (vtime_Time_Add.calls a0 (rd l1 (ji12)) t225 _ A20.out).mono ?_); rintro e w' ⟨rfl, ⟨nd, rfl⟩⟩; (try first | exact ⟨rfl, _, World.drewN_drewN _ _ _⟩ | exact ⟨rfl, _, Eq.trans (World.drewN_drewN _ _ _) (congrArg (World.drewN _) (Nat.add_assoc _ _ _))⟩)) | ((with_reducible refine gate_builtin (b := .append) (xs := #[.tmp 51, .tmp 55]) rfl ?_); (try (refine gate_guard (by rfl) ?_; dsimp only)); at_builtin; refine Kd.R_append (Kd.int .u64) (w0 := w) w.heap.size rfl (.tmp 51) (.tmp 55) 41 24 (.int .u64 0) 8 rfl Try.underlying41 info24 rfl (by decide) (by omega) u6 x6_2 t225 [.int .u64 t225] (fun k_ => some k_ ≠ (v223 : Value).ownBlock) (fun _ => False) rfl rfl ?aP (fun _ hk => hk.elim) ?aF ?aO ?aB ?aS ?aL ?_; (case aP => exact rfl); (case aB => exact (by repeat (first | (with_reducible first | exact HB.out | apply below_alloc | apply pw_below_drewN | apply below_drew1) | exact HB.out))); (case aF => exact (fun k_ hk => Kd.fresh' (Kd.R_lt (by (with_reducible repeat (first | apply Kd.R_alloc | apply Kd.R_drewN | apply Kd.R_drew)); exact HO224.out)) k_ hk)); (case aO => exact (by (with_reducible repeat (first | apply Kd.R_alloc | apply Kd.R_drewN | apply Kd.R_drew)); exact Kd.R_mono HO_6.out (fun _ hk => hk.2))); (case aS => exact (below_size (by repeat (first | (with_reducible first | exact HB.out | apply below_alloc | apply pw_below_drewN | apply below_drew1) | exact HB.out)))); (case aL => have := LMc21.out; omega); intro v227 w23 ho hb hg hat; rw [← Ny226.out] at ho; have n0_ := Aside0.mk (Kd.R_after (ok := (fun _ => True)) (by (with_reducible repeat (first | apply Kd.R_alloc | apply Kd.R_drewN | apply Kd.R_drew)); exact Kd.R_mono HO224.out (fun _ hk => ⟨trivial, hk⟩)) hg hat); have n1_ := Aside0.mk (hb); have n2_ := Aside0.mk (ho); clear HO224; clear HB; clear HO_6; have HO224 := n0_; have HB := n1_; have HO228 := n2_; clear n0_ n1_ n2_; clear ho hb hg hat)); try go_wp2_with (first | (go_at_call 25; (with_reducible refine (vtime_Time_Add.calls a0 (rd l1 x26_2) t221 _ A18.out).mono ?_); rintro e w' ⟨rfl, ⟨nd, rfl⟩⟩; (try first | exact ⟨rfl, _, World.drewN_drewN _ _ _⟩ | exact ⟨rfl, _, Eq.trans (World.drewN_drewN _ _ _) (congrArg (World.drewN _) (Nat.add_assoc _ _ _))⟩)) | ((with_reducible refine gate_builtin (b := .append) (xs := #[.tmp 45, .tmp 49]) rfl ?_); (try (refine gate_guard (by rfl) ?_; dsimp only)); at_builtin; refine Kd.R_append (Kd.int .u64) (w0 := w) w.heap.size rfl (.tmp 45) (.tmp 49) 41 24 (.int .u64 0) 8 rfl Try.underlying41 info24 rfl (by decide) (by omega) u5 x5_2 t221 [.int .u64 t221] (fun k_ => some k_ ≠ (u6 : Value).ownBlock) (fun _ => False) rfl rfl ?aP (fun _ hk => hk.elim) ?aF ?aO ?aB ?aS ?aL ?_; (case aP => exact rfl); (case aB => exact (by repeat (first | (with_reducible first | exact HB.out | apply below_alloc | apply pw_below_drewN | apply below_drew1) | exact HB.out))); (case aF => exact (fun k_ hk => Kd.fresh' (Kd.R_lt (by (with_reducible repeat (first | apply Kd.R_alloc | apply Kd.R_drewN | apply Kd.R_drew)); exact HO_6.out)) k_ hk)); (case aO => exact (by (with_reducible repeat (first | apply Kd.R_alloc | apply Kd.R_drewN | apply Kd.R_drew)); exact HO_5.out)); (case aS => exact (below_size (by repeat (first | (with_reducible first | exact HB.out | apply below_alloc | apply pw_below_drewN | apply below_drew1) | exact HB.out)))); (case aL => have := LMc19.out; omega); intro v223 w22 ho hb hg hat; rw [← Ny222.out] at ho; have n0_ := Aside0.mk (Kd.R_after (ok := (fun _ => True)) (by (with_reducible repeat (first | apply Kd.R_alloc | apply Kd.R_drewN | apply Kd.R_drew)); exact Kd.R_mono HO_6.out (fun _ hk => ⟨trivial, hk⟩)) hg hat); have n1_ := Aside0.mk (hb); have n2_ := Aside0.mk (ho); clear HO_6; clear HB; clear HO_5; have HO_6 := n0_; have HB := n1_; have HO224 := n2_; clear n0_ n1_ n2_; clear ho hb hg hat) | (go_at_call 25; (with_reducible refine (vtime_Time_Add.calls a0 (rd l1 (ji12)) t225 _ A20.out).mono ?_); rintro e w' ⟨rfl, ⟨nd, rfl⟩⟩; (try first | exact ⟨rfl, _, World.drewN_drewN _ _ _⟩ | exact ⟨rfl, _, Eq.trans (World.drewN_drewN _ _ _) (congrArg (World.drewN _) (Nat.add_assoc _ _ _))⟩)) | ((with_reducible refine gate_builtin (b := .append) (xs := #[.tmp 51, .tmp 55]) rfl ?_); (try (refine gate_guard (by rfl) ?_; dsimp only)); at_builtin; refine Kd.R_append (Kd.int .u64) (w0 := w) w.heap.size rfl (.tmp 51) (.tmp 55) 41 24 (.int .u64 0) 8 rfl Try.underlying41 info24 rfl (by decide) (by omega) u6 x6_2 t225 [.int .u64 t225] (fun k_ => some k_ ≠ (v223 : Value).ownBlock) (fun _ => False) rfl rfl ?aP (fun _ hk => hk.elim) ?aF ?aO ?aB ?aS ?aL ?_; (case aP => exact rfl); (case aB => exact (by repeat (first | (with_reducible first | exact HB.out | apply below_alloc | apply pw_below_drewN | apply below_drew1) | exact HB.out))); (case aF => exact (fun k_ hk => Kd.fresh' (Kd.R_lt (by (with_reducible repeat (first | apply Kd.R_alloc | apply Kd.R_drewN | apply Kd.R_drew)); exact HO224.out)) k_ hk)); (case aO => exact (by (with_reducible repeat (first | apply Kd.R_alloc | apply Kd.R_drewN | apply Kd.R_drew)); exact Kd.R_mono HO_6.out (fun _ hk => hk.2))); (case aS => exact (below_size (by repeat (first | (with_reducible first | exact HB.out | apply below_alloc | apply pw_below_drewN | apply below_drew1) | exact HB.out)))); (case aL => have := LMc21.out; omega); intro v227 w23 ho hb hg hat; rw [← Ny226.out] at ho; have n0_ := Aside0.mk (Kd.R_after (ok := (fun _ => True)) (by (with_reducible repeat (first | apply Kd.R_alloc | apply Kd.R_drewN | apply Kd.R_drew)); exact Kd.R_mono HO224.out (fun _ hk => ⟨trivial, hk⟩)) hg hat); have n1_ := Aside0.mk (hb); have n2_ := Aside0.mk (ho); clear HO224; clear HB; clear HO_6; have HO224 := n0_; have HB := n1_; have HO228 := n2_; clear n0_ n1_ n2_; clear ho hb hg hat)))
                 go_roundg kj14
                 case measure => have := HJ4.out; have := HK2.out; have := HJ14.out; omega
                 case rel => exact ⟨(y222), (y226), (wrap64 (x26_2 + 1)), (by first | rfl | (simp; done) | (simp [*]; done)), H', ⟨by have := HJ4.out; have := HK2.out; have := HJ14.out; omega⟩, ⟨by (with_reducible repeat (first | apply Kd.R_alloc | apply Kd.R_drewN | apply Kd.R_drew)); exact Kd.R_mono HO224.out (fun _ hk => hk.2)⟩, ⟨by (with_reducible repeat (first | apply Kd.R_alloc | apply Kd.R_drewN | apply Kd.R_drew)); exact HO228.out⟩, ⟨by repeat (first | (with_reducible first | exact HB.out | apply below_alloc | apply pw_below_drewN | apply below_drew1) | exact HB.out)⟩⟩
                ·rw [if_neg c21] at H
                 exact absurd H (by simp)
               ·rw [if_neg c19] at H
                exact absurd H (by simp)
           ·rw [if_neg c14] at H
            exact absurd H (by simp)
          ·rw [if_neg c13] at H
           exact absurd H (by simp)
         ·rw [if_neg c11] at H
          exact absurd H (by simp)
        ·rw [if_neg c10] at H
         exact absurd H (by simp)
       ·rw [if_neg c9] at H
        have c9b0 : decide (x26_2 < (l1.length : Int)) = false := decide_eq_false c9
        clear c9
        by_cases c24 : 0 < (x5_2.length : Int)
        ·rw [if_pos c24] at H
         have c24b0 : decide (0 < (x5_2.length : Int)) = true := decide_eq_true c24
         have c24b1 : decide (0 < x5_2.length) = true := decide_eq_true (by omega)
         clear c24
         replace H := Option.bind_eq_some_iff.mp H
         obtain ⟨t230, A250, H⟩ := H
         replace H : ((vtime_Last.f k2 (rd x5_2 0) x5_2).bind fun t232 => (turnstonelaw03_VtimeOrder.l1 k2 x6_2 t230 t232 x5_2 (x5_2.length : Int) 0)) = some r := H
         have A25 := Aside0.mk A250
         clear A250
         replace H := Option.bind_eq_some_iff.mp H
         obtain ⟨t232, A260, H⟩ := H
         replace H : (turnstonelaw03_VtimeOrder.l1 k2 x6_2 t230 t232 x5_2 (x5_2.length : Int) 0) = some r := H
         have A26 := Aside0.mk A260
         clear A260
         have H' := Aside0.mk H
         clear H
         obtain ⟨Ao27, co27, eo27⟩ := Kd.R_slice HO_5.out
         subst eo27
         have p229 : 0 ≤ (0 : Int) := (by omega)
         have q229 : 0 < (x5_2.length : Int) := of_decide_eq_true (by first | (with_reducible assumption) | assumption)
         obtain ⟨ad229, e229, hx229_0⟩ := Kd.at_int (Kd.R_reads' HO_5.out).2.2 0 p229 q229
         cases e229
         have qi229 : (0 < x5_2.length) = True := eq_true (by omega)
         (try rw [show ((0 : Int)).toNat = 0 from rfl] at hx229_0)
         (try rw [Addr.add_zero'] at hx229_0)
         replace p229 := eq_true p229
         replace q229 := eq_true q229
         go_wp2_with (first | (go_at_call 29; (with_reducible refine (vtime_First.calls k2 (rd x5_2 0) _ _ x5_2 t230 _ ?side1 ?side2 A25.out).mono ?_); (case side1 => repeat (first | exact (Kd.R_reads' HO_5.out).2.2 | (with_reducible refine Kd.C_alloc ?_ _) | (with_reducible refine Kd.C_drewN ?_ _) | (with_reducible refine Kd.C_drew ?_))); (case side2 => exact (Kd.R_reads' HO_5.out).2.1); rintro e w' ⟨rfl, ⟨nd, rfl⟩⟩; (try first | exact ⟨rfl, _, World.drewN_drewN _ _ _⟩ | exact ⟨rfl, _, Eq.trans (World.drewN_drewN _ _ _) (congrArg (World.drewN _) (Nat.add_assoc _ _ _))⟩); have p231 : 0 ≤ (0 : Int) := (by omega); have q231 : 0 < (x5_2.length : Int) := of_decide_eq_true (by first | (with_reducible assumption) | assumption); obtain ⟨ad231, e231, hx231_0⟩ := Kd.at_int (Kd.R_reads' HO_5.out).2.2 0 p231 q231; obtain rfl : ad229 = ad231 := (by injection e231); have qi231 : (0 < x5_2.length) = True := eq_true (by omega); (try rw [show ((0 : Int)).toNat = 0 from rfl] at hx231_0); (try rw [Addr.add_zero'] at hx231_0); replace p231 := eq_true p231; replace q231 := eq_true q231) | (go_at_call 31; (with_reducible refine (vtime_Last.calls k2 (rd x5_2 0) _ _ x5_2 t232 _ ?side1 ?side2 A26.out).mono ?_); (case side1 => repeat (first | exact (Kd.R_reads' HO_5.out).2.2 | (with_reducible refine Kd.C_alloc ?_ _) | (with_reducible refine Kd.C_drewN ?_ _) | (with_reducible refine Kd.C_drew ?_))); (case side2 => exact (Kd.R_reads' HO_5.out).2.1); rintro e w' ⟨rfl, ⟨nd, rfl⟩⟩; (try first | exact ⟨rfl, _, World.drewN_drewN _ _ _⟩ | exact ⟨rfl, _, Eq.trans (World.drewN_drewN _ _ _) (congrArg (World.drewN _) (Nat.add_assoc _ _ _))⟩)))
         repeat (go_quiet (first | (go_at_call 29; (with_reducible refine (vtime_First.calls k2 (rd x5_2 0) _ _ x5_2 t230 _ ?side1 ?side2 A25.out).mono ?_); (case side1 => repeat (first | exact (Kd.R_reads' HO_5.out).2.2 | (with_reducible refine Kd.C_alloc ?_ _) | (with_reducible refine Kd.C_drewN ?_ _) | (with_reducible refine Kd.C_drew ?_))); (case side2 => exact (Kd.R_reads' HO_5.out).2.1); rintro e w' ⟨rfl, ⟨nd, rfl⟩⟩; (try first | exact ⟨rfl, _, World.drewN_drewN _ _ _⟩ | exact ⟨rfl, _, Eq.trans (World.drewN_drewN _ _ _) (congrArg (World.drewN _) (Nat.add_assoc _ _ _))⟩); have p231 : 0 ≤ (0 : Int) := (by omega); have q231 : 0 < (x5_2.length : Int) := of_decide_eq_true (by first | (with_reducible assumption) | assumption); obtain ⟨ad231, e231, hx231_0⟩ := Kd.at_int (Kd.R_reads' HO_5.out).2.2 0 p231 q231; obtain rfl : ad229 = ad231 := (by injection e231); have qi231 : (0 < x5_2.length) = True := eq_true (by omega); (try rw [show ((0 : Int)).toNat = 0 from rfl] at hx231_0); (try rw [Addr.add_zero'] at hx231_0); replace p231 := eq_true p231; replace q231 := eq_true q231) | (go_at_call 31; (with_reducible refine (vtime_Last.calls k2 (rd x5_2 0) _ _ x5_2 t232 _ ?side1 ?side2 A26.out).mono ?_); (case side1 => repeat (first | exact (Kd.R_reads' HO_5.out).2.2 | (with_reducible refine Kd.C_alloc ?_ _) | (with_reducible refine Kd.C_drewN ?_ _) | (with_reducible refine Kd.C_drew ?_))); (case side2 => exact (Kd.R_reads' HO_5.out).2.1); rintro e w' ⟨rfl, ⟨nd, rfl⟩⟩; (try first | exact ⟨rfl, _, World.drewN_drewN _ _ _⟩ | exact ⟨rfl, _, Eq.trans (World.drewN_drewN _ _ _) (congrArg (World.drewN _) (Nat.add_assoc _ _ _))⟩))); try go_wp2_with (first | (go_at_call 29; (with_reducible refine (vtime_First.calls k2 (rd x5_2 0) _ _ x5_2 t230 _ ?side1 ?side2 A25.out).mono ?_); (case side1 => repeat (first | exact (Kd.R_reads' HO_5.out).2.2 | (with_reducible refine Kd.C_alloc ?_ _) | (with_reducible refine Kd.C_drewN ?_ _) | (with_reducible refine Kd.C_drew ?_))); (case side2 => exact (Kd.R_reads' HO_5.out).2.1); rintro e w' ⟨rfl, ⟨nd, rfl⟩⟩; (try first | exact ⟨rfl, _, World.drewN_drewN _ _ _⟩ | exact ⟨rfl, _, Eq.trans (World.drewN_drewN _ _ _) (congrArg (World.drewN _) (Nat.add_assoc _ _ _))⟩); have p231 : 0 ≤ (0 : Int) := (by omega); have q231 : 0 < (x5_2.length : Int) := of_decide_eq_true (by first | (with_reducible assumption) | assumption); obtain ⟨ad231, e231, hx231_0⟩ := Kd.at_int (Kd.R_reads' HO_5.out).2.2 0 p231 q231; obtain rfl : ad229 = ad231 := (by injection e231); have qi231 : (0 < x5_2.length) = True := eq_true (by omega); (try rw [show ((0 : Int)).toNat = 0 from rfl] at hx231_0); (try rw [Addr.add_zero'] at hx231_0); replace p231 := eq_true p231; replace q231 := eq_true q231) | (go_at_call 31; (with_reducible refine (vtime_Last.calls k2 (rd x5_2 0) _ _ x5_2 t232 _ ?side1 ?side2 A26.out).mono ?_); (case side1 => repeat (first | exact (Kd.R_reads' HO_5.out).2.2 | (with_reducible refine Kd.C_alloc ?_ _) | (with_reducible refine Kd.C_drewN ?_ _) | (with_reducible refine Kd.C_drew ?_))); (case side2 => exact (Kd.R_reads' HO_5.out).2.1); rintro e w' ⟨rfl, ⟨nd, rfl⟩⟩; (try first | exact ⟨rfl, _, World.drewN_drewN _ _ _⟩ | exact ⟨rfl, _, Eq.trans (World.drewN_drewN _ _ _) (congrArg (World.drewN _) (Nat.add_assoc _ _ _))⟩))))
         (try simp only [Act.put, List.setIfInBounds_toArray, List.set_cons_zero, List.set_cons_succ])
         go_loopg [70] k2 (fun kq v70 w' => ∃ (x70_3 : Int), v70 = .int .i64 x70_3 ∧ Aside0 (turnstonelaw03_VtimeOrder.l1 kq x6_2 t230 t232 x5_2 (x5_2.length : Int) x70_3 = some r) ∧ Aside0 (kq ≤ k2) ∧ Aside0 (Kd.R (Kd.int .u64) 24 w' w.heap.size (fun k_ => some k_ ≠ ((.slice (some ad229) x5_2.length co27) : Value).ownBlock) u6 x6_2) ∧ Aside0 (Kd.R (Kd.int .u64) 24 w' w.heap.size (fun k_ => some k_ ≠ (u6 : Value).ownBlock) (.slice (some ad229) x5_2.length co27) x5_2) ∧ Aside0 (Below w.heap.size w w'))
         case atStart => exact ⟨(0), (by first | rfl | (simp; done) | (simp [*]; done)), H', ⟨Nat.le_refl _⟩, ⟨by (with_reducible repeat (first | apply Kd.R_alloc | apply Kd.R_drewN | apply Kd.R_drew)); exact HO_6.out⟩, ⟨by (with_reducible repeat (first | apply Kd.R_alloc | apply Kd.R_drewN | apply Kd.R_drew)); exact HO_5.out⟩, ⟨by repeat (first | (with_reducible first | exact HB.out | apply below_alloc | apply pw_below_drewN | apply below_drew1) | exact HB.out)⟩⟩
         case round =>
          clear H'
          try clear c1
          try clear c2
          try clear p2
          try clear q2
          try clear hx2
          try clear qi2
          try clear c4
          try clear p6
          try clear c7
          try clear c7b0
          try clear c7b1
          try clear c8
          try clear c9
          try clear c9b0
          try clear c10
          try clear c10b0
          try clear c11
          try clear c11b0
          try clear c13
          try clear c13b0
          try clear c14
          try clear c14b0
          try clear c16
          try clear c16b0
          try clear c17
          try clear c19
          try clear c21
          try clear p21
          try clear q21
          try clear hx21
          try clear p22
          try clear q22
          try clear hx22
          try clear qi22
          try clear p23
          try clear q23
          try clear hx23
          try clear qi23
          try clear c24
          try clear c24b0
          try clear c24b1
          try clear hx219_0
          try clear hx220_0
          try clear hx229_0
          try clear hx231_0
          try clear p2
          try clear p219
          try clear p220
          try clear p229
          try clear p231
          try clear p6
          try clear q2
          try clear q219
          try clear q220
          try clear q229
          try clear q231
          obtain ⟨x70_3, rfl, HA, HK3, HO_6, HO_68, HB⟩ := hrel
          cases gk with
          | zero => exact absurd HA.out (by simp [turnstonelaw03_VtimeOrder.l1])
          | succ k3 =>
           have H := HA.out
           clear HA
           simp only [turnstonelaw03_VtimeOrder.l1] at H
           by_cases c28 : x70_3 < (x5_2.length : Int)
           ·rw [if_pos c28] at H
            have c28b0 : decide (x70_3 < (x5_2.length : Int)) = true := decide_eq_true c28
            clear c28
            by_cases c29 : 0 ≤ x70_3
            ·rw [if_pos c29] at H
             have c29b0 : decide (0 ≤ x70_3) = true := decide_eq_true c29
             clear c29
             by_cases c30 : x70_3 < (x5_2.length : Int)
             ·rw [if_pos c30] at H
              have c30b0 : decide (x70_3 < (x5_2.length : Int)) = true := decide_eq_true c30
              clear c30
              replace H := Option.bind_eq_some_iff.mp H
              obtain ⟨t234, A310, H⟩ := H
              replace H : (if t234 = true then (none) else ((vtime_Time_Before.f t232 (rd x5_2 x70_3)).bind fun t235 => (if t235 = true then (none) else (turnstonelaw03_VtimeOrder.l1 k3 x6_2 t230 t232 x5_2 (x5_2.length : Int) (wrap64 (x70_3 + 1)))))) = some r := H
              have A31 := Aside0.mk A310
              clear A310
              by_cases c32 : t234 = true
              ·subst c32
               have H1 : (none) = some r := by rw [if_pos rfl] at H; exact H
               clear H
               have H := H1
               clear H1
               exact absurd H (by simp)
              ·replace c32 := Bool.eq_false_iff.mpr c32
               subst c32
               have H1 : ((vtime_Time_Before.f t232 (rd x5_2 x70_3)).bind fun t235 => (if t235 = true then (none) else (turnstonelaw03_VtimeOrder.l1 k3 x6_2 t230 t232 x5_2 (x5_2.length : Int) (wrap64 (x70_3 + 1))))) = some r := by rw [if_neg (show ¬ (false = true) by decide)] at H; exact H
               clear H
               have H := H1
               clear H1
               replace H := Option.bind_eq_some_iff.mp H
               obtain ⟨t235, A330, H⟩ := H
               replace H : (if t235 = true then (none) else (turnstonelaw03_VtimeOrder.l1 k3 x6_2 t230 t232 x5_2 (x5_2.length : Int) (wrap64 (x70_3 + 1)))) = some r := H
               have A33 := Aside0.mk A330
               clear A330
               by_cases c34 : t235 = true
               ·subst c34
                have H1 : (none) = some r := by rw [if_pos rfl] at H; exact H
                clear H
                have H := H1
                clear H1
                exact absurd H (by simp)
               ·replace c34 := Bool.eq_false_iff.mpr c34
                subst c34
                have H1 : (turnstonelaw03_VtimeOrder.l1 k3 x6_2 t230 t232 x5_2 (x5_2.length : Int) (wrap64 (x70_3 + 1))) = some r := by rw [if_neg (show ¬ (false = true) by decide)] at H; exact H
                clear H
                have H := H1
                clear H1
                have H' := Aside0.mk H
                clear H
                have p233 : 0 ≤ (x70_3 : Int) := of_decide_eq_true (by first | (with_reducible assumption) | assumption)
                have q233 : x70_3 < (x5_2.length : Int) := of_decide_eq_true (by first | (with_reducible assumption) | assumption)
                obtain ⟨ad233, e233, hx233_0⟩ := Kd.at_int (Kd.R_reads' HO_68.out).2.2 x70_3 p233 q233
                obtain rfl : ad229 = ad233 := (by injection e233)
                replace p233 := eq_true p233
                replace q233 := eq_true q233
                go_wp2_with (first | (go_at_call 22; (with_reducible refine (vtime_Time_Before.calls (rd x5_2 x70_3) t230 false _ A31.out).mono ?_); rintro e w' ⟨rfl, ⟨nd, rfl⟩⟩; (try first | exact ⟨rfl, _, World.drewN_drewN _ _ _⟩ | exact ⟨rfl, _, Eq.trans (World.drewN_drewN _ _ _) (congrArg (World.drewN _) (Nat.add_assoc _ _ _))⟩)) | (go_at_call 22; (with_reducible refine (vtime_Time_Before.calls t232 (rd x5_2 x70_3) false _ A33.out).mono ?_); rintro e w' ⟨rfl, ⟨nd, rfl⟩⟩; (try first | exact ⟨rfl, _, World.drewN_drewN _ _ _⟩ | exact ⟨rfl, _, Eq.trans (World.drewN_drewN _ _ _) (congrArg (World.drewN _) (Nat.add_assoc _ _ _))⟩)))
                repeat (go_quiet (first | (go_at_call 22; (with_reducible refine (vtime_Time_Before.calls (rd x5_2 x70_3) t230 false _ A31.out).mono ?_); rintro e w' ⟨rfl, ⟨nd, rfl⟩⟩; (try first | exact ⟨rfl, _, World.drewN_drewN _ _ _⟩ | exact ⟨rfl, _, Eq.trans (World.drewN_drewN _ _ _) (congrArg (World.drewN _) (Nat.add_assoc _ _ _))⟩)) | (go_at_call 22; (with_reducible refine (vtime_Time_Before.calls t232 (rd x5_2 x70_3) false _ A33.out).mono ?_); rintro e w' ⟨rfl, ⟨nd, rfl⟩⟩; (try first | exact ⟨rfl, _, World.drewN_drewN _ _ _⟩ | exact ⟨rfl, _, Eq.trans (World.drewN_drewN _ _ _) (congrArg (World.drewN _) (Nat.add_assoc _ _ _))⟩))); try go_wp2_with (first | (go_at_call 22; (with_reducible refine (vtime_Time_Before.calls (rd x5_2 x70_3) t230 false _ A31.out).mono ?_); rintro e w' ⟨rfl, ⟨nd, rfl⟩⟩; (try first | exact ⟨rfl, _, World.drewN_drewN _ _ _⟩ | exact ⟨rfl, _, Eq.trans (World.drewN_drewN _ _ _) (congrArg (World.drewN _) (Nat.add_assoc _ _ _))⟩)) | (go_at_call 22; (with_reducible refine (vtime_Time_Before.calls t232 (rd x5_2 x70_3) false _ A33.out).mono ?_); rintro e w' ⟨rfl, ⟨nd, rfl⟩⟩; (try first | exact ⟨rfl, _, World.drewN_drewN _ _ _⟩ | exact ⟨rfl, _, Eq.trans (World.drewN_drewN _ _ _) (congrArg (World.drewN _) (Nat.add_assoc _ _ _))⟩))))
                go_roundg k3
                case measure => have := HJ4.out; have := HK2.out; have := HK3.out; omega
                case rel => exact ⟨(wrap64 (x70_3 + 1)), (by first | rfl | (simp; done) | (simp [*]; done)), H', ⟨by have := HJ4.out; have := HK2.out; have := HK3.out; omega⟩, ⟨by (with_reducible repeat (first | apply Kd.R_alloc | apply Kd.R_drewN | apply Kd.R_drew)); exact HO_6.out⟩, ⟨by (with_reducible repeat (first | apply Kd.R_alloc | apply Kd.R_drewN | apply Kd.R_drew)); exact HO_68.out⟩, ⟨by repeat (first | (with_reducible first | exact HB.out | apply below_alloc | apply pw_below_drewN | apply below_drew1) | exact HB.out)⟩⟩
             ·rw [if_neg c30] at H
              exact absurd H (by simp)
            ·rw [if_neg c29] at H
             exact absurd H (by simp)
           ·rw [if_neg c28] at H
            have c28b0 : decide (x70_3 < (x5_2.length : Int)) = false := decide_eq_false c28
            clear c28
            by_cases c35 : 0 < (x6_2.length : Int)
            ·rw [if_pos c35] at H
             have c35b0 : decide (0 < (x6_2.length : Int)) = true := decide_eq_true c35
             have c35b1 : decide (0 < x6_2.length) = true := decide_eq_true (by omega)
             clear c35
             replace H := Option.bind_eq_some_iff.mp H
             obtain ⟨t237, A360, H⟩ := H
             replace H : (if t237 = t230 then ((vtime_Last.f k3 (rd x6_2 0) x6_2).bind fun t239 => (if t239 = t232 then ((vtime_Spread.f k3 x6_2).bind fun t240 => ((vtime_Time_Since.f t232 t230).bind fun t241 => (some (t240 == (IntKind.u64.wrap (t241)))))) else (none))) else (none)) = some r := H
             have A36 := Aside0.mk A360
             clear A360
             by_cases c37 : t237 = t230
             ·rw [if_pos c37] at H
              have c37b0 : (t237 == t230) = true := beq_iff_eq.mpr c37
              have c37b1 : (t237 != t230) = false := bne_eq_false_iff_eq.mpr c37
              clear c37
              replace H := Option.bind_eq_some_iff.mp H
              obtain ⟨t239, A380, H⟩ := H
              replace H : (if t239 = t232 then ((vtime_Spread.f k3 x6_2).bind fun t240 => ((vtime_Time_Since.f t232 t230).bind fun t241 => (some (t240 == (IntKind.u64.wrap (t241)))))) else (none)) = some r := H
              have A38 := Aside0.mk A380
              clear A380
              by_cases c39 : t239 = t232
              ·rw [if_pos c39] at H
               have c39b0 : (t239 == t232) = true := beq_iff_eq.mpr c39
               have c39b1 : (t239 != t232) = false := bne_eq_false_iff_eq.mpr c39
               clear c39
               replace H := Option.bind_eq_some_iff.mp H
               obtain ⟨t240, A400, H⟩ := H
               replace H : ((vtime_Time_Since.f t232 t230).bind fun t241 => (some (t240 == (IntKind.u64.wrap (t241))))) = some r := H
               have A40 := Aside0.mk A400
               clear A400
               replace H := Option.bind_eq_some_iff.mp H
               obtain ⟨t241, A410, H⟩ := H
               replace H : (some (t240 == (IntKind.u64.wrap (t241)))) = some r := H
               have A41 := Aside0.mk A410
               clear A410
               obtain rfl := Option.some.inj H
               obtain ⟨Ao42, co42, eo42⟩ := Kd.R_slice HO_6.out
               subst eo42
               have p236 : 0 ≤ (0 : Int) := (by omega)
               have q236 : 0 < (x6_2.length : Int) := of_decide_eq_true (by first | (with_reducible assumption) | assumption)
               obtain ⟨ad236, e236, hx236_0⟩ := Kd.at_int (Kd.R_reads' HO_6.out).2.2 0 p236 q236
               cases e236
               have qi236 : (0 < x6_2.length) = True := eq_true (by omega)
               (try rw [show ((0 : Int)).toNat = 0 from rfl] at hx236_0)
               (try rw [Addr.add_zero'] at hx236_0)
               replace p236 := eq_true p236
               replace q236 := eq_true q236
               go_wp2_with (first | (go_at_call 29; (with_reducible refine (vtime_First.calls k3 (rd x6_2 0) _ _ x6_2 t237 _ ?side1 ?side2 A36.out).mono ?_); (case side1 => repeat (first | exact (Kd.R_reads' HO_6.out).2.2 | (with_reducible refine Kd.C_alloc ?_ _) | (with_reducible refine Kd.C_drewN ?_ _) | (with_reducible refine Kd.C_drew ?_))); (case side2 => exact (Kd.R_reads' HO_6.out).2.1); rintro e w' ⟨rfl, ⟨nd, rfl⟩⟩; (try first | exact ⟨rfl, _, World.drewN_drewN _ _ _⟩ | exact ⟨rfl, _, Eq.trans (World.drewN_drewN _ _ _) (congrArg (World.drewN _) (Nat.add_assoc _ _ _))⟩); have p238 : 0 ≤ (0 : Int) := (by omega); have q238 : 0 < (x6_2.length : Int) := of_decide_eq_true (by first | (with_reducible assumption) | assumption); obtain ⟨ad238, e238, hx238_0⟩ := Kd.at_int (Kd.R_reads' HO_6.out).2.2 0 p238 q238; obtain rfl : ad236 = ad238 := (by injection e238); have qi238 : (0 < x6_2.length) = True := eq_true (by omega); (try rw [show ((0 : Int)).toNat = 0 from rfl] at hx238_0); (try rw [Addr.add_zero'] at hx238_0); replace p238 := eq_true p238; replace q238 := eq_true q238) | (go_at_call 31; (with_reducible refine (vtime_Last.calls k3 (rd x6_2 0) _ _ x6_2 t239 _ ?side1 ?side2 A38.out).mono ?_); (case side1 => repeat (first | exact (Kd.R_reads' HO_6.out).2.2 | (with_reducible refine Kd.C_alloc ?_ _) | (with_reducible refine Kd.C_drewN ?_ _) | (with_reducible refine Kd.C_drew ?_))); (case side2 => exact (Kd.R_reads' HO_6.out).2.1); rintro e w' ⟨rfl, ⟨nd, rfl⟩⟩; (try first | exact ⟨rfl, _, World.drewN_drewN _ _ _⟩ | exact ⟨rfl, _, Eq.trans (World.drewN_drewN _ _ _) (congrArg (World.drewN _) (Nat.add_assoc _ _ _))⟩)) | (go_at_call 28; (with_reducible refine (vtime_Spread.calls k3 _ _ x6_2 t240 _ ?side1 ?side2 A40.out).mono ?_); (case side1 => repeat (first | exact (Kd.R_reads' HO_6.out).2.2 | (with_reducible refine Kd.C_alloc ?_ _) | (with_reducible refine Kd.C_drewN ?_ _) | (with_reducible refine Kd.C_drew ?_))); (case side2 => exact (Kd.R_reads' HO_6.out).2.1); rintro e w' ⟨rfl, ⟨nd, rfl⟩⟩; (try first | exact ⟨rfl, _, World.drewN_drewN _ _ _⟩ | exact ⟨rfl, _, Eq.trans (World.drewN_drewN _ _ _) (congrArg (World.drewN _) (Nat.add_assoc _ _ _))⟩)) | (go_at_call 20; (with_reducible refine (vtime_Time_Since.calls t232 t230 t241 _ A41.out).mono ?_); rintro e w' ⟨rfl, ⟨nd, rfl⟩⟩; (try first | exact ⟨rfl, _, World.drewN_drewN _ _ _⟩ | exact ⟨rfl, _, Eq.trans (World.drewN_drewN _ _ _) (congrArg (World.drewN _) (Nat.add_assoc _ _ _))⟩)))
               repeat (go_quiet (first | (go_at_call 29; (with_reducible refine (vtime_First.calls k3 (rd x6_2 0) _ _ x6_2 t237 _ ?side1 ?side2 A36.out).mono ?_); (case side1 => repeat (first | exact (Kd.R_reads' HO_6.out).2.2 | (with_reducible refine Kd.C_alloc ?_ _) | (with_reducible refine Kd.C_drewN ?_ _) | (with_reducible refine Kd.C_drew ?_))); (case side2 => exact (Kd.R_reads' HO_6.out).2.1); rintro e w' ⟨rfl, ⟨nd, rfl⟩⟩; (try first | exact ⟨rfl, _, World.drewN_drewN _ _ _⟩ | exact ⟨rfl, _, Eq.trans (World.drewN_drewN _ _ _) (congrArg (World.drewN _) (Nat.add_assoc _ _ _))⟩); have p238 : 0 ≤ (0 : Int) := (by omega); have q238 : 0 < (x6_2.length : Int) := of_decide_eq_true (by first | (with_reducible assumption) | assumption); obtain ⟨ad238, e238, hx238_0⟩ := Kd.at_int (Kd.R_reads' HO_6.out).2.2 0 p238 q238; obtain rfl : ad236 = ad238 := (by injection e238); have qi238 : (0 < x6_2.length) = True := eq_true (by omega); (try rw [show ((0 : Int)).toNat = 0 from rfl] at hx238_0); (try rw [Addr.add_zero'] at hx238_0); replace p238 := eq_true p238; replace q238 := eq_true q238) | (go_at_call 31; (with_reducible refine (vtime_Last.calls k3 (rd x6_2 0) _ _ x6_2 t239 _ ?side1 ?side2 A38.out).mono ?_); (case side1 => repeat (first | exact (Kd.R_reads' HO_6.out).2.2 | (with_reducible refine Kd.C_alloc ?_ _) | (with_reducible refine Kd.C_drewN ?_ _) | (with_reducible refine Kd.C_drew ?_))); (case side2 => exact (Kd.R_reads' HO_6.out).2.1); rintro e w' ⟨rfl, ⟨nd, rfl⟩⟩; (try first | exact ⟨rfl, _, World.drewN_drewN _ _ _⟩ | exact ⟨rfl, _, Eq.trans (World.drewN_drewN _ _ _) (congrArg (World.drewN _) (Nat.add_assoc _ _ _))⟩)) | (go_at_call 28; (with_reducible refine (vtime_Spread.calls k3 _ _ x6_2 t240 _ ?side1 ?side2 A40.out).mono ?_); (case side1 => repeat (first | exact (Kd.R_reads' HO_6.out).2.2 | (with_reducible refine Kd.C_alloc ?_ _) | (with_reducible refine Kd.C_drewN ?_ _) | (with_reducible refine Kd.C_drew ?_))); (case side2 => exact (Kd.R_reads' HO_6.out).2.1); rintro e w' ⟨rfl, ⟨nd, rfl⟩⟩; (try first | exact ⟨rfl, _, World.drewN_drewN _ _ _⟩ | exact ⟨rfl, _, Eq.trans (World.drewN_drewN _ _ _) (congrArg (World.drewN _) (Nat.add_assoc _ _ _))⟩)) | (go_at_call 20; (with_reducible refine (vtime_Time_Since.calls t232 t230 t241 _ A41.out).mono ?_); rintro e w' ⟨rfl, ⟨nd, rfl⟩⟩; (try first | exact ⟨rfl, _, World.drewN_drewN _ _ _⟩ | exact ⟨rfl, _, Eq.trans (World.drewN_drewN _ _ _) (congrArg (World.drewN _) (Nat.add_assoc _ _ _))⟩))); try go_wp2_with (first | (go_at_call 29; (with_reducible refine (vtime_First.calls k3 (rd x6_2 0) _ _ x6_2 t237 _ ?side1 ?side2 A36.out).mono ?_); (case side1 => repeat (first | exact (Kd.R_reads' HO_6.out).2.2 | (with_reducible refine Kd.C_alloc ?_ _) | (with_reducible refine Kd.C_drewN ?_ _) | (with_reducible refine Kd.C_drew ?_))); (case side2 => exact (Kd.R_reads' HO_6.out).2.1); rintro e w' ⟨rfl, ⟨nd, rfl⟩⟩; (try first | exact ⟨rfl, _, World.drewN_drewN _ _ _⟩ | exact ⟨rfl, _, Eq.trans (World.drewN_drewN _ _ _) (congrArg (World.drewN _) (Nat.add_assoc _ _ _))⟩); have p238 : 0 ≤ (0 : Int) := (by omega); have q238 : 0 < (x6_2.length : Int) := of_decide_eq_true (by first | (with_reducible assumption) | assumption); obtain ⟨ad238, e238, hx238_0⟩ := Kd.at_int (Kd.R_reads' HO_6.out).2.2 0 p238 q238; obtain rfl : ad236 = ad238 := (by injection e238); have qi238 : (0 < x6_2.length) = True := eq_true (by omega); (try rw [show ((0 : Int)).toNat = 0 from rfl] at hx238_0); (try rw [Addr.add_zero'] at hx238_0); replace p238 := eq_true p238; replace q238 := eq_true q238) | (go_at_call 31; (with_reducible refine (vtime_Last.calls k3 (rd x6_2 0) _ _ x6_2 t239 _ ?side1 ?side2 A38.out).mono ?_); (case side1 => repeat (first | exact (Kd.R_reads' HO_6.out).2.2 | (with_reducible refine Kd.C_alloc ?_ _) | (with_reducible refine Kd.C_drewN ?_ _) | (with_reducible refine Kd.C_drew ?_))); (case side2 => exact (Kd.R_reads' HO_6.out).2.1); rintro e w' ⟨rfl, ⟨nd, rfl⟩⟩; (try first | exact ⟨rfl, _, World.drewN_drewN _ _ _⟩ | exact ⟨rfl, _, Eq.trans (World.drewN_drewN _ _ _) (congrArg (World.drewN _) (Nat.add_assoc _ _ _))⟩)) | (go_at_call 28; (with_reducible refine (vtime_Spread.calls k3 _ _ x6_2 t240 _ ?side1 ?side2 A40.out).mono ?_); (case side1 => repeat (first | exact (Kd.R_reads' HO_6.out).2.2 | (with_reducible refine Kd.C_alloc ?_ _) | (with_reducible refine Kd.C_drewN ?_ _) | (with_reducible refine Kd.C_drew ?_))); (case side2 => exact (Kd.R_reads' HO_6.out).2.1); rintro e w' ⟨rfl, ⟨nd, rfl⟩⟩; (try first | exact ⟨rfl, _, World.drewN_drewN _ _ _⟩ | exact ⟨rfl, _, Eq.trans (World.drewN_drewN _ _ _) (congrArg (World.drewN _) (Nat.add_assoc _ _ _))⟩)) | (go_at_call 20; (with_reducible refine (vtime_Time_Since.calls t232 t230 t241 _ A41.out).mono ?_); rintro e w' ⟨rfl, ⟨nd, rfl⟩⟩; (try first | exact ⟨rfl, _, World.drewN_drewN _ _ _⟩ | exact ⟨rfl, _, Eq.trans (World.drewN_drewN _ _ _) (congrArg (World.drewN _) (Nat.add_assoc _ _ _))⟩))))
               go_ret
               exact ⟨by first | rfl | (simp [errW_none, errW_some] <;> rfl) | (simp [*, errW_none, errW_some] <;> rfl), by repeat (first | (with_reducible first | exact HB.out | apply below_alloc | apply pw_below_drewN | apply below_drew1) | exact HB.out)⟩
              ·rw [if_neg c39] at H
               exact absurd H (by simp)
             ·rw [if_neg c37] at H
              exact absurd H (by simp)
            ·rw [if_neg c35] at H
             exact absurd H (by simp)
        ·rw [if_neg c24] at H
         exact absurd H (by simp)
 ·replace c4 := Bool.eq_false_iff.mpr c4
  subst c4
  have H1 : (none) = some r := by rw [if_neg (show ¬ (false = true) by decide)] at H; exact H
  clear H
  have H := H1
  clear H1
  exact absurd H (by simp)

/-- THE ONE PURE STATEMENT of turnstonelaw03_VtimeOrder. -/
def turnstonelaw03_VtimeOrder.Pure : Prop := ∀ (a0 : Int) (l1 : List Int), (Lit.int .u64 a0).wf = true → l1.length ≤ maxLen → l1.length * 8 ≤ 140737488351232 → (∀ x ∈ l1, (Lit.int .i64 x).wf = true) → ∃ k, turnstonelaw03_VtimeOrder.f k a0 l1 = some true
theorem turnstonelaw03_VtimeOrder.walk (P : turnstonelaw03_VtimeOrder.Pure) (a0 : Int) (A1 : Option Addr) (c1 : Nat) (l1 : List Int) (w : World) (w0 : (Lit.int .u64 a0).wf = true) (hr1 : Kd.C (Kd.int .i64) w A1 l1.length l1) (hc1 : l1.length ≤ c1) (hm1 : l1.length ≤ maxLen) (y1 : l1.length * 8 ≤ 140737488351232) (hw1 : ∀ x ∈ l1, (Lit.int .i64 x).wf = true) :
  Calls Try.prog 7 #[.int .u64 a0, .slice A1 l1.length c1] w fun e w' => e = .returned (.bool true) ∧ Below w.heap.size w w' := by
 obtain ⟨k, h⟩ := P a0 l1 w0 hm1 y1 hw1
 refine (turnstonelaw03_VtimeOrder.calls k a0 _ _ l1 true w hr1 hc1 h).mono ?_
 rintro e w' ⟨rfl, hd⟩
 exact ⟨rfl, hd⟩

end Go.Proofs.Ytimgiiceipjpaaa.Print
