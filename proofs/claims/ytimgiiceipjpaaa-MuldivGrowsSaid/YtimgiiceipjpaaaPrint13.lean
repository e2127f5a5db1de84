/- What each Go function that is named below answers, as a Lean function, and that its walk comes to just that: for whatever arguments that function gives an answer for. Written by a program of this session (wip/mkpr.py, pr.sh). -/
import Derived.Test.YtimgiiceipjpaaaPrint0
import Derived.Test.YtimgiiceipjpaaaPrint12
namespace Go.Proofs.Ytimgiiceipjpaaa.Print
open Go.RowKit Go.Proofs.YtimgiiceipjpaaaW.PrintWords Go.Proofs.YtimgiiceipjpaaaW.PrintLast Go.Proofs.YtimgiiceipjpaaaW.PrintMore
attribute [local go_sem] max2_int min2_int max_two min_two max_three min_three max_four min_four   -- for this text's walks alone
open Go.Proofs.Ytimgiiceipjpaaa.Bits
attribute [local go_sem] add64_run0 sub64_run0 add64_run sub64_run
set_option linter.unusedVariables false
set_option linter.unusedSimpArgs false

/-! ### turnstonelaw02_MuldivParts: function 10 -/
def turnstonelaw02_MuldivParts.f (k : Nat) (a0 : Int) (a1 : Int) (a2 : Int) (a3 : Int) (a4 : Int) : Option (Bool) := (turnstonelaw02_awake.f k).bind fun t260 => (if t260 = true then (if (IntKind.u64.wrap (a0 + a1)) < a0 then (some true) else ((muldiv_Step.f k (IntKind.u64.wrap (a0 + a1)) a2 a3 a4).bind fun bt261 => ((muldiv_Steps.f k a2 a3 a4 (([a0, a1] : List Int))).bind fun bt267 => (if bt261.1 = bt267.1 then (if bt261.2.1 = bt267.2.1 then (some (bt261.2.2 == bt267.2.2)) else (none)) else (none))))) else (none))
theorem turnstonelaw02_MuldivParts.mono : ∀ a0 a1 a2 a3 a4 k, LeO (turnstonelaw02_MuldivParts.f k a0 a1 a2 a3 a4) (turnstonelaw02_MuldivParts.f (k + 1) a0 a1 a2 a3 a4) := by
 intro a0 a1 a2 a3 a4 k
 unfold turnstonelaw02_MuldivParts.f
 repeat' first
   | (with_reducible exact muldiv_Step.mono _ _ _ _ _)
   | (with_reducible exact muldiv_Steps.mono _ _ _ _ _)
   | (with_reducible exact turnstonelaw02_awake.mono _)
   | (with_reducible exact LeO.refl _)
   | (with_reducible exact LeO.none _)
   | (with_reducible refine LeO.ite ?_ ?_)
   | (with_reducible refine LeO.bind ?_ (fun _ => ?_))
   | exact muldiv_Step.mono _ _ _ _ _
   | exact muldiv_Steps.mono _ _ _ _ _
   | exact turnstonelaw02_awake.mono _
   | exact LeO.none _
   | refine LeO.ite ?_ ?_
   | refine LeO.bind ?_ (fun _ => ?_)
set_option maxHeartbeats 8000000 in
set_option maxRecDepth 100000 in
theorem turnstonelaw02_MuldivParts.calls (k : Nat) (a0 : Int) (a1 : Int) (a2 : Int) (a3 : Int) (a4 : Int) (r : Bool) (w : World) (h : turnstonelaw02_MuldivParts.f k a0 a1 a2 a3 a4 = some r) :
  Calls Try.prog 10 #[.int .u64 a0, .int .u64 a1, .int .u64 a2, .int .u64 a3, .int .u64 a4] w fun e w' => e = .returned (.bool r) ∧ Below w.heap.size w w' := by
 have HB := Aside0.mk (Below.refl w.heap.size w)
 have H : ((turnstonelaw02_awake.f k).bind fun t260 => (if t260 = true then (if (IntKind.u64.wrap (a0 + a1)) < a0 then (some true) else ((muldiv_Step.f k (IntKind.u64.wrap (a0 + a1)) a2 a3 a4).bind fun bt261 => ((muldiv_Steps.f k a2 a3 a4 (([a0, a1] : List Int))).bind fun bt267 => (if bt261.1 = bt267.1 then (if bt261.2.1 = bt267.2.1 then (some (bt261.2.2 == bt267.2.2)) else (none)) else (none))))) else (none))) = some r := h
 clear h
 replace H := Option.bind_eq_some_iff.mp H
 obtain ⟨t260, A60, H⟩ := H
 replace H : (if t260 = true then (if (IntKind.u64.wrap (a0 + a1)) < a0 then (some true) else ((muldiv_Step.f k (IntKind.u64.wrap (a0 + a1)) a2 a3 a4).bind fun bt261 => ((muldiv_Steps.f k a2 a3 a4 (([a0, a1] : List Int))).bind fun bt267 => (if bt261.1 = bt267.1 then (if bt261.2.1 = bt267.2.1 then (some (bt261.2.2 == bt267.2.2)) else (none)) else (none))))) else (none)) = some r := H
 have A6 := Aside0.mk A60
 clear A60
 by_cases c7 : t260 = true
 ·subst c7
  have H1 : (if (IntKind.u64.wrap (a0 + a1)) < a0 then (some true) else ((muldiv_Step.f k (IntKind.u64.wrap (a0 + a1)) a2 a3 a4).bind fun bt261 => ((muldiv_Steps.f k a2 a3 a4 (([a0, a1] : List Int))).bind fun bt267 => (if bt261.1 = bt267.1 then (if bt261.2.1 = bt267.2.1 then (some (bt261.2.2 == bt267.2.2)) else (none)) else (none))))) = some r := by rw [if_pos rfl] at H; exact H
  clear H
  have H := H1
  clear H1
  by_cases c8 : (IntKind.u64.wrap (a0 + a1)) < a0
  ·rw [if_pos c8] at H
   have c8b0 : decide ((IntKind.u64.wrap (a0 + a1)) < a0) = true := decide_eq_true c8
   clear c8
   obtain rfl := Option.some.inj H
   go_enter Try.func10, Try.ntmps10
   go_wp2_with (first | ((with_reducible refine gate_callee (f := 33) rfl ?_); refine goesL_ (some 17) rfl rfl Try.func33 (by kernel_rfl) rfl #[] rfl (by (try simp only [List.map_toArray, List.map_cons, List.map_nil]); first | done | rfl | (simp only [List.length_drop, List.length_take]; rfl)) ?_; (with_reducible refine (turnstonelaw02_awake.calls k  true _ A6.out).mono ?_); rintro e w9 ⟨rfl, hb⟩; refine ⟨_, rfl, ?_⟩; have n0_ := Aside0.mk (below_step (by repeat (first | (with_reducible first | exact HB.out | apply below_alloc | apply pw_below_drewN | apply below_drew1) | exact HB.out)) hb); clear HB; have HB := n0_; clear n0_; (try clear hb); (try clear hb2); (try clear hk); (try clear hi)))
   go_ret
   exact ⟨by first | rfl | (simp [errW_none, errW_some] <;> rfl) | (simp [*, errW_none, errW_some] <;> rfl), by repeat (first | (with_reducible first | exact HB.out | apply below_alloc | apply pw_below_drewN | apply below_drew1) | exact HB.out)⟩
  ·rw [if_neg c8] at H
   have c8b0 : decide ((IntKind.u64.wrap (a0 + a1)) < a0) = false := decide_eq_false c8
   clear c8
   replace H := Option.bind_eq_some_iff.mp H
   obtain ⟨⟨t261, t262, t263⟩, A100, H⟩ := H
   replace H : ((muldiv_Steps.f k a2 a3 a4 (([a0, a1] : List Int))).bind fun bt267 => (if t261 = bt267.1 then (if t262 = bt267.2.1 then (some (t263 == bt267.2.2)) else (none)) else (none))) = some r := H
   have A10 := Aside0.mk A100
   clear A100
   obtain ⟨y264, hy264⟩ : ∃ y_ : List Int, y_ = (([a0, a1] : List Int)) := ⟨_, rfl⟩
   replace H : ((muldiv_Steps.f k a2 a3 a4 y264).bind fun bt267 => (if t261 = bt267.1 then (if t262 = bt267.2.1 then (some (t263 == bt267.2.2)) else (none)) else (none))) = some r := by first | (rw [hy264]; with_reducible exact H) | (have H2_ := (Option.bind_some _ _).symm.trans H; rw [hy264]; with_reducible exact H2_) | (have H2_ := (Option.bind_some _ _).symm.trans H; with_reducible exact H2_) | with_reducible exact H | (rw [hy264]; exact H) | exact H
   have Ny264 := Aside0.mk hy264
   clear hy264
   replace H := Option.bind_eq_some_iff.mp H
   obtain ⟨⟨t267, t268, t269⟩, A110, H⟩ := H
   replace H : (if t261 = t267 then (if t262 = t268 then (some (t263 == t269)) else (none)) else (none)) = some r := H
   have A11 := Aside0.mk A110
   clear A110
   by_cases c12 : t261 = t267
   ·rw [if_pos c12] at H
    have c12b0 : (t261 == t267) = true := beq_iff_eq.mpr c12
    have c12b1 : (t261 != t267) = false := bne_eq_false_iff_eq.mpr c12
    clear c12
    by_cases c13 : t262 = t268
    ·rw [if_pos c13] at H
     have c13b0 : (t262 == t268) = true := beq_iff_eq.mpr c13
     have c13b1 : (t262 != t268) = false := bne_eq_false_iff_eq.mpr c13
     clear c13
     obtain rfl := Option.some.inj H
     go_enter Try.func10, Try.ntmps10
     go_wp2_with (first | ((with_reducible refine gate_callee (f := 33) rfl ?_); refine goesL_ (some 17) rfl rfl Try.func33 (by kernel_rfl) rfl #[] rfl (by (try simp only [List.map_toArray, List.map_cons, List.map_nil]); first | done | rfl | (simp only [List.length_drop, List.length_take]; rfl)) ?_; (with_reducible refine (turnstonelaw02_awake.calls k  true _ A6.out).mono ?_); rintro e w14 ⟨rfl, hb⟩; refine ⟨_, rfl, ?_⟩; have n0_ := Aside0.mk (below_step (by repeat (first | (with_reducible first | exact HB.out | apply below_alloc | apply pw_below_drewN | apply below_drew1) | exact HB.out)) hb); clear HB; have HB := n0_; clear n0_; (try clear hb); (try clear hb2); (try clear hk); (try clear hi)) | ((with_reducible refine gate_callee (f := 34) rfl ?_); refine goesL_ (some 31) rfl rfl Try.func34 (by kernel_rfl) rfl #[.int .u64 (IntKind.u64.wrap (a0 + a1)), .int .u64 a2, .int .u64 a3, .int .u64 a4] rfl (by (try simp only [List.map_toArray, List.map_cons, List.map_nil]); first | done | rfl | (simp only [List.length_drop, List.length_take]; rfl)) ?_; (with_reducible refine (muldiv_Step.calls k (IntKind.u64.wrap (a0 + a1)) a2 a3 a4 t261 t262 t263 _ A10.out).mono ?_); rintro e w' ⟨rfl, ⟨nd, rfl⟩⟩; refine ⟨_, rfl, ?_⟩) | ((with_reducible refine gate_dst (N := 41) rfl ?_); refine Kd.R_lit (Kd.int .u64) _ 22 ?hg (N := 41) ?hd (xs := ([a0, a1] : List Int)) (inner := [.int .u64 a0, .int .u64 a1]) (ok := fun _ => True) (okp := fun _ => True) ?hr ?hp (fun _ hk => hk) trivial (Below.refl _ _) (Nat.le_refl _) (by simp) ?_; (case hd => rfl); (case hg => rfl); (case hr => first | (go_simp; done) | (go_simp; rfl)); (case hp => exact (Reps.one (show Kd.M (Kd.int .u64) _ _ _ a0 [.int .u64 a0] from rfl) (Reps.one (show Kd.M (Kd.int .u64) _ _ _ a1 [.int .u64 a1] from rfl) (Reps.none _ _)))); intro v265 w15 ho16 hb hg_ hnew_; clear hg_ hnew_; (first | rw [← Ny264.out] at ho16 | (simp only [Int.reduceToNat] at ho16; rw [← Ny264.out] at ho16)); have n0_ := Aside0.mk (Kd.R_lower ho16 (below_size (by repeat (first | (with_reducible first | exact HB.out | apply below_alloc | apply pw_below_drewN | apply below_drew1) | exact HB.out)))); have n1_ := Aside0.mk (below_step (by repeat (first | (with_reducible first | exact HB.out | apply below_alloc | apply pw_below_drewN | apply below_drew1) | exact HB.out)) hb); clear HB; have HO266 := n0_; have HB := n1_; clear n0_ n1_; clear hb ho16; obtain ⟨Ao17, co17, eo17⟩ := Kd.R_slice HO266.out; subst eo17) | ((with_reducible refine gate_callee (f := 38) rfl ?_); refine goesL_ (some 42) rfl rfl Try.func38 (by kernel_rfl) rfl #[.int .u64 a2, .int .u64 a3, .int .u64 a4, .slice Ao17 y264.length co17] rfl (by (try simp only [List.map_toArray, List.map_cons, List.map_nil]); first | done | rfl | (simp only [List.length_drop, List.length_take]; rfl)) ?_; (with_reducible refine (muldiv_Steps.calls k a2 a3 a4 _ _ y264 t267 t268 t269 _ ?side1 ?side2 A11.out).mono ?_); (case side1 => repeat (first | exact (Kd.R_reads' HO266.out).2.2 | (with_reducible refine Kd.C_alloc ?_ _) | (with_reducible refine Kd.C_drewN ?_ _) | (with_reducible refine Kd.C_drew ?_))); (case side2 => exact (Kd.R_reads' HO266.out).2.1); rintro e w' ⟨rfl, ⟨nd, rfl⟩⟩; refine ⟨_, rfl, ?_⟩))
     go_ret
     exact ⟨by first | rfl | (simp [errW_none, errW_some] <;> rfl) | (simp [*, errW_none, errW_some] <;> rfl), by repeat (first | (with_reducible first | exact HB.out | apply below_alloc | apply pw_below_drewN | apply below_drew1) | exact HB.out)⟩
    ·rw [if_neg c13] at H
     exact absurd H (by simp)
   ·rw [if_neg c12] at H
    exact absurd H (by simp)
 ·replace c7 := Bool.eq_false_iff.mpr c7
  subst c7
  have H1 : (none) = some r := by rw [if_neg (show ¬ (false = true) by decide)] at H; exact H
  clear H
  have H := H1
  clear H1
  exact absurd H (by simp)

/-- THE ONE PURE STATEMENT of turnstonelaw02_MuldivParts. -/
def turnstonelaw02_MuldivParts.Pure : Prop := ∀ (a0 : Int) (a1 : Int) (a2 : Int) (a3 : Int) (a4 : Int), (Lit.int .u64 a0).wf = true → (Lit.int .u64 a1).wf = true → (Lit.int .u64 a2).wf = true → (Lit.int .u64 a3).wf = true → (Lit.int .u64 a4).wf = true → ∃ k, turnstonelaw02_MuldivParts.f k a0 a1 a2 a3 a4 = some true
theorem turnstonelaw02_MuldivParts.walk (P : turnstonelaw02_MuldivParts.Pure) (a0 : Int) (a1 : Int) (a2 : Int) (a3 : Int) (a4 : Int) (w : World) (w0 : (Lit.int .u64 a0).wf = true) (w1 : (Lit.int .u64 a1).wf = true) (w2 : (Lit.int .u64 a2).wf = true) (w3 : (Lit.int .u64 a3).wf = true) (w4 : (Lit.int .u64 a4).wf = true) :
  Calls Try.prog 10 #[.int .u64 a0, .int .u64 a1, .int .u64 a2, .int .u64 a3, .int .u64 a4] w fun e w' => e = .returned (.bool true) ∧ Below w.heap.size w w' := by
 obtain ⟨k, h⟩ := P a0 a1 a2 a3 a4 w0 w1 w2 w3 w4
 refine (turnstonelaw02_MuldivParts.calls k a0 a1 a2 a3 a4 true w h).mono ?_
 rintro e w' ⟨rfl, hd⟩
 exact ⟨rfl, hd⟩

/-! ### turnstonelaw02_MuldivGrows: function 11 -/
def turnstonelaw02_MuldivGrows.j0 : Nat → Int → Int → Int → Int → Bool → Option (Bool)
 | 0, _, _, _, _, _ => none
 | k + 1, x0, x2, x3, x4, x56 => if x56 = true then (none) else (if (IntKind.u64.wrap (x0 + x3)) < x0 then (some true) else ((muldiv_Step.f k x0 x2 x3 x4).bind fun bt277 => ((muldiv_Step.f k (IntKind.u64.wrap (x0 + x3)) x2 x3 x4).bind fun bt280 => (if bt280.2.2 = true then (if bt277.2.2 = true then (if (IntKind.u64.wrap (bt280.1 - bt277.1)) = x2 then (some (bt277.2.1 == bt280.2.1)) else (none)) else (none)) else (some true)))))
def turnstonelaw02_MuldivGrows.f (k : Nat) (a0 : Int) (a1 : Int) (a2 : Int) (a3 : Int) (a4 : Int) : Option (Bool) := (turnstonelaw02_awake.f k).bind fun t270 => (if t270 = true then ((muldiv_Step.f k (mn a0 a1) a2 a3 a4).bind fun bt271 => ((muldiv_Step.f k (mx a0 a1) a2 a3 a4).bind fun bt274 => (if bt274.2.2 = true then (if bt271.2.2 = true then (turnstonelaw02_MuldivGrows.j0 k a0 a2 a3 a4 (decide (bt274.1 < bt271.1))) else (turnstonelaw02_MuldivGrows.j0 k a0 a2 a3 a4 true)) else (turnstonelaw02_MuldivGrows.j0 k a0 a2 a3 a4 false)))) else (none))
theorem turnstonelaw02_MuldivGrows.mono_l : ∀ k, (∀ y0 y1 y2 y3 y4, LeO (turnstonelaw02_MuldivGrows.j0 k y0 y1 y2 y3 y4) (turnstonelaw02_MuldivGrows.j0 (k + 1) y0 y1 y2 y3 y4))
 | 0 => fun _ _ _ _ _ r h => by simp [turnstonelaw02_MuldivGrows.j0] at h
 | k + 1 => by
  have ih0 := turnstonelaw02_MuldivGrows.mono_l k
  ·intro y0 y1 y2 y3 y4
   unfold turnstonelaw02_MuldivGrows.j0
   repeat' first
   | (with_reducible exact ih0 _ _ _ _ _)
   | (with_reducible exact muldiv_Step.mono _ _ _ _ _)
   | (with_reducible exact turnstonelaw02_awake.mono _)
   | (with_reducible exact LeO.refl _)
   | (with_reducible exact LeO.none _)
   | (with_reducible refine LeO.ite ?_ ?_)
   | (with_reducible refine LeO.bind ?_ (fun _ => ?_))
   | exact ih0 _ _ _ _ _
   | exact muldiv_Step.mono _ _ _ _ _
   | exact turnstonelaw02_awake.mono _
   | exact LeO.none _
   | refine LeO.ite ?_ ?_
   | refine LeO.bind ?_ (fun _ => ?_)
theorem turnstonelaw02_MuldivGrows.mono : ∀ a0 a1 a2 a3 a4 k, LeO (turnstonelaw02_MuldivGrows.f k a0 a1 a2 a3 a4) (turnstonelaw02_MuldivGrows.f (k + 1) a0 a1 a2 a3 a4) := by
 intro a0 a1 a2 a3 a4 k
 have ih0 := turnstonelaw02_MuldivGrows.mono_l k
 unfold turnstonelaw02_MuldivGrows.f
 repeat' first
   | (with_reducible exact ih0 _ _ _ _ _)
   | (with_reducible exact muldiv_Step.mono _ _ _ _ _)
   | (with_reducible exact turnstonelaw02_awake.mono _)
   | (with_reducible exact LeO.refl _)
   | (with_reducible exact LeO.none _)
   | (with_reducible refine LeO.ite ?_ ?_)
   | (with_reducible refine LeO.bind ?_ (fun _ => ?_))
   | exact ih0 _ _ _ _ _
   | exact muldiv_Step.mono _ _ _ _ _
   | exact turnstonelaw02_awake.mono _
   | exact LeO.none _
   | refine LeO.ite ?_ ?_
   | refine LeO.bind ?_ (fun _ => ?_)
set_option maxHeartbeats 8000000 in
set_option maxRecDepth 100000 in
theorem turnstonelaw02_MuldivGrows.calls (k : Nat) (a0 : Int) (a1 : Int) (a2 : Int) (a3 : Int) (a4 : Int) (r : Bool) (w : World) (h : turnstonelaw02_MuldivGrows.f k a0 a1 a2 a3 a4 = some r) :
  Calls Try.prog 11 #[.int .u64 a0, .int .u64 a1, .int .u64 a2, .int .u64 a3, .int .u64 a4] w fun e w' => e = .returned (.bool r) ∧ Below w.heap.size w w' := by
 have HB := Aside0.mk (Below.refl w.heap.size w)
 have H : ((turnstonelaw02_awake.f k).bind fun t270 => (if t270 = true then ((muldiv_Step.f k (mn a0 a1) a2 a3 a4).bind fun bt271 => ((muldiv_Step.f k (mx a0 a1) a2 a3 a4).bind fun bt274 => (if bt274.2.2 = true then (if bt271.2.2 = true then (turnstonelaw02_MuldivGrows.j0 k a0 a2 a3 a4 (decide (bt274.1 < bt271.1))) else (turnstonelaw02_MuldivGrows.j0 k a0 a2 a3 a4 true)) else (turnstonelaw02_MuldivGrows.j0 k a0 a2 a3 a4 false)))) else (none))) = some r := h
 clear h
 replace H := Option.bind_eq_some_iff.mp H
 obtain ⟨t270, A60, H⟩ := H
 replace H : (if t270 = true then ((muldiv_Step.f k (mn a0 a1) a2 a3 a4).bind fun bt271 => ((muldiv_Step.f k (mx a0 a1) a2 a3 a4).bind fun bt274 => (if bt274.2.2 = true then (if bt271.2.2 = true then (turnstonelaw02_MuldivGrows.j0 k a0 a2 a3 a4 (decide (bt274.1 < bt271.1))) else (turnstonelaw02_MuldivGrows.j0 k a0 a2 a3 a4 true)) else (turnstonelaw02_MuldivGrows.j0 k a0 a2 a3 a4 false)))) else (none)) = some r := H
 have A6 := Aside0.mk A60
 clear A60
 by_cases c7 : t270 = true
 ·subst c7
  have H1 : ((muldiv_Step.f k (mn a0 a1) a2 a3 a4).bind fun bt271 => ((muldiv_Step.f k (mx a0 a1) a2 a3 a4).bind fun bt274 => (if bt274.2.2 = true then (if bt271.2.2 = true then (turnstonelaw02_MuldivGrows.j0 k a0 a2 a3 a4 (decide (bt274.1 < bt271.1))) else (turnstonelaw02_MuldivGrows.j0 k a0 a2 a3 a4 true)) else (turnstonelaw02_MuldivGrows.j0 k a0 a2 a3 a4 false)))) = some r := by rw [if_pos rfl] at H; exact H
  clear H
  have H := H1
  clear H1
  obtain ⟨ji8, hji8⟩ : ∃ j_ : Int, (mn a0 a1) = j_ := ⟨_, rfl⟩
  replace H : ((muldiv_Step.f k (ji8) a2 a3 a4).bind fun bt271 => ((muldiv_Step.f k (mx a0 a1) a2 a3 a4).bind fun bt274 => (if bt274.2.2 = true then (if bt271.2.2 = true then (turnstonelaw02_MuldivGrows.j0 k a0 a2 a3 a4 (decide (bt274.1 < bt271.1))) else (turnstonelaw02_MuldivGrows.j0 k a0 a2 a3 a4 true)) else (turnstonelaw02_MuldivGrows.j0 k a0 a2 a3 a4 false)))) = some r := by first | (rw [hji8] at H; exact H) | (simp only [hji8] at H ⊢; exact H)
  (try rw [hji8] at A6)
  have hji8_ : (if a1 < a0 then a1 else a0) = ji8 := hji8
  replace H := Option.bind_eq_some_iff.mp H
  obtain ⟨⟨t271, t272, t273⟩, A90, H⟩ := H
  replace H : ((muldiv_Step.f k (mx a0 a1) a2 a3 a4).bind fun bt274 => (if bt274.2.2 = true then (if t273 = true then (turnstonelaw02_MuldivGrows.j0 k a0 a2 a3 a4 (decide (bt274.1 < t271))) else (turnstonelaw02_MuldivGrows.j0 k a0 a2 a3 a4 true)) else (turnstonelaw02_MuldivGrows.j0 k a0 a2 a3 a4 false))) = some r := H
  have A9 := Aside0.mk A90
  clear A90
  obtain ⟨ji10, hji10⟩ : ∃ j_ : Int, (mx a0 a1) = j_ := ⟨_, rfl⟩
  replace H : ((muldiv_Step.f k (ji10) a2 a3 a4).bind fun bt274 => (if bt274.2.2 = true then (if t273 = true then (turnstonelaw02_MuldivGrows.j0 k a0 a2 a3 a4 (decide (bt274.1 < t271))) else (turnstonelaw02_MuldivGrows.j0 k a0 a2 a3 a4 true)) else (turnstonelaw02_MuldivGrows.j0 k a0 a2 a3 a4 false))) = some r := by first | (rw [hji10] at H; exact H) | (simp only [hji10] at H ⊢; exact H)
  (try rw [hji10] at A6)
  (try rw [hji10] at A9)
  have hji10_ : (if a0 < a1 then a1 else a0) = ji10 := hji10
  replace H := Option.bind_eq_some_iff.mp H
  obtain ⟨⟨t274, t275, t276⟩, A110, H⟩ := H
  replace H : (if t276 = true then (if t273 = true then (turnstonelaw02_MuldivGrows.j0 k a0 a2 a3 a4 (decide (t274 < t271))) else (turnstonelaw02_MuldivGrows.j0 k a0 a2 a3 a4 true)) else (turnstonelaw02_MuldivGrows.j0 k a0 a2 a3 a4 false)) = some r := H
  have A11 := Aside0.mk A110
  clear A110
  have HC12 := Aside0.mk H
  clear H
  go_enter Try.func11, Try.ntmps11
  go_upto_region 5 with (first | ((with_reducible refine gate_callee (f := 33) rfl ?_); refine goesL_ (some 23) rfl rfl Try.func33 (by kernel_rfl) rfl #[] rfl (by (try simp only [List.map_toArray, List.map_cons, List.map_nil]); first | done | rfl | (simp only [List.length_drop, List.length_take]; rfl)) ?_; (with_reducible refine (turnstonelaw02_awake.calls k  true _ A6.out).mono ?_); rintro e w13 ⟨rfl, hb⟩; refine ⟨_, rfl, ?_⟩; have n0_ := Aside0.mk (below_step (by repeat (first | (with_reducible first | exact HB.out | apply below_alloc | apply pw_below_drewN | apply below_drew1) | exact HB.out)) hb); clear HB; have HB := n0_; clear n0_; (try clear hb); (try clear hb2); (try clear hk); (try clear hi)) | ((with_reducible refine gate_callee (f := 34) rfl ?_); refine goesL_ (some 32) rfl rfl Try.func34 (by kernel_rfl) rfl #[.int .u64 ji8, .int .u64 a2, .int .u64 a3, .int .u64 a4] rfl (by (try simp only [List.map_toArray, List.map_cons, List.map_nil]); first | done | (simp only [hji8]; rfl) | rfl | (simp only [List.length_drop, List.length_take]; rfl)) ?_; (with_reducible refine (muldiv_Step.calls k ji8 a2 a3 a4 t271 t272 t273 _ A9.out).mono ?_); rintro e w' ⟨rfl, ⟨nd, rfl⟩⟩; refine ⟨_, rfl, ?_⟩) | ((with_reducible refine gate_callee (f := 34) rfl ?_); refine goesL_ (some 43) rfl rfl Try.func34 (by kernel_rfl) rfl #[.int .u64 ji10, .int .u64 a2, .int .u64 a3, .int .u64 a4] rfl (by (try simp only [List.map_toArray, List.map_cons, List.map_nil]); first | done | (simp only [hji10]; rfl) | rfl | (simp only [List.length_drop, List.length_take]; rfl)) ?_; (with_reducible refine (muldiv_Step.calls k ji10 a2 a3 a4 t274 t275 t276 _ A11.out).mono ?_); rintro e w' ⟨rfl, ⟨nd, rfl⟩⟩; refine ⟨_, rfl, ?_⟩))
  (try simp only [Act.put, List.setIfInBounds_toArray, List.set_cons_zero, List.set_cons_succ])
  go_cut [56] (fun v56 wc => ∃ (kq : Nat) (x56_11 : Bool), v56 = .bool x56_11 ∧ Aside0 (turnstonelaw02_MuldivGrows.j0 kq a0 a2 a3 a4 x56_11 = some r) ∧ Aside0 (kq ≤ k) ∧ Aside0 (Below w.heap.size w wc))
  case first =>
   have H := HC12.out
   clear HC12
   by_cases c14 : t276 = true
   ·subst c14
    have H1 : (if t273 = true then (turnstonelaw02_MuldivGrows.j0 k a0 a2 a3 a4 (decide (t274 < t271))) else (turnstonelaw02_MuldivGrows.j0 k a0 a2 a3 a4 true)) = some r := by rw [if_pos rfl] at H; exact H
    clear H
    have H := H1
    clear H1
    by_cases c15 : t273 = true
    ·subst c15
     have H1 : (turnstonelaw02_MuldivGrows.j0 k a0 a2 a3 a4 (decide (t274 < t271))) = some r := by rw [if_pos rfl] at H; exact H
     clear H
     have H := H1
     clear H1
     have H' := Aside0.mk H
     clear H
     go_wp2
     go_meet
     case rel => exact ⟨_, (decide (t274 < t271)), (by first | rfl | (simp; done) | (simp [*]; done)), H', ⟨by first | omega | exact Nat.le_refl _⟩, ⟨by repeat (first | (with_reducible first | exact HB.out | apply below_alloc | apply pw_below_drewN | apply below_drew1) | exact HB.out)⟩⟩
    ·replace c15 := Bool.eq_false_iff.mpr c15
     subst c15
     have H1 : (turnstonelaw02_MuldivGrows.j0 k a0 a2 a3 a4 true) = some r := by rw [if_neg (show ¬ (false = true) by decide)] at H; exact H
     clear H
     have H := H1
     clear H1
     have H' := Aside0.mk H
     clear H
     go_wp2
     go_meet
     case rel => exact ⟨_, (true), (by first | rfl | (simp; done) | (simp [*]; done)), H', ⟨by first | omega | exact Nat.le_refl _⟩, ⟨by repeat (first | (with_reducible first | exact HB.out | apply below_alloc | apply pw_below_drewN | apply below_drew1) | exact HB.out)⟩⟩
   ·replace c14 := Bool.eq_false_iff.mpr c14
    subst c14
    have H1 : (turnstonelaw02_MuldivGrows.j0 k a0 a2 a3 a4 false) = some r := by rw [if_neg (show ¬ (false = true) by decide)] at H; exact H
    clear H
    have H := H1
    clear H1
    have H' := Aside0.mk H
    clear H
    go_wp2
    go_meet
    case rel => exact ⟨_, (false), (by first | rfl | (simp; done) | (simp [*]; done)), H', ⟨by first | omega | exact Nat.le_refl _⟩, ⟨by repeat (first | (with_reducible first | exact HB.out | apply below_alloc | apply pw_below_drewN | apply below_drew1) | exact HB.out)⟩⟩
  case rest =>
   clear HC12
   try clear c1
   try clear p2
   try clear c3
   try clear c7
   try clear c11
   try clear c14
   try clear c15
   obtain ⟨kq, x56_11, rfl, HA, HJ11, HB⟩ := hcut
   cases kq with
   | zero => exact absurd HA.out (by simp [turnstonelaw02_MuldivGrows.j0])
   | succ kj11 =>
    have H := HA.out
    clear HA
    simp only [turnstonelaw02_MuldivGrows.j0] at H
    by_cases c16 : x56_11 = true
    ·subst c16
     have H1 : (none) = some r := by rw [if_pos rfl] at H; exact H
     clear H
     have H := H1
     clear H1
     exact absurd H (by simp)
    ·replace c16 := Bool.eq_false_iff.mpr c16
     subst c16
     have H1 : (if (IntKind.u64.wrap (a0 + a3)) < a0 then (some true) else ((muldiv_Step.f kj11 a0 a2 a3 a4).bind fun bt277 => ((muldiv_Step.f kj11 (IntKind.u64.wrap (a0 + a3)) a2 a3 a4).bind fun bt280 => (if bt280.2.2 = true then (if bt277.2.2 = true then (if (IntKind.u64.wrap (bt280.1 - bt277.1)) = a2 then (some (bt277.2.1 == bt280.2.1)) else (none)) else (none)) else (some true))))) = some r := by rw [if_neg (show ¬ (false = true) by decide)] at H; exact H
     clear H
     have H := H1
     clear H1
     by_cases c17 : (IntKind.u64.wrap (a0 + a3)) < a0
     ·rw [if_pos c17] at H
      have c17b0 : decide ((IntKind.u64.wrap (a0 + a3)) < a0) = true := decide_eq_true c17
      clear c17
      obtain rfl := Option.some.inj H
      go_wp2
      go_ret
      exact ⟨by first | rfl | (simp [errW_none, errW_some] <;> rfl) | (simp only [← hji8, ← hji10]; first | rfl | (simp [errW_none, errW_some] <;> rfl)) | (simp [*, errW_none, errW_some] <;> rfl), by repeat (first | (with_reducible first | exact HB.out | apply below_alloc | apply pw_below_drewN | apply below_drew1) | exact HB.out)⟩
     ·rw [if_neg c17] at H
      have c17b0 : decide ((IntKind.u64.wrap (a0 + a3)) < a0) = false := decide_eq_false c17
      clear c17
      replace H := Option.bind_eq_some_iff.mp H
      obtain ⟨⟨t277, t278, t279⟩, A180, H⟩ := H
      replace H : ((muldiv_Step.f kj11 (IntKind.u64.wrap (a0 + a3)) a2 a3 a4).bind fun bt280 => (if bt280.2.2 = true then (if t279 = true then (if (IntKind.u64.wrap (bt280.1 - t277)) = a2 then (some (t278 == bt280.2.1)) else (none)) else (none)) else (some true))) = some r := H
      have A18 := Aside0.mk A180
      clear A180
      replace H := Option.bind_eq_some_iff.mp H
      obtain ⟨⟨t280, t281, t282⟩, A190, H⟩ := H
      replace H : (if t282 = true then (if t279 = true then (if (IntKind.u64.wrap (t280 - t277)) = a2 then (some (t278 == t281)) else (none)) else (none)) else (some true)) = some r := H
      have A19 := Aside0.mk A190
      clear A190
      by_cases c20 : t282 = true
      ·subst c20
       have H1 : (if t279 = true then (if (IntKind.u64.wrap (t280 - t277)) = a2 then (some (t278 == t281)) else (none)) else (none)) = some r := by rw [if_pos rfl] at H; exact H
       clear H
       have H := H1
       clear H1
       by_cases c21 : t279 = true
       ·subst c21
        have H1 : (if (IntKind.u64.wrap (t280 - t277)) = a2 then (some (t278 == t281)) else (none)) = some r := by rw [if_pos rfl] at H; exact H
        clear H
        have H := H1
        clear H1
        by_cases c22 : (IntKind.u64.wrap (t280 - t277)) = a2
        ·rw [if_pos c22] at H
         have c22b0 : ((IntKind.u64.wrap (t280 - t277)) == a2) = true := beq_iff_eq.mpr c22
         have c22b1 : ((IntKind.u64.wrap (t280 - t277)) != a2) = false := bne_eq_false_iff_eq.mpr c22
         clear c22
         obtain rfl := Option.some.inj H
         go_wp2_with (first | ((with_reducible refine gate_callee (f := 34) rfl ?_); refine goesL_ (some 67) rfl rfl Try.func34 (by kernel_rfl) rfl #[.int .u64 a0, .int .u64 a2, .int .u64 a3, .int .u64 a4] rfl (by (try simp only [List.map_toArray, List.map_cons, List.map_nil]); first | done | rfl | (simp only [List.length_drop, List.length_take]; rfl)) ?_; (with_reducible refine (muldiv_Step.calls kj11 a0 a2 a3 a4 t277 t278 true _ A18.out).mono ?_); rintro e w' ⟨rfl, ⟨nd, rfl⟩⟩; refine ⟨_, rfl, ?_⟩) | ((with_reducible refine gate_callee (f := 34) rfl ?_); refine goesL_ (some 78) rfl rfl Try.func34 (by kernel_rfl) rfl #[.int .u64 (IntKind.u64.wrap (a0 + a3)), .int .u64 a2, .int .u64 a3, .int .u64 a4] rfl (by (try simp only [List.map_toArray, List.map_cons, List.map_nil]); first | done | rfl | (simp only [List.length_drop, List.length_take]; rfl)) ?_; (with_reducible refine (muldiv_Step.calls kj11 (IntKind.u64.wrap (a0 + a3)) a2 a3 a4 t280 t281 true _ A19.out).mono ?_); rintro e w' ⟨rfl, ⟨nd, rfl⟩⟩; refine ⟨_, rfl, ?_⟩))
         go_ret
         exact ⟨by first | rfl | (simp [errW_none, errW_some] <;> rfl) | (simp only [← hji8, ← hji10]; first | rfl | (simp [errW_none, errW_some] <;> rfl)) | (simp [*, errW_none, errW_some] <;> rfl), by repeat (first | (with_reducible first | exact HB.out | apply below_alloc | apply pw_below_drewN | apply below_drew1) | exact HB.out)⟩
        ·rw [if_neg c22] at H
         exact absurd H (by simp)
       ·replace c21 := Bool.eq_false_iff.mpr c21
        subst c21
        have H1 : (none) = some r := by rw [if_neg (show ¬ (false = true) by decide)] at H; exact H
        clear H
        have H := H1
        clear H1
        exact absurd H (by simp)
      ·replace c20 := Bool.eq_false_iff.mpr c20
       subst c20
       have H1 : (some true) = some r := by rw [if_neg (show ¬ (false = true) by decide)] at H; exact H
       clear H
       have H := H1
       clear H1
       obtain rfl := Option.some.inj H
       go_wp2_with (first | ((with_reducible refine gate_callee (f := 34) rfl ?_); refine goesL_ (some 67) rfl rfl Try.func34 (by kernel_rfl) rfl #[.int .u64 a0, .int .u64 a2, .int .u64 a3, .int .u64 a4] rfl (by (try simp only [List.map_toArray, List.map_cons, List.map_nil]); first | done | rfl | (simp only [List.length_drop, List.length_take]; rfl)) ?_; (with_reducible refine (muldiv_Step.calls kj11 a0 a2 a3 a4 t277 t278 t279 _ A18.out).mono ?_); rintro e w' ⟨rfl, ⟨nd, rfl⟩⟩; refine ⟨_, rfl, ?_⟩) | ((with_reducible refine gate_callee (f := 34) rfl ?_); refine goesL_ (some 78) rfl rfl Try.func34 (by kernel_rfl) rfl #[.int .u64 (IntKind.u64.wrap (a0 + a3)), .int .u64 a2, .int .u64 a3, .int .u64 a4] rfl (by (try simp only [List.map_toArray, List.map_cons, List.map_nil]); first | done | rfl | (simp only [List.length_drop, List.length_take]; rfl)) ?_; (with_reducible refine (muldiv_Step.calls kj11 (IntKind.u64.wrap (a0 + a3)) a2 a3 a4 t280 t281 false _ A19.out).mono ?_); rintro e w' ⟨rfl, ⟨nd, rfl⟩⟩; refine ⟨_, rfl, ?_⟩))
       go_ret
       exact ⟨by first | rfl | (simp [errW_none, errW_some] <;> rfl) | (simp only [← hji8, ← hji10]; first | rfl | (simp [errW_none, errW_some] <;> rfl)) | (simp [*, errW_none, errW_some] <;> rfl), by repeat (first | (with_reducible first | exact HB.out | apply below_alloc | apply pw_below_drewN | apply below_drew1) | exact HB.out)⟩
 ·replace c7 := Bool.eq_false_iff.mpr c7
  subst c7
  have H1 : (none) = some r := by rw [if_neg (show ¬ (false = true) by decide)] at H; exact H
  clear H
  have H := H1
  clear H1
  exact absurd H (by simp)

/-- THE ONE PURE STATEMENT of turnstonelaw02_MuldivGrows. -/
def turnstonelaw02_MuldivGrows.Pure : Prop := ∀ (a0 : Int) (a1 : Int) (a2 : Int) (a3 : Int) (a4 : Int), (Lit.int .u64 a0).wf = true → (Lit.int .u64 a1).wf = true → (Lit.int .u64 a2).wf = true → (Lit.int .u64 a3).wf = true → (Lit.int .u64 a4).wf = true → ∃ k, turnstonelaw02_MuldivGrows.f k a0 a1 a2 a3 a4 = some true
theorem turnstonelaw02_MuldivGrows.walk (P : turnstonelaw02_MuldivGrows.Pure) (a0 : Int) (a1 : Int) (a2 : Int) (a3 : Int) (a4 : Int) (w : World) (w0 : (Lit.int .u64 a0).wf = true) (w1 : (Lit.int .u64 a1).wf = true) (w2 : (Lit.int .u64 a2).wf = true) (w3 : (Lit.int .u64 a3).wf = true) (w4 : (Lit.int .u64 a4).wf = true) :
  Calls Try.prog 11 #[.int .u64 a0, .int .u64 a1, .int .u64 a2, .int .u64 a3, .int .u64 a4] w fun e w' => e = .returned (.bool true) ∧ Below w.heap.size w w' := by
 obtain ⟨k, h⟩ := P a0 a1 a2 a3 a4 w0 w1 w2 w3 w4
 refine (turnstonelaw02_MuldivGrows.calls k a0 a1 a2 a3 a4 true w h).mono ?_
 rintro e w' ⟨rfl, hd⟩
 exact ⟨rfl, hd⟩

end Go.Proofs.Ytimgiiceipjpaaa.Print
