/- What each Go function that is named below answers, as a Lean function, and that its walk comes to just that: for whatever arguments that function gives an answer for. Written by a program of this session (wip/mkpr.py, pr.sh). -/
import Derived.Test.YtfbkamgdkdnpoaaGreatDoorPrint1000
import Derived.Test.YtfbkamgdkdnpoaaGreatDoorPrint1005
namespace Go.Proofs.YtfbkamgdkdnpoaaGreatDoor.Print
open Go.RowKit Go.Proofs.YtfbkamgdkdnpoaaGreatDoorW.PrintWords Go.Proofs.YtfbkamgdkdnpoaaGreatDoorW.PrintLast Go.Proofs.YtfbkamgdkdnpoaaGreatDoorW.PrintMore
attribute [local go_sem] max2_int min2_int max_two min_two max_three min_three max_four min_four   -- for this text's walks alone
open Go.Proofs.YtfbkamgdkdnpoaaGreatDoor.Bits Go.Proofs.YtfbkamgdkdnpoaaGreatDoor.Short
attribute [local go_sem] add64_run0 sub64_run0 add64_run sub64_run
set_option linter.unusedVariables false
set_option linter.unusedSimpArgs false

attribute [local go_sem high] eqA31
/-! ### turnstonelaw12_ClampGrows: function 14 -/
mutual
def turnstonelaw12_ClampGrows.j0 : Nat → List (S31) → Bool → Option (Bool)
 | 0, _, _ => none
 | k + 1, x3, x44 => if x44 = true then (none) else ((clamp_Carried.f k ([] : List (S31))).bind fun bt390 => (turnstonelaw12_ClampGrows.l0 k x3 (x3.length : Int) 0 bt390.1 bt390.2))
def turnstonelaw12_ClampGrows.l0 : Nat → List (S31) → Int → Int → Int → Int → Option (Bool)
 | 0, _, _, _, _, _ => none
 | k + 1, x3, x47, x48, x393000, x393001 => if x48 < x47 then (if 0 ≤ (wrap64 (x48 + 1)) then (if (wrap64 (x48 + 1)) ≤ (x3.length : Int) then ((clamp_Carried.f k (x3.take ((wrap64 (x48 + 1)) : Int).toNat)).bind fun bt399 => ((wide_Int_Sub.f bt399.1 bt399.2 x393000 x393001).bind fun bt402 => ((wide_Int_Cmp.f k bt399.1 bt399.2 x393000 x393001).bind fun t406 => (if t406 < 0 then (none) else (if bt402.2.2 = true then ((wide_Of.f 2).bind fun bt407 => ((wide_Int_Cmp.f k bt402.1 bt402.2.1 bt407.1 bt407.2).bind fun t409 => (if t409 < 0 then ((clamp_Size.f k (-9223372036854775808) 0).bind fun bt410 => (if (!(bt399.1 == bt410.1) || (!(bt399.2 == bt410.2))) = true then (none) else (turnstonelaw12_ClampGrows.l0 k x3 x47 (wrap64 (x48 + 1)) bt399.1 bt399.2))) else (turnstonelaw12_ClampGrows.l0 k x3 x47 (wrap64 (x48 + 1)) bt399.1 bt399.2)))) else (turnstonelaw12_ClampGrows.l0 k x3 x47 (wrap64 (x48 + 1)) bt399.1 bt399.2)))))) else (none)) else (none)) else ((clamp_Carried.f k ([] : List (S31))).bind fun bt393 => (some (bt393.1 == 0 && (bt393.2 == 0))))
end
def turnstonelaw12_ClampGrows.f (k : Nat) (a0_0 : Int) (a0_1 : Int) (a1 : Int) (a2 : Int) (l3 : List (S31)) : Option (Bool) := (turnstonelaw12_awake.f).bind fun t373 => (if t373 = true then (if (l3.length : Int) > 40 then (some true) else ((clamp_Clamp.f k a0_0 a0_1 (mn a1 a2)).bind fun t374 => ((wide_Of.f t374).bind fun bt375 => ((clamp_Clamp.f k a0_0 a0_1 (mx a1 a2)).bind fun t377 => ((wide_Of.f t377).bind fun bt378 => ((clamp_Size.f k bt375.1 bt375.2).bind fun bt382 => ((clamp_Size.f k bt378.1 bt378.2).bind fun bt384 => ((wide_Int_Cmp.f k bt382.1 bt382.2 bt384.1 bt384.2).bind fun t386 => (if t386 > 0 then (turnstonelaw12_ClampGrows.j0 k l3 true) else ((clamp_Size.f k a0_0 a0_1).bind fun bt387 => ((wide_Int_Sign.f k bt387.1 bt387.2).bind fun t389 => (turnstonelaw12_ClampGrows.j0 k l3 (decide (t389 < 0)))))))))))))) else (none))
theorem turnstonelaw12_ClampGrows.mono_l : ∀ k, (∀ y0 y1, LeO (turnstonelaw12_ClampGrows.j0 k y0 y1) (turnstonelaw12_ClampGrows.j0 (k + 1) y0 y1)) ∧ (∀ y0 y1 y2 y3 y4, LeO (turnstonelaw12_ClampGrows.l0 k y0 y1 y2 y3 y4) (turnstonelaw12_ClampGrows.l0 (k + 1) y0 y1 y2 y3 y4))
 | 0 => ⟨fun _ _ r h => by simp [turnstonelaw12_ClampGrows.j0] at h, fun _ _ _ _ _ r h => by simp [turnstonelaw12_ClampGrows.l0] at h⟩
 | k + 1 => by
  obtain ⟨ih0, ih1⟩ := turnstonelaw12_ClampGrows.mono_l k
  refine ⟨?_, ?_⟩
  ·intro y0 y1
   unfold turnstonelaw12_ClampGrows.j0
   repeat' first
   | (with_reducible exact ih0 _ _)
   | (with_reducible exact ih1 _ _ _ _ _)
   | (with_reducible exact clamp_Carried.mono _ _)
   | (with_reducible exact clamp_Clamp.mono _ _ _ _)
   | (with_reducible exact clamp_Size.mono _ _ _)
   | (with_reducible exact wide_Int_Cmp.mono _ _ _ _ _)
   | (with_reducible exact wide_Int_Sign.mono _ _ _)
   | (with_reducible exact LeO.refl _)
   | (with_reducible exact LeO.none _)
   | (with_reducible refine LeO.ite ?_ ?_)
   | (with_reducible refine LeO.bind ?_ (fun _ => ?_))
   | exact ih0 _ _
   | exact ih1 _ _ _ _ _
   | exact clamp_Carried.mono _ _
   | exact clamp_Clamp.mono _ _ _ _
   | exact clamp_Size.mono _ _ _
   | exact wide_Int_Cmp.mono _ _ _ _ _
   | exact wide_Int_Sign.mono _ _ _
   | exact LeO.none _
   | refine LeO.ite ?_ ?_
   | refine LeO.bind ?_ (fun _ => ?_)
  intro y0 y1 y2 y3 y4
  unfold turnstonelaw12_ClampGrows.l0
  repeat' first
  | (with_reducible exact ih0 _ _)
  | (with_reducible exact ih1 _ _ _ _ _)
  | (with_reducible exact clamp_Carried.mono _ _)
  | (with_reducible exact clamp_Clamp.mono _ _ _ _)
  | (with_reducible exact clamp_Size.mono _ _ _)
  | (with_reducible exact wide_Int_Cmp.mono _ _ _ _ _)
  | (with_reducible exact wide_Int_Sign.mono _ _ _)
  | (with_reducible exact LeO.refl _)
  | (with_reducible exact LeO.none _)
  | (with_reducible refine LeO.ite ?_ ?_)
  | (with_reducible refine LeO.bind ?_ (fun _ => ?_))
  | exact ih0 _ _
  | exact ih1 _ _ _ _ _
  | exact clamp_Carried.mono _ _
  | exact clamp_Clamp.mono _ _ _ _
  | exact clamp_Size.mono _ _ _
  | exact wide_Int_Cmp.mono _ _ _ _ _
  | exact wide_Int_Sign.mono _ _ _
  | exact LeO.none _
  | refine LeO.ite ?_ ?_
  | refine LeO.bind ?_ (fun _ => ?_)
theorem turnstonelaw12_ClampGrows.mono : ∀ a0 a1 a2 a3 a4 k, LeO (turnstonelaw12_ClampGrows.f k a0 a1 a2 a3 a4) (turnstonelaw12_ClampGrows.f (k + 1) a0 a1 a2 a3 a4) := by
 intro a0 a1 a2 a3 a4 k
 obtain ⟨ih0, ih1⟩ := turnstonelaw12_ClampGrows.mono_l k
 unfold turnstonelaw12_ClampGrows.f
 repeat' first
   | (with_reducible exact ih0 _ _)
   | (with_reducible exact ih1 _ _ _ _ _)
   | (with_reducible exact clamp_Carried.mono _ _)
   | (with_reducible exact clamp_Clamp.mono _ _ _ _)
   | (with_reducible exact clamp_Size.mono _ _ _)
   | (with_reducible exact wide_Int_Cmp.mono _ _ _ _ _)
   | (with_reducible exact wide_Int_Sign.mono _ _ _)
   | (with_reducible exact LeO.refl _)
   | (with_reducible exact LeO.none _)
   | (with_reducible refine LeO.ite ?_ ?_)
   | (with_reducible refine LeO.bind ?_ (fun _ => ?_))
   | exact ih0 _ _
   | exact ih1 _ _ _ _ _
   | exact clamp_Carried.mono _ _
   | exact clamp_Clamp.mono _ _ _ _
   | exact clamp_Size.mono _ _ _
   | exact wide_Int_Cmp.mono _ _ _ _ _
   | exact wide_Int_Sign.mono _ _ _
   | exact LeO.none _
   | refine LeO.ite ?_ ?_
   | refine LeO.bind ?_ (fun _ => ?_)
def turnstonelaw12_ClampGrows.T5 : Bool × List (List Nat × List Nat) := (true, [([], []), ([], []), ([], []), ([1, 2], [1, 2]), ([0, 3], [0, 3]), ([4, 4], [4]), ([], []), ([], []), ([], []), ([7, 8], [7, 8]), ([6, 9, 5], [6, 9]), ([10, 10], [10]), ([], []), ([], []), ([12, 5, 11, 0, 1, 2, 3, 4, 5, 12, 13], [5, 12]), ([13, 11, 14, 0, 1, 2, 3, 4, 5, 6, 7, 8, 9, 10, 11, 12, 13, 14], [11, 13])])
def turnstonelaw12_ClampGrows.B5 : List Nat := [0, 0, 0, 6, 15, 31, 0, 0, 0, 384, 1023, 2047, 0, 0, 16383, 32767]
theorem turnstonelaw12_ClampGrows.tab5 : rtab .any (opsOf Tryz.f14 5) = turnstonelaw12_ClampGrows.T5 := by kernel_rfl
theorem turnstonelaw12_ClampGrows.bits5 : waitsOk turnstonelaw12_ClampGrows.T5.2 turnstonelaw12_ClampGrows.B5 = true := by kernel_rfl
def turnstonelaw12_ClampGrows.T6 : Bool × List (List Nat × List Nat) := (true, [([], []), ([0], [0]), ([], []), ([2, 1], [2]), ([1, 3, 3], [1, 3]), ([4], [4]), ([5, 4], [5]), ([6], [6]), ([7, 6, 6], [6, 7]), ([8, 8, 6], [6, 8]), ([9, 6], [6, 9]), ([6, 10], [6, 10])])
def turnstonelaw12_ClampGrows.B6 : List Nat := [0, 1, 0, 7, 15, 31, 63, 127, 255, 511, 1023, 2047]
theorem turnstonelaw12_ClampGrows.tab6 : rtab .any (opsOf Tryz.f14 6) = turnstonelaw12_ClampGrows.T6 := by kernel_rfl
theorem turnstonelaw12_ClampGrows.bits6 : waitsOk turnstonelaw12_ClampGrows.T6.2 turnstonelaw12_ClampGrows.B6 = true := by kernel_rfl
def turnstonelaw12_ClampGrows.T14 : Bool × List (List Nat × List Nat) := (true, [([], []), ([], []), ([0, 1], [0, 1]), ([2], [2]), ([3, 2], [3]), ([4], [4]), ([5, 4, 4], [4, 5]), ([6], [6]), ([6, 6], [6]), ([7, 8, 8, 6], [6, 7, 8]), ([9, 6], [6, 9]), ([6, 10, 4], [4, 6, 10]), ([11, 9, 4], [4, 11]), ([12], [12]), ([12], [12]), ([14, 12, 12], [12, 14]), ([13, 15, 12], [12, 13, 15]), ([12, 16, 4], [4, 12, 16]), ([4, 17], [4, 17])])
def turnstonelaw12_ClampGrows.B14 : List Nat := [0, 0, 3, 7, 15, 31, 63, 127, 127, 511, 1023, 2047, 4095, 8191, 8191, 24575, 65535, 131071, 262143]
theorem turnstonelaw12_ClampGrows.tab14 : rtab .any (opsOf Tryz.f14 14) = turnstonelaw12_ClampGrows.T14 := by kernel_rfl
theorem turnstonelaw12_ClampGrows.bits14 : waitsOk turnstonelaw12_ClampGrows.T14.2 turnstonelaw12_ClampGrows.B14 = true := by kernel_rfl
set_option maxHeartbeats 8000000 in
set_option maxRecDepth 100000 in
theorem turnstonelaw12_ClampGrows.calls (k : Nat) (a0_0 : Int) (a0_1 : Int) (a1 : Int) (a2 : Int) (A3 : Option Addr) (c3 : Nat) (l3 : List (S31)) (r : Bool) (w : World) (hr3 : Kd.C k31 w A3 l3.length l3) (hc3 : l3.length ≤ c3) (h : turnstonelaw12_ClampGrows.f k a0_0 a0_1 a1 a2 l3 = some r) :
  Calls Tryz.prog 14 #[.agg #[.int .i64 a0_0, .int .u64 a0_1], .int .i64 a1, .int .i64 a2, .slice A3 l3.length c3] w fun e w' => e = .returned (.bool r) ∧ Below w.heap.size w w' := by
 have hu31 := Tryz.underlying31
 have HR3 := Aside0.mk hr3
 have HC3 := Aside0.mk hc3
 clear hr3 hc3
 have HB := Aside0.mk (Below.refl w.heap.size w)
 have H : ((turnstonelaw12_awake.f).bind fun t373 => (if t373 = true then (if (l3.length : Int) > 40 then (some true) else ((clamp_Clamp.f k a0_0 a0_1 (mn a1 a2)).bind fun t374 => ((wide_Of.f t374).bind fun bt375 => ((clamp_Clamp.f k a0_0 a0_1 (mx a1 a2)).bind fun t377 => ((wide_Of.f t377).bind fun bt378 => ((clamp_Size.f k bt375.1 bt375.2).bind fun bt382 => ((clamp_Size.f k bt378.1 bt378.2).bind fun bt384 => ((wide_Int_Cmp.f k bt382.1 bt382.2 bt384.1 bt384.2).bind fun t386 => (if t386 > 0 then (turnstonelaw12_ClampGrows.j0 k l3 true) else ((clamp_Size.f k a0_0 a0_1).bind fun bt387 => ((wide_Int_Sign.f k bt387.1 bt387.2).bind fun t389 => (turnstonelaw12_ClampGrows.j0 k l3 (decide (t389 < 0)))))))))))))) else (none))) = some r := h
 clear h
 replace H := Option.bind_eq_some_iff.mp H
 obtain ⟨t373, A50, H⟩ := H
 replace H : (if t373 = true then (if (l3.length : Int) > 40 then (some true) else ((clamp_Clamp.f k a0_0 a0_1 (mn a1 a2)).bind fun t374 => ((wide_Of.f t374).bind fun bt375 => ((clamp_Clamp.f k a0_0 a0_1 (mx a1 a2)).bind fun t377 => ((wide_Of.f t377).bind fun bt378 => ((clamp_Size.f k bt375.1 bt375.2).bind fun bt382 => ((clamp_Size.f k bt378.1 bt378.2).bind fun bt384 => ((wide_Int_Cmp.f k bt382.1 bt382.2 bt384.1 bt384.2).bind fun t386 => (if t386 > 0 then (turnstonelaw12_ClampGrows.j0 k l3 true) else ((clamp_Size.f k a0_0 a0_1).bind fun bt387 => ((wide_Int_Sign.f k bt387.1 bt387.2).bind fun t389 => (turnstonelaw12_ClampGrows.j0 k l3 (decide (t389 < 0)))))))))))))) else (none)) = some r := H
 have A5 := Aside0.mk A50
 clear A50
 by_cases c6 : t373 = true
 ·subst c6
  have H1 : (if (l3.length : Int) > 40 then (some true) else ((clamp_Clamp.f k a0_0 a0_1 (mn a1 a2)).bind fun t374 => ((wide_Of.f t374).bind fun bt375 => ((clamp_Clamp.f k a0_0 a0_1 (mx a1 a2)).bind fun t377 => ((wide_Of.f t377).bind fun bt378 => ((clamp_Size.f k bt375.1 bt375.2).bind fun bt382 => ((clamp_Size.f k bt378.1 bt378.2).bind fun bt384 => ((wide_Int_Cmp.f k bt382.1 bt382.2 bt384.1 bt384.2).bind fun t386 => (if t386 > 0 then (turnstonelaw12_ClampGrows.j0 k l3 true) else ((clamp_Size.f k a0_0 a0_1).bind fun bt387 => ((wide_Int_Sign.f k bt387.1 bt387.2).bind fun t389 => (turnstonelaw12_ClampGrows.j0 k l3 (decide (t389 < 0)))))))))))))) = some r := by rw [if_pos rfl] at H; exact H
  clear H
  have H := H1
  clear H1
  by_cases c7 : (l3.length : Int) > 40
  ·rw [if_pos c7] at H
   have c7b0 : decide (40 < (l3.length : Int)) = true := decide_eq_true c7
   have c7b1 : decide (40 < l3.length) = true := decide_eq_true (by omega)
   clear c7
   obtain rfl := Option.some.inj H
   go_enter Tryz.func14, Tryz.ntmps14
   go_wp2_with (first | ((with_reducible refine gate_dst (N := 4) rfl ?_); refine box_event ?hg (N := 4) ?hd (cs := #[.int .i64 a0_0, .int .u64 a0_1]) (t := 31) ?hr ?_; (case hd => rfl); (case hg => rfl); (case hr => first | (go_simp; done) | (go_simp; rfl)); intro gb372 hg w8 hbox hb; have BK372 := Aside0.mk (hbox); have GW372 := bels HB hg; have GE372 := bels HB hg; replace HB := belb HB hb; clear hb hbox hg) | ((with_reducible refine gate_callee (f := 38) rfl ?_); refine goesL_ (some 16) rfl rfl Tryz.func38 (by kernel_rfl) rfl #[] rfl argt ?_; (with_reducible refine (turnstonelaw12_awake.calls  true _ A5.out).mono ?_); rintro e w9 ⟨rfl, hb⟩; refine ⟨_, rfl, ?_⟩; replace BK372 := blkb BK372 hb; replace HB := belb HB hb; (try clear hb); (try clear hb2); (try clear hk); (try clear hi)))
   go_ret
   exact ⟨by first | rfl | (simp [errW_none, errW_some] <;> rfl) | (simp [*, errW_none, errW_some] <;> rfl), belt HB⟩
  rw [if_neg c7] at H
  have c7b0 : decide (40 < (l3.length : Int)) = false := decide_eq_false c7
  have c7b1 : decide (40 < l3.length) = false := decide_eq_false (by omega)
  clear c7
  obtain ⟨ji10, hji10⟩ : ∃ j_ : Int, (mn a1 a2) = j_ := ⟨_, rfl⟩
  replace H : ((clamp_Clamp.f k a0_0 a0_1 (ji10)).bind fun t374 => ((wide_Of.f t374).bind fun bt375 => ((clamp_Clamp.f k a0_0 a0_1 (mx a1 a2)).bind fun t377 => ((wide_Of.f t377).bind fun bt378 => ((clamp_Size.f k bt375.1 bt375.2).bind fun bt382 => ((clamp_Size.f k bt378.1 bt378.2).bind fun bt384 => ((wide_Int_Cmp.f k bt382.1 bt382.2 bt384.1 bt384.2).bind fun t386 => (if t386 > 0 then (turnstonelaw12_ClampGrows.j0 k l3 true) else ((clamp_Size.f k a0_0 a0_1).bind fun bt387 => ((wide_Int_Sign.f k bt387.1 bt387.2).bind fun t389 => (turnstonelaw12_ClampGrows.j0 k l3 (decide (t389 < 0))))))))))))) = some r := by first | (rw [hji10] at H; exact H) | (simp only [hji10] at H ⊢; exact H)
  (try rw [hji10] at A5)
  have hji10_ : (if a2 < a1 then a2 else a1) = ji10 := hji10
  replace H := Option.bind_eq_some_iff.mp H
  obtain ⟨t374, A110, H⟩ := H
  replace H : ((wide_Of.f t374).bind fun bt375 => ((clamp_Clamp.f k a0_0 a0_1 (mx a1 a2)).bind fun t377 => ((wide_Of.f t377).bind fun bt378 => ((clamp_Size.f k bt375.1 bt375.2).bind fun bt382 => ((clamp_Size.f k bt378.1 bt378.2).bind fun bt384 => ((wide_Int_Cmp.f k bt382.1 bt382.2 bt384.1 bt384.2).bind fun t386 => (if t386 > 0 then (turnstonelaw12_ClampGrows.j0 k l3 true) else ((clamp_Size.f k a0_0 a0_1).bind fun bt387 => ((wide_Int_Sign.f k bt387.1 bt387.2).bind fun t389 => (turnstonelaw12_ClampGrows.j0 k l3 (decide (t389 < 0)))))))))))) = some r := H
  have A11 := Aside0.mk A110
  clear A110
  replace H := Option.bind_eq_some_iff.mp H
  obtain ⟨⟨t375, t376⟩, A120, H⟩ := H
  replace H : ((clamp_Clamp.f k a0_0 a0_1 (mx a1 a2)).bind fun t377 => ((wide_Of.f t377).bind fun bt378 => ((clamp_Size.f k t375 t376).bind fun bt382 => ((clamp_Size.f k bt378.1 bt378.2).bind fun bt384 => ((wide_Int_Cmp.f k bt382.1 bt382.2 bt384.1 bt384.2).bind fun t386 => (if t386 > 0 then (turnstonelaw12_ClampGrows.j0 k l3 true) else ((clamp_Size.f k a0_0 a0_1).bind fun bt387 => ((wide_Int_Sign.f k bt387.1 bt387.2).bind fun t389 => (turnstonelaw12_ClampGrows.j0 k l3 (decide (t389 < 0))))))))))) = some r := H
  have A12 := Aside0.mk A120
  clear A120
  obtain ⟨ji13, hji13⟩ : ∃ j_ : Int, (mx a1 a2) = j_ := ⟨_, rfl⟩
  replace H : ((clamp_Clamp.f k a0_0 a0_1 (ji13)).bind fun t377 => ((wide_Of.f t377).bind fun bt378 => ((clamp_Size.f k t375 t376).bind fun bt382 => ((clamp_Size.f k bt378.1 bt378.2).bind fun bt384 => ((wide_Int_Cmp.f k bt382.1 bt382.2 bt384.1 bt384.2).bind fun t386 => (if t386 > 0 then (turnstonelaw12_ClampGrows.j0 k l3 true) else ((clamp_Size.f k a0_0 a0_1).bind fun bt387 => ((wide_Int_Sign.f k bt387.1 bt387.2).bind fun t389 => (turnstonelaw12_ClampGrows.j0 k l3 (decide (t389 < 0))))))))))) = some r := by first | (rw [hji13] at H; exact H) | (simp only [hji13] at H ⊢; exact H)
  (try rw [hji13] at A5)
  (try rw [hji13] at A11)
  (try rw [hji13] at A12)
  have hji13_ : (if a1 < a2 then a2 else a1) = ji13 := hji13
  replace H := Option.bind_eq_some_iff.mp H
  obtain ⟨t377, A140, H⟩ := H
  replace H : ((wide_Of.f t377).bind fun bt378 => ((clamp_Size.f k t375 t376).bind fun bt382 => ((clamp_Size.f k bt378.1 bt378.2).bind fun bt384 => ((wide_Int_Cmp.f k bt382.1 bt382.2 bt384.1 bt384.2).bind fun t386 => (if t386 > 0 then (turnstonelaw12_ClampGrows.j0 k l3 true) else ((clamp_Size.f k a0_0 a0_1).bind fun bt387 => ((wide_Int_Sign.f k bt387.1 bt387.2).bind fun t389 => (turnstonelaw12_ClampGrows.j0 k l3 (decide (t389 < 0)))))))))) = some r := H
  have A14 := Aside0.mk A140
  clear A140
  replace H := Option.bind_eq_some_iff.mp H
  obtain ⟨⟨t378, t379⟩, A150, H⟩ := H
  replace H : ((clamp_Size.f k t375 t376).bind fun bt382 => ((clamp_Size.f k t378 t379).bind fun bt384 => ((wide_Int_Cmp.f k bt382.1 bt382.2 bt384.1 bt384.2).bind fun t386 => (if t386 > 0 then (turnstonelaw12_ClampGrows.j0 k l3 true) else ((clamp_Size.f k a0_0 a0_1).bind fun bt387 => ((wide_Int_Sign.f k bt387.1 bt387.2).bind fun t389 => (turnstonelaw12_ClampGrows.j0 k l3 (decide (t389 < 0))))))))) = some r := H
  have A15 := Aside0.mk A150
  clear A150
  have HC16 := Aside0.mk H
  clear H
  go_enter Tryz.func14, Tryz.ntmps14
  try go_wp2_with (first | ((with_reducible refine gate_dst (N := 4) rfl ?_); refine box_event ?hg (N := 4) ?hd (cs := #[.int .i64 a0_0, .int .u64 a0_1]) (t := 31) ?hr ?_; (case hd => rfl); (case hg => rfl); (case hr => first | (go_simp; done) | (go_simp; rfl)); intro gb372 hg w17 hbox hb; have BK372 := Aside0.mk (hbox); have GW372 := bels HB hg; have GE372 := bels HB hg; replace HB := belb HB hb; clear hb hbox hg) | ((with_reducible refine gate_callee (f := 38) rfl ?_); refine goesL_ (some 16) rfl rfl Tryz.func38 (by kernel_rfl) rfl #[] rfl argt ?_; (with_reducible refine (turnstonelaw12_awake.calls  true _ A5.out).mono ?_); rintro e w18 ⟨rfl, hb⟩; refine ⟨_, rfl, ?_⟩; replace BK372 := blkb BK372 hb; replace HB := belb HB hb; (try clear hb); (try clear hb2); (try clear hk); (try clear hi)))
  replace BK372 := Aside0.mk (blk_drew BK372.out)
  replace HB := Aside0.mk (below_drew1 HB.out)
  refine start_ (n := 16) (S := fun w' => w'.cell? ⟨gb372, 0, none⟩ = some (.int .i64 a0_0) ∧ w'.cell? ⟨gb372, 1, none⟩ = some (.int .u64 a0_1)) (ds := []) #[false, false, false, false, false, false, false, false, false, false, false, false, false, false, false, false] (by kernel_rfl) rfl rfl ⟨bc BK372 0, bc BK372 1⟩ (fun hHeld => ?_); refine with_tabW turnstonelaw12_ClampGrows.tab5 turnstonelaw12_ClampGrows.bits5 (fun HT_ HW_ => ?_)
  generalize w18.drew = w19 at BK372 HB hHeld ⊢
  refine pure_ (i := 1) (N := some 22) (v := ?_) (a' := ?_) #[false, true, false, false, false, false, false, false, false, false, false, false, false, false, false, false] rfl rfl (any_of HT_.out (by kernel_rfl)) (fun _ _ _ h => h) (Or.inl ⟨by rfl, ?_⟩) ?_ ?_
  rotate_left
  ·intro w'
   go_simp
   with_reducible rfl
  rotate_left
  ·simp only [Act.put, List.setIfInBounds_toArray, List.set_cons_zero, List.set_cons_succ, i64_w, i32_w]
   rfl
  refine pure_ (i := 2) (N := some 23) (v := ?_) (a' := ?_) #[false, true, true, false, false, false, false, false, false, false, false, false, false, false, false, false] rfl rfl (any_of HT_.out (by kernel_rfl)) (fun _ _ _ h => h) (Or.inl ⟨by rfl, ?_⟩) ?_ ?_
  rotate_left
  ·intro w'
   go_simp
   with_reducible rfl
  rotate_left
  ·simp only [Act.put, List.setIfInBounds_toArray, List.set_cons_zero, List.set_cons_succ, i64_w, i32_w]
   rfl
  refine pure_ (i := 3) (N := some 24) (v := ?_) (a' := ?_) #[false, true, true, true, false, false, false, false, false, false, false, false, false, false, false, false] rfl rfl (any_of HT_.out (by kernel_rfl)) (fun _ _ _ h => h) (Or.inl ⟨by rfl, ?_⟩) ?_ ?_
  rotate_left
  ·intro w'
   go_simp
   with_reducible rfl
  rotate_left
  ·simp only [Act.put, List.setIfInBounds_toArray, List.set_cons_zero, List.set_cons_succ, i64_w, i32_w]
   rfl
  refine pure_ (i := 7) (N := some 28) (v := ?_) (a' := ?_) #[false, true, true, true, false, false, false, true, false, false, false, false, false, false, false, false] rfl rfl (any_of HT_.out (by kernel_rfl)) (fun _ _ _ h => h) (Or.inl ⟨by rfl, ?_⟩) ?_ ?_
  rotate_left
  ·intro w'
   go_simp
   with_reducible rfl
  rotate_left
  ·simp only [Act.put, List.setIfInBounds_toArray, List.set_cons_zero, List.set_cons_succ, i64_w, i32_w]
   rfl
  refine pure_ (i := 8) (N := some 29) (v := ?_) (a' := ?_) #[false, true, true, true, false, false, false, true, true, false, false, false, false, false, false, false] rfl rfl (any_of HT_.out (by kernel_rfl)) (fun _ _ _ h => h) (Or.inl ⟨by rfl, ?_⟩) ?_ ?_
  rotate_left
  ·intro w'
   go_simp
   with_reducible rfl
  rotate_left
  ·simp only [Act.put, List.setIfInBounds_toArray, List.set_cons_zero, List.set_cons_succ, i64_w, i32_w]
   rfl
  refine pure_ (i := 9) (N := some 30) (v := ?_) (a' := ?_) #[false, true, true, true, false, false, false, true, true, true, false, false, false, false, false, false] rfl rfl (any_of HT_.out (by kernel_rfl)) (fun _ _ _ h => h) (Or.inl ⟨by rfl, ?_⟩) ?_ ?_
  rotate_left
  ·intro w'
   go_simp
   with_reducible rfl
  rotate_left
  ·simp only [Act.put, List.setIfInBounds_toArray, List.set_cons_zero, List.set_cons_succ, i64_w, i32_w]
   rfl
  refine take_ (i := 0) (N := some 21) (v := ?_) (a' := ?_) #[true, true, true, true, false, false, false, true, true, true, false, false, false, false, false, false] rfl rfl (take_ofW HT_.out HW_.out (by kernel_rfl)) (fun _ _ _ h => h) (Or.inl ⟨by rfl, ?_⟩) hHeld ?_ ?_
  rotate_left
  ·rintro w' ⟨s0, s1⟩
   go_simp
   with_reducible rfl
  rotate_left
  ·simp only [Act.put, List.setIfInBounds_toArray, List.set_cons_zero, List.set_cons_succ, i64_w, i32_w]
   rfl
  refine take_ (i := 6) (N := some 27) (v := ?_) (a' := ?_) #[true, true, true, true, false, false, true, true, true, true, false, false, false, false, false, false] rfl rfl (take_ofW HT_.out HW_.out (by kernel_rfl)) (fun _ _ _ h => h) (Or.inl ⟨by rfl, ?_⟩) hHeld ?_ ?_
  rotate_left
  ·rintro w' ⟨s0, s1⟩
   go_simp
   with_reducible rfl
  rotate_left
  ·simp only [Act.put, List.setIfInBounds_toArray, List.set_cons_zero, List.set_cons_succ, i64_w, i32_w]
   rfl
  refine join_ (σ := Nat × Nat) 2 #[true, true, true, true, true, true, true, true, true, true, true, true, true, true, false, false] (fun s_ => [(25, .int .i64 t374), (26, .agg #[.int .i64 t375, .int .u64 t376]), (31, .int .i64 t377), (32, .agg #[.int .i64 t378, .int .u64 t379]), (9, .pointer (some ⟨s_.1, 0, none⟩)), (10, .pointer (some ⟨s_.2, 0, none⟩))]) (fun s_ w' => (w'.cell? ⟨gb372, 0, none⟩ = some (.int .i64 a0_0) ∧ w'.cell? ⟨gb372, 1, none⟩ = some (.int .u64 a0_1)) ∧ (w'.heap[gb372]? = some (.cells #[.int .i64 a0_0, .int .u64 a0_1] 31 (0, 0))) ∧ (w'.heap[s_.1]? = some (.cells #[.int .i64 0, .int .u64 0] 31 (0, 0))) ∧ (w'.heap[s_.2]? = some (.cells #[.int .i64 0, .int .u64 0] 31 (0, 0))) ∧ (w.heap.size ≤ s_.1) ∧ (w.heap.size ≤ s_.1) ∧ (gb372 ≠ s_.1) ∧ (s_.1 ≠ gb372) ∧ (s_.2 ≠ s_.1) ∧ (s_.1 ≠ s_.2) ∧ (w.heap.size ≤ s_.2) ∧ (w.heap.size ≤ s_.2) ∧ (gb372 ≠ s_.2) ∧ (s_.2 ≠ gb372) ∧ (Below w.heap.size w w')) ?_ ?_
  rotate_left
  ·intro hJ4_5_10_11_12_13
   refine join_ (σ := Nat) 3 #[true, true, true, true, true, true, true, true, true, true, true, true, true, false, false, false] (fun s_ => [(25, .int .i64 t374), (26, .agg #[.int .i64 t375, .int .u64 t376]), (31, .int .i64 t377), (32, .agg #[.int .i64 t378, .int .u64 t379]), (9, .pointer (some ⟨s_, 0, none⟩))]) (fun s_ w' => (w'.cell? ⟨gb372, 0, none⟩ = some (.int .i64 a0_0) ∧ w'.cell? ⟨gb372, 1, none⟩ = some (.int .u64 a0_1)) ∧ (w'.heap[gb372]? = some (.cells #[.int .i64 a0_0, .int .u64 a0_1] 31 (0, 0))) ∧ (w'.heap[s_]? = some (.cells #[.int .i64 0, .int .u64 0] 31 (0, 0))) ∧ (w.heap.size ≤ s_) ∧ (w.heap.size ≤ s_) ∧ (gb372 ≠ s_) ∧ (s_ ≠ gb372) ∧ (Below w.heap.size w w')) ?_ ?_
   rotate_left
   ·intro hJ4_5_10_11_12
    refine join_ (σ := Nat) 3 #[true, true, true, true, true, true, true, true, true, true, true, true, false, true, false, false] (fun s_ => [(25, .int .i64 t374), (26, .agg #[.int .i64 t375, .int .u64 t376]), (31, .int .i64 t377), (32, .agg #[.int .i64 t378, .int .u64 t379]), (10, .pointer (some ⟨s_, 0, none⟩))]) (fun s_ w' => (w'.cell? ⟨gb372, 0, none⟩ = some (.int .i64 a0_0) ∧ w'.cell? ⟨gb372, 1, none⟩ = some (.int .u64 a0_1)) ∧ (w'.heap[gb372]? = some (.cells #[.int .i64 a0_0, .int .u64 a0_1] 31 (0, 0))) ∧ (w'.heap[s_]? = some (.cells #[.int .i64 0, .int .u64 0] 31 (0, 0))) ∧ (w.heap.size ≤ s_) ∧ (w.heap.size ≤ s_) ∧ (gb372 ≠ s_) ∧ (s_ ≠ gb372) ∧ (Below w.heap.size w w')) ?_ ?_
    rotate_left
    ·intro hJ4_5_10_11_13
     refine join_ (σ := Nat × Nat) 3 #[true, true, true, true, true, true, true, true, true, true, true, false, true, true, false, false] (fun s_ => [(25, .int .i64 t374), (26, .agg #[.int .i64 t375, .int .u64 t376]), (31, .int .i64 t377), (9, .pointer (some ⟨s_.1, 0, none⟩)), (10, .pointer (some ⟨s_.2, 0, none⟩))]) (fun s_ w' => (w'.cell? ⟨gb372, 0, none⟩ = some (.int .i64 a0_0) ∧ w'.cell? ⟨gb372, 1, none⟩ = some (.int .u64 a0_1)) ∧ (w'.heap[gb372]? = some (.cells #[.int .i64 a0_0, .int .u64 a0_1] 31 (0, 0))) ∧ (w'.heap[s_.1]? = some (.cells #[.int .i64 0, .int .u64 0] 31 (0, 0))) ∧ (w'.heap[s_.2]? = some (.cells #[.int .i64 0, .int .u64 0] 31 (0, 0))) ∧ (w.heap.size ≤ s_.1) ∧ (w.heap.size ≤ s_.1) ∧ (gb372 ≠ s_.1) ∧ (s_.1 ≠ gb372) ∧ (s_.2 ≠ s_.1) ∧ (s_.1 ≠ s_.2) ∧ (w.heap.size ≤ s_.2) ∧ (w.heap.size ≤ s_.2) ∧ (gb372 ≠ s_.2) ∧ (s_.2 ≠ gb372) ∧ (Below w.heap.size w w')) ?_ ?_
     rotate_left
     ·intro hJ4_5_10_12_13
      refine join_ (σ := Unit) 4 #[true, true, true, true, true, true, true, true, true, true, true, true, false, false, false, false] (fun s_ => [(25, .int .i64 t374), (26, .agg #[.int .i64 t375, .int .u64 t376]), (31, .int .i64 t377), (32, .agg #[.int .i64 t378, .int .u64 t379])]) (fun s_ w' => (w'.cell? ⟨gb372, 0, none⟩ = some (.int .i64 a0_0) ∧ w'.cell? ⟨gb372, 1, none⟩ = some (.int .u64 a0_1)) ∧ (w'.heap[gb372]? = some (.cells #[.int .i64 a0_0, .int .u64 a0_1] 31 (0, 0))) ∧ (Below w.heap.size w w')) ?_ ?_
      rotate_left
      ·intro hJ4_5_10_11
       refine join_ (σ := Nat) 4 #[true, true, true, true, true, true, true, true, true, true, true, false, true, false, false, false] (fun s_ => [(25, .int .i64 t374), (26, .agg #[.int .i64 t375, .int .u64 t376]), (31, .int .i64 t377), (9, .pointer (some ⟨s_, 0, none⟩))]) (fun s_ w' => (w'.cell? ⟨gb372, 0, none⟩ = some (.int .i64 a0_0) ∧ w'.cell? ⟨gb372, 1, none⟩ = some (.int .u64 a0_1)) ∧ (w'.heap[gb372]? = some (.cells #[.int .i64 a0_0, .int .u64 a0_1] 31 (0, 0))) ∧ (w'.heap[s_]? = some (.cells #[.int .i64 0, .int .u64 0] 31 (0, 0))) ∧ (w.heap.size ≤ s_) ∧ (w.heap.size ≤ s_) ∧ (gb372 ≠ s_) ∧ (s_ ≠ gb372) ∧ (Below w.heap.size w w')) ?_ ?_
       rotate_left
       ·intro hJ4_5_10_12
        refine join_ (σ := Nat) 4 #[true, true, true, true, true, true, true, true, true, true, true, false, false, true, false, false] (fun s_ => [(25, .int .i64 t374), (26, .agg #[.int .i64 t375, .int .u64 t376]), (31, .int .i64 t377), (10, .pointer (some ⟨s_, 0, none⟩))]) (fun s_ w' => (w'.cell? ⟨gb372, 0, none⟩ = some (.int .i64 a0_0) ∧ w'.cell? ⟨gb372, 1, none⟩ = some (.int .u64 a0_1)) ∧ (w'.heap[gb372]? = some (.cells #[.int .i64 a0_0, .int .u64 a0_1] 31 (0, 0))) ∧ (w'.heap[s_]? = some (.cells #[.int .i64 0, .int .u64 0] 31 (0, 0))) ∧ (w.heap.size ≤ s_) ∧ (w.heap.size ≤ s_) ∧ (gb372 ≠ s_) ∧ (s_ ≠ gb372) ∧ (Below w.heap.size w w')) ?_ ?_
        rotate_left
        ·intro hJ4_5_10_13
         refine join_ (σ := Nat × Nat) 4 #[true, true, true, true, true, true, true, true, true, true, false, false, true, true, false, false] (fun s_ => [(25, .int .i64 t374), (26, .agg #[.int .i64 t375, .int .u64 t376]), (9, .pointer (some ⟨s_.1, 0, none⟩)), (10, .pointer (some ⟨s_.2, 0, none⟩))]) (fun s_ w' => (w'.cell? ⟨gb372, 0, none⟩ = some (.int .i64 a0_0) ∧ w'.cell? ⟨gb372, 1, none⟩ = some (.int .u64 a0_1)) ∧ (w'.heap[gb372]? = some (.cells #[.int .i64 a0_0, .int .u64 a0_1] 31 (0, 0))) ∧ (w'.heap[s_.1]? = some (.cells #[.int .i64 0, .int .u64 0] 31 (0, 0))) ∧ (w'.heap[s_.2]? = some (.cells #[.int .i64 0, .int .u64 0] 31 (0, 0))) ∧ (w.heap.size ≤ s_.1) ∧ (w.heap.size ≤ s_.1) ∧ (gb372 ≠ s_.1) ∧ (s_.1 ≠ gb372) ∧ (s_.2 ≠ s_.1) ∧ (s_.1 ≠ s_.2) ∧ (w.heap.size ≤ s_.2) ∧ (w.heap.size ≤ s_.2) ∧ (gb372 ≠ s_.2) ∧ (s_.2 ≠ gb372) ∧ (Below w.heap.size w w')) ?_ ?_
         rotate_left
         ·intro hJ4_5_12_13
          refine join_ (σ := Unit) 5 #[true, true, true, true, true, true, true, true, true, true, true, false, false, false, false, false] (fun s_ => [(25, .int .i64 t374), (26, .agg #[.int .i64 t375, .int .u64 t376]), (31, .int .i64 t377)]) (fun s_ w' => (w'.cell? ⟨gb372, 0, none⟩ = some (.int .i64 a0_0) ∧ w'.cell? ⟨gb372, 1, none⟩ = some (.int .u64 a0_1)) ∧ (w'.heap[gb372]? = some (.cells #[.int .i64 a0_0, .int .u64 a0_1] 31 (0, 0))) ∧ (Below w.heap.size w w')) ?_ ?_
          rotate_left
          ·intro hJ4_5_10
           refine join_ (σ := Nat) 5 #[true, true, true, true, true, true, true, true, true, true, false, false, true, false, false, false] (fun s_ => [(25, .int .i64 t374), (26, .agg #[.int .i64 t375, .int .u64 t376]), (9, .pointer (some ⟨s_, 0, none⟩))]) (fun s_ w' => (w'.cell? ⟨gb372, 0, none⟩ = some (.int .i64 a0_0) ∧ w'.cell? ⟨gb372, 1, none⟩ = some (.int .u64 a0_1)) ∧ (w'.heap[gb372]? = some (.cells #[.int .i64 a0_0, .int .u64 a0_1] 31 (0, 0))) ∧ (w'.heap[s_]? = some (.cells #[.int .i64 0, .int .u64 0] 31 (0, 0))) ∧ (w.heap.size ≤ s_) ∧ (w.heap.size ≤ s_) ∧ (gb372 ≠ s_) ∧ (s_ ≠ gb372) ∧ (Below w.heap.size w w')) ?_ ?_
           rotate_left
           ·intro hJ4_5_12
            refine join_ (σ := Nat) 5 #[true, true, true, true, true, true, true, true, true, true, false, false, false, true, false, false] (fun s_ => [(25, .int .i64 t374), (26, .agg #[.int .i64 t375, .int .u64 t376]), (10, .pointer (some ⟨s_, 0, none⟩))]) (fun s_ w' => (w'.cell? ⟨gb372, 0, none⟩ = some (.int .i64 a0_0) ∧ w'.cell? ⟨gb372, 1, none⟩ = some (.int .u64 a0_1)) ∧ (w'.heap[gb372]? = some (.cells #[.int .i64 a0_0, .int .u64 a0_1] 31 (0, 0))) ∧ (w'.heap[s_]? = some (.cells #[.int .i64 0, .int .u64 0] 31 (0, 0))) ∧ (w.heap.size ≤ s_) ∧ (w.heap.size ≤ s_) ∧ (gb372 ≠ s_) ∧ (s_ ≠ gb372) ∧ (Below w.heap.size w w')) ?_ ?_
            rotate_left
            ·intro hJ4_5_13
             refine join_ (σ := Nat × Nat) 5 #[true, true, true, true, true, false, true, true, true, true, false, false, true, true, false, false] (fun s_ => [(25, .int .i64 t374), (9, .pointer (some ⟨s_.1, 0, none⟩)), (10, .pointer (some ⟨s_.2, 0, none⟩))]) (fun s_ w' => (w'.cell? ⟨gb372, 0, none⟩ = some (.int .i64 a0_0) ∧ w'.cell? ⟨gb372, 1, none⟩ = some (.int .u64 a0_1)) ∧ (w'.heap[gb372]? = some (.cells #[.int .i64 a0_0, .int .u64 a0_1] 31 (0, 0))) ∧ (w'.heap[s_.1]? = some (.cells #[.int .i64 0, .int .u64 0] 31 (0, 0))) ∧ (w'.heap[s_.2]? = some (.cells #[.int .i64 0, .int .u64 0] 31 (0, 0))) ∧ (w.heap.size ≤ s_.1) ∧ (w.heap.size ≤ s_.1) ∧ (gb372 ≠ s_.1) ∧ (s_.1 ≠ gb372) ∧ (s_.2 ≠ s_.1) ∧ (s_.1 ≠ s_.2) ∧ (w.heap.size ≤ s_.2) ∧ (w.heap.size ≤ s_.2) ∧ (gb372 ≠ s_.2) ∧ (s_.2 ≠ gb372) ∧ (Below w.heap.size w w')) ?_ ?_
             rotate_left
             ·intro hJ4_12_13
              refine join_ (σ := Unit) 6 #[true, true, true, true, true, true, true, true, true, true, false, false, false, false, false, false] (fun s_ => [(25, .int .i64 t374), (26, .agg #[.int .i64 t375, .int .u64 t376])]) (fun s_ w' => (w'.cell? ⟨gb372, 0, none⟩ = some (.int .i64 a0_0) ∧ w'.cell? ⟨gb372, 1, none⟩ = some (.int .u64 a0_1)) ∧ (w'.heap[gb372]? = some (.cells #[.int .i64 a0_0, .int .u64 a0_1] 31 (0, 0))) ∧ (Below w.heap.size w w')) ?_ ?_
              rotate_left
              ·intro hJ4_5
               refine join_ (σ := Nat) 6 #[true, true, true, true, true, false, true, true, true, true, false, false, true, false, false, false] (fun s_ => [(25, .int .i64 t374), (9, .pointer (some ⟨s_, 0, none⟩))]) (fun s_ w' => (w'.cell? ⟨gb372, 0, none⟩ = some (.int .i64 a0_0) ∧ w'.cell? ⟨gb372, 1, none⟩ = some (.int .u64 a0_1)) ∧ (w'.heap[gb372]? = some (.cells #[.int .i64 a0_0, .int .u64 a0_1] 31 (0, 0))) ∧ (w'.heap[s_]? = some (.cells #[.int .i64 0, .int .u64 0] 31 (0, 0))) ∧ (w.heap.size ≤ s_) ∧ (w.heap.size ≤ s_) ∧ (gb372 ≠ s_) ∧ (s_ ≠ gb372) ∧ (Below w.heap.size w w')) ?_ ?_
               rotate_left
               ·intro hJ4_12
                refine join_ (σ := Nat) 6 #[true, true, true, true, true, false, true, true, true, true, false, false, false, true, false, false] (fun s_ => [(25, .int .i64 t374), (10, .pointer (some ⟨s_, 0, none⟩))]) (fun s_ w' => (w'.cell? ⟨gb372, 0, none⟩ = some (.int .i64 a0_0) ∧ w'.cell? ⟨gb372, 1, none⟩ = some (.int .u64 a0_1)) ∧ (w'.heap[gb372]? = some (.cells #[.int .i64 a0_0, .int .u64 a0_1] 31 (0, 0))) ∧ (w'.heap[s_]? = some (.cells #[.int .i64 0, .int .u64 0] 31 (0, 0))) ∧ (w.heap.size ≤ s_) ∧ (w.heap.size ≤ s_) ∧ (gb372 ≠ s_) ∧ (s_ ≠ gb372) ∧ (Below w.heap.size w w')) ?_ ?_
                rotate_left
                ·intro hJ4_13
                 refine join_ (σ := Nat × Nat) 6 #[true, true, true, true, false, false, true, true, true, true, false, false, true, true, false, false] (fun s_ => [(9, .pointer (some ⟨s_.1, 0, none⟩)), (10, .pointer (some ⟨s_.2, 0, none⟩))]) (fun s_ w' => (w'.cell? ⟨gb372, 0, none⟩ = some (.int .i64 a0_0) ∧ w'.cell? ⟨gb372, 1, none⟩ = some (.int .u64 a0_1)) ∧ (w'.heap[gb372]? = some (.cells #[.int .i64 a0_0, .int .u64 a0_1] 31 (0, 0))) ∧ (w'.heap[s_.1]? = some (.cells #[.int .i64 0, .int .u64 0] 31 (0, 0))) ∧ (w'.heap[s_.2]? = some (.cells #[.int .i64 0, .int .u64 0] 31 (0, 0))) ∧ (w.heap.size ≤ s_.1) ∧ (w.heap.size ≤ s_.1) ∧ (gb372 ≠ s_.1) ∧ (s_.1 ≠ gb372) ∧ (s_.2 ≠ s_.1) ∧ (s_.1 ≠ s_.2) ∧ (w.heap.size ≤ s_.2) ∧ (w.heap.size ≤ s_.2) ∧ (gb372 ≠ s_.2) ∧ (s_.2 ≠ gb372) ∧ (Below w.heap.size w w')) ?_ ?_
                 rotate_left
                 ·intro hJ12_13
                  refine join_ (σ := Unit) 7 #[true, true, true, true, true, false, true, true, true, true, false, false, false, false, false, false] (fun s_ => [(25, .int .i64 t374)]) (fun s_ w' => (w'.cell? ⟨gb372, 0, none⟩ = some (.int .i64 a0_0) ∧ w'.cell? ⟨gb372, 1, none⟩ = some (.int .u64 a0_1)) ∧ (w'.heap[gb372]? = some (.cells #[.int .i64 a0_0, .int .u64 a0_1] 31 (0, 0))) ∧ (Below w.heap.size w w')) ?_ ?_
                  rotate_left
                  ·intro hJ4
                   refine join_ (σ := Nat) 7 #[true, true, true, true, false, false, true, true, true, true, false, false, true, false, false, false] (fun s_ => [(9, .pointer (some ⟨s_, 0, none⟩))]) (fun s_ w' => (w'.cell? ⟨gb372, 0, none⟩ = some (.int .i64 a0_0) ∧ w'.cell? ⟨gb372, 1, none⟩ = some (.int .u64 a0_1)) ∧ (w'.heap[gb372]? = some (.cells #[.int .i64 a0_0, .int .u64 a0_1] 31 (0, 0))) ∧ (w'.heap[s_]? = some (.cells #[.int .i64 0, .int .u64 0] 31 (0, 0))) ∧ (w.heap.size ≤ s_) ∧ (w.heap.size ≤ s_) ∧ (gb372 ≠ s_) ∧ (s_ ≠ gb372) ∧ (Below w.heap.size w w')) ?_ ?_
                   rotate_left
                   ·intro hJ12
                    refine join_ (σ := Nat) 7 #[true, true, true, true, false, false, true, true, true, true, false, false, false, true, false, false] (fun s_ => [(10, .pointer (some ⟨s_, 0, none⟩))]) (fun s_ w' => (w'.cell? ⟨gb372, 0, none⟩ = some (.int .i64 a0_0) ∧ w'.cell? ⟨gb372, 1, none⟩ = some (.int .u64 a0_1)) ∧ (w'.heap[gb372]? = some (.cells #[.int .i64 a0_0, .int .u64 a0_1] 31 (0, 0))) ∧ (w'.heap[s_]? = some (.cells #[.int .i64 0, .int .u64 0] 31 (0, 0))) ∧ (w.heap.size ≤ s_) ∧ (w.heap.size ≤ s_) ∧ (gb372 ≠ s_) ∧ (s_ ≠ gb372) ∧ (Below w.heap.size w w')) ?_ ?_
                    rotate_left
                    ·intro hJ13
                     refine three_ (i := 4) (j := 12) (k := 13) (Ni := some 25) (Nj := some 9) (Nk := some 10) #[true, true, true, true, true, false, true, true, true, true, false, false, false, false, false, false] #[true, true, true, true, false, false, true, true, true, true, false, false, true, false, false, false] #[true, true, true, true, false, false, true, true, true, true, false, false, false, true, false, false] rfl rfl rfl rfl rfl rfl (three_of HT_.out (by kernel_rfl)) (by decide) (by decide) (by decide) (fun K hK => ?_) (fun K hK => ?_) (fun K hK => ?_)
                     ·skip
                      refine goes_ Tryz.func40 (by kernel_rfl) rfl #[.agg #[.int .i64 a0_0, .int .u64 a0_1], .int .i64 ji10] (by rfl) rfl rfl (by (try simp only [List.map_toArray, List.map_cons, List.map_nil]); first | done | (simp only [hji10]; rfl) | rfl | (simp only [List.length_drop, List.length_take]; rfl)) ?_
                      with_reducible refine (clamp_Clamp.calls k a0_0 a0_1 ji10 t374 _ A11.out).mono ?_
                      rintro e w20 ⟨rfl, hb⟩
                      refine ⟨_, rfl, ?_⟩
                      replace BK372 := blkb BK372 hb
                      replace HB := belb HB hb
                      (try clear hb)
                      (try clear hb2)
                      (try clear hk)
                      (try clear hi)
                      refine hK.out _ _ ⟨bc BK372 0, bc BK372 1⟩ (fun hHeld => ?_)
                      clear hK K
                      refine norm_ (a' := ?_) ?_ ?_
                      rotate_left
                      ·show Act.put _ (some 25) _ = _
                       simp only [Act.put, List.setIfInBounds_toArray, List.set_cons_zero, List.set_cons_succ, i64_w, i32_w]
                       rfl
                      exact norm_ (by first | (simp only [putAll, Act.put, List.setIfInBounds_toArray, List.set_cons_zero, List.set_cons_succ]; done) | (simp only [putAll, Act.put, List.setIfInBounds_toArray, List.set_cons_zero, List.set_cons_succ]; rfl)) (hJ4 () _ ⟨hHeld, (blkt BK372), (belt HB)⟩)
                     ·skip
                      refine box_step ?hg (N := 9) ?hd (cs := #[.int .i64 0, .int .u64 0]) (t := 31) ?hr ?_; (case hd => rfl); (case hg => rfl); (case hr => first | (go_simp; done) | (go_simp; rfl))
                      intro gb380 hg w20 hbox hb
                      have BK380 := Aside0.mk (hbox)
                      have GW380 := bels HB hg
                      have GE380 := bels HB hg
                      have NB372_380 := blkl BK372 hg
                      have NB380_372 := blkg BK372 hg
                      replace BK372 := blkb BK372 hb
                      replace HB := belb HB hb
                      clear hb hbox hg
                      refine hK.out _ _ ⟨bc BK372 0, bc BK372 1⟩ (fun hHeld => ?_)
                      clear hK K
                      refine norm_ (a' := ?_) ?_ ?_
                      rotate_left
                      ·show Act.put _ (some 9) _ = _
                       simp only [Act.put, List.setIfInBounds_toArray, List.set_cons_zero, List.set_cons_succ, i64_w, i32_w]
                       rfl
                      exact norm_ (by first | (simp only [putAll, Act.put, List.setIfInBounds_toArray, List.set_cons_zero, List.set_cons_succ]; done) | (simp only [putAll, Act.put, List.setIfInBounds_toArray, List.set_cons_zero, List.set_cons_succ]; rfl)) (hJ12 (gb380) _ ⟨hHeld, (blkt BK372), (blkt BK380), GW380.out, GE380.out, NB372_380.out, NB380_372.out, (belt HB)⟩)
                     skip
                     refine box_step ?hg (N := 10) ?hd (cs := #[.int .i64 0, .int .u64 0]) (t := 31) ?hr ?_; (case hd => rfl); (case hg => rfl); (case hr => first | (go_simp; done) | (go_simp; rfl))
                     intro gb381 hg w20 hbox hb
                     have BK381 := Aside0.mk (hbox)
                     have GW381 := bels HB hg
                     have GE381 := bels HB hg
                     have NB372_381 := blkl BK372 hg
                     have NB381_372 := blkg BK372 hg
                     replace BK372 := blkb BK372 hb
                     replace HB := belb HB hb
                     clear hb hbox hg
                     refine hK.out _ _ ⟨bc BK372 0, bc BK372 1⟩ (fun hHeld => ?_)
                     clear hK K
                     refine norm_ (a' := ?_) ?_ ?_
                     rotate_left
                     ·show Act.put _ (some 10) _ = _
                      simp only [Act.put, List.setIfInBounds_toArray, List.set_cons_zero, List.set_cons_succ, i64_w, i32_w]
                      rfl
                     exact norm_ (by first | (simp only [putAll, Act.put, List.setIfInBounds_toArray, List.set_cons_zero, List.set_cons_succ]; done) | (simp only [putAll, Act.put, List.setIfInBounds_toArray, List.set_cons_zero, List.set_cons_succ]; rfl)) (hJ13 (gb381) _ ⟨hHeld, (blkt BK372), (blkt BK381), GW381.out, GE381.out, NB372_381.out, NB381_372.out, (belt HB)⟩)
                    skip
                    rintro gb381 w21 ⟨hS_, h0_, h1_, h2_, h3_, h4_, h5_, h6_⟩
                    replace BK372 : Aside0 (w21.heap[gb372]? = some (.cells #[.int .i64 a0_0, .int .u64 a0_1] 31 (0, 0))) := ⟨h0_⟩
                    have BK381 : Aside0 (w21.heap[gb381]? = some (.cells #[.int .i64 0, .int .u64 0] 31 (0, 0))) := ⟨h1_⟩
                    have GW381 : Aside0 (w.heap.size ≤ gb381) := ⟨h2_⟩
                    have GE381 : Aside0 (w.heap.size ≤ gb381) := ⟨h3_⟩
                    have NB372_381 : Aside0 (gb372 ≠ gb381) := ⟨h4_⟩
                    have NB381_372 : Aside0 (gb381 ≠ gb372) := ⟨h5_⟩
                    replace HB : Aside0 (Below w.heap.size w w21) := ⟨h6_⟩
                    clear h0_ h1_ h2_ h3_ h4_ h5_ h6_
                    have hHeld : w21.cell? ⟨gb372, 0, none⟩ = some (.int .i64 a0_0) ∧ w21.cell? ⟨gb372, 1, none⟩ = some (.int .u64 a0_1) := hS_
                    refine norm_ (a' := ?_) ?_ ?_
                    rotate_left
                    ·simp only [putAll, Act.put, List.setIfInBounds_toArray, List.set_cons_zero, List.set_cons_succ]
                     rfl
                    refine two_ (i := 4) (j := 12) (Ni := some 25) (Nj := some 9) #[true, true, true, true, true, false, true, true, true, true, false, false, false, true, false, false] #[true, true, true, true, false, false, true, true, true, true, false, false, true, true, false, false] rfl rfl rfl rfl (two_of HT_.out (by kernel_rfl)) (by decide) (by decide) (fun K hK => ?_) (fun K hK => ?_)
                    ·skip
                     refine goes_ Tryz.func40 (by kernel_rfl) rfl #[.agg #[.int .i64 a0_0, .int .u64 a0_1], .int .i64 ji10] (by rfl) rfl rfl (by (try simp only [List.map_toArray, List.map_cons, List.map_nil]); first | done | (simp only [hji10]; rfl) | rfl | (simp only [List.length_drop, List.length_take]; rfl)) ?_
                     with_reducible refine (clamp_Clamp.calls k a0_0 a0_1 ji10 t374 _ A11.out).mono ?_
                     rintro e w22 ⟨rfl, hb⟩
                     refine ⟨_, rfl, ?_⟩
                     replace BK372 := blkb BK372 hb
                     replace BK381 := blkb BK381 hb
                     replace HB := belb HB hb
                     (try clear hb)
                     (try clear hb2)
                     (try clear hk)
                     (try clear hi)
                     refine hK.out _ _ ⟨bc BK372 0, bc BK372 1⟩ (fun hHeld => ?_)
                     clear hK K
                     refine norm_ (a' := ?_) ?_ ?_
                     rotate_left
                     ·show Act.put _ (some 25) _ = _
                      simp only [Act.put, List.setIfInBounds_toArray, List.set_cons_zero, List.set_cons_succ, i64_w, i32_w]
                      rfl
                     exact norm_ (by first | (simp only [putAll, Act.put, List.setIfInBounds_toArray, List.set_cons_zero, List.set_cons_succ]; done) | (simp only [putAll, Act.put, List.setIfInBounds_toArray, List.set_cons_zero, List.set_cons_succ]; rfl)) (hJ4_13 (gb381) _ ⟨hHeld, (blkt BK372), (blkt BK381), GW381.out, GE381.out, NB372_381.out, NB381_372.out, (belt HB)⟩)
                    skip
                    refine box_step ?hg (N := 9) ?hd (cs := #[.int .i64 0, .int .u64 0]) (t := 31) ?hr ?_; (case hd => rfl); (case hg => rfl); (case hr => first | (go_simp; done) | (go_simp; rfl))
                    intro gb380 hg w22 hbox hb
                    have BK380 := Aside0.mk (hbox)
                    have GW380 := bels HB hg
                    have GE380 := bels HB hg
                    have NB372_380 := blkl BK372 hg
                    have NB380_372 := blkg BK372 hg
                    have NB381_380 := blkl BK381 hg
                    have NB380_381 := blkg BK381 hg
                    replace BK372 := blkb BK372 hb
                    replace BK381 := blkb BK381 hb
                    replace HB := belb HB hb
                    clear hb hbox hg
                    refine hK.out _ _ ⟨bc BK372 0, bc BK372 1⟩ (fun hHeld => ?_)
                    clear hK K
                    refine norm_ (a' := ?_) ?_ ?_
                    rotate_left
                    ·show Act.put _ (some 9) _ = _
                     simp only [Act.put, List.setIfInBounds_toArray, List.set_cons_zero, List.set_cons_succ, i64_w, i32_w]
                     rfl
                    exact norm_ (by first | (simp only [putAll, Act.put, List.setIfInBounds_toArray, List.set_cons_zero, List.set_cons_succ]; done) | (simp only [putAll, Act.put, List.setIfInBounds_toArray, List.set_cons_zero, List.set_cons_succ]; rfl)) (hJ12_13 (gb380, gb381) _ ⟨hHeld, (blkt BK372), (blkt BK380), (blkt BK381), GW380.out, GE380.out, NB372_380.out, NB380_372.out, NB381_380.out, NB380_381.out, GW381.out, GE381.out, NB372_381.out, NB381_372.out, (belt HB)⟩)
                   skip
                   rintro gb380 w21 ⟨hS_, h0_, h1_, h2_, h3_, h4_, h5_, h6_⟩
                   replace BK372 : Aside0 (w21.heap[gb372]? = some (.cells #[.int .i64 a0_0, .int .u64 a0_1] 31 (0, 0))) := ⟨h0_⟩
                   have BK380 : Aside0 (w21.heap[gb380]? = some (.cells #[.int .i64 0, .int .u64 0] 31 (0, 0))) := ⟨h1_⟩
                   have GW380 : Aside0 (w.heap.size ≤ gb380) := ⟨h2_⟩
                   have GE380 : Aside0 (w.heap.size ≤ gb380) := ⟨h3_⟩
                   have NB372_380 : Aside0 (gb372 ≠ gb380) := ⟨h4_⟩
                   have NB380_372 : Aside0 (gb380 ≠ gb372) := ⟨h5_⟩
                   replace HB : Aside0 (Below w.heap.size w w21) := ⟨h6_⟩
                   clear h0_ h1_ h2_ h3_ h4_ h5_ h6_
                   have hHeld : w21.cell? ⟨gb372, 0, none⟩ = some (.int .i64 a0_0) ∧ w21.cell? ⟨gb372, 1, none⟩ = some (.int .u64 a0_1) := hS_
                   refine norm_ (a' := ?_) ?_ ?_
                   rotate_left
                   ·simp only [putAll, Act.put, List.setIfInBounds_toArray, List.set_cons_zero, List.set_cons_succ]
                    rfl
                   refine two_ (i := 4) (j := 13) (Ni := some 25) (Nj := some 10) #[true, true, true, true, true, false, true, true, true, true, false, false, true, false, false, false] #[true, true, true, true, false, false, true, true, true, true, false, false, true, true, false, false] rfl rfl rfl rfl (two_of HT_.out (by kernel_rfl)) (by decide) (by decide) (fun K hK => ?_) (fun K hK => ?_)
                   ·skip
                    refine goes_ Tryz.func40 (by kernel_rfl) rfl #[.agg #[.int .i64 a0_0, .int .u64 a0_1], .int .i64 ji10] (by rfl) rfl rfl (by (try simp only [List.map_toArray, List.map_cons, List.map_nil]); first | done | (simp only [hji10]; rfl) | rfl | (simp only [List.length_drop, List.length_take]; rfl)) ?_
                    with_reducible refine (clamp_Clamp.calls k a0_0 a0_1 ji10 t374 _ A11.out).mono ?_
                    rintro e w22 ⟨rfl, hb⟩
                    refine ⟨_, rfl, ?_⟩
                    replace BK372 := blkb BK372 hb
                    replace BK380 := blkb BK380 hb
                    replace HB := belb HB hb
                    (try clear hb)
                    (try clear hb2)
                    (try clear hk)
                    (try clear hi)
                    refine hK.out _ _ ⟨bc BK372 0, bc BK372 1⟩ (fun hHeld => ?_)
                    clear hK K
                    refine norm_ (a' := ?_) ?_ ?_
                    rotate_left
                    ·show Act.put _ (some 25) _ = _
                     simp only [Act.put, List.setIfInBounds_toArray, List.set_cons_zero, List.set_cons_succ, i64_w, i32_w]
                     rfl
                    exact norm_ (by first | (simp only [putAll, Act.put, List.setIfInBounds_toArray, List.set_cons_zero, List.set_cons_succ]; done) | (simp only [putAll, Act.put, List.setIfInBounds_toArray, List.set_cons_zero, List.set_cons_succ]; rfl)) (hJ4_12 (gb380) _ ⟨hHeld, (blkt BK372), (blkt BK380), GW380.out, GE380.out, NB372_380.out, NB380_372.out, (belt HB)⟩)
                   skip
                   refine box_step ?hg (N := 10) ?hd (cs := #[.int .i64 0, .int .u64 0]) (t := 31) ?hr ?_; (case hd => rfl); (case hg => rfl); (case hr => first | (go_simp; done) | (go_simp; rfl))
                   intro gb381 hg w22 hbox hb
                   have BK381 := Aside0.mk (hbox)
                   have GW381 := bels HB hg
                   have GE381 := bels HB hg
                   have NB372_381 := blkl BK372 hg
                   have NB381_372 := blkg BK372 hg
                   have NB380_381 := blkl BK380 hg
                   have NB381_380 := blkg BK380 hg
                   replace BK372 := blkb BK372 hb
                   replace BK380 := blkb BK380 hb
                   replace HB := belb HB hb
                   clear hb hbox hg
                   refine hK.out _ _ ⟨bc BK372 0, bc BK372 1⟩ (fun hHeld => ?_)
                   clear hK K
                   refine norm_ (a' := ?_) ?_ ?_
                   rotate_left
                   ·show Act.put _ (some 10) _ = _
                    simp only [Act.put, List.setIfInBounds_toArray, List.set_cons_zero, List.set_cons_succ, i64_w, i32_w]
                    rfl
                   exact norm_ (by first | (simp only [putAll, Act.put, List.setIfInBounds_toArray, List.set_cons_zero, List.set_cons_succ]; done) | (simp only [putAll, Act.put, List.setIfInBounds_toArray, List.set_cons_zero, List.set_cons_succ]; rfl)) (hJ12_13 (gb380, gb381) _ ⟨hHeld, (blkt BK372), (blkt BK380), (blkt BK381), GW380.out, GE380.out, NB372_380.out, NB380_372.out, NB381_380.out, NB380_381.out, GW381.out, GE381.out, NB372_381.out, NB381_372.out, (belt HB)⟩)
                  skip
                  rintro _ w21 ⟨hS_, h0_, h1_⟩
                  replace BK372 : Aside0 (w21.heap[gb372]? = some (.cells #[.int .i64 a0_0, .int .u64 a0_1] 31 (0, 0))) := ⟨h0_⟩
                  replace HB : Aside0 (Below w.heap.size w w21) := ⟨h1_⟩
                  clear h0_ h1_
                  have hHeld : w21.cell? ⟨gb372, 0, none⟩ = some (.int .i64 a0_0) ∧ w21.cell? ⟨gb372, 1, none⟩ = some (.int .u64 a0_1) := hS_
                  refine norm_ (a' := ?_) ?_ ?_
                  rotate_left
                  ·simp only [putAll, Act.put, List.setIfInBounds_toArray, List.set_cons_zero, List.set_cons_succ]
                   rfl
                  refine three_ (i := 5) (j := 12) (k := 13) (Ni := some 26) (Nj := some 9) (Nk := some 10) #[true, true, true, true, true, true, true, true, true, true, false, false, false, false, false, false] #[true, true, true, true, true, false, true, true, true, true, false, false, true, false, false, false] #[true, true, true, true, true, false, true, true, true, true, false, false, false, true, false, false] rfl rfl rfl rfl rfl rfl (three_of HT_.out (by kernel_rfl)) (by decide) (by decide) (by decide) (fun K hK => ?_) (fun K hK => ?_) (fun K hK => ?_)
                  ·skip
                   refine goes_ Tryz.func31 (by kernel_rfl) rfl #[.int .i64 t374] (by rfl) rfl rfl argt ?_
                   with_reducible refine (wide_Of.calls t374 t375 t376 _ A12.out).mono ?_
                   rintro e w22 ⟨rfl, hb⟩
                   refine ⟨_, rfl, ?_⟩
                   replace BK372 := blkb BK372 hb
                   replace HB := belb HB hb
                   (try clear hb)
                   (try clear hb2)
                   (try clear hk)
                   (try clear hi)
                   refine hK.out _ _ ⟨bc BK372 0, bc BK372 1⟩ (fun hHeld => ?_)
                   clear hK K
                   refine norm_ (a' := ?_) ?_ ?_
                   rotate_left
                   ·show Act.put _ (some 26) _ = _
                    simp only [Act.put, List.setIfInBounds_toArray, List.set_cons_zero, List.set_cons_succ, i64_w, i32_w]
                    rfl
                   exact norm_ (by first | (simp only [putAll, Act.put, List.setIfInBounds_toArray, List.set_cons_zero, List.set_cons_succ]; done) | (simp only [putAll, Act.put, List.setIfInBounds_toArray, List.set_cons_zero, List.set_cons_succ]; rfl)) (hJ4_5 () _ ⟨hHeld, (blkt BK372), (belt HB)⟩)
                  ·skip
                   refine box_step ?hg (N := 9) ?hd (cs := #[.int .i64 0, .int .u64 0]) (t := 31) ?hr ?_; (case hd => rfl); (case hg => rfl); (case hr => first | (go_simp; done) | (go_simp; rfl))
                   intro gb380 hg w22 hbox hb
                   have BK380 := Aside0.mk (hbox)
                   have GW380 := bels HB hg
                   have GE380 := bels HB hg
                   have NB372_380 := blkl BK372 hg
                   have NB380_372 := blkg BK372 hg
                   replace BK372 := blkb BK372 hb
                   replace HB := belb HB hb
                   clear hb hbox hg
                   refine hK.out _ _ ⟨bc BK372 0, bc BK372 1⟩ (fun hHeld => ?_)
                   clear hK K
                   refine norm_ (a' := ?_) ?_ ?_
                   rotate_left
                   ·show Act.put _ (some 9) _ = _
                    simp only [Act.put, List.setIfInBounds_toArray, List.set_cons_zero, List.set_cons_succ, i64_w, i32_w]
                    rfl
                   exact norm_ (by first | (simp only [putAll, Act.put, List.setIfInBounds_toArray, List.set_cons_zero, List.set_cons_succ]; done) | (simp only [putAll, Act.put, List.setIfInBounds_toArray, List.set_cons_zero, List.set_cons_succ]; rfl)) (hJ4_12 (gb380) _ ⟨hHeld, (blkt BK372), (blkt BK380), GW380.out, GE380.out, NB372_380.out, NB380_372.out, (belt HB)⟩)
                  skip
                  refine box_step ?hg (N := 10) ?hd (cs := #[.int .i64 0, .int .u64 0]) (t := 31) ?hr ?_; (case hd => rfl); (case hg => rfl); (case hr => first | (go_simp; done) | (go_simp; rfl))
                  intro gb381 hg w22 hbox hb
                  have BK381 := Aside0.mk (hbox)
                  have GW381 := bels HB hg
                  have GE381 := bels HB hg
                  have NB372_381 := blkl BK372 hg
                  have NB381_372 := blkg BK372 hg
                  replace BK372 := blkb BK372 hb
                  replace HB := belb HB hb
                  clear hb hbox hg
                  refine hK.out _ _ ⟨bc BK372 0, bc BK372 1⟩ (fun hHeld => ?_)
                  clear hK K
                  refine norm_ (a' := ?_) ?_ ?_
                  rotate_left
                  ·show Act.put _ (some 10) _ = _
                   simp only [Act.put, List.setIfInBounds_toArray, List.set_cons_zero, List.set_cons_succ, i64_w, i32_w]
                   rfl
                  exact norm_ (by first | (simp only [putAll, Act.put, List.setIfInBounds_toArray, List.set_cons_zero, List.set_cons_succ]; done) | (simp only [putAll, Act.put, List.setIfInBounds_toArray, List.set_cons_zero, List.set_cons_succ]; rfl)) (hJ4_13 (gb381) _ ⟨hHeld, (blkt BK372), (blkt BK381), GW381.out, GE381.out, NB372_381.out, NB381_372.out, (belt HB)⟩)
                 skip
                 rintro ⟨gb380, gb381⟩ w22 ⟨hS_, h0_, h1_, h2_, h3_, h4_, h5_, h6_, h7_, h8_, h9_, h10_, h11_, h12_, h13_⟩
                 replace BK372 : Aside0 (w22.heap[gb372]? = some (.cells #[.int .i64 a0_0, .int .u64 a0_1] 31 (0, 0))) := ⟨h0_⟩
                 have BK380 : Aside0 (w22.heap[gb380]? = some (.cells #[.int .i64 0, .int .u64 0] 31 (0, 0))) := ⟨h1_⟩
                 have BK381 : Aside0 (w22.heap[gb381]? = some (.cells #[.int .i64 0, .int .u64 0] 31 (0, 0))) := ⟨h2_⟩
                 have GW380 : Aside0 (w.heap.size ≤ gb380) := ⟨h3_⟩
                 have GE380 : Aside0 (w.heap.size ≤ gb380) := ⟨h4_⟩
                 have NB372_380 : Aside0 (gb372 ≠ gb380) := ⟨h5_⟩
                 have NB380_372 : Aside0 (gb380 ≠ gb372) := ⟨h6_⟩
                 have NB381_380 : Aside0 (gb381 ≠ gb380) := ⟨h7_⟩
                 have NB380_381 : Aside0 (gb380 ≠ gb381) := ⟨h8_⟩
                 have GW381 : Aside0 (w.heap.size ≤ gb381) := ⟨h9_⟩
                 have GE381 : Aside0 (w.heap.size ≤ gb381) := ⟨h10_⟩
                 have NB372_381 : Aside0 (gb372 ≠ gb381) := ⟨h11_⟩
                 have NB381_372 : Aside0 (gb381 ≠ gb372) := ⟨h12_⟩
                 replace HB : Aside0 (Below w.heap.size w w22) := ⟨h13_⟩
                 clear h0_ h1_ h2_ h3_ h4_ h5_ h6_ h7_ h8_ h9_ h10_ h11_ h12_ h13_
                 have hHeld : w22.cell? ⟨gb372, 0, none⟩ = some (.int .i64 a0_0) ∧ w22.cell? ⟨gb372, 1, none⟩ = some (.int .u64 a0_1) := hS_
                 refine norm_ (a' := ?_) ?_ ?_
                 rotate_left
                 ·simp only [putAll, Act.put, List.setIfInBounds_toArray, List.set_cons_zero, List.set_cons_succ]
                  rfl
                 refine one_ (i := 4) (N := some 25) #[true, true, true, true, true, false, true, true, true, true, false, false, true, true, false, false] rfl rfl (one_of HT_.out (by kernel_rfl)) (by decide) (fun K hK => ?_)
                 refine goes_ Tryz.func40 (by kernel_rfl) rfl #[.agg #[.int .i64 a0_0, .int .u64 a0_1], .int .i64 ji10] (by rfl) rfl rfl (by (try simp only [List.map_toArray, List.map_cons, List.map_nil]); first | done | (simp only [hji10]; rfl) | rfl | (simp only [List.length_drop, List.length_take]; rfl)) ?_
                 with_reducible refine (clamp_Clamp.calls k a0_0 a0_1 ji10 t374 _ A11.out).mono ?_
                 rintro e w23 ⟨rfl, hb⟩
                 refine ⟨_, rfl, ?_⟩
                 replace BK372 := blkb BK372 hb
                 replace BK380 := blkb BK380 hb
                 replace BK381 := blkb BK381 hb
                 replace HB := belb HB hb
                 (try clear hb)
                 (try clear hb2)
                 (try clear hk)
                 (try clear hi)
                 refine hK.out _ _ ⟨bc BK372 0, bc BK372 1⟩ (fun hHeld => ?_)
                 clear hK K
                 refine norm_ (a' := ?_) ?_ ?_
                 rotate_left
                 ·show Act.put _ (some 25) _ = _
                  simp only [Act.put, List.setIfInBounds_toArray, List.set_cons_zero, List.set_cons_succ, i64_w, i32_w]
                  rfl
                 exact norm_ (by first | (simp only [putAll, Act.put, List.setIfInBounds_toArray, List.set_cons_zero, List.set_cons_succ]; done) | (simp only [putAll, Act.put, List.setIfInBounds_toArray, List.set_cons_zero, List.set_cons_succ]; rfl)) (hJ4_12_13 (gb380, gb381) _ ⟨hHeld, (blkt BK372), (blkt BK380), (blkt BK381), GW380.out, GE380.out, NB372_380.out, NB380_372.out, NB381_380.out, NB380_381.out, GW381.out, GE381.out, NB372_381.out, NB381_372.out, (belt HB)⟩)
                skip
                rintro gb381 w22 ⟨hS_, h0_, h1_, h2_, h3_, h4_, h5_, h6_⟩
                replace BK372 : Aside0 (w22.heap[gb372]? = some (.cells #[.int .i64 a0_0, .int .u64 a0_1] 31 (0, 0))) := ⟨h0_⟩
                have BK381 : Aside0 (w22.heap[gb381]? = some (.cells #[.int .i64 0, .int .u64 0] 31 (0, 0))) := ⟨h1_⟩
                have GW381 : Aside0 (w.heap.size ≤ gb381) := ⟨h2_⟩
                have GE381 : Aside0 (w.heap.size ≤ gb381) := ⟨h3_⟩
                have NB372_381 : Aside0 (gb372 ≠ gb381) := ⟨h4_⟩
                have NB381_372 : Aside0 (gb381 ≠ gb372) := ⟨h5_⟩
                replace HB : Aside0 (Below w.heap.size w w22) := ⟨h6_⟩
                clear h0_ h1_ h2_ h3_ h4_ h5_ h6_
                have hHeld : w22.cell? ⟨gb372, 0, none⟩ = some (.int .i64 a0_0) ∧ w22.cell? ⟨gb372, 1, none⟩ = some (.int .u64 a0_1) := hS_
                refine norm_ (a' := ?_) ?_ ?_
                rotate_left
                ·simp only [putAll, Act.put, List.setIfInBounds_toArray, List.set_cons_zero, List.set_cons_succ]
                 rfl
                refine two_ (i := 5) (j := 12) (Ni := some 26) (Nj := some 9) #[true, true, true, true, true, true, true, true, true, true, false, false, false, true, false, false] #[true, true, true, true, true, false, true, true, true, true, false, false, true, true, false, false] rfl rfl rfl rfl (two_of HT_.out (by kernel_rfl)) (by decide) (by decide) (fun K hK => ?_) (fun K hK => ?_)
                ·skip
                 refine goes_ Tryz.func31 (by kernel_rfl) rfl #[.int .i64 t374] (by rfl) rfl rfl argt ?_
                 with_reducible refine (wide_Of.calls t374 t375 t376 _ A12.out).mono ?_
                 rintro e w23 ⟨rfl, hb⟩
                 refine ⟨_, rfl, ?_⟩
                 replace BK372 := blkb BK372 hb
                 replace BK381 := blkb BK381 hb
                 replace HB := belb HB hb
                 (try clear hb)
                 (try clear hb2)
                 (try clear hk)
                 (try clear hi)
                 refine hK.out _ _ ⟨bc BK372 0, bc BK372 1⟩ (fun hHeld => ?_)
                 clear hK K
                 refine norm_ (a' := ?_) ?_ ?_
                 rotate_left
                 ·show Act.put _ (some 26) _ = _
                  simp only [Act.put, List.setIfInBounds_toArray, List.set_cons_zero, List.set_cons_succ, i64_w, i32_w]
                  rfl
                 exact norm_ (by first | (simp only [putAll, Act.put, List.setIfInBounds_toArray, List.set_cons_zero, List.set_cons_succ]; done) | (simp only [putAll, Act.put, List.setIfInBounds_toArray, List.set_cons_zero, List.set_cons_succ]; rfl)) (hJ4_5_13 (gb381) _ ⟨hHeld, (blkt BK372), (blkt BK381), GW381.out, GE381.out, NB372_381.out, NB381_372.out, (belt HB)⟩)
                skip
                refine box_step ?hg (N := 9) ?hd (cs := #[.int .i64 0, .int .u64 0]) (t := 31) ?hr ?_; (case hd => rfl); (case hg => rfl); (case hr => first | (go_simp; done) | (go_simp; rfl))
                intro gb380 hg w23 hbox hb
                have BK380 := Aside0.mk (hbox)
                have GW380 := bels HB hg
                have GE380 := bels HB hg
                have NB372_380 := blkl BK372 hg
                have NB380_372 := blkg BK372 hg
                have NB381_380 := blkl BK381 hg
                have NB380_381 := blkg BK381 hg
                replace BK372 := blkb BK372 hb
                replace BK381 := blkb BK381 hb
                replace HB := belb HB hb
                clear hb hbox hg
                refine hK.out _ _ ⟨bc BK372 0, bc BK372 1⟩ (fun hHeld => ?_)
                clear hK K
                refine norm_ (a' := ?_) ?_ ?_
                rotate_left
                ·show Act.put _ (some 9) _ = _
                 simp only [Act.put, List.setIfInBounds_toArray, List.set_cons_zero, List.set_cons_succ, i64_w, i32_w]
                 rfl
                exact norm_ (by first | (simp only [putAll, Act.put, List.setIfInBounds_toArray, List.set_cons_zero, List.set_cons_succ]; done) | (simp only [putAll, Act.put, List.setIfInBounds_toArray, List.set_cons_zero, List.set_cons_succ]; rfl)) (hJ4_12_13 (gb380, gb381) _ ⟨hHeld, (blkt BK372), (blkt BK380), (blkt BK381), GW380.out, GE380.out, NB372_380.out, NB380_372.out, NB381_380.out, NB380_381.out, GW381.out, GE381.out, NB372_381.out, NB381_372.out, (belt HB)⟩)
               skip
               rintro gb380 w22 ⟨hS_, h0_, h1_, h2_, h3_, h4_, h5_, h6_⟩
               replace BK372 : Aside0 (w22.heap[gb372]? = some (.cells #[.int .i64 a0_0, .int .u64 a0_1] 31 (0, 0))) := ⟨h0_⟩
               have BK380 : Aside0 (w22.heap[gb380]? = some (.cells #[.int .i64 0, .int .u64 0] 31 (0, 0))) := ⟨h1_⟩
               have GW380 : Aside0 (w.heap.size ≤ gb380) := ⟨h2_⟩
               have GE380 : Aside0 (w.heap.size ≤ gb380) := ⟨h3_⟩
               have NB372_380 : Aside0 (gb372 ≠ gb380) := ⟨h4_⟩
               have NB380_372 : Aside0 (gb380 ≠ gb372) := ⟨h5_⟩
               replace HB : Aside0 (Below w.heap.size w w22) := ⟨h6_⟩
               clear h0_ h1_ h2_ h3_ h4_ h5_ h6_
               have hHeld : w22.cell? ⟨gb372, 0, none⟩ = some (.int .i64 a0_0) ∧ w22.cell? ⟨gb372, 1, none⟩ = some (.int .u64 a0_1) := hS_
               refine norm_ (a' := ?_) ?_ ?_
               rotate_left
               ·simp only [putAll, Act.put, List.setIfInBounds_toArray, List.set_cons_zero, List.set_cons_succ]
                rfl
               refine two_ (i := 5) (j := 13) (Ni := some 26) (Nj := some 10) #[true, true, true, true, true, true, true, true, true, true, false, false, true, false, false, false] #[true, true, true, true, true, false, true, true, true, true, false, false, true, true, false, false] rfl rfl rfl rfl (two_of HT_.out (by kernel_rfl)) (by decide) (by decide) (fun K hK => ?_) (fun K hK => ?_)
               ·skip
                refine goes_ Tryz.func31 (by kernel_rfl) rfl #[.int .i64 t374] (by rfl) rfl rfl argt ?_
                with_reducible refine (wide_Of.calls t374 t375 t376 _ A12.out).mono ?_
                rintro e w23 ⟨rfl, hb⟩
                refine ⟨_, rfl, ?_⟩
                replace BK372 := blkb BK372 hb
                replace BK380 := blkb BK380 hb
                replace HB := belb HB hb
                (try clear hb)
                (try clear hb2)
                (try clear hk)
                (try clear hi)
                refine hK.out _ _ ⟨bc BK372 0, bc BK372 1⟩ (fun hHeld => ?_)
                clear hK K
                refine norm_ (a' := ?_) ?_ ?_
                rotate_left
                ·show Act.put _ (some 26) _ = _
                 simp only [Act.put, List.setIfInBounds_toArray, List.set_cons_zero, List.set_cons_succ, i64_w, i32_w]
                 rfl
                exact norm_ (by first | (simp only [putAll, Act.put, List.setIfInBounds_toArray, List.set_cons_zero, List.set_cons_succ]; done) | (simp only [putAll, Act.put, List.setIfInBounds_toArray, List.set_cons_zero, List.set_cons_succ]; rfl)) (hJ4_5_12 (gb380) _ ⟨hHeld, (blkt BK372), (blkt BK380), GW380.out, GE380.out, NB372_380.out, NB380_372.out, (belt HB)⟩)
               skip
               refine box_step ?hg (N := 10) ?hd (cs := #[.int .i64 0, .int .u64 0]) (t := 31) ?hr ?_; (case hd => rfl); (case hg => rfl); (case hr => first | (go_simp; done) | (go_simp; rfl))
               intro gb381 hg w23 hbox hb
               have BK381 := Aside0.mk (hbox)
               have GW381 := bels HB hg
               have GE381 := bels HB hg
               have NB372_381 := blkl BK372 hg
               have NB381_372 := blkg BK372 hg
               have NB380_381 := blkl BK380 hg
               have NB381_380 := blkg BK380 hg
               replace BK372 := blkb BK372 hb
               replace BK380 := blkb BK380 hb
               replace HB := belb HB hb
               clear hb hbox hg
               refine hK.out _ _ ⟨bc BK372 0, bc BK372 1⟩ (fun hHeld => ?_)
               clear hK K
               refine norm_ (a' := ?_) ?_ ?_
               rotate_left
               ·show Act.put _ (some 10) _ = _
                simp only [Act.put, List.setIfInBounds_toArray, List.set_cons_zero, List.set_cons_succ, i64_w, i32_w]
                rfl
               exact norm_ (by first | (simp only [putAll, Act.put, List.setIfInBounds_toArray, List.set_cons_zero, List.set_cons_succ]; done) | (simp only [putAll, Act.put, List.setIfInBounds_toArray, List.set_cons_zero, List.set_cons_succ]; rfl)) (hJ4_12_13 (gb380, gb381) _ ⟨hHeld, (blkt BK372), (blkt BK380), (blkt BK381), GW380.out, GE380.out, NB372_380.out, NB380_372.out, NB381_380.out, NB380_381.out, GW381.out, GE381.out, NB372_381.out, NB381_372.out, (belt HB)⟩)
              skip
              rintro _ w22 ⟨hS_, h0_, h1_⟩
              replace BK372 : Aside0 (w22.heap[gb372]? = some (.cells #[.int .i64 a0_0, .int .u64 a0_1] 31 (0, 0))) := ⟨h0_⟩
              replace HB : Aside0 (Below w.heap.size w w22) := ⟨h1_⟩
              clear h0_ h1_
              have hHeld : w22.cell? ⟨gb372, 0, none⟩ = some (.int .i64 a0_0) ∧ w22.cell? ⟨gb372, 1, none⟩ = some (.int .u64 a0_1) := hS_
              refine norm_ (a' := ?_) ?_ ?_
              rotate_left
              ·simp only [putAll, Act.put, List.setIfInBounds_toArray, List.set_cons_zero, List.set_cons_succ]
               rfl
              refine three_ (i := 10) (j := 12) (k := 13) (Ni := some 31) (Nj := some 9) (Nk := some 10) #[true, true, true, true, true, true, true, true, true, true, true, false, false, false, false, false] #[true, true, true, true, true, true, true, true, true, true, false, false, true, false, false, false] #[true, true, true, true, true, true, true, true, true, true, false, false, false, true, false, false] rfl rfl rfl rfl rfl rfl (three_of HT_.out (by kernel_rfl)) (by decide) (by decide) (by decide) (fun K hK => ?_) (fun K hK => ?_) (fun K hK => ?_)
              ·skip
               refine goes_ Tryz.func40 (by kernel_rfl) rfl #[.agg #[.int .i64 a0_0, .int .u64 a0_1], .int .i64 ji13] (by rfl) rfl rfl (by (try simp only [List.map_toArray, List.map_cons, List.map_nil]); first | done | (simp only [hji13]; rfl) | rfl | (simp only [List.length_drop, List.length_take]; rfl)) ?_
               with_reducible refine (clamp_Clamp.calls k a0_0 a0_1 ji13 t377 _ A14.out).mono ?_
               rintro e w23 ⟨rfl, hb⟩
               refine ⟨_, rfl, ?_⟩
               replace BK372 := blkb BK372 hb
               replace HB := belb HB hb
               (try clear hb)
               (try clear hb2)
               (try clear hk)
               (try clear hi)
               refine hK.out _ _ ⟨bc BK372 0, bc BK372 1⟩ (fun hHeld => ?_)
               clear hK K
               refine norm_ (a' := ?_) ?_ ?_
               rotate_left
               ·show Act.put _ (some 31) _ = _
                simp only [Act.put, List.setIfInBounds_toArray, List.set_cons_zero, List.set_cons_succ, i64_w, i32_w]
                rfl
               exact norm_ (by first | (simp only [putAll, Act.put, List.setIfInBounds_toArray, List.set_cons_zero, List.set_cons_succ]; done) | (simp only [putAll, Act.put, List.setIfInBounds_toArray, List.set_cons_zero, List.set_cons_succ]; rfl)) (hJ4_5_10 () _ ⟨hHeld, (blkt BK372), (belt HB)⟩)
              ·skip
               refine box_step ?hg (N := 9) ?hd (cs := #[.int .i64 0, .int .u64 0]) (t := 31) ?hr ?_; (case hd => rfl); (case hg => rfl); (case hr => first | (go_simp; done) | (go_simp; rfl))
               intro gb380 hg w23 hbox hb
               have BK380 := Aside0.mk (hbox)
               have GW380 := bels HB hg
               have GE380 := bels HB hg
               have NB372_380 := blkl BK372 hg
               have NB380_372 := blkg BK372 hg
               replace BK372 := blkb BK372 hb
               replace HB := belb HB hb
               clear hb hbox hg
               refine hK.out _ _ ⟨bc BK372 0, bc BK372 1⟩ (fun hHeld => ?_)
               clear hK K
               refine norm_ (a' := ?_) ?_ ?_
               rotate_left
               ·show Act.put _ (some 9) _ = _
                simp only [Act.put, List.setIfInBounds_toArray, List.set_cons_zero, List.set_cons_succ, i64_w, i32_w]
                rfl
               exact norm_ (by first | (simp only [putAll, Act.put, List.setIfInBounds_toArray, List.set_cons_zero, List.set_cons_succ]; done) | (simp only [putAll, Act.put, List.setIfInBounds_toArray, List.set_cons_zero, List.set_cons_succ]; rfl)) (hJ4_5_12 (gb380) _ ⟨hHeld, (blkt BK372), (blkt BK380), GW380.out, GE380.out, NB372_380.out, NB380_372.out, (belt HB)⟩)
              skip
              refine box_step ?hg (N := 10) ?hd (cs := #[.int .i64 0, .int .u64 0]) (t := 31) ?hr ?_; (case hd => rfl); (case hg => rfl); (case hr => first | (go_simp; done) | (go_simp; rfl))
              intro gb381 hg w23 hbox hb
              have BK381 := Aside0.mk (hbox)
              have GW381 := bels HB hg
              have GE381 := bels HB hg
              have NB372_381 := blkl BK372 hg
              have NB381_372 := blkg BK372 hg
              replace BK372 := blkb BK372 hb
              replace HB := belb HB hb
              clear hb hbox hg
              refine hK.out _ _ ⟨bc BK372 0, bc BK372 1⟩ (fun hHeld => ?_)
              clear hK K
              refine norm_ (a' := ?_) ?_ ?_
              rotate_left
              ·show Act.put _ (some 10) _ = _
               simp only [Act.put, List.setIfInBounds_toArray, List.set_cons_zero, List.set_cons_succ, i64_w, i32_w]
               rfl
              exact norm_ (by first | (simp only [putAll, Act.put, List.setIfInBounds_toArray, List.set_cons_zero, List.set_cons_succ]; done) | (simp only [putAll, Act.put, List.setIfInBounds_toArray, List.set_cons_zero, List.set_cons_succ]; rfl)) (hJ4_5_13 (gb381) _ ⟨hHeld, (blkt BK372), (blkt BK381), GW381.out, GE381.out, NB372_381.out, NB381_372.out, (belt HB)⟩)
             skip
             rintro ⟨gb380, gb381⟩ w23 ⟨hS_, h0_, h1_, h2_, h3_, h4_, h5_, h6_, h7_, h8_, h9_, h10_, h11_, h12_, h13_⟩
             replace BK372 : Aside0 (w23.heap[gb372]? = some (.cells #[.int .i64 a0_0, .int .u64 a0_1] 31 (0, 0))) := ⟨h0_⟩
             have BK380 : Aside0 (w23.heap[gb380]? = some (.cells #[.int .i64 0, .int .u64 0] 31 (0, 0))) := ⟨h1_⟩
             have BK381 : Aside0 (w23.heap[gb381]? = some (.cells #[.int .i64 0, .int .u64 0] 31 (0, 0))) := ⟨h2_⟩
             have GW380 : Aside0 (w.heap.size ≤ gb380) := ⟨h3_⟩
             have GE380 : Aside0 (w.heap.size ≤ gb380) := ⟨h4_⟩
             have NB372_380 : Aside0 (gb372 ≠ gb380) := ⟨h5_⟩
             have NB380_372 : Aside0 (gb380 ≠ gb372) := ⟨h6_⟩
             have NB381_380 : Aside0 (gb381 ≠ gb380) := ⟨h7_⟩
             have NB380_381 : Aside0 (gb380 ≠ gb381) := ⟨h8_⟩
             have GW381 : Aside0 (w.heap.size ≤ gb381) := ⟨h9_⟩
             have GE381 : Aside0 (w.heap.size ≤ gb381) := ⟨h10_⟩
             have NB372_381 : Aside0 (gb372 ≠ gb381) := ⟨h11_⟩
             have NB381_372 : Aside0 (gb381 ≠ gb372) := ⟨h12_⟩
             replace HB : Aside0 (Below w.heap.size w w23) := ⟨h13_⟩
             clear h0_ h1_ h2_ h3_ h4_ h5_ h6_ h7_ h8_ h9_ h10_ h11_ h12_ h13_
             have hHeld : w23.cell? ⟨gb372, 0, none⟩ = some (.int .i64 a0_0) ∧ w23.cell? ⟨gb372, 1, none⟩ = some (.int .u64 a0_1) := hS_
             refine norm_ (a' := ?_) ?_ ?_
             rotate_left
             ·simp only [putAll, Act.put, List.setIfInBounds_toArray, List.set_cons_zero, List.set_cons_succ]
              rfl
             refine one_ (i := 5) (N := some 26) #[true, true, true, true, true, true, true, true, true, true, false, false, true, true, false, false] rfl rfl (one_of HT_.out (by kernel_rfl)) (by decide) (fun K hK => ?_)
             refine goes_ Tryz.func31 (by kernel_rfl) rfl #[.int .i64 t374] (by rfl) rfl rfl argt ?_
             with_reducible refine (wide_Of.calls t374 t375 t376 _ A12.out).mono ?_
             rintro e w24 ⟨rfl, hb⟩
             refine ⟨_, rfl, ?_⟩
             replace BK372 := blkb BK372 hb
             replace BK380 := blkb BK380 hb
             replace BK381 := blkb BK381 hb
             replace HB := belb HB hb
             (try clear hb)
             (try clear hb2)
             (try clear hk)
             (try clear hi)
             refine hK.out _ _ ⟨bc BK372 0, bc BK372 1⟩ (fun hHeld => ?_)
             clear hK K
             refine norm_ (a' := ?_) ?_ ?_
             rotate_left
             ·show Act.put _ (some 26) _ = _
              simp only [Act.put, List.setIfInBounds_toArray, List.set_cons_zero, List.set_cons_succ, i64_w, i32_w]
              rfl
             exact norm_ (by first | (simp only [putAll, Act.put, List.setIfInBounds_toArray, List.set_cons_zero, List.set_cons_succ]; done) | (simp only [putAll, Act.put, List.setIfInBounds_toArray, List.set_cons_zero, List.set_cons_succ]; rfl)) (hJ4_5_12_13 (gb380, gb381) _ ⟨hHeld, (blkt BK372), (blkt BK380), (blkt BK381), GW380.out, GE380.out, NB372_380.out, NB380_372.out, NB381_380.out, NB380_381.out, GW381.out, GE381.out, NB372_381.out, NB381_372.out, (belt HB)⟩)
            skip
            rintro gb381 w23 ⟨hS_, h0_, h1_, h2_, h3_, h4_, h5_, h6_⟩
            replace BK372 : Aside0 (w23.heap[gb372]? = some (.cells #[.int .i64 a0_0, .int .u64 a0_1] 31 (0, 0))) := ⟨h0_⟩
            have BK381 : Aside0 (w23.heap[gb381]? = some (.cells #[.int .i64 0, .int .u64 0] 31 (0, 0))) := ⟨h1_⟩
            have GW381 : Aside0 (w.heap.size ≤ gb381) := ⟨h2_⟩
            have GE381 : Aside0 (w.heap.size ≤ gb381) := ⟨h3_⟩
            have NB372_381 : Aside0 (gb372 ≠ gb381) := ⟨h4_⟩
            have NB381_372 : Aside0 (gb381 ≠ gb372) := ⟨h5_⟩
            replace HB : Aside0 (Below w.heap.size w w23) := ⟨h6_⟩
            clear h0_ h1_ h2_ h3_ h4_ h5_ h6_
            have hHeld : w23.cell? ⟨gb372, 0, none⟩ = some (.int .i64 a0_0) ∧ w23.cell? ⟨gb372, 1, none⟩ = some (.int .u64 a0_1) := hS_
            refine norm_ (a' := ?_) ?_ ?_
            rotate_left
            ·simp only [putAll, Act.put, List.setIfInBounds_toArray, List.set_cons_zero, List.set_cons_succ]
             rfl
            refine two_ (i := 10) (j := 12) (Ni := some 31) (Nj := some 9) #[true, true, true, true, true, true, true, true, true, true, true, false, false, true, false, false] #[true, true, true, true, true, true, true, true, true, true, false, false, true, true, false, false] rfl rfl rfl rfl (two_of HT_.out (by kernel_rfl)) (by decide) (by decide) (fun K hK => ?_) (fun K hK => ?_)
            ·skip
             refine goes_ Tryz.func40 (by kernel_rfl) rfl #[.agg #[.int .i64 a0_0, .int .u64 a0_1], .int .i64 ji13] (by rfl) rfl rfl (by (try simp only [List.map_toArray, List.map_cons, List.map_nil]); first | done | (simp only [hji13]; rfl) | rfl | (simp only [List.length_drop, List.length_take]; rfl)) ?_
             with_reducible refine (clamp_Clamp.calls k a0_0 a0_1 ji13 t377 _ A14.out).mono ?_
             rintro e w24 ⟨rfl, hb⟩
             refine ⟨_, rfl, ?_⟩
             replace BK372 := blkb BK372 hb
             replace BK381 := blkb BK381 hb
             replace HB := belb HB hb
             (try clear hb)
             (try clear hb2)
             (try clear hk)
             (try clear hi)
             refine hK.out _ _ ⟨bc BK372 0, bc BK372 1⟩ (fun hHeld => ?_)
             clear hK K
             refine norm_ (a' := ?_) ?_ ?_
             rotate_left
             ·show Act.put _ (some 31) _ = _
              simp only [Act.put, List.setIfInBounds_toArray, List.set_cons_zero, List.set_cons_succ, i64_w, i32_w]
              rfl
             exact norm_ (by first | (simp only [putAll, Act.put, List.setIfInBounds_toArray, List.set_cons_zero, List.set_cons_succ]; done) | (simp only [putAll, Act.put, List.setIfInBounds_toArray, List.set_cons_zero, List.set_cons_succ]; rfl)) (hJ4_5_10_13 (gb381) _ ⟨hHeld, (blkt BK372), (blkt BK381), GW381.out, GE381.out, NB372_381.out, NB381_372.out, (belt HB)⟩)
            skip
            refine box_step ?hg (N := 9) ?hd (cs := #[.int .i64 0, .int .u64 0]) (t := 31) ?hr ?_; (case hd => rfl); (case hg => rfl); (case hr => first | (go_simp; done) | (go_simp; rfl))
            intro gb380 hg w24 hbox hb
            have BK380 := Aside0.mk (hbox)
            have GW380 := bels HB hg
            have GE380 := bels HB hg
            have NB372_380 := blkl BK372 hg
            have NB380_372 := blkg BK372 hg
            have NB381_380 := blkl BK381 hg
            have NB380_381 := blkg BK381 hg
            replace BK372 := blkb BK372 hb
            replace BK381 := blkb BK381 hb
            replace HB := belb HB hb
            clear hb hbox hg
            refine hK.out _ _ ⟨bc BK372 0, bc BK372 1⟩ (fun hHeld => ?_)
            clear hK K
            refine norm_ (a' := ?_) ?_ ?_
            rotate_left
            ·show Act.put _ (some 9) _ = _
             simp only [Act.put, List.setIfInBounds_toArray, List.set_cons_zero, List.set_cons_succ, i64_w, i32_w]
             rfl
            exact norm_ (by first | (simp only [putAll, Act.put, List.setIfInBounds_toArray, List.set_cons_zero, List.set_cons_succ]; done) | (simp only [putAll, Act.put, List.setIfInBounds_toArray, List.set_cons_zero, List.set_cons_succ]; rfl)) (hJ4_5_12_13 (gb380, gb381) _ ⟨hHeld, (blkt BK372), (blkt BK380), (blkt BK381), GW380.out, GE380.out, NB372_380.out, NB380_372.out, NB381_380.out, NB380_381.out, GW381.out, GE381.out, NB372_381.out, NB381_372.out, (belt HB)⟩)
           skip
           rintro gb380 w23 ⟨hS_, h0_, h1_, h2_, h3_, h4_, h5_, h6_⟩
           replace BK372 : Aside0 (w23.heap[gb372]? = some (.cells #[.int .i64 a0_0, .int .u64 a0_1] 31 (0, 0))) := ⟨h0_⟩
           have BK380 : Aside0 (w23.heap[gb380]? = some (.cells #[.int .i64 0, .int .u64 0] 31 (0, 0))) := ⟨h1_⟩
           have GW380 : Aside0 (w.heap.size ≤ gb380) := ⟨h2_⟩
           have GE380 : Aside0 (w.heap.size ≤ gb380) := ⟨h3_⟩
           have NB372_380 : Aside0 (gb372 ≠ gb380) := ⟨h4_⟩
           have NB380_372 : Aside0 (gb380 ≠ gb372) := ⟨h5_⟩
           replace HB : Aside0 (Below w.heap.size w w23) := ⟨h6_⟩
           clear h0_ h1_ h2_ h3_ h4_ h5_ h6_
           have hHeld : w23.cell? ⟨gb372, 0, none⟩ = some (.int .i64 a0_0) ∧ w23.cell? ⟨gb372, 1, none⟩ = some (.int .u64 a0_1) := hS_
           refine norm_ (a' := ?_) ?_ ?_
           rotate_left
           ·simp only [putAll, Act.put, List.setIfInBounds_toArray, List.set_cons_zero, List.set_cons_succ]
            rfl
           refine two_ (i := 10) (j := 13) (Ni := some 31) (Nj := some 10) #[true, true, true, true, true, true, true, true, true, true, true, false, true, false, false, false] #[true, true, true, true, true, true, true, true, true, true, false, false, true, true, false, false] rfl rfl rfl rfl (two_of HT_.out (by kernel_rfl)) (by decide) (by decide) (fun K hK => ?_) (fun K hK => ?_)
           ·skip
            refine goes_ Tryz.func40 (by kernel_rfl) rfl #[.agg #[.int .i64 a0_0, .int .u64 a0_1], .int .i64 ji13] (by rfl) rfl rfl (by (try simp only [List.map_toArray, List.map_cons, List.map_nil]); first | done | (simp only [hji13]; rfl) | rfl | (simp only [List.length_drop, List.length_take]; rfl)) ?_
            with_reducible refine (clamp_Clamp.calls k a0_0 a0_1 ji13 t377 _ A14.out).mono ?_
            rintro e w24 ⟨rfl, hb⟩
            refine ⟨_, rfl, ?_⟩
            replace BK372 := blkb BK372 hb
            replace BK380 := blkb BK380 hb
            replace HB := belb HB hb
            (try clear hb)
            (try clear hb2)
            (try clear hk)
            (try clear hi)
            refine hK.out _ _ ⟨bc BK372 0, bc BK372 1⟩ (fun hHeld => ?_)
            clear hK K
            refine norm_ (a' := ?_) ?_ ?_
            rotate_left
            ·show Act.put _ (some 31) _ = _
             simp only [Act.put, List.setIfInBounds_toArray, List.set_cons_zero, List.set_cons_succ, i64_w, i32_w]
             rfl
            exact norm_ (by first | (simp only [putAll, Act.put, List.setIfInBounds_toArray, List.set_cons_zero, List.set_cons_succ]; done) | (simp only [putAll, Act.put, List.setIfInBounds_toArray, List.set_cons_zero, List.set_cons_succ]; rfl)) (hJ4_5_10_12 (gb380) _ ⟨hHeld, (blkt BK372), (blkt BK380), GW380.out, GE380.out, NB372_380.out, NB380_372.out, (belt HB)⟩)
           skip
           refine box_step ?hg (N := 10) ?hd (cs := #[.int .i64 0, .int .u64 0]) (t := 31) ?hr ?_; (case hd => rfl); (case hg => rfl); (case hr => first | (go_simp; done) | (go_simp; rfl))
           intro gb381 hg w24 hbox hb
           have BK381 := Aside0.mk (hbox)
           have GW381 := bels HB hg
           have GE381 := bels HB hg
           have NB372_381 := blkl BK372 hg
           have NB381_372 := blkg BK372 hg
           have NB380_381 := blkl BK380 hg
           have NB381_380 := blkg BK380 hg
           replace BK372 := blkb BK372 hb
           replace BK380 := blkb BK380 hb
           replace HB := belb HB hb
           clear hb hbox hg
           refine hK.out _ _ ⟨bc BK372 0, bc BK372 1⟩ (fun hHeld => ?_)
           clear hK K
           refine norm_ (a' := ?_) ?_ ?_
           rotate_left
           ·show Act.put _ (some 10) _ = _
            simp only [Act.put, List.setIfInBounds_toArray, List.set_cons_zero, List.set_cons_succ, i64_w, i32_w]
            rfl
           exact norm_ (by first | (simp only [putAll, Act.put, List.setIfInBounds_toArray, List.set_cons_zero, List.set_cons_succ]; done) | (simp only [putAll, Act.put, List.setIfInBounds_toArray, List.set_cons_zero, List.set_cons_succ]; rfl)) (hJ4_5_12_13 (gb380, gb381) _ ⟨hHeld, (blkt BK372), (blkt BK380), (blkt BK381), GW380.out, GE380.out, NB372_380.out, NB380_372.out, NB381_380.out, NB380_381.out, GW381.out, GE381.out, NB372_381.out, NB381_372.out, (belt HB)⟩)
          skip
          rintro _ w23 ⟨hS_, h0_, h1_⟩
          replace BK372 : Aside0 (w23.heap[gb372]? = some (.cells #[.int .i64 a0_0, .int .u64 a0_1] 31 (0, 0))) := ⟨h0_⟩
          replace HB : Aside0 (Below w.heap.size w w23) := ⟨h1_⟩
          clear h0_ h1_
          have hHeld : w23.cell? ⟨gb372, 0, none⟩ = some (.int .i64 a0_0) ∧ w23.cell? ⟨gb372, 1, none⟩ = some (.int .u64 a0_1) := hS_
          refine norm_ (a' := ?_) ?_ ?_
          rotate_left
          ·simp only [putAll, Act.put, List.setIfInBounds_toArray, List.set_cons_zero, List.set_cons_succ]
           rfl
          refine three_ (i := 11) (j := 12) (k := 13) (Ni := some 32) (Nj := some 9) (Nk := some 10) #[true, true, true, true, true, true, true, true, true, true, true, true, false, false, false, false] #[true, true, true, true, true, true, true, true, true, true, true, false, true, false, false, false] #[true, true, true, true, true, true, true, true, true, true, true, false, false, true, false, false] rfl rfl rfl rfl rfl rfl (three_of HT_.out (by kernel_rfl)) (by decide) (by decide) (by decide) (fun K hK => ?_) (fun K hK => ?_) (fun K hK => ?_)
          ·skip
           refine goes_ Tryz.func31 (by kernel_rfl) rfl #[.int .i64 t377] (by rfl) rfl rfl argt ?_
           with_reducible refine (wide_Of.calls t377 t378 t379 _ A15.out).mono ?_
           rintro e w24 ⟨rfl, hb⟩
           refine ⟨_, rfl, ?_⟩
           replace BK372 := blkb BK372 hb
           replace HB := belb HB hb
           (try clear hb)
           (try clear hb2)
           (try clear hk)
           (try clear hi)
           refine hK.out _ _ ⟨bc BK372 0, bc BK372 1⟩ (fun hHeld => ?_)
           clear hK K
           refine norm_ (a' := ?_) ?_ ?_
           rotate_left
           ·show Act.put _ (some 32) _ = _
            simp only [Act.put, List.setIfInBounds_toArray, List.set_cons_zero, List.set_cons_succ, i64_w, i32_w]
            rfl
           exact norm_ (by first | (simp only [putAll, Act.put, List.setIfInBounds_toArray, List.set_cons_zero, List.set_cons_succ]; done) | (simp only [putAll, Act.put, List.setIfInBounds_toArray, List.set_cons_zero, List.set_cons_succ]; rfl)) (hJ4_5_10_11 () _ ⟨hHeld, (blkt BK372), (belt HB)⟩)
          ·skip
           refine box_step ?hg (N := 9) ?hd (cs := #[.int .i64 0, .int .u64 0]) (t := 31) ?hr ?_; (case hd => rfl); (case hg => rfl); (case hr => first | (go_simp; done) | (go_simp; rfl))
           intro gb380 hg w24 hbox hb
           have BK380 := Aside0.mk (hbox)
           have GW380 := bels HB hg
           have GE380 := bels HB hg
           have NB372_380 := blkl BK372 hg
           have NB380_372 := blkg BK372 hg
           replace BK372 := blkb BK372 hb
           replace HB := belb HB hb
           clear hb hbox hg
           refine hK.out _ _ ⟨bc BK372 0, bc BK372 1⟩ (fun hHeld => ?_)
           clear hK K
           refine norm_ (a' := ?_) ?_ ?_
           rotate_left
           ·show Act.put _ (some 9) _ = _
            simp only [Act.put, List.setIfInBounds_toArray, List.set_cons_zero, List.set_cons_succ, i64_w, i32_w]
            rfl
           exact norm_ (by first | (simp only [putAll, Act.put, List.setIfInBounds_toArray, List.set_cons_zero, List.set_cons_succ]; done) | (simp only [putAll, Act.put, List.setIfInBounds_toArray, List.set_cons_zero, List.set_cons_succ]; rfl)) (hJ4_5_10_12 (gb380) _ ⟨hHeld, (blkt BK372), (blkt BK380), GW380.out, GE380.out, NB372_380.out, NB380_372.out, (belt HB)⟩)
          skip
          refine box_step ?hg (N := 10) ?hd (cs := #[.int .i64 0, .int .u64 0]) (t := 31) ?hr ?_; (case hd => rfl); (case hg => rfl); (case hr => first | (go_simp; done) | (go_simp; rfl))
          intro gb381 hg w24 hbox hb
          have BK381 := Aside0.mk (hbox)
          have GW381 := bels HB hg
          have GE381 := bels HB hg
          have NB372_381 := blkl BK372 hg
          have NB381_372 := blkg BK372 hg
          replace BK372 := blkb BK372 hb
          replace HB := belb HB hb
          clear hb hbox hg
          refine hK.out _ _ ⟨bc BK372 0, bc BK372 1⟩ (fun hHeld => ?_)
          clear hK K
          refine norm_ (a' := ?_) ?_ ?_
          rotate_left
          ·show Act.put _ (some 10) _ = _
           simp only [Act.put, List.setIfInBounds_toArray, List.set_cons_zero, List.set_cons_succ, i64_w, i32_w]
           rfl
          exact norm_ (by first | (simp only [putAll, Act.put, List.setIfInBounds_toArray, List.set_cons_zero, List.set_cons_succ]; done) | (simp only [putAll, Act.put, List.setIfInBounds_toArray, List.set_cons_zero, List.set_cons_succ]; rfl)) (hJ4_5_10_13 (gb381) _ ⟨hHeld, (blkt BK372), (blkt BK381), GW381.out, GE381.out, NB372_381.out, NB381_372.out, (belt HB)⟩)
         skip
         rintro ⟨gb380, gb381⟩ w24 ⟨hS_, h0_, h1_, h2_, h3_, h4_, h5_, h6_, h7_, h8_, h9_, h10_, h11_, h12_, h13_⟩
         replace BK372 : Aside0 (w24.heap[gb372]? = some (.cells #[.int .i64 a0_0, .int .u64 a0_1] 31 (0, 0))) := ⟨h0_⟩
         have BK380 : Aside0 (w24.heap[gb380]? = some (.cells #[.int .i64 0, .int .u64 0] 31 (0, 0))) := ⟨h1_⟩
         have BK381 : Aside0 (w24.heap[gb381]? = some (.cells #[.int .i64 0, .int .u64 0] 31 (0, 0))) := ⟨h2_⟩
         have GW380 : Aside0 (w.heap.size ≤ gb380) := ⟨h3_⟩
         have GE380 : Aside0 (w.heap.size ≤ gb380) := ⟨h4_⟩
         have NB372_380 : Aside0 (gb372 ≠ gb380) := ⟨h5_⟩
         have NB380_372 : Aside0 (gb380 ≠ gb372) := ⟨h6_⟩
         have NB381_380 : Aside0 (gb381 ≠ gb380) := ⟨h7_⟩
         have NB380_381 : Aside0 (gb380 ≠ gb381) := ⟨h8_⟩
         have GW381 : Aside0 (w.heap.size ≤ gb381) := ⟨h9_⟩
         have GE381 : Aside0 (w.heap.size ≤ gb381) := ⟨h10_⟩
         have NB372_381 : Aside0 (gb372 ≠ gb381) := ⟨h11_⟩
         have NB381_372 : Aside0 (gb381 ≠ gb372) := ⟨h12_⟩
         replace HB : Aside0 (Below w.heap.size w w24) := ⟨h13_⟩
         clear h0_ h1_ h2_ h3_ h4_ h5_ h6_ h7_ h8_ h9_ h10_ h11_ h12_ h13_
         have hHeld : w24.cell? ⟨gb372, 0, none⟩ = some (.int .i64 a0_0) ∧ w24.cell? ⟨gb372, 1, none⟩ = some (.int .u64 a0_1) := hS_
         refine norm_ (a' := ?_) ?_ ?_
         rotate_left
         ·simp only [putAll, Act.put, List.setIfInBounds_toArray, List.set_cons_zero, List.set_cons_succ]
          rfl
         refine one_ (i := 10) (N := some 31) #[true, true, true, true, true, true, true, true, true, true, true, false, true, true, false, false] rfl rfl (one_of HT_.out (by kernel_rfl)) (by decide) (fun K hK => ?_)
         refine goes_ Tryz.func40 (by kernel_rfl) rfl #[.agg #[.int .i64 a0_0, .int .u64 a0_1], .int .i64 ji13] (by rfl) rfl rfl (by (try simp only [List.map_toArray, List.map_cons, List.map_nil]); first | done | (simp only [hji13]; rfl) | rfl | (simp only [List.length_drop, List.length_take]; rfl)) ?_
         with_reducible refine (clamp_Clamp.calls k a0_0 a0_1 ji13 t377 _ A14.out).mono ?_
         rintro e w25 ⟨rfl, hb⟩
         refine ⟨_, rfl, ?_⟩
         replace BK372 := blkb BK372 hb
         replace BK380 := blkb BK380 hb
         replace BK381 := blkb BK381 hb
         replace HB := belb HB hb
         (try clear hb)
         (try clear hb2)
         (try clear hk)
         (try clear hi)
         refine hK.out _ _ ⟨bc BK372 0, bc BK372 1⟩ (fun hHeld => ?_)
         clear hK K
         refine norm_ (a' := ?_) ?_ ?_
         rotate_left
         ·show Act.put _ (some 31) _ = _
          simp only [Act.put, List.setIfInBounds_toArray, List.set_cons_zero, List.set_cons_succ, i64_w, i32_w]
          rfl
         exact norm_ (by first | (simp only [putAll, Act.put, List.setIfInBounds_toArray, List.set_cons_zero, List.set_cons_succ]; done) | (simp only [putAll, Act.put, List.setIfInBounds_toArray, List.set_cons_zero, List.set_cons_succ]; rfl)) (hJ4_5_10_12_13 (gb380, gb381) _ ⟨hHeld, (blkt BK372), (blkt BK380), (blkt BK381), GW380.out, GE380.out, NB372_380.out, NB380_372.out, NB381_380.out, NB380_381.out, GW381.out, GE381.out, NB372_381.out, NB381_372.out, (belt HB)⟩)
        skip
        rintro gb381 w24 ⟨hS_, h0_, h1_, h2_, h3_, h4_, h5_, h6_⟩
        replace BK372 : Aside0 (w24.heap[gb372]? = some (.cells #[.int .i64 a0_0, .int .u64 a0_1] 31 (0, 0))) := ⟨h0_⟩
        have BK381 : Aside0 (w24.heap[gb381]? = some (.cells #[.int .i64 0, .int .u64 0] 31 (0, 0))) := ⟨h1_⟩
        have GW381 : Aside0 (w.heap.size ≤ gb381) := ⟨h2_⟩
        have GE381 : Aside0 (w.heap.size ≤ gb381) := ⟨h3_⟩
        have NB372_381 : Aside0 (gb372 ≠ gb381) := ⟨h4_⟩
        have NB381_372 : Aside0 (gb381 ≠ gb372) := ⟨h5_⟩
        replace HB : Aside0 (Below w.heap.size w w24) := ⟨h6_⟩
        clear h0_ h1_ h2_ h3_ h4_ h5_ h6_
        have hHeld : w24.cell? ⟨gb372, 0, none⟩ = some (.int .i64 a0_0) ∧ w24.cell? ⟨gb372, 1, none⟩ = some (.int .u64 a0_1) := hS_
        refine norm_ (a' := ?_) ?_ ?_
        rotate_left
        ·simp only [putAll, Act.put, List.setIfInBounds_toArray, List.set_cons_zero, List.set_cons_succ]
         rfl
        refine two_ (i := 11) (j := 12) (Ni := some 32) (Nj := some 9) #[true, true, true, true, true, true, true, true, true, true, true, true, false, true, false, false] #[true, true, true, true, true, true, true, true, true, true, true, false, true, true, false, false] rfl rfl rfl rfl (two_of HT_.out (by kernel_rfl)) (by decide) (by decide) (fun K hK => ?_) (fun K hK => ?_)
        ·skip
         refine goes_ Tryz.func31 (by kernel_rfl) rfl #[.int .i64 t377] (by rfl) rfl rfl argt ?_
         with_reducible refine (wide_Of.calls t377 t378 t379 _ A15.out).mono ?_
         rintro e w25 ⟨rfl, hb⟩
         refine ⟨_, rfl, ?_⟩
         replace BK372 := blkb BK372 hb
         replace BK381 := blkb BK381 hb
         replace HB := belb HB hb
         (try clear hb)
         (try clear hb2)
         (try clear hk)
         (try clear hi)
         refine hK.out _ _ ⟨bc BK372 0, bc BK372 1⟩ (fun hHeld => ?_)
         clear hK K
         refine norm_ (a' := ?_) ?_ ?_
         rotate_left
         ·show Act.put _ (some 32) _ = _
          simp only [Act.put, List.setIfInBounds_toArray, List.set_cons_zero, List.set_cons_succ, i64_w, i32_w]
          rfl
         exact norm_ (by first | (simp only [putAll, Act.put, List.setIfInBounds_toArray, List.set_cons_zero, List.set_cons_succ]; done) | (simp only [putAll, Act.put, List.setIfInBounds_toArray, List.set_cons_zero, List.set_cons_succ]; rfl)) (hJ4_5_10_11_13 (gb381) _ ⟨hHeld, (blkt BK372), (blkt BK381), GW381.out, GE381.out, NB372_381.out, NB381_372.out, (belt HB)⟩)
        skip
        refine box_step ?hg (N := 9) ?hd (cs := #[.int .i64 0, .int .u64 0]) (t := 31) ?hr ?_; (case hd => rfl); (case hg => rfl); (case hr => first | (go_simp; done) | (go_simp; rfl))
        intro gb380 hg w25 hbox hb
        have BK380 := Aside0.mk (hbox)
        have GW380 := bels HB hg
        have GE380 := bels HB hg
        have NB372_380 := blkl BK372 hg
        have NB380_372 := blkg BK372 hg
        have NB381_380 := blkl BK381 hg
        have NB380_381 := blkg BK381 hg
        replace BK372 := blkb BK372 hb
        replace BK381 := blkb BK381 hb
        replace HB := belb HB hb
        clear hb hbox hg
        refine hK.out _ _ ⟨bc BK372 0, bc BK372 1⟩ (fun hHeld => ?_)
        clear hK K
        refine norm_ (a' := ?_) ?_ ?_
        rotate_left
        ·show Act.put _ (some 9) _ = _
         simp only [Act.put, List.setIfInBounds_toArray, List.set_cons_zero, List.set_cons_succ, i64_w, i32_w]
         rfl
        exact norm_ (by first | (simp only [putAll, Act.put, List.setIfInBounds_toArray, List.set_cons_zero, List.set_cons_succ]; done) | (simp only [putAll, Act.put, List.setIfInBounds_toArray, List.set_cons_zero, List.set_cons_succ]; rfl)) (hJ4_5_10_12_13 (gb380, gb381) _ ⟨hHeld, (blkt BK372), (blkt BK380), (blkt BK381), GW380.out, GE380.out, NB372_380.out, NB380_372.out, NB381_380.out, NB380_381.out, GW381.out, GE381.out, NB372_381.out, NB381_372.out, (belt HB)⟩)
       skip
       rintro gb380 w24 ⟨hS_, h0_, h1_, h2_, h3_, h4_, h5_, h6_⟩
       replace BK372 : Aside0 (w24.heap[gb372]? = some (.cells #[.int .i64 a0_0, .int .u64 a0_1] 31 (0, 0))) := ⟨h0_⟩
       have BK380 : Aside0 (w24.heap[gb380]? = some (.cells #[.int .i64 0, .int .u64 0] 31 (0, 0))) := ⟨h1_⟩
       have GW380 : Aside0 (w.heap.size ≤ gb380) := ⟨h2_⟩
       have GE380 : Aside0 (w.heap.size ≤ gb380) := ⟨h3_⟩
       have NB372_380 : Aside0 (gb372 ≠ gb380) := ⟨h4_⟩
       have NB380_372 : Aside0 (gb380 ≠ gb372) := ⟨h5_⟩
       replace HB : Aside0 (Below w.heap.size w w24) := ⟨h6_⟩
       clear h0_ h1_ h2_ h3_ h4_ h5_ h6_
       have hHeld : w24.cell? ⟨gb372, 0, none⟩ = some (.int .i64 a0_0) ∧ w24.cell? ⟨gb372, 1, none⟩ = some (.int .u64 a0_1) := hS_
       refine norm_ (a' := ?_) ?_ ?_
       rotate_left
       ·simp only [putAll, Act.put, List.setIfInBounds_toArray, List.set_cons_zero, List.set_cons_succ]
        rfl
       refine two_ (i := 11) (j := 13) (Ni := some 32) (Nj := some 10) #[true, true, true, true, true, true, true, true, true, true, true, true, true, false, false, false] #[true, true, true, true, true, true, true, true, true, true, true, false, true, true, false, false] rfl rfl rfl rfl (two_of HT_.out (by kernel_rfl)) (by decide) (by decide) (fun K hK => ?_) (fun K hK => ?_)
       ·skip
        refine goes_ Tryz.func31 (by kernel_rfl) rfl #[.int .i64 t377] (by rfl) rfl rfl argt ?_
        with_reducible refine (wide_Of.calls t377 t378 t379 _ A15.out).mono ?_
        rintro e w25 ⟨rfl, hb⟩
        refine ⟨_, rfl, ?_⟩
        replace BK372 := blkb BK372 hb
        replace BK380 := blkb BK380 hb
        replace HB := belb HB hb
        (try clear hb)
        (try clear hb2)
        (try clear hk)
        (try clear hi)
        refine hK.out _ _ ⟨bc BK372 0, bc BK372 1⟩ (fun hHeld => ?_)
        clear hK K
        refine norm_ (a' := ?_) ?_ ?_
        rotate_left
        ·show Act.put _ (some 32) _ = _
         simp only [Act.put, List.setIfInBounds_toArray, List.set_cons_zero, List.set_cons_succ, i64_w, i32_w]
         rfl
        exact norm_ (by first | (simp only [putAll, Act.put, List.setIfInBounds_toArray, List.set_cons_zero, List.set_cons_succ]; done) | (simp only [putAll, Act.put, List.setIfInBounds_toArray, List.set_cons_zero, List.set_cons_succ]; rfl)) (hJ4_5_10_11_12 (gb380) _ ⟨hHeld, (blkt BK372), (blkt BK380), GW380.out, GE380.out, NB372_380.out, NB380_372.out, (belt HB)⟩)
       skip
       refine box_step ?hg (N := 10) ?hd (cs := #[.int .i64 0, .int .u64 0]) (t := 31) ?hr ?_; (case hd => rfl); (case hg => rfl); (case hr => first | (go_simp; done) | (go_simp; rfl))
       intro gb381 hg w25 hbox hb
       have BK381 := Aside0.mk (hbox)
       have GW381 := bels HB hg
       have GE381 := bels HB hg
       have NB372_381 := blkl BK372 hg
       have NB381_372 := blkg BK372 hg
       have NB380_381 := blkl BK380 hg
       have NB381_380 := blkg BK380 hg
       replace BK372 := blkb BK372 hb
       replace BK380 := blkb BK380 hb
       replace HB := belb HB hb
       clear hb hbox hg
       refine hK.out _ _ ⟨bc BK372 0, bc BK372 1⟩ (fun hHeld => ?_)
       clear hK K
       refine norm_ (a' := ?_) ?_ ?_
       rotate_left
       ·show Act.put _ (some 10) _ = _
        simp only [Act.put, List.setIfInBounds_toArray, List.set_cons_zero, List.set_cons_succ, i64_w, i32_w]
        rfl
       exact norm_ (by first | (simp only [putAll, Act.put, List.setIfInBounds_toArray, List.set_cons_zero, List.set_cons_succ]; done) | (simp only [putAll, Act.put, List.setIfInBounds_toArray, List.set_cons_zero, List.set_cons_succ]; rfl)) (hJ4_5_10_12_13 (gb380, gb381) _ ⟨hHeld, (blkt BK372), (blkt BK380), (blkt BK381), GW380.out, GE380.out, NB372_380.out, NB380_372.out, NB381_380.out, NB380_381.out, GW381.out, GE381.out, NB372_381.out, NB381_372.out, (belt HB)⟩)
      skip
      rintro _ w24 ⟨hS_, h0_, h1_⟩
      replace BK372 : Aside0 (w24.heap[gb372]? = some (.cells #[.int .i64 a0_0, .int .u64 a0_1] 31 (0, 0))) := ⟨h0_⟩
      replace HB : Aside0 (Below w.heap.size w w24) := ⟨h1_⟩
      clear h0_ h1_
      have hHeld : w24.cell? ⟨gb372, 0, none⟩ = some (.int .i64 a0_0) ∧ w24.cell? ⟨gb372, 1, none⟩ = some (.int .u64 a0_1) := hS_
      refine norm_ (a' := ?_) ?_ ?_
      rotate_left
      ·simp only [putAll, Act.put, List.setIfInBounds_toArray, List.set_cons_zero, List.set_cons_succ]
       rfl
      refine two_ (i := 12) (j := 13) (Ni := some 9) (Nj := some 10) #[true, true, true, true, true, true, true, true, true, true, true, true, true, false, false, false] #[true, true, true, true, true, true, true, true, true, true, true, true, false, true, false, false] rfl rfl rfl rfl (two_of HT_.out (by kernel_rfl)) (by decide) (by decide) (fun K hK => ?_) (fun K hK => ?_)
      ·skip
       refine box_step ?hg (N := 9) ?hd (cs := #[.int .i64 0, .int .u64 0]) (t := 31) ?hr ?_; (case hd => rfl); (case hg => rfl); (case hr => first | (go_simp; done) | (go_simp; rfl))
       intro gb380 hg w25 hbox hb
       have BK380 := Aside0.mk (hbox)
       have GW380 := bels HB hg
       have GE380 := bels HB hg
       have NB372_380 := blkl BK372 hg
       have NB380_372 := blkg BK372 hg
       replace BK372 := blkb BK372 hb
       replace HB := belb HB hb
       clear hb hbox hg
       refine hK.out _ _ ⟨bc BK372 0, bc BK372 1⟩ (fun hHeld => ?_)
       clear hK K
       refine norm_ (a' := ?_) ?_ ?_
       rotate_left
       ·show Act.put _ (some 9) _ = _
        simp only [Act.put, List.setIfInBounds_toArray, List.set_cons_zero, List.set_cons_succ, i64_w, i32_w]
        rfl
       exact norm_ (by first | (simp only [putAll, Act.put, List.setIfInBounds_toArray, List.set_cons_zero, List.set_cons_succ]; done) | (simp only [putAll, Act.put, List.setIfInBounds_toArray, List.set_cons_zero, List.set_cons_succ]; rfl)) (hJ4_5_10_11_12 (gb380) _ ⟨hHeld, (blkt BK372), (blkt BK380), GW380.out, GE380.out, NB372_380.out, NB380_372.out, (belt HB)⟩)
      skip
      refine box_step ?hg (N := 10) ?hd (cs := #[.int .i64 0, .int .u64 0]) (t := 31) ?hr ?_; (case hd => rfl); (case hg => rfl); (case hr => first | (go_simp; done) | (go_simp; rfl))
      intro gb381 hg w25 hbox hb
      have BK381 := Aside0.mk (hbox)
      have GW381 := bels HB hg
      have GE381 := bels HB hg
      have NB372_381 := blkl BK372 hg
      have NB381_372 := blkg BK372 hg
      replace BK372 := blkb BK372 hb
      replace HB := belb HB hb
      clear hb hbox hg
      refine hK.out _ _ ⟨bc BK372 0, bc BK372 1⟩ (fun hHeld => ?_)
      clear hK K
      refine norm_ (a' := ?_) ?_ ?_
      rotate_left
      ·show Act.put _ (some 10) _ = _
       simp only [Act.put, List.setIfInBounds_toArray, List.set_cons_zero, List.set_cons_succ, i64_w, i32_w]
       rfl
      exact norm_ (by first | (simp only [putAll, Act.put, List.setIfInBounds_toArray, List.set_cons_zero, List.set_cons_succ]; done) | (simp only [putAll, Act.put, List.setIfInBounds_toArray, List.set_cons_zero, List.set_cons_succ]; rfl)) (hJ4_5_10_11_13 (gb381) _ ⟨hHeld, (blkt BK372), (blkt BK381), GW381.out, GE381.out, NB372_381.out, NB381_372.out, (belt HB)⟩)
     skip
     rintro ⟨gb380, gb381⟩ w25 ⟨hS_, h0_, h1_, h2_, h3_, h4_, h5_, h6_, h7_, h8_, h9_, h10_, h11_, h12_, h13_⟩
     replace BK372 : Aside0 (w25.heap[gb372]? = some (.cells #[.int .i64 a0_0, .int .u64 a0_1] 31 (0, 0))) := ⟨h0_⟩
     have BK380 : Aside0 (w25.heap[gb380]? = some (.cells #[.int .i64 0, .int .u64 0] 31 (0, 0))) := ⟨h1_⟩
     have BK381 : Aside0 (w25.heap[gb381]? = some (.cells #[.int .i64 0, .int .u64 0] 31 (0, 0))) := ⟨h2_⟩
     have GW380 : Aside0 (w.heap.size ≤ gb380) := ⟨h3_⟩
     have GE380 : Aside0 (w.heap.size ≤ gb380) := ⟨h4_⟩
     have NB372_380 : Aside0 (gb372 ≠ gb380) := ⟨h5_⟩
     have NB380_372 : Aside0 (gb380 ≠ gb372) := ⟨h6_⟩
     have NB381_380 : Aside0 (gb381 ≠ gb380) := ⟨h7_⟩
     have NB380_381 : Aside0 (gb380 ≠ gb381) := ⟨h8_⟩
     have GW381 : Aside0 (w.heap.size ≤ gb381) := ⟨h9_⟩
     have GE381 : Aside0 (w.heap.size ≤ gb381) := ⟨h10_⟩
     have NB372_381 : Aside0 (gb372 ≠ gb381) := ⟨h11_⟩
     have NB381_372 : Aside0 (gb381 ≠ gb372) := ⟨h12_⟩
     replace HB : Aside0 (Below w.heap.size w w25) := ⟨h13_⟩
     clear h0_ h1_ h2_ h3_ h4_ h5_ h6_ h7_ h8_ h9_ h10_ h11_ h12_ h13_
     have hHeld : w25.cell? ⟨gb372, 0, none⟩ = some (.int .i64 a0_0) ∧ w25.cell? ⟨gb372, 1, none⟩ = some (.int .u64 a0_1) := hS_
     refine norm_ (a' := ?_) ?_ ?_
     rotate_left
     ·simp only [putAll, Act.put, List.setIfInBounds_toArray, List.set_cons_zero, List.set_cons_succ]
      rfl
     refine one_ (i := 11) (N := some 32) #[true, true, true, true, true, true, true, true, true, true, true, true, true, true, false, false] rfl rfl (one_of HT_.out (by kernel_rfl)) (by decide) (fun K hK => ?_)
     refine goes_ Tryz.func31 (by kernel_rfl) rfl #[.int .i64 t377] (by rfl) rfl rfl argt ?_
     with_reducible refine (wide_Of.calls t377 t378 t379 _ A15.out).mono ?_
     rintro e w26 ⟨rfl, hb⟩
     refine ⟨_, rfl, ?_⟩
     replace BK372 := blkb BK372 hb
     replace BK380 := blkb BK380 hb
     replace BK381 := blkb BK381 hb
     replace HB := belb HB hb
     (try clear hb)
     (try clear hb2)
     (try clear hk)
     (try clear hi)
     refine hK.out _ _ ⟨bc BK372 0, bc BK372 1⟩ (fun hHeld => ?_)
     clear hK K
     refine norm_ (a' := ?_) ?_ ?_
     rotate_left
     ·show Act.put _ (some 32) _ = _
      simp only [Act.put, List.setIfInBounds_toArray, List.set_cons_zero, List.set_cons_succ, i64_w, i32_w]
      rfl
     exact norm_ (by first | (simp only [putAll, Act.put, List.setIfInBounds_toArray, List.set_cons_zero, List.set_cons_succ]; done) | (simp only [putAll, Act.put, List.setIfInBounds_toArray, List.set_cons_zero, List.set_cons_succ]; rfl)) (hJ4_5_10_11_12_13 (gb380, gb381) _ ⟨hHeld, (blkt BK372), (blkt BK380), (blkt BK381), GW380.out, GE380.out, NB372_380.out, NB380_372.out, NB381_380.out, NB380_381.out, GW381.out, GE381.out, NB372_381.out, NB381_372.out, (belt HB)⟩)
    skip
    rintro gb381 w25 ⟨hS_, h0_, h1_, h2_, h3_, h4_, h5_, h6_⟩
    replace BK372 : Aside0 (w25.heap[gb372]? = some (.cells #[.int .i64 a0_0, .int .u64 a0_1] 31 (0, 0))) := ⟨h0_⟩
    have BK381 : Aside0 (w25.heap[gb381]? = some (.cells #[.int .i64 0, .int .u64 0] 31 (0, 0))) := ⟨h1_⟩
    have GW381 : Aside0 (w.heap.size ≤ gb381) := ⟨h2_⟩
    have GE381 : Aside0 (w.heap.size ≤ gb381) := ⟨h3_⟩
    have NB372_381 : Aside0 (gb372 ≠ gb381) := ⟨h4_⟩
    have NB381_372 : Aside0 (gb381 ≠ gb372) := ⟨h5_⟩
    replace HB : Aside0 (Below w.heap.size w w25) := ⟨h6_⟩
    clear h0_ h1_ h2_ h3_ h4_ h5_ h6_
    have hHeld : w25.cell? ⟨gb372, 0, none⟩ = some (.int .i64 a0_0) ∧ w25.cell? ⟨gb372, 1, none⟩ = some (.int .u64 a0_1) := hS_
    refine norm_ (a' := ?_) ?_ ?_
    rotate_left
    ·simp only [putAll, Act.put, List.setIfInBounds_toArray, List.set_cons_zero, List.set_cons_succ]
     rfl
    refine one_ (i := 12) (N := some 9) #[true, true, true, true, true, true, true, true, true, true, true, true, true, true, false, false] rfl rfl (one_of HT_.out (by kernel_rfl)) (by decide) (fun K hK => ?_)
    refine box_step ?hg (N := 9) ?hd (cs := #[.int .i64 0, .int .u64 0]) (t := 31) ?hr ?_; (case hd => rfl); (case hg => rfl); (case hr => first | (go_simp; done) | (go_simp; rfl))
    intro gb380 hg w26 hbox hb
    have BK380 := Aside0.mk (hbox)
    have GW380 := bels HB hg
    have GE380 := bels HB hg
    have NB372_380 := blkl BK372 hg
    have NB380_372 := blkg BK372 hg
    have NB381_380 := blkl BK381 hg
    have NB380_381 := blkg BK381 hg
    replace BK372 := blkb BK372 hb
    replace BK381 := blkb BK381 hb
    replace HB := belb HB hb
    clear hb hbox hg
    refine hK.out _ _ ⟨bc BK372 0, bc BK372 1⟩ (fun hHeld => ?_)
    clear hK K
    refine norm_ (a' := ?_) ?_ ?_
    rotate_left
    ·show Act.put _ (some 9) _ = _
     simp only [Act.put, List.setIfInBounds_toArray, List.set_cons_zero, List.set_cons_succ, i64_w, i32_w]
     rfl
    exact norm_ (by first | (simp only [putAll, Act.put, List.setIfInBounds_toArray, List.set_cons_zero, List.set_cons_succ]; done) | (simp only [putAll, Act.put, List.setIfInBounds_toArray, List.set_cons_zero, List.set_cons_succ]; rfl)) (hJ4_5_10_11_12_13 (gb380, gb381) _ ⟨hHeld, (blkt BK372), (blkt BK380), (blkt BK381), GW380.out, GE380.out, NB372_380.out, NB380_372.out, NB381_380.out, NB380_381.out, GW381.out, GE381.out, NB372_381.out, NB381_372.out, (belt HB)⟩)
   skip
   rintro gb380 w25 ⟨hS_, h0_, h1_, h2_, h3_, h4_, h5_, h6_⟩
   replace BK372 : Aside0 (w25.heap[gb372]? = some (.cells #[.int .i64 a0_0, .int .u64 a0_1] 31 (0, 0))) := ⟨h0_⟩
   have BK380 : Aside0 (w25.heap[gb380]? = some (.cells #[.int .i64 0, .int .u64 0] 31 (0, 0))) := ⟨h1_⟩
   have GW380 : Aside0 (w.heap.size ≤ gb380) := ⟨h2_⟩
   have GE380 : Aside0 (w.heap.size ≤ gb380) := ⟨h3_⟩
   have NB372_380 : Aside0 (gb372 ≠ gb380) := ⟨h4_⟩
   have NB380_372 : Aside0 (gb380 ≠ gb372) := ⟨h5_⟩
   replace HB : Aside0 (Below w.heap.size w w25) := ⟨h6_⟩
   clear h0_ h1_ h2_ h3_ h4_ h5_ h6_
   have hHeld : w25.cell? ⟨gb372, 0, none⟩ = some (.int .i64 a0_0) ∧ w25.cell? ⟨gb372, 1, none⟩ = some (.int .u64 a0_1) := hS_
   refine norm_ (a' := ?_) ?_ ?_
   rotate_left
   ·simp only [putAll, Act.put, List.setIfInBounds_toArray, List.set_cons_zero, List.set_cons_succ]
    rfl
   refine one_ (i := 13) (N := some 10) #[true, true, true, true, true, true, true, true, true, true, true, true, true, true, false, false] rfl rfl (one_of HT_.out (by kernel_rfl)) (by decide) (fun K hK => ?_)
   refine box_step ?hg (N := 10) ?hd (cs := #[.int .i64 0, .int .u64 0]) (t := 31) ?hr ?_; (case hd => rfl); (case hg => rfl); (case hr => first | (go_simp; done) | (go_simp; rfl))
   intro gb381 hg w26 hbox hb
   have BK381 := Aside0.mk (hbox)
   have GW381 := bels HB hg
   have GE381 := bels HB hg
   have NB372_381 := blkl BK372 hg
   have NB381_372 := blkg BK372 hg
   have NB380_381 := blkl BK380 hg
   have NB381_380 := blkg BK380 hg
   replace BK372 := blkb BK372 hb
   replace BK380 := blkb BK380 hb
   replace HB := belb HB hb
   clear hb hbox hg
   refine hK.out _ _ ⟨bc BK372 0, bc BK372 1⟩ (fun hHeld => ?_)
   clear hK K
   refine norm_ (a' := ?_) ?_ ?_
   rotate_left
   ·show Act.put _ (some 10) _ = _
    simp only [Act.put, List.setIfInBounds_toArray, List.set_cons_zero, List.set_cons_succ, i64_w, i32_w]
    rfl
   exact norm_ (by first | (simp only [putAll, Act.put, List.setIfInBounds_toArray, List.set_cons_zero, List.set_cons_succ]; done) | (simp only [putAll, Act.put, List.setIfInBounds_toArray, List.set_cons_zero, List.set_cons_succ]; rfl)) (hJ4_5_10_11_12_13 (gb380, gb381) _ ⟨hHeld, (blkt BK372), (blkt BK380), (blkt BK381), GW380.out, GE380.out, NB372_380.out, NB380_372.out, NB381_380.out, NB380_381.out, GW381.out, GE381.out, NB372_381.out, NB381_372.out, (belt HB)⟩)
  rintro ⟨gb380, gb381⟩ w26 ⟨hS_, h0_, h1_, h2_, h3_, h4_, h5_, h6_, h7_, h8_, h9_, h10_, h11_, h12_, h13_⟩
  replace BK372 : Aside0 (w26.heap[gb372]? = some (.cells #[.int .i64 a0_0, .int .u64 a0_1] 31 (0, 0))) := ⟨h0_⟩
  have BK380 : Aside0 (w26.heap[gb380]? = some (.cells #[.int .i64 0, .int .u64 0] 31 (0, 0))) := ⟨h1_⟩
  have BK381 : Aside0 (w26.heap[gb381]? = some (.cells #[.int .i64 0, .int .u64 0] 31 (0, 0))) := ⟨h2_⟩
  have GW380 : Aside0 (w.heap.size ≤ gb380) := ⟨h3_⟩
  have GE380 : Aside0 (w.heap.size ≤ gb380) := ⟨h4_⟩
  have NB372_380 : Aside0 (gb372 ≠ gb380) := ⟨h5_⟩
  have NB380_372 : Aside0 (gb380 ≠ gb372) := ⟨h6_⟩
  have NB381_380 : Aside0 (gb381 ≠ gb380) := ⟨h7_⟩
  have NB380_381 : Aside0 (gb380 ≠ gb381) := ⟨h8_⟩
  have GW381 : Aside0 (w.heap.size ≤ gb381) := ⟨h9_⟩
  have GE381 : Aside0 (w.heap.size ≤ gb381) := ⟨h10_⟩
  have NB372_381 : Aside0 (gb372 ≠ gb381) := ⟨h11_⟩
  have NB381_372 : Aside0 (gb381 ≠ gb372) := ⟨h12_⟩
  replace HB : Aside0 (Below w.heap.size w w26) := ⟨h13_⟩
  clear h0_ h1_ h2_ h3_ h4_ h5_ h6_ h7_ h8_ h9_ h10_ h11_ h12_ h13_
  have hHeld : w26.cell? ⟨gb372, 0, none⟩ = some (.int .i64 a0_0) ∧ w26.cell? ⟨gb372, 1, none⟩ = some (.int .u64 a0_1) := hS_
  refine norm_ (a' := ?_) ?_ ?_
  rotate_left
  ·simp only [putAll, Act.put, List.setIfInBounds_toArray, List.set_cons_zero, List.set_cons_succ]
   rfl
  refine one_ (i := 14) (N := none) #[true, true, true, true, true, true, true, true, true, true, true, true, true, true, true, false] rfl rfl (one_of HT_.out (by kernel_rfl)) (by decide) (fun K hK => ?_)
  have hs27 : w26.cell? ⟨gb380, 0, none⟩ = some (.int .i64 0) := bc BK380 0
  have hfs27 := blk_frozen BK380.out 0
  have hns27_0 := NB372_380.out
  have hns27_2 := NB381_380.out
  have hms27_0 := NB380_372.out
  have hms27_2 := NB380_381.out
  have hs28 : w26.cell? ⟨gb380, 1, none⟩ = some (.int .u64 0) := bc BK380 1
  have hfs28 := blk_frozen BK380.out 1
  have hns28_0 := NB372_380.out
  have hns28_2 := NB381_380.out
  have hms28_0 := NB380_372.out
  have hms28_2 := NB380_381.out
  refine skip_ (w1 := ?_) (by rfl) rfl ?_ ?_
  rotate_left
  ·go_simp
   rfl
  refine hK.out _ _ ⟨((cell_far (p := ⟨gb380, _, none⟩) NB372_380.out _).trans (((cell_far (p := ⟨gb380, _, none⟩) NB372_380.out _).trans (hHeld.1)))), ((cell_far (p := ⟨gb380, _, none⟩) NB372_380.out _).trans (((cell_far (p := ⟨gb380, _, none⟩) NB372_380.out _).trans (hHeld.2))))⟩ (fun hHeld => ?_)
  clear hK K
  refine one_ (i := 15) (N := none) #[true, true, true, true, true, true, true, true, true, true, true, true, true, true, true, true] rfl rfl (one_of HT_.out (by kernel_rfl)) (by decide) (fun K hK => ?_)
  have hs29 : w26.cell? ⟨gb381, 0, none⟩ = some (.int .i64 0) := bc BK381 0
  have hfs29 := blk_frozen BK381.out 0
  have hns29_0 := NB372_381.out
  have hns29_1 := NB380_381.out
  have hms29_0 := NB381_372.out
  have hms29_1 := NB381_380.out
  have hs30 : w26.cell? ⟨gb381, 1, none⟩ = some (.int .u64 0) := bc BK381 1
  have hfs30 := blk_frozen BK381.out 1
  have hns30_0 := NB372_381.out
  have hns30_1 := NB380_381.out
  have hms30_0 := NB381_372.out
  have hms30_1 := NB381_380.out
  refine skip_ (w1 := ?_) (by rfl) rfl ?_ ?_
  rotate_left
  ·go_simp
   rfl
  refine hK.out _ _ ⟨((cell_far (p := ⟨gb381, _, none⟩) NB372_381.out _).trans (((cell_far (p := ⟨gb381, _, none⟩) NB372_381.out _).trans (hHeld.1)))), ((cell_far (p := ⟨gb381, _, none⟩) NB372_381.out _).trans (((cell_far (p := ⟨gb381, _, none⟩) NB372_381.out _).trans (hHeld.2))))⟩ (fun hHeld => ?_)
  clear hK K
  refine done_ (done_of HT_.out (by kernel_rfl)) ?_
  go_upto_region 6 with (fail)
  go_cut [44] (fun v44 wc => ∃ (kq : Nat) (x44_15 : Bool), v44 = .bool x44_15 ∧ Aside0 (turnstonelaw12_ClampGrows.j0 kq l3 x44_15 = some r) ∧ Aside0 (kq ≤ k) ∧ Aside0 (wc.heap[gb372]? = some (.cells #[.int .i64 a0_0, .int .u64 a0_1] 31 (0, 0))) ∧ Aside0 (wc.heap[gb380]? = some (.cells #[.int .i64 t375, .int .u64 t376] 31 (0, 0))) ∧ Aside0 (wc.heap[gb381]? = some (.cells #[.int .i64 t378, .int .u64 t379] 31 (0, 0))) ∧ Aside0 (Below w.heap.size w wc))
  case first =>
   have H := HC16.out
   clear HC16
   replace H := Option.bind_eq_some_iff.mp H
   obtain ⟨⟨t382, t383⟩, A310, H⟩ := H
   replace H : ((clamp_Size.f k t378 t379).bind fun bt384 => ((wide_Int_Cmp.f k t382 t383 bt384.1 bt384.2).bind fun t386 => (if t386 > 0 then (turnstonelaw12_ClampGrows.j0 k l3 true) else ((clamp_Size.f k a0_0 a0_1).bind fun bt387 => ((wide_Int_Sign.f k bt387.1 bt387.2).bind fun t389 => (turnstonelaw12_ClampGrows.j0 k l3 (decide (t389 < 0)))))))) = some r := H
   have A31 := Aside0.mk A310
   clear A310
   replace H := Option.bind_eq_some_iff.mp H
   obtain ⟨⟨t384, t385⟩, A320, H⟩ := H
   replace H : ((wide_Int_Cmp.f k t382 t383 t384 t385).bind fun t386 => (if t386 > 0 then (turnstonelaw12_ClampGrows.j0 k l3 true) else ((clamp_Size.f k a0_0 a0_1).bind fun bt387 => ((wide_Int_Sign.f k bt387.1 bt387.2).bind fun t389 => (turnstonelaw12_ClampGrows.j0 k l3 (decide (t389 < 0))))))) = some r := H
   have A32 := Aside0.mk A320
   clear A320
   replace H := Option.bind_eq_some_iff.mp H
   obtain ⟨t386, A330, H⟩ := H
   replace H : (if t386 > 0 then (turnstonelaw12_ClampGrows.j0 k l3 true) else ((clamp_Size.f k a0_0 a0_1).bind fun bt387 => ((wide_Int_Sign.f k bt387.1 bt387.2).bind fun t389 => (turnstonelaw12_ClampGrows.j0 k l3 (decide (t389 < 0)))))) = some r := H
   have A33 := Aside0.mk A330
   clear A330
   by_cases c34 : t386 > 0
   ·rw [if_pos c34] at H
    have c34b0 : decide (0 < t386) = true := decide_eq_true c34
    clear c34
    (first | rw [c34b0] | (simp only [i64_w, i32_w]; rw [c34b0]) | skip)
    have H' := Aside0.mk H
    clear H
    try go_wp2
    have n0_ : Aside0 (((((w26.setCell ⟨gb380, 0, none⟩ (.int .i64 t375)).setCell ⟨gb380, 1, none⟩ (.int .u64 t376)).setCell ⟨gb381, 0, none⟩ (.int .i64 t378)).setCell ⟨gb381, 1, none⟩ (.int .u64 t379)).heap[gb372]? = some (.cells #[.int .i64 a0_0, .int .u64 a0_1] 31 (0, 0))) := ⟨by (with_reducible repeat (first | refine blk_drewN ?_ _ | refine blk_drew ?_ | refine blk_alloc ?_ _)); refine blk_far ?_ NB372_381.out _; (with_reducible repeat (first | refine blk_drewN ?_ _ | refine blk_drew ?_ | refine blk_alloc ?_ _)); refine blk_far ?_ NB372_381.out _; (with_reducible repeat (first | refine blk_drewN ?_ _ | refine blk_drew ?_ | refine blk_alloc ?_ _)); refine blk_far ?_ NB372_380.out _; (with_reducible repeat (first | refine blk_drewN ?_ _ | refine blk_drew ?_ | refine blk_alloc ?_ _)); refine blk_far ?_ NB372_380.out _; exact blkt BK372⟩
    have n1_ : Aside0 (((((w26.setCell ⟨gb380, 0, none⟩ (.int .i64 t375)).setCell ⟨gb380, 1, none⟩ (.int .u64 t376)).setCell ⟨gb381, 0, none⟩ (.int .i64 t378)).setCell ⟨gb381, 1, none⟩ (.int .u64 t379)).heap[gb380]? = some (.cells #[.int .i64 t375, .int .u64 t376] 31 (0, 0))) := ⟨by (with_reducible repeat (first | refine blk_drewN ?_ _ | refine blk_drew ?_ | refine blk_alloc ?_ _)); refine blk_far ?_ NB380_381.out _; (with_reducible repeat (first | refine blk_drewN ?_ _ | refine blk_drew ?_ | refine blk_alloc ?_ _)); refine blk_far ?_ NB380_381.out _; (with_reducible repeat (first | refine blk_drewN ?_ _ | refine blk_drew ?_ | refine blk_alloc ?_ _)); refine blk_put (cs := #[.int .i64 t375, .int .u64 0]) ?_ 1 _ rfl; (with_reducible repeat (first | refine blk_drewN ?_ _ | refine blk_drew ?_ | refine blk_alloc ?_ _)); refine blk_put (cs := #[.int .i64 0, .int .u64 0]) ?_ 0 _ rfl; exact blkt BK380⟩
    have n2_ : Aside0 (((((w26.setCell ⟨gb380, 0, none⟩ (.int .i64 t375)).setCell ⟨gb380, 1, none⟩ (.int .u64 t376)).setCell ⟨gb381, 0, none⟩ (.int .i64 t378)).setCell ⟨gb381, 1, none⟩ (.int .u64 t379)).heap[gb381]? = some (.cells #[.int .i64 t378, .int .u64 t379] 31 (0, 0))) := ⟨by (with_reducible repeat (first | refine blk_drewN ?_ _ | refine blk_drew ?_ | refine blk_alloc ?_ _)); refine blk_put (cs := #[.int .i64 t378, .int .u64 0]) ?_ 1 _ rfl; (with_reducible repeat (first | refine blk_drewN ?_ _ | refine blk_drew ?_ | refine blk_alloc ?_ _)); refine blk_put (cs := #[.int .i64 0, .int .u64 0]) ?_ 0 _ rfl; (with_reducible repeat (first | refine blk_drewN ?_ _ | refine blk_drew ?_ | refine blk_alloc ?_ _)); refine blk_far ?_ NB381_380.out _; (with_reducible repeat (first | refine blk_drewN ?_ _ | refine blk_drew ?_ | refine blk_alloc ?_ _)); refine blk_far ?_ NB381_380.out _; exact blkt BK381⟩
    have n3_ : Aside0 (Below w.heap.size w ((((w26.setCell ⟨gb380, 0, none⟩ (.int .i64 t375)).setCell ⟨gb380, 1, none⟩ (.int .u64 t376)).setCell ⟨gb381, 0, none⟩ (.int .i64 t378)).setCell ⟨gb381, 1, none⟩ (.int .u64 t379))) := ⟨belt HB⟩
    (try clear BK372)
    (try clear BK380)
    (try clear BK381)
    (try clear HB)
    generalize ((((w26.setCell ⟨gb380, 0, none⟩ (.int .i64 t375)).setCell ⟨gb380, 1, none⟩ (.int .u64 t376)).setCell ⟨gb381, 0, none⟩ (.int .i64 t378)).setCell ⟨gb381, 1, none⟩ (.int .u64 t379)) = w35 at n0_ n1_ n2_ n3_ ⊢
    have BK372 := n0_
    have BK380 := n1_
    have BK381 := n2_
    have HB := n3_
    clear n0_ n1_ n2_ n3_
    replace BK372 := Aside0.mk (blk_drew BK372.out)
    replace BK380 := Aside0.mk (blk_drew BK380.out)
    replace BK381 := Aside0.mk (blk_drew BK381.out)
    replace HB := Aside0.mk (below_drew1 HB.out)
    refine start_ (n := 12) (S := fun w' => w'.cell? ⟨gb380, 0, none⟩ = some (.int .i64 t375) ∧ w'.cell? ⟨gb380, 1, none⟩ = some (.int .u64 t376) ∧ w'.cell? ⟨gb381, 0, none⟩ = some (.int .i64 t378) ∧ w'.cell? ⟨gb381, 1, none⟩ = some (.int .u64 t379)) (ds := []) #[false, false, false, false, false, false, false, false, false, false, false, false] (by kernel_rfl) rfl rfl ⟨bc BK380 0, bc BK380 1, bc BK381 0, bc BK381 1⟩ (fun hHeld => ?_); refine with_tabW turnstonelaw12_ClampGrows.tab6 turnstonelaw12_ClampGrows.bits6 (fun HT_ HW_ => ?_)
    generalize w35.drew = w36 at BK372 BK380 BK381 HB hHeld ⊢
    refine take_ (i := 0) (N := some 33) (v := ?_) (a' := ?_) #[true, false, false, false, false, false, false, false, false, false, false, false] rfl rfl (take_ofW HT_.out HW_.out (by kernel_rfl)) (fun _ _ _ h => h) (Or.inl ⟨by rfl, ?_⟩) hHeld ?_ ?_
    rotate_left
    ·rintro w' ⟨s0, s1, s2, s3⟩
     go_simp
     with_reducible rfl
    rotate_left
    ·simp only [Act.put, List.setIfInBounds_toArray, List.set_cons_zero, List.set_cons_succ, i64_w, i32_w]
     rfl
    refine take_ (i := 2) (N := some 35) (v := ?_) (a' := ?_) #[true, false, true, false, false, false, false, false, false, false, false, false] rfl rfl (take_ofW HT_.out HW_.out (by kernel_rfl)) (fun _ _ _ h => h) (Or.inl ⟨by rfl, ?_⟩) hHeld ?_ ?_
    rotate_left
    ·rintro w' ⟨s0, s1, s2, s3⟩
     go_simp
     with_reducible rfl
    rotate_left
    ·simp only [Act.put, List.setIfInBounds_toArray, List.set_cons_zero, List.set_cons_succ, i64_w, i32_w]
     rfl
    refine one_ (i := 1) (N := some 34) #[true, true, true, false, false, false, false, false, false, false, false, false] rfl rfl (one_of HT_.out (by kernel_rfl)) (by decide) (fun K hK => ?_)
    refine goes_ Tryz.func47 (by kernel_rfl) rfl #[.agg #[.int .i64 t375, .int .u64 t376]] (by rfl) rfl rfl argt ?_
    with_reducible refine (clamp_Size.calls k t375 t376 t382 t383 _ A31.out).mono ?_
    rintro e w37 ⟨rfl, hb⟩
    refine ⟨_, rfl, ?_⟩
    replace BK372 := blkb BK372 hb
    replace BK380 := blkb BK380 hb
    replace BK381 := blkb BK381 hb
    replace HB := belb HB hb
    (try clear hb)
    (try clear hb2)
    (try clear hk)
    (try clear hi)
    refine hK.out _ _ ⟨bc BK380 0, bc BK380 1, bc BK381 0, bc BK381 1⟩ (fun hHeld => ?_)
    clear hK K
    refine norm_ (a' := ?_) ?_ ?_
    rotate_left
    ·show Act.put _ (some 34) _ = _
     simp only [Act.put, List.setIfInBounds_toArray, List.set_cons_zero, List.set_cons_succ, i64_w, i32_w]
     rfl
    refine one_ (i := 3) (N := some 36) #[true, true, true, true, false, false, false, false, false, false, false, false] rfl rfl (one_of HT_.out (by kernel_rfl)) (by decide) (fun K hK => ?_)
    refine goes_ Tryz.func47 (by kernel_rfl) rfl #[.agg #[.int .i64 t378, .int .u64 t379]] (by rfl) rfl rfl argt ?_
    with_reducible refine (clamp_Size.calls k t378 t379 t384 t385 _ A32.out).mono ?_
    rintro e w38 ⟨rfl, hb⟩
    refine ⟨_, rfl, ?_⟩
    replace BK372 := blkb BK372 hb
    replace BK380 := blkb BK380 hb
    replace BK381 := blkb BK381 hb
    replace HB := belb HB hb
    (try clear hb)
    (try clear hb2)
    (try clear hk)
    (try clear hi)
    refine hK.out _ _ ⟨bc BK380 0, bc BK380 1, bc BK381 0, bc BK381 1⟩ (fun hHeld => ?_)
    clear hK K
    refine norm_ (a' := ?_) ?_ ?_
    rotate_left
    ·show Act.put _ (some 36) _ = _
     simp only [Act.put, List.setIfInBounds_toArray, List.set_cons_zero, List.set_cons_succ, i64_w, i32_w]
     rfl
    refine one_ (i := 4) (N := some 37) #[true, true, true, true, true, false, false, false, false, false, false, false] rfl rfl (one_of HT_.out (by kernel_rfl)) (by decide) (fun K hK => ?_)
    refine goes_ Tryz.func41 (by kernel_rfl) rfl #[.agg #[.int .i64 t382, .int .u64 t383], .agg #[.int .i64 t384, .int .u64 t385]] (by rfl) rfl rfl argt ?_
    with_reducible refine (wide_Int_Cmp.calls k t382 t383 t384 t385 t386 _ A33.out).mono ?_
    rintro e w39 ⟨rfl, hb⟩
    refine ⟨_, rfl, ?_⟩
    replace BK372 := blkb BK372 hb
    replace BK380 := blkb BK380 hb
    replace BK381 := blkb BK381 hb
    replace HB := belb HB hb
    (try clear hb)
    (try clear hb2)
    (try clear hk)
    (try clear hi)
    refine hK.out _ _ ⟨bc BK380 0, bc BK380 1, bc BK381 0, bc BK381 1⟩ (fun hHeld => ?_)
    clear hK K
    refine norm_ (a' := ?_) ?_ ?_
    rotate_left
    ·show Act.put _ (some 37) _ = _
     simp only [Act.put, List.setIfInBounds_toArray, List.set_cons_zero, List.set_cons_succ, i64_w, i32_w]
     rfl
    refine pure_ (i := 5) (N := some 38) (v := ?_) (a' := ?_) #[true, true, true, true, true, true, false, false, false, false, false, false] rfl rfl (any_of HT_.out (by kernel_rfl)) (fun _ _ _ h => h) (Or.inl ⟨by rfl, ?_⟩) ?_ ?_
    rotate_left
    ·intro w'
     go_simp
     with_reducible rfl
    rotate_left
    ·simp only [Act.put, List.setIfInBounds_toArray, List.set_cons_zero, List.set_cons_succ, i64_w, i32_w]
     rfl
    refine pure_ (i := 6) (N := some 39) (v := ?_) (a' := ?_) #[true, true, true, true, true, true, true, false, false, false, false, false] rfl rfl (any_of HT_.out (by kernel_rfl)) (fun _ _ _ h => h) (Or.inl ⟨by rfl, ?_⟩) ?_ ?_
    rotate_left
    ·intro w'
     go_simp
     with_reducible rfl
    rotate_left
    ·simp only [Act.put, List.setIfInBounds_toArray, List.set_cons_zero, List.set_cons_succ, i64_w, i32_w]
     rfl
    refine pure_ (i := 7) (N := some 40) (v := undef) (a' := ?_) #[true, true, true, true, true, true, true, true, false, false, false, false] rfl rfl (any_of HT_.out (by kernel_rfl)) (fun _ _ _ h => h) (Or.inr ⟨by rfl, rfl⟩) ?_ ?_
    rotate_left
    ·simp only [Act.put, List.setIfInBounds_toArray, List.set_cons_zero, List.set_cons_succ, i64_w, i32_w]
     rfl
    refine pure_ (i := 8) (N := some 41) (v := undef) (a' := ?_) #[true, true, true, true, true, true, true, true, true, false, false, false] rfl rfl (any_of HT_.out (by kernel_rfl)) (fun _ _ _ h => h) (Or.inr ⟨by rfl, rfl⟩) ?_ ?_
    rotate_left
    ·simp only [Act.put, List.setIfInBounds_toArray, List.set_cons_zero, List.set_cons_succ, i64_w, i32_w]
     rfl
    refine pure_ (i := 9) (N := some 42) (v := undef) (a' := ?_) #[true, true, true, true, true, true, true, true, true, true, false, false] rfl rfl (any_of HT_.out (by kernel_rfl)) (fun _ _ _ h => h) (Or.inr ⟨by rfl, rfl⟩) ?_ ?_
    rotate_left
    ·simp only [Act.put, List.setIfInBounds_toArray, List.set_cons_zero, List.set_cons_succ, i64_w, i32_w]
     rfl
    refine pure_ (i := 10) (N := some 43) (v := undef) (a' := ?_) #[true, true, true, true, true, true, true, true, true, true, true, false] rfl rfl (any_of HT_.out (by kernel_rfl)) (fun _ _ _ h => h) (Or.inr ⟨by rfl, rfl⟩) ?_ ?_
    rotate_left
    ·simp only [Act.put, List.setIfInBounds_toArray, List.set_cons_zero, List.set_cons_succ, i64_w, i32_w]
     rfl
    refine pure_ (i := 11) (N := some 44) (v := ?_) (a' := ?_) #[true, true, true, true, true, true, true, true, true, true, true, true] rfl rfl (any_of HT_.out (by kernel_rfl)) (fun _ _ _ h => h) (Or.inl ⟨by rfl, ?_⟩) ?_ ?_
    rotate_left
    ·intro w'
     go_simp
     with_reducible rfl
    rotate_left
    ·simp only [Act.put, List.setIfInBounds_toArray, List.set_cons_zero, List.set_cons_succ, i64_w, i32_w]
     rfl
    refine done_ (done_of HT_.out (by kernel_rfl)) ?_
    try go_wp2
    go_meet
    case rel => exact ⟨_, (true), (by first | rfl | (simp; done) | (simp [*]; done)), H', ⟨by first | omega | exact Nat.le_refl _⟩, ⟨blkt BK372⟩, ⟨blkt BK380⟩, ⟨blkt BK381⟩, ⟨belt HB⟩⟩
   rw [if_neg c34] at H
   have c34b0 : decide (0 < t386) = false := decide_eq_false c34
   clear c34
   (first | rw [c34b0] | (simp only [i64_w, i32_w]; rw [c34b0]) | skip)
   replace H := Option.bind_eq_some_iff.mp H
   obtain ⟨⟨t387, t388⟩, A400, H⟩ := H
   replace H : ((wide_Int_Sign.f k t387 t388).bind fun t389 => (turnstonelaw12_ClampGrows.j0 k l3 (decide (t389 < 0)))) = some r := H
   have A40 := Aside0.mk A400
   clear A400
   replace H := Option.bind_eq_some_iff.mp H
   obtain ⟨t389, A410, H⟩ := H
   replace H : (turnstonelaw12_ClampGrows.j0 k l3 (decide (t389 < 0))) = some r := H
   have A41 := Aside0.mk A410
   clear A410
   have H' := Aside0.mk H
   clear H
   try go_wp2
   have n0_ : Aside0 (((((w26.setCell ⟨gb380, 0, none⟩ (.int .i64 t375)).setCell ⟨gb380, 1, none⟩ (.int .u64 t376)).setCell ⟨gb381, 0, none⟩ (.int .i64 t378)).setCell ⟨gb381, 1, none⟩ (.int .u64 t379)).heap[gb372]? = some (.cells #[.int .i64 a0_0, .int .u64 a0_1] 31 (0, 0))) := ⟨by (with_reducible repeat (first | refine blk_drewN ?_ _ | refine blk_drew ?_ | refine blk_alloc ?_ _)); refine blk_far ?_ NB372_381.out _; (with_reducible repeat (first | refine blk_drewN ?_ _ | refine blk_drew ?_ | refine blk_alloc ?_ _)); refine blk_far ?_ NB372_381.out _; (with_reducible repeat (first | refine blk_drewN ?_ _ | refine blk_drew ?_ | refine blk_alloc ?_ _)); refine blk_far ?_ NB372_380.out _; (with_reducible repeat (first | refine blk_drewN ?_ _ | refine blk_drew ?_ | refine blk_alloc ?_ _)); refine blk_far ?_ NB372_380.out _; exact blkt BK372⟩
   have n1_ : Aside0 (((((w26.setCell ⟨gb380, 0, none⟩ (.int .i64 t375)).setCell ⟨gb380, 1, none⟩ (.int .u64 t376)).setCell ⟨gb381, 0, none⟩ (.int .i64 t378)).setCell ⟨gb381, 1, none⟩ (.int .u64 t379)).heap[gb380]? = some (.cells #[.int .i64 t375, .int .u64 t376] 31 (0, 0))) := ⟨by (with_reducible repeat (first | refine blk_drewN ?_ _ | refine blk_drew ?_ | refine blk_alloc ?_ _)); refine blk_far ?_ NB380_381.out _; (with_reducible repeat (first | refine blk_drewN ?_ _ | refine blk_drew ?_ | refine blk_alloc ?_ _)); refine blk_far ?_ NB380_381.out _; (with_reducible repeat (first | refine blk_drewN ?_ _ | refine blk_drew ?_ | refine blk_alloc ?_ _)); refine blk_put (cs := #[.int .i64 t375, .int .u64 0]) ?_ 1 _ rfl; (with_reducible repeat (first | refine blk_drewN ?_ _ | refine blk_drew ?_ | refine blk_alloc ?_ _)); refine blk_put (cs := #[.int .i64 0, .int .u64 0]) ?_ 0 _ rfl; exact blkt BK380⟩
   have n2_ : Aside0 (((((w26.setCell ⟨gb380, 0, none⟩ (.int .i64 t375)).setCell ⟨gb380, 1, none⟩ (.int .u64 t376)).setCell ⟨gb381, 0, none⟩ (.int .i64 t378)).setCell ⟨gb381, 1, none⟩ (.int .u64 t379)).heap[gb381]? = some (.cells #[.int .i64 t378, .int .u64 t379] 31 (0, 0))) := ⟨by (with_reducible repeat (first | refine blk_drewN ?_ _ | refine blk_drew ?_ | refine blk_alloc ?_ _)); refine blk_put (cs := #[.int .i64 t378, .int .u64 0]) ?_ 1 _ rfl; (with_reducible repeat (first | refine blk_drewN ?_ _ | refine blk_drew ?_ | refine blk_alloc ?_ _)); refine blk_put (cs := #[.int .i64 0, .int .u64 0]) ?_ 0 _ rfl; (with_reducible repeat (first | refine blk_drewN ?_ _ | refine blk_drew ?_ | refine blk_alloc ?_ _)); refine blk_far ?_ NB381_380.out _; (with_reducible repeat (first | refine blk_drewN ?_ _ | refine blk_drew ?_ | refine blk_alloc ?_ _)); refine blk_far ?_ NB381_380.out _; exact blkt BK381⟩
   have n3_ : Aside0 (Below w.heap.size w ((((w26.setCell ⟨gb380, 0, none⟩ (.int .i64 t375)).setCell ⟨gb380, 1, none⟩ (.int .u64 t376)).setCell ⟨gb381, 0, none⟩ (.int .i64 t378)).setCell ⟨gb381, 1, none⟩ (.int .u64 t379))) := ⟨belt HB⟩
   (try clear BK372)
   (try clear BK380)
   (try clear BK381)
   (try clear HB)
   generalize ((((w26.setCell ⟨gb380, 0, none⟩ (.int .i64 t375)).setCell ⟨gb380, 1, none⟩ (.int .u64 t376)).setCell ⟨gb381, 0, none⟩ (.int .i64 t378)).setCell ⟨gb381, 1, none⟩ (.int .u64 t379)) = w42 at n0_ n1_ n2_ n3_ ⊢
   have BK372 := n0_
   have BK380 := n1_
   have BK381 := n2_
   have HB := n3_
   clear n0_ n1_ n2_ n3_
   replace BK372 := Aside0.mk (blk_drew BK372.out)
   replace BK380 := Aside0.mk (blk_drew BK380.out)
   replace BK381 := Aside0.mk (blk_drew BK381.out)
   replace HB := Aside0.mk (below_drew1 HB.out)
   refine start_ (n := 12) (S := fun w' => w'.cell? ⟨gb380, 0, none⟩ = some (.int .i64 t375) ∧ w'.cell? ⟨gb380, 1, none⟩ = some (.int .u64 t376) ∧ w'.cell? ⟨gb381, 0, none⟩ = some (.int .i64 t378) ∧ w'.cell? ⟨gb381, 1, none⟩ = some (.int .u64 t379) ∧ w'.cell? ⟨gb372, 0, none⟩ = some (.int .i64 a0_0) ∧ w'.cell? ⟨gb372, 1, none⟩ = some (.int .u64 a0_1)) (ds := []) #[false, false, false, false, false, false, false, false, false, false, false, false] (by kernel_rfl) rfl rfl ⟨bc BK380 0, bc BK380 1, bc BK381 0, bc BK381 1, bc BK372 0, bc BK372 1⟩ (fun hHeld => ?_); refine with_tabW turnstonelaw12_ClampGrows.tab6 turnstonelaw12_ClampGrows.bits6 (fun HT_ HW_ => ?_)
   generalize w42.drew = w43 at BK372 BK380 BK381 HB hHeld ⊢
   refine take_ (i := 0) (N := some 33) (v := ?_) (a' := ?_) #[true, false, false, false, false, false, false, false, false, false, false, false] rfl rfl (take_ofW HT_.out HW_.out (by kernel_rfl)) (fun _ _ _ h => h) (Or.inl ⟨by rfl, ?_⟩) hHeld ?_ ?_
   rotate_left
   ·rintro w' ⟨s0, s1, s2, s3, s4, s5⟩
    go_simp
    with_reducible rfl
   rotate_left
   ·simp only [Act.put, List.setIfInBounds_toArray, List.set_cons_zero, List.set_cons_succ, i64_w, i32_w]
    rfl
   refine take_ (i := 2) (N := some 35) (v := ?_) (a' := ?_) #[true, false, true, false, false, false, false, false, false, false, false, false] rfl rfl (take_ofW HT_.out HW_.out (by kernel_rfl)) (fun _ _ _ h => h) (Or.inl ⟨by rfl, ?_⟩) hHeld ?_ ?_
   rotate_left
   ·rintro w' ⟨s0, s1, s2, s3, s4, s5⟩
    go_simp
    with_reducible rfl
   rotate_left
   ·simp only [Act.put, List.setIfInBounds_toArray, List.set_cons_zero, List.set_cons_succ, i64_w, i32_w]
    rfl
   refine one_ (i := 1) (N := some 34) #[true, true, true, false, false, false, false, false, false, false, false, false] rfl rfl (one_of HT_.out (by kernel_rfl)) (by decide) (fun K hK => ?_)
   refine goes_ Tryz.func47 (by kernel_rfl) rfl #[.agg #[.int .i64 t375, .int .u64 t376]] (by rfl) rfl rfl argt ?_
   with_reducible refine (clamp_Size.calls k t375 t376 t382 t383 _ A31.out).mono ?_
   rintro e w44 ⟨rfl, hb⟩
   refine ⟨_, rfl, ?_⟩
   replace BK372 := blkb BK372 hb
   replace BK380 := blkb BK380 hb
   replace BK381 := blkb BK381 hb
   replace HB := belb HB hb
   (try clear hb)
   (try clear hb2)
   (try clear hk)
   (try clear hi)
   refine hK.out _ _ ⟨bc BK380 0, bc BK380 1, bc BK381 0, bc BK381 1, bc BK372 0, bc BK372 1⟩ (fun hHeld => ?_)
   clear hK K
   refine norm_ (a' := ?_) ?_ ?_
   rotate_left
   ·show Act.put _ (some 34) _ = _
    simp only [Act.put, List.setIfInBounds_toArray, List.set_cons_zero, List.set_cons_succ, i64_w, i32_w]
    rfl
   refine one_ (i := 3) (N := some 36) #[true, true, true, true, false, false, false, false, false, false, false, false] rfl rfl (one_of HT_.out (by kernel_rfl)) (by decide) (fun K hK => ?_)
   refine goes_ Tryz.func47 (by kernel_rfl) rfl #[.agg #[.int .i64 t378, .int .u64 t379]] (by rfl) rfl rfl argt ?_
   with_reducible refine (clamp_Size.calls k t378 t379 t384 t385 _ A32.out).mono ?_
   rintro e w45 ⟨rfl, hb⟩
   refine ⟨_, rfl, ?_⟩
   replace BK372 := blkb BK372 hb
   replace BK380 := blkb BK380 hb
   replace BK381 := blkb BK381 hb
   replace HB := belb HB hb
   (try clear hb)
   (try clear hb2)
   (try clear hk)
   (try clear hi)
   refine hK.out _ _ ⟨bc BK380 0, bc BK380 1, bc BK381 0, bc BK381 1, bc BK372 0, bc BK372 1⟩ (fun hHeld => ?_)
   clear hK K
   refine norm_ (a' := ?_) ?_ ?_
   rotate_left
   ·show Act.put _ (some 36) _ = _
    simp only [Act.put, List.setIfInBounds_toArray, List.set_cons_zero, List.set_cons_succ, i64_w, i32_w]
    rfl
   refine one_ (i := 4) (N := some 37) #[true, true, true, true, true, false, false, false, false, false, false, false] rfl rfl (one_of HT_.out (by kernel_rfl)) (by decide) (fun K hK => ?_)
   refine goes_ Tryz.func41 (by kernel_rfl) rfl #[.agg #[.int .i64 t382, .int .u64 t383], .agg #[.int .i64 t384, .int .u64 t385]] (by rfl) rfl rfl argt ?_
   with_reducible refine (wide_Int_Cmp.calls k t382 t383 t384 t385 t386 _ A33.out).mono ?_
   rintro e w46 ⟨rfl, hb⟩
   refine ⟨_, rfl, ?_⟩
   replace BK372 := blkb BK372 hb
   replace BK380 := blkb BK380 hb
   replace BK381 := blkb BK381 hb
   replace HB := belb HB hb
   (try clear hb)
   (try clear hb2)
   (try clear hk)
   (try clear hi)
   refine hK.out _ _ ⟨bc BK380 0, bc BK380 1, bc BK381 0, bc BK381 1, bc BK372 0, bc BK372 1⟩ (fun hHeld => ?_)
   clear hK K
   refine norm_ (a' := ?_) ?_ ?_
   rotate_left
   ·show Act.put _ (some 37) _ = _
    simp only [Act.put, List.setIfInBounds_toArray, List.set_cons_zero, List.set_cons_succ, i64_w, i32_w]
    rfl
   refine pure_ (i := 5) (N := some 38) (v := ?_) (a' := ?_) #[true, true, true, true, true, true, false, false, false, false, false, false] rfl rfl (any_of HT_.out (by kernel_rfl)) (fun _ _ _ h => h) (Or.inl ⟨by rfl, ?_⟩) ?_ ?_
   rotate_left
   ·intro w'
    go_simp
    with_reducible rfl
   rotate_left
   ·simp only [Act.put, List.setIfInBounds_toArray, List.set_cons_zero, List.set_cons_succ, i64_w, i32_w]
    rfl
   refine pure_ (i := 6) (N := some 39) (v := ?_) (a' := ?_) #[true, true, true, true, true, true, true, false, false, false, false, false] rfl rfl (any_of HT_.out (by kernel_rfl)) (fun _ _ _ h => h) (Or.inl ⟨by rfl, ?_⟩) ?_ ?_
   rotate_left
   ·intro w'
    go_simp
    with_reducible rfl
   rotate_left
   ·simp only [Act.put, List.setIfInBounds_toArray, List.set_cons_zero, List.set_cons_succ, i64_w, i32_w]
    rfl
   refine take_ (i := 7) (N := some 40) (v := ?_) (a' := ?_) #[true, true, true, true, true, true, true, true, false, false, false, false] rfl rfl (take_ofW HT_.out HW_.out (by kernel_rfl)) (fun _ _ _ h => h) (Or.inl ⟨by rfl, ?_⟩) hHeld ?_ ?_
   rotate_left
   ·rintro w' ⟨s0, s1, s2, s3, s4, s5⟩
    go_simp
    with_reducible rfl
   rotate_left
   ·simp only [Act.put, List.setIfInBounds_toArray, List.set_cons_zero, List.set_cons_succ, i64_w, i32_w]
    rfl
   refine one_ (i := 8) (N := some 41) #[true, true, true, true, true, true, true, true, true, false, false, false] rfl rfl (one_of HT_.out (by kernel_rfl)) (by decide) (fun K hK => ?_)
   refine goes_ Tryz.func47 (by kernel_rfl) rfl #[.agg #[.int .i64 a0_0, .int .u64 a0_1]] (by rfl) rfl rfl argt ?_
   with_reducible refine (clamp_Size.calls k a0_0 a0_1 t387 t388 _ A40.out).mono ?_
   rintro e w47 ⟨rfl, hb⟩
   refine ⟨_, rfl, ?_⟩
   replace BK372 := blkb BK372 hb
   replace BK380 := blkb BK380 hb
   replace BK381 := blkb BK381 hb
   replace HB := belb HB hb
   (try clear hb)
   (try clear hb2)
   (try clear hk)
   (try clear hi)
   refine hK.out _ _ ⟨bc BK380 0, bc BK380 1, bc BK381 0, bc BK381 1, bc BK372 0, bc BK372 1⟩ (fun hHeld => ?_)
   clear hK K
   refine norm_ (a' := ?_) ?_ ?_
   rotate_left
   ·show Act.put _ (some 41) _ = _
    simp only [Act.put, List.setIfInBounds_toArray, List.set_cons_zero, List.set_cons_succ, i64_w, i32_w]
    rfl
   refine one_ (i := 9) (N := some 42) #[true, true, true, true, true, true, true, true, true, true, false, false] rfl rfl (one_of HT_.out (by kernel_rfl)) (by decide) (fun K hK => ?_)
   refine goes_ Tryz.func48 (by kernel_rfl) rfl #[.agg #[.int .i64 t387, .int .u64 t388]] (by rfl) rfl rfl argt ?_
   with_reducible refine (wide_Int_Sign.calls k t387 t388 t389 _ A41.out).mono ?_
   rintro e w48 ⟨rfl, hb⟩
   refine ⟨_, rfl, ?_⟩
   replace BK372 := blkb BK372 hb
   replace BK380 := blkb BK380 hb
   replace BK381 := blkb BK381 hb
   replace HB := belb HB hb
   (try clear hb)
   (try clear hb2)
   (try clear hk)
   (try clear hi)
   refine hK.out _ _ ⟨bc BK380 0, bc BK380 1, bc BK381 0, bc BK381 1, bc BK372 0, bc BK372 1⟩ (fun hHeld => ?_)
   clear hK K
   refine norm_ (a' := ?_) ?_ ?_
   rotate_left
   ·show Act.put _ (some 42) _ = _
    simp only [Act.put, List.setIfInBounds_toArray, List.set_cons_zero, List.set_cons_succ, i64_w, i32_w]
    rfl
   refine pure_ (i := 10) (N := some 43) (v := ?_) (a' := ?_) #[true, true, true, true, true, true, true, true, true, true, true, false] rfl rfl (any_of HT_.out (by kernel_rfl)) (fun _ _ _ h => h) (Or.inl ⟨by rfl, ?_⟩) ?_ ?_
   rotate_left
   ·intro w'
    go_simp
    with_reducible rfl
   rotate_left
   ·simp only [Act.put, List.setIfInBounds_toArray, List.set_cons_zero, List.set_cons_succ, i64_w, i32_w]
    rfl
   refine pure_ (i := 11) (N := some 44) (v := ?_) (a' := ?_) #[true, true, true, true, true, true, true, true, true, true, true, true] rfl rfl (any_of HT_.out (by kernel_rfl)) (fun _ _ _ h => h) (Or.inl ⟨by rfl, ?_⟩) ?_ ?_
   rotate_left
   ·intro w'
    go_simp
    with_reducible rfl
   rotate_left
   ·simp only [Act.put, List.setIfInBounds_toArray, List.set_cons_zero, List.set_cons_succ, i64_w, i32_w]
    rfl
   refine done_ (done_of HT_.out (by kernel_rfl)) ?_
   try go_wp2
   go_meet
   case rel => exact ⟨_, (decide (t389 < 0)), (by first | rfl | (simp; done) | (simp [*]; done)), H', ⟨by first | omega | exact Nat.le_refl _⟩, ⟨blkt BK372⟩, ⟨blkt BK380⟩, ⟨blkt BK381⟩, ⟨belt HB⟩⟩
  case rest =>
   clear HC16
   try clear p2
   try clear c3
   try clear c4
   try clear c34
   try clear c34b0
   try clear c41
   try clear c47
   try clear c48
   obtain ⟨kq, x44_15, rfl, HA, HJ15, BK372, BK380, BK381, HB⟩ := hcut
   cases kq with
   | zero => exact absurd HA.out (by simp [turnstonelaw12_ClampGrows.j0])
   | succ kj15 =>
    have H := HA.out
    clear HA
    simp only [turnstonelaw12_ClampGrows.j0] at H
    by_cases c49 : x44_15 = true
    ·subst c49
     have H1 : (none) = some r := by rw [if_pos rfl] at H; exact H
     clear H
     have H := H1
     clear H1
     exact absurd H (by simp)
    replace c49 := Bool.eq_false_iff.mpr c49
    subst c49
    have H1 : ((clamp_Carried.f kj15 ([] : List (S31))).bind fun bt390 => (turnstonelaw12_ClampGrows.l0 kj15 l3 (l3.length : Int) 0 bt390.1 bt390.2)) = some r := by rw [if_neg (show ¬ (false = true) by decide)] at H; exact H
    clear H
    have H := H1
    clear H1
    replace H := Option.bind_eq_some_iff.mp H
    obtain ⟨⟨t390, t391⟩, A500, H⟩ := H
    replace H : (turnstonelaw12_ClampGrows.l0 kj15 l3 (l3.length : Int) 0 t390 t391) = some r := H
    have A50 := Aside0.mk A500
    clear A500
    have H' := Aside0.mk H
    clear H
    go_wp2_with (first | ((with_reducible refine gate_callee (f := 49) rfl ?_); refine goesL_ (some 45) rfl rfl Tryz.func49 (by kernel_rfl) rfl #[.slice none 0 0] rfl argt ?_; (refine (clamp_Carried.calls kj15 _ _ ([] : List (S31)) t390 t391 _ ?side1 ?side2 A50.out).mono ?_); (case side1 => exact Kd.C_nil _ _); (case side2 => exact Nat.le_refl _); rintro e w51 ⟨rfl, hb⟩; refine ⟨_, rfl, ?_⟩; replace BK372 := blkb BK372 hb; replace BK380 := blkb BK380 hb; replace BK381 := blkb BK381 hb; replace HB := belb HB hb; (try clear hb); (try clear hb2); (try clear hk); (try clear hi)) | ((with_reducible refine gate_dst (N := 11) rfl ?_); refine box_event ?hg (N := 11) ?hd (cs := #[.int .i64 0, .int .u64 0]) (t := 31) ?hr ?_; (case hd => rfl); (case hg => rfl); (case hr => first | (go_simp; done) | (go_simp; rfl)); intro gb392 hg w52 hbox hb; have BK392 := Aside0.mk (hbox); have GW392 := bels HB hg; have GE392 := bels HB hg; have NB372_392 := blkl BK372 hg; have NB392_372 := blkg BK372 hg; have NB380_392 := blkl BK380 hg; have NB392_380 := blkg BK380 hg; have NB381_392 := blkl BK381 hg; have NB392_381 := blkg BK381 hg; replace BK372 := blkb BK372 hb; replace BK380 := blkb BK380 hb; replace BK381 := blkb BK381 hb; replace HB := belb HB hb; clear hb hbox hg; have hnb53 := NB392_372.out; have hnc53 := NB372_392.out; have hnb54 := NB392_380.out; have hnc54 := NB380_392.out; have hnb55 := NB392_381.out; have hnc55 := NB381_392.out; have hcz56_0 : w52.cell? ⟨gb392, 0, none⟩ = some (.int .i64 0) := bc BK392 0; have hcz56_1 : w52.cell? ⟨gb392, 1, none⟩ = some (.int .u64 0) := bc BK392 1; have hfz56_0 := blk_frozen BK392.out 0; have hfz56_1 := blk_frozen BK392.out 1))
    (try simp only [Act.put, List.setIfInBounds_toArray, List.set_cons_zero, List.set_cons_succ])
    go_loopg [48] kj15 (fun kq v48 w' => ∃ (x48_2 : Int) (x393000_2 : Int) (x393001_2 : Int), v48 = .int .i64 x48_2 ∧ Aside0 (turnstonelaw12_ClampGrows.l0 kq l3 (l3.length : Int) x48_2 x393000_2 x393001_2 = some r) ∧ Aside0 (kq ≤ kj15) ∧ Aside0 (w'.heap[gb372]? = some (.cells #[.int .i64 a0_0, .int .u64 a0_1] 31 (0, 0))) ∧ Aside0 (w'.heap[gb380]? = some (.cells #[.int .i64 t375, .int .u64 t376] 31 (0, 0))) ∧ Aside0 (w'.heap[gb381]? = some (.cells #[.int .i64 t378, .int .u64 t379] 31 (0, 0))) ∧ Aside0 (w'.heap[gb392]? = some (.cells #[.int .i64 x393000_2, .int .u64 x393001_2] 31 (0, 0))) ∧ Aside0 (Below w.heap.size w w'))
    case atStart => exact ⟨(0), (t390), (t391), (by first | rfl | (simp; done) | (simp [*]; done)), H', ⟨Nat.le_refl _⟩, ⟨by (with_reducible repeat (first | refine blk_drewN ?_ _ | refine blk_drew ?_ | refine blk_alloc ?_ _)); refine blk_far ?_ NB372_392.out _; (with_reducible repeat (first | refine blk_drewN ?_ _ | refine blk_drew ?_ | refine blk_alloc ?_ _)); refine blk_far ?_ NB372_392.out _; exact blkt BK372⟩, ⟨by (with_reducible repeat (first | refine blk_drewN ?_ _ | refine blk_drew ?_ | refine blk_alloc ?_ _)); refine blk_far ?_ NB380_392.out _; (with_reducible repeat (first | refine blk_drewN ?_ _ | refine blk_drew ?_ | refine blk_alloc ?_ _)); refine blk_far ?_ NB380_392.out _; exact blkt BK380⟩, ⟨by (with_reducible repeat (first | refine blk_drewN ?_ _ | refine blk_drew ?_ | refine blk_alloc ?_ _)); refine blk_far ?_ NB381_392.out _; (with_reducible repeat (first | refine blk_drewN ?_ _ | refine blk_drew ?_ | refine blk_alloc ?_ _)); refine blk_far ?_ NB381_392.out _; exact blkt BK381⟩, ⟨by (with_reducible repeat (first | refine blk_drewN ?_ _ | refine blk_drew ?_ | refine blk_alloc ?_ _)); refine blk_put (cs := #[.int .i64 t390, .int .u64 0]) ?_ 1 _ rfl; (with_reducible repeat (first | refine blk_drewN ?_ _ | refine blk_drew ?_ | refine blk_alloc ?_ _)); refine blk_put (cs := #[.int .i64 0, .int .u64 0]) ?_ 0 _ rfl; exact blkt BK392⟩, ⟨belt HB⟩⟩
    case round =>
     clear H'
     try clear p2
     try clear c3
     try clear c4
     try clear c5
     try clear c34
     try clear c34b0
     try clear c41
     try clear c47
     try clear c48
     try clear c49
     try clear c53
     try clear c54
     try clear c55
     try clear hcz56_0
     try clear hcz56_1
     try clear hfz56_0
     try clear hfz56_1
     try clear p2
     obtain ⟨x48_2, x393000_2, x393001_2, rfl, HA, HK2, BK372, BK380, BK381, BK392, HB⟩ := hrel
     cases gk with
     | zero => exact absurd HA.out (by simp [turnstonelaw12_ClampGrows.l0])
     | succ k2 =>
      have H := HA.out
      clear HA
      simp only [turnstonelaw12_ClampGrows.l0] at H
      by_cases c57 : x48_2 < (l3.length : Int)
      ·rw [if_pos c57] at H
       have c57b0 : decide (x48_2 < (l3.length : Int)) = true := decide_eq_true c57
       clear c57
       obtain ⟨ji58, hji58⟩ : ∃ j_ : Int, (wrap64 (x48_2 + 1)) = j_ := ⟨_, rfl⟩
       replace H : (if 0 ≤ (ji58) then (if (ji58) ≤ (l3.length : Int) then ((clamp_Carried.f k2 (l3.take ((ji58) : Int).toNat)).bind fun bt399 => ((wide_Int_Sub.f bt399.1 bt399.2 x393000_2 x393001_2).bind fun bt402 => ((wide_Int_Cmp.f k2 bt399.1 bt399.2 x393000_2 x393001_2).bind fun t406 => (if t406 < 0 then (none) else (if bt402.2.2 = true then ((wide_Of.f 2).bind fun bt407 => ((wide_Int_Cmp.f k2 bt402.1 bt402.2.1 bt407.1 bt407.2).bind fun t409 => (if t409 < 0 then ((clamp_Size.f k2 (-9223372036854775808) 0).bind fun bt410 => (if (!(bt399.1 == bt410.1) || (!(bt399.2 == bt410.2))) = true then (none) else (turnstonelaw12_ClampGrows.l0 k2 l3 (l3.length : Int) ji58 bt399.1 bt399.2))) else (turnstonelaw12_ClampGrows.l0 k2 l3 (l3.length : Int) ji58 bt399.1 bt399.2)))) else (turnstonelaw12_ClampGrows.l0 k2 l3 (l3.length : Int) ji58 bt399.1 bt399.2)))))) else (none)) else (none)) = some r := by first | (rw [hji58] at H; exact H) | (simp only [hji58] at H ⊢; exact H)
       have hji58w : (IntKind.i64.wrap (x48_2 + 1)) = ji58 := (i64_w _).trans hji58
       by_cases c59 : 0 ≤ (ji58)
       ·rw [if_pos c59] at H
        have c59b0 := eq_true c59
        have c59b1 : decide (0 ≤ (ji58)) = true := decide_eq_true c59
        clear c59
        by_cases c60 : (ji58) ≤ (l3.length : Int)
        ·rw [if_pos c60] at H
         have c60b0 := eq_true c60
         have c60b1 : decide ((ji58) ≤ (l3.length : Int)) = true := decide_eq_true c60
         clear c60
         obtain ⟨y395, hy395⟩ : ∃ y_ : List (S31), y_ = (l3.take ((ji58) : Int).toNat) := ⟨_, rfl⟩
         replace H : ((clamp_Carried.f k2 y395).bind fun bt399 => ((wide_Int_Sub.f bt399.1 bt399.2 x393000_2 x393001_2).bind fun bt402 => ((wide_Int_Cmp.f k2 bt399.1 bt399.2 x393000_2 x393001_2).bind fun t406 => (if t406 < 0 then (none) else (if bt402.2.2 = true then ((wide_Of.f 2).bind fun bt407 => ((wide_Int_Cmp.f k2 bt402.1 bt402.2.1 bt407.1 bt407.2).bind fun t409 => (if t409 < 0 then ((clamp_Size.f k2 (-9223372036854775808) 0).bind fun bt410 => (if (!(bt399.1 == bt410.1) || (!(bt399.2 == bt410.2))) = true then (none) else (turnstonelaw12_ClampGrows.l0 k2 l3 (l3.length : Int) ji58 bt399.1 bt399.2))) else (turnstonelaw12_ClampGrows.l0 k2 l3 (l3.length : Int) ji58 bt399.1 bt399.2)))) else (turnstonelaw12_ClampGrows.l0 k2 l3 (l3.length : Int) ji58 bt399.1 bt399.2)))))) = some r := by first | (rw [hy395]; with_reducible exact H) | (have H2_ := (Option.bind_some _ _).symm.trans H; rw [hy395]; with_reducible exact H2_) | (have H2_ := (Option.bind_some _ _).symm.trans H; with_reducible exact H2_) | with_reducible exact H | (rw [hy395]; exact H) | exact H
         have Ny395 := Aside0.mk hy395
         clear hy395
         replace H := Option.bind_eq_some_iff.mp H
         obtain ⟨⟨t399, t400⟩, A610, H⟩ := H
         replace H : ((wide_Int_Sub.f t399 t400 x393000_2 x393001_2).bind fun bt402 => ((wide_Int_Cmp.f k2 t399 t400 x393000_2 x393001_2).bind fun t406 => (if t406 < 0 then (none) else (if bt402.2.2 = true then ((wide_Of.f 2).bind fun bt407 => ((wide_Int_Cmp.f k2 bt402.1 bt402.2.1 bt407.1 bt407.2).bind fun t409 => (if t409 < 0 then ((clamp_Size.f k2 (-9223372036854775808) 0).bind fun bt410 => (if (!(t399 == bt410.1) || (!(t400 == bt410.2))) = true then (none) else (turnstonelaw12_ClampGrows.l0 k2 l3 (l3.length : Int) ji58 t399 t400))) else (turnstonelaw12_ClampGrows.l0 k2 l3 (l3.length : Int) ji58 t399 t400)))) else (turnstonelaw12_ClampGrows.l0 k2 l3 (l3.length : Int) ji58 t399 t400))))) = some r := H
         have A61 := Aside0.mk A610
         clear A610
         replace H := Option.bind_eq_some_iff.mp H
         obtain ⟨⟨t402, t403, t404⟩, A620, H⟩ := H
         replace H : ((wide_Int_Cmp.f k2 t399 t400 x393000_2 x393001_2).bind fun t406 => (if t406 < 0 then (none) else (if t404 = true then ((wide_Of.f 2).bind fun bt407 => ((wide_Int_Cmp.f k2 t402 t403 bt407.1 bt407.2).bind fun t409 => (if t409 < 0 then ((clamp_Size.f k2 (-9223372036854775808) 0).bind fun bt410 => (if (!(t399 == bt410.1) || (!(t400 == bt410.2))) = true then (none) else (turnstonelaw12_ClampGrows.l0 k2 l3 (l3.length : Int) ji58 t399 t400))) else (turnstonelaw12_ClampGrows.l0 k2 l3 (l3.length : Int) ji58 t399 t400)))) else (turnstonelaw12_ClampGrows.l0 k2 l3 (l3.length : Int) ji58 t399 t400)))) = some r := H
         have A62 := Aside0.mk A620
         clear A620
         replace H := Option.bind_eq_some_iff.mp H
         obtain ⟨t406, A630, H⟩ := H
         replace H : (if t406 < 0 then (none) else (if t404 = true then ((wide_Of.f 2).bind fun bt407 => ((wide_Int_Cmp.f k2 t402 t403 bt407.1 bt407.2).bind fun t409 => (if t409 < 0 then ((clamp_Size.f k2 (-9223372036854775808) 0).bind fun bt410 => (if (!(t399 == bt410.1) || (!(t400 == bt410.2))) = true then (none) else (turnstonelaw12_ClampGrows.l0 k2 l3 (l3.length : Int) ji58 t399 t400))) else (turnstonelaw12_ClampGrows.l0 k2 l3 (l3.length : Int) ji58 t399 t400)))) else (turnstonelaw12_ClampGrows.l0 k2 l3 (l3.length : Int) ji58 t399 t400))) = some r := H
         have A63 := Aside0.mk A630
         clear A630
         by_cases c64 : t406 < 0
         ·rw [if_pos c64] at H
          have c64b0 : decide (t406 < 0) = true := decide_eq_true c64
          clear c64
          exact absurd H (by simp)
         rw [if_neg c64] at H
         have c64b0 : decide (t406 < 0) = false := decide_eq_false c64
         clear c64
         by_cases c65 : t404 = true
         ·subst c65
          have H1 : ((wide_Of.f 2).bind fun bt407 => ((wide_Int_Cmp.f k2 t402 t403 bt407.1 bt407.2).bind fun t409 => (if t409 < 0 then ((clamp_Size.f k2 (-9223372036854775808) 0).bind fun bt410 => (if (!(t399 == bt410.1) || (!(t400 == bt410.2))) = true then (none) else (turnstonelaw12_ClampGrows.l0 k2 l3 (l3.length : Int) ji58 t399 t400))) else (turnstonelaw12_ClampGrows.l0 k2 l3 (l3.length : Int) ji58 t399 t400)))) = some r := by rw [if_pos rfl] at H; exact H
          clear H
          have H := H1
          clear H1
          replace H := Option.bind_eq_some_iff.mp H
          obtain ⟨⟨t407, t408⟩, A660, H⟩ := H
          replace H : ((wide_Int_Cmp.f k2 t402 t403 t407 t408).bind fun t409 => (if t409 < 0 then ((clamp_Size.f k2 (-9223372036854775808) 0).bind fun bt410 => (if (!(t399 == bt410.1) || (!(t400 == bt410.2))) = true then (none) else (turnstonelaw12_ClampGrows.l0 k2 l3 (l3.length : Int) ji58 t399 t400))) else (turnstonelaw12_ClampGrows.l0 k2 l3 (l3.length : Int) ji58 t399 t400))) = some r := H
          have A66 := Aside0.mk A660
          clear A660
          replace H := Option.bind_eq_some_iff.mp H
          obtain ⟨t409, A670, H⟩ := H
          replace H : (if t409 < 0 then ((clamp_Size.f k2 (-9223372036854775808) 0).bind fun bt410 => (if (!(t399 == bt410.1) || (!(t400 == bt410.2))) = true then (none) else (turnstonelaw12_ClampGrows.l0 k2 l3 (l3.length : Int) ji58 t399 t400))) else (turnstonelaw12_ClampGrows.l0 k2 l3 (l3.length : Int) ji58 t399 t400)) = some r := H
          have A67 := Aside0.mk A670
          clear A670
          by_cases c68 : t409 < 0
          ·rw [if_pos c68] at H
           have c68b0 : decide (t409 < 0) = true := decide_eq_true c68
           clear c68
           replace H := Option.bind_eq_some_iff.mp H
           obtain ⟨⟨t410, t411⟩, A690, H⟩ := H
           replace H : (if (!(t399 == t410) || (!(t400 == t411))) = true then (none) else (turnstonelaw12_ClampGrows.l0 k2 l3 (l3.length : Int) ji58 t399 t400)) = some r := H
           have A69 := Aside0.mk A690
           clear A690
           by_cases c70 : (!(t399 == t410) || (!(t400 == t411))) = true
           ·rw [if_pos c70] at H
            exact absurd H (by simp)
           rw [if_neg c70] at H
           have c70b0 : (!(t399 == t410) || (!(t400 == t411))) = false := by simpa using c70
           clear c70
           have H' := Aside0.mk H
           clear H
           have q71 : ((ji58) : Int) ≤ ((l3.length : Int) : Int) := of_decide_eq_true (by first | (with_reducible assumption) | assumption)
           obtain ⟨i071, hi071, _, hsz71, _⟩ := info_parts info31
           have hroom71 : l3.length ≤ c3 := HC3.out
           have hC71 : Kd.C k31 _ A3 l3.length l3 := HR3.out
           have hcut71 := cut_to (P := Tryz.prog) 79 31 .i64 Tryz.underlying79 hi071 A3 l3.length c3 (ji58) (of_decide_eq_true (by first | (with_reducible assumption) | assumption)) q71 hroom71
           have hr71 := Kd.C_take (m := ((ji58) : Int).toNat) hC71 (by omega)
           have hy71 : y395.length = ((ji58) : Int).toNat := (by rw [Ny395.out, List.length_take]; omega)
           rw [← Ny395.out] at hr71
           rw [← hy71] at hcut71
           have HR398 := Aside0.mk hr71
           have HC398 := Aside0.mk (show y395.length ≤ c3 from by omega)
           clear hr71 hC71 hroom71 hi071 hsz71
           have KY71 := Aside0.mk hy71
           clear hy71
           replace q71 := eq_true q71
           try go_wp2_with (first | ((with_reducible refine gate_callee (f := 49) rfl ?_); refine goesL_ (some 55) rfl rfl Tryz.func49 (by kernel_rfl) rfl #[.slice A3 y395.length c3] rfl argt ?_; (with_reducible refine (clamp_Carried.calls k2 _ _ y395 t399 t400 _ ?side1 ?side2 A61.out).mono ?_); (case side1 => exact (ct (Kd.C_below HR398.out HB.out))); (case side2 => exact HC398.out); rintro e w72 ⟨rfl, hb⟩; refine ⟨_, rfl, ?_⟩; replace BK372 := blkb BK372 hb; replace BK380 := blkb BK380 hb; replace BK381 := blkb BK381 hb; replace BK392 := blkb BK392 hb; replace HB := belb HB hb; (try clear hb); (try clear hb2); (try clear hk); (try clear hi)) | ((with_reducible refine gate_dst (N := 13) rfl ?_); refine box_event ?hg (N := 13) ?hd (cs := #[.int .i64 0, .int .u64 0]) (t := 31) ?hr ?_; (case hd => rfl); (case hg => rfl); (case hr => first | (go_simp; done) | (go_simp; rfl)); intro gb401 hg w73 hbox hb; have BK401 := Aside0.mk (hbox); have GW401 := bels HB hg; have GE401 := bels HB hg; have NB372_401 := blkl BK372 hg; have NB401_372 := blkg BK372 hg; have NB380_401 := blkl BK380 hg; have NB401_380 := blkg BK380 hg; have NB381_401 := blkl BK381 hg; have NB401_381 := blkg BK381 hg; have NB392_401 := blkl BK392 hg; have NB401_392 := blkg BK392 hg; replace BK372 := blkb BK372 hb; replace BK380 := blkb BK380 hb; replace BK381 := blkb BK381 hb; replace BK392 := blkb BK392 hb; replace HB := belb HB hb; clear hb hbox hg; have hnb74 := NB401_372.out; have hnc74 := NB372_401.out; have hnb75 := NB401_380.out; have hnc75 := NB380_401.out; have hnb76 := NB401_381.out; have hnc76 := NB381_401.out; have hnb77 := NB401_392.out; have hnc77 := NB392_401.out; have hcz78_0 : w73.cell? ⟨gb401, 0, none⟩ = some (.int .i64 0) := bc BK401 0; have hcz78_1 : w73.cell? ⟨gb401, 1, none⟩ = some (.int .u64 0) := bc BK401 1; have hfz78_0 := blk_frozen BK401.out 0; have hfz78_1 := blk_frozen BK401.out 1; have hnb79 := NB392_372.out; have hnc79 := NB372_392.out; have hnb80 := NB392_380.out; have hnc80 := NB380_392.out; have hnb81 := NB392_381.out; have hnc81 := NB381_392.out; have hcz82_0 : w73.cell? ⟨gb392, 0, none⟩ = some (.int .i64 x393000_2) := bc BK392 0; have hcz82_1 : w73.cell? ⟨gb392, 1, none⟩ = some (.int .u64 x393001_2) := bc BK392 1; have hfz82_0 := blk_frozen BK392.out 0; have hfz82_1 := blk_frozen BK392.out 1) | ((with_reducible refine gate_callee (f := 26) rfl ?_); refine goesL_ (some 59) rfl rfl Tryz.func26 (by kernel_rfl) rfl #[.agg #[.int .i64 t399, .int .u64 t400], .agg #[.int .i64 x393000_2, .int .u64 x393001_2]] rfl argt ?_; (with_reducible refine (wide_Int_Sub.calls t399 t400 x393000_2 x393001_2 t402 t403 true _ A62.out).mono ?_); rintro e w83 ⟨rfl, hb⟩; refine ⟨_, rfl, ?_⟩; replace BK372 := Aside0.mk (blk_below (g := gb372) (o := .cells #[.int .i64 a0_0, .int .u64 a0_1] 31 (0, 0)) (by (with_reducible repeat (first | refine blk_drewN ?_ _ | refine blk_drew ?_ | refine blk_alloc ?_ _)); refine blk_far ?_ NB372_401.out _; (with_reducible repeat (first | refine blk_drewN ?_ _ | refine blk_drew ?_ | refine blk_alloc ?_ _)); refine blk_far ?_ NB372_401.out _; exact blkt BK372) hb); replace BK380 := Aside0.mk (blk_below (g := gb380) (o := .cells #[.int .i64 t375, .int .u64 t376] 31 (0, 0)) (by (with_reducible repeat (first | refine blk_drewN ?_ _ | refine blk_drew ?_ | refine blk_alloc ?_ _)); refine blk_far ?_ NB380_401.out _; (with_reducible repeat (first | refine blk_drewN ?_ _ | refine blk_drew ?_ | refine blk_alloc ?_ _)); refine blk_far ?_ NB380_401.out _; exact blkt BK380) hb); replace BK381 := Aside0.mk (blk_below (g := gb381) (o := .cells #[.int .i64 t378, .int .u64 t379] 31 (0, 0)) (by (with_reducible repeat (first | refine blk_drewN ?_ _ | refine blk_drew ?_ | refine blk_alloc ?_ _)); refine blk_far ?_ NB381_401.out _; (with_reducible repeat (first | refine blk_drewN ?_ _ | refine blk_drew ?_ | refine blk_alloc ?_ _)); refine blk_far ?_ NB381_401.out _; exact blkt BK381) hb); replace BK392 := Aside0.mk (blk_below (g := gb392) (o := .cells #[.int .i64 x393000_2, .int .u64 x393001_2] 31 (0, 0)) (by (with_reducible repeat (first | refine blk_drewN ?_ _ | refine blk_drew ?_ | refine blk_alloc ?_ _)); refine blk_far ?_ NB392_401.out _; (with_reducible repeat (first | refine blk_drewN ?_ _ | refine blk_drew ?_ | refine blk_alloc ?_ _)); refine blk_far ?_ NB392_401.out _; exact blkt BK392) hb); replace BK401 := Aside0.mk (blk_below (g := gb401) (o := .cells #[.int .i64 t399, .int .u64 t400] 31 (0, 0)) (by (with_reducible repeat (first | refine blk_drewN ?_ _ | refine blk_drew ?_ | refine blk_alloc ?_ _)); refine blk_put (cs := #[.int .i64 t399, .int .u64 0]) ?_ 1 _ rfl; (with_reducible repeat (first | refine blk_drewN ?_ _ | refine blk_drew ?_ | refine blk_alloc ?_ _)); refine blk_put (cs := #[.int .i64 0, .int .u64 0]) ?_ 0 _ rfl; exact blkt BK401) hb); replace HB := belb HB hb; (try clear hb); (try clear hb2); (try clear hk); (try clear hi)) | ((with_reducible refine gate_dst (N := 14) rfl ?_); refine box_event ?hg (N := 14) ?hd (cs := #[.int .i64 0, .int .u64 0]) (t := 31) ?hr ?_; (case hd => rfl); (case hg => rfl); (case hr => first | (go_simp; done) | (go_simp; rfl)); intro gb405 hg w84 hbox hb; have BK405 := Aside0.mk (hbox); have GW405 := bels HB hg; have GE405 := bels HB hg; have NB372_405 := blkl BK372 hg; have NB405_372 := blkg BK372 hg; have NB380_405 := blkl BK380 hg; have NB405_380 := blkg BK380 hg; have NB381_405 := blkl BK381 hg; have NB405_381 := blkg BK381 hg; have NB392_405 := blkl BK392 hg; have NB405_392 := blkg BK392 hg; have NB401_405 := blkl BK401 hg; have NB405_401 := blkg BK401 hg; replace BK372 := blkb BK372 hb; replace BK380 := blkb BK380 hb; replace BK381 := blkb BK381 hb; replace BK392 := blkb BK392 hb; replace BK401 := blkb BK401 hb; replace HB := belb HB hb; clear hb hbox hg; have hnb85 := NB405_372.out; have hnc85 := NB372_405.out; have hnb86 := NB405_380.out; have hnc86 := NB380_405.out; have hnb87 := NB405_381.out; have hnc87 := NB381_405.out; have hnb88 := NB405_392.out; have hnc88 := NB392_405.out; have hnb89 := NB405_401.out; have hnc89 := NB401_405.out; have hcz90_0 : w84.cell? ⟨gb405, 0, none⟩ = some (.int .i64 0) := bc BK405 0; have hcz90_1 : w84.cell? ⟨gb405, 1, none⟩ = some (.int .u64 0) := bc BK405 1; have hfz90_0 := blk_frozen BK405.out 0; have hfz90_1 := blk_frozen BK405.out 1))
           have n0_ : Aside0 (((w84.setCell ⟨gb405, 0, none⟩ (.int .i64 t402)).setCell ⟨gb405, 1, none⟩ (.int .u64 t403)).heap[gb372]? = some (.cells #[.int .i64 a0_0, .int .u64 a0_1] 31 (0, 0))) := ⟨by (with_reducible repeat (first | refine blk_drewN ?_ _ | refine blk_drew ?_ | refine blk_alloc ?_ _)); refine blk_far ?_ NB372_405.out _; (with_reducible repeat (first | refine blk_drewN ?_ _ | refine blk_drew ?_ | refine blk_alloc ?_ _)); refine blk_far ?_ NB372_405.out _; exact blkt BK372⟩
           have n1_ : Aside0 (((w84.setCell ⟨gb405, 0, none⟩ (.int .i64 t402)).setCell ⟨gb405, 1, none⟩ (.int .u64 t403)).heap[gb380]? = some (.cells #[.int .i64 t375, .int .u64 t376] 31 (0, 0))) := ⟨by (with_reducible repeat (first | refine blk_drewN ?_ _ | refine blk_drew ?_ | refine blk_alloc ?_ _)); refine blk_far ?_ NB380_405.out _; (with_reducible repeat (first | refine blk_drewN ?_ _ | refine blk_drew ?_ | refine blk_alloc ?_ _)); refine blk_far ?_ NB380_405.out _; exact blkt BK380⟩
           have n2_ : Aside0 (((w84.setCell ⟨gb405, 0, none⟩ (.int .i64 t402)).setCell ⟨gb405, 1, none⟩ (.int .u64 t403)).heap[gb381]? = some (.cells #[.int .i64 t378, .int .u64 t379] 31 (0, 0))) := ⟨by (with_reducible repeat (first | refine blk_drewN ?_ _ | refine blk_drew ?_ | refine blk_alloc ?_ _)); refine blk_far ?_ NB381_405.out _; (with_reducible repeat (first | refine blk_drewN ?_ _ | refine blk_drew ?_ | refine blk_alloc ?_ _)); refine blk_far ?_ NB381_405.out _; exact blkt BK381⟩
           have n3_ : Aside0 (((w84.setCell ⟨gb405, 0, none⟩ (.int .i64 t402)).setCell ⟨gb405, 1, none⟩ (.int .u64 t403)).heap[gb392]? = some (.cells #[.int .i64 x393000_2, .int .u64 x393001_2] 31 (0, 0))) := ⟨by (with_reducible repeat (first | refine blk_drewN ?_ _ | refine blk_drew ?_ | refine blk_alloc ?_ _)); refine blk_far ?_ NB392_405.out _; (with_reducible repeat (first | refine blk_drewN ?_ _ | refine blk_drew ?_ | refine blk_alloc ?_ _)); refine blk_far ?_ NB392_405.out _; exact blkt BK392⟩
           have n4_ : Aside0 (((w84.setCell ⟨gb405, 0, none⟩ (.int .i64 t402)).setCell ⟨gb405, 1, none⟩ (.int .u64 t403)).heap[gb401]? = some (.cells #[.int .i64 t399, .int .u64 t400] 31 (0, 0))) := ⟨by (with_reducible repeat (first | refine blk_drewN ?_ _ | refine blk_drew ?_ | refine blk_alloc ?_ _)); refine blk_far ?_ NB401_405.out _; (with_reducible repeat (first | refine blk_drewN ?_ _ | refine blk_drew ?_ | refine blk_alloc ?_ _)); refine blk_far ?_ NB401_405.out _; exact blkt BK401⟩
           have n5_ : Aside0 (((w84.setCell ⟨gb405, 0, none⟩ (.int .i64 t402)).setCell ⟨gb405, 1, none⟩ (.int .u64 t403)).heap[gb405]? = some (.cells #[.int .i64 t402, .int .u64 t403] 31 (0, 0))) := ⟨by (with_reducible repeat (first | refine blk_drewN ?_ _ | refine blk_drew ?_ | refine blk_alloc ?_ _)); refine blk_put (cs := #[.int .i64 t402, .int .u64 0]) ?_ 1 _ rfl; (with_reducible repeat (first | refine blk_drewN ?_ _ | refine blk_drew ?_ | refine blk_alloc ?_ _)); refine blk_put (cs := #[.int .i64 0, .int .u64 0]) ?_ 0 _ rfl; exact blkt BK405⟩
           have n6_ : Aside0 (Below w.heap.size w ((w84.setCell ⟨gb405, 0, none⟩ (.int .i64 t402)).setCell ⟨gb405, 1, none⟩ (.int .u64 t403))) := ⟨belt HB⟩
           (try clear BK372)
           (try clear BK380)
           (try clear BK381)
           (try clear BK392)
           (try clear BK401)
           (try clear BK405)
           (try clear HB)
           generalize ((w84.setCell ⟨gb405, 0, none⟩ (.int .i64 t402)).setCell ⟨gb405, 1, none⟩ (.int .u64 t403)) = w91 at n0_ n1_ n2_ n3_ n4_ n5_ n6_ ⊢
           have BK372 := n0_
           have BK380 := n1_
           have BK381 := n2_
           have BK392 := n3_
           have BK401 := n4_
           have BK405 := n5_
           have HB := n6_
           clear n0_ n1_ n2_ n3_ n4_ n5_ n6_
           replace BK372 := Aside0.mk (blk_drew BK372.out)
           replace BK380 := Aside0.mk (blk_drew BK380.out)
           replace BK381 := Aside0.mk (blk_drew BK381.out)
           replace BK392 := Aside0.mk (blk_drew BK392.out)
           replace BK401 := Aside0.mk (blk_drew BK401.out)
           replace BK405 := Aside0.mk (blk_drew BK405.out)
           replace HB := Aside0.mk (below_drew1 HB.out)
           refine start_ (n := 19) (S := fun w' => w'.cell? ⟨gb401, 0, none⟩ = some (.int .i64 t399) ∧ w'.cell? ⟨gb401, 1, none⟩ = some (.int .u64 t400) ∧ w'.cell? ⟨gb392, 0, none⟩ = some (.int .i64 x393000_2) ∧ w'.cell? ⟨gb392, 1, none⟩ = some (.int .u64 x393001_2) ∧ w'.cell? ⟨gb405, 0, none⟩ = some (.int .i64 t402) ∧ w'.cell? ⟨gb405, 1, none⟩ = some (.int .u64 t403)) (ds := []) #[false, false, false, false, false, false, false, false, false, false, false, false, false, false, false, false, false, false, false] (by kernel_rfl) rfl rfl ⟨bc BK401 0, bc BK401 1, bc BK392 0, bc BK392 1, bc BK405 0, bc BK405 1⟩ (fun hHeld => ?_); refine with_tabW turnstonelaw12_ClampGrows.tab14 turnstonelaw12_ClampGrows.bits14 (fun HT_ HW_ => ?_)
           generalize w91.drew = w92 at BK372 BK380 BK381 BK392 BK401 BK405 HB hHeld ⊢
           refine take_ (i := 0) (N := some 62) (v := ?_) (a' := ?_) #[true, false, false, false, false, false, false, false, false, false, false, false, false, false, false, false, false, false, false] rfl rfl (take_ofW HT_.out HW_.out (by kernel_rfl)) (fun _ _ _ h => h) (Or.inl ⟨by rfl, ?_⟩) hHeld ?_ ?_
           rotate_left
           ·rintro w' ⟨s0, s1, s2, s3, s4, s5⟩
            go_simp
            with_reducible rfl
           rotate_left
           ·simp only [Act.put, List.setIfInBounds_toArray, List.set_cons_zero, List.set_cons_succ, i64_w, i32_w]
            rfl
           refine take_ (i := 1) (N := some 63) (v := ?_) (a' := ?_) #[true, true, false, false, false, false, false, false, false, false, false, false, false, false, false, false, false, false, false] rfl rfl (take_ofW HT_.out HW_.out (by kernel_rfl)) (fun _ _ _ h => h) (Or.inl ⟨by rfl, ?_⟩) hHeld ?_ ?_
           rotate_left
           ·rintro w' ⟨s0, s1, s2, s3, s4, s5⟩
            go_simp
            with_reducible rfl
           rotate_left
           ·simp only [Act.put, List.setIfInBounds_toArray, List.set_cons_zero, List.set_cons_succ, i64_w, i32_w]
            rfl
           refine one_ (i := 2) (N := some 64) #[true, true, true, false, false, false, false, false, false, false, false, false, false, false, false, false, false, false, false] rfl rfl (one_of HT_.out (by kernel_rfl)) (by decide) (fun K hK => ?_)
           refine goes_ Tryz.func41 (by kernel_rfl) rfl #[.agg #[.int .i64 t399, .int .u64 t400], .agg #[.int .i64 x393000_2, .int .u64 x393001_2]] (by rfl) rfl rfl argt ?_
           with_reducible refine (wide_Int_Cmp.calls k2 t399 t400 x393000_2 x393001_2 t406 _ A63.out).mono ?_
           rintro e w93 ⟨rfl, hb⟩
           refine ⟨_, rfl, ?_⟩
           replace BK372 := blkb BK372 hb
           replace BK380 := blkb BK380 hb
           replace BK381 := blkb BK381 hb
           replace BK392 := blkb BK392 hb
           replace BK401 := blkb BK401 hb
           replace BK405 := blkb BK405 hb
           replace HB := belb HB hb
           (try clear hb)
           (try clear hb2)
           (try clear hk)
           (try clear hi)
           refine hK.out _ _ ⟨bc BK401 0, bc BK401 1, bc BK392 0, bc BK392 1, bc BK405 0, bc BK405 1⟩ (fun hHeld => ?_)
           clear hK K
           refine norm_ (a' := ?_) ?_ ?_
           rotate_left
           ·show Act.put _ (some 64) _ = _
            simp only [Act.put, List.setIfInBounds_toArray, List.set_cons_zero, List.set_cons_succ, i64_w, i32_w]
            rfl
           refine pure_ (i := 3) (N := some 65) (v := ?_) (a' := ?_) #[true, true, true, true, false, false, false, false, false, false, false, false, false, false, false, false, false, false, false] rfl rfl (any_of HT_.out (by kernel_rfl)) (fun _ _ _ h => h) (Or.inl ⟨by rfl, ?_⟩) ?_ ?_
           rotate_left
           ·intro w'
            go_simp
            with_reducible rfl
           rotate_left
           ·simp only [Act.put, List.setIfInBounds_toArray, List.set_cons_zero, List.set_cons_succ, i64_w, i32_w]
            rfl
           refine pure_ (i := 4) (N := some 66) (v := ?_) (a' := ?_) #[true, true, true, true, true, false, false, false, false, false, false, false, false, false, false, false, false, false, false] rfl rfl (any_of HT_.out (by kernel_rfl)) (fun _ _ _ h => h) (Or.inl ⟨by rfl, ?_⟩) ?_ ?_
           rotate_left
           ·intro w'
            go_simp
            with_reducible rfl
           rotate_left
           ·simp only [Act.put, List.setIfInBounds_toArray, List.set_cons_zero, List.set_cons_succ, i64_w, i32_w]
            rfl
           refine pure_ (i := 5) (N := some 67) (v := ?_) (a' := ?_) #[true, true, true, true, true, true, false, false, false, false, false, false, false, false, false, false, false, false, false] rfl rfl (any_of HT_.out (by kernel_rfl)) (fun _ _ _ h => h) (Or.inl ⟨by rfl, ?_⟩) ?_ ?_
           rotate_left
           ·intro w'
            go_simp
            with_reducible rfl
           rotate_left
           ·simp only [Act.put, List.setIfInBounds_toArray, List.set_cons_zero, List.set_cons_succ, i64_w, i32_w]
            rfl
           refine pure_ (i := 6) (N := some 68) (v := ?_) (a' := ?_) #[true, true, true, true, true, true, true, false, false, false, false, false, false, false, false, false, false, false, false] rfl rfl (any_of HT_.out (by kernel_rfl)) (fun _ _ _ h => h) (Or.inl ⟨by rfl, ?_⟩) ?_ ?_
           rotate_left
           ·intro w'
            go_simp
            with_reducible rfl
           rotate_left
           ·simp only [Act.put, List.setIfInBounds_toArray, List.set_cons_zero, List.set_cons_succ, i64_w, i32_w]
            rfl
           refine take_ (i := 7) (N := some 69) (v := ?_) (a' := ?_) #[true, true, true, true, true, true, true, true, false, false, false, false, false, false, false, false, false, false, false] rfl rfl (take_ofW HT_.out HW_.out (by kernel_rfl)) (fun _ _ _ h => h) (Or.inl ⟨by rfl, ?_⟩) hHeld ?_ ?_
           rotate_left
           ·rintro w' ⟨s0, s1, s2, s3, s4, s5⟩
            go_simp
            with_reducible rfl
           rotate_left
           ·simp only [Act.put, List.setIfInBounds_toArray, List.set_cons_zero, List.set_cons_succ, i64_w, i32_w]
            rfl
           refine one_ (i := 8) (N := some 70) #[true, true, true, true, true, true, true, true, true, false, false, false, false, false, false, false, false, false, false] rfl rfl (one_of HT_.out (by kernel_rfl)) (by decide) (fun K hK => ?_)
           refine goes_ Tryz.func31 (by kernel_rfl) rfl #[.int .i64 2] (by rfl) rfl rfl argt ?_
           with_reducible refine (wide_Of.calls 2 t407 t408 _ A66.out).mono ?_
           rintro e w94 ⟨rfl, hb⟩
           refine ⟨_, rfl, ?_⟩
           replace BK372 := blkb BK372 hb
           replace BK380 := blkb BK380 hb
           replace BK381 := blkb BK381 hb
           replace BK392 := blkb BK392 hb
           replace BK401 := blkb BK401 hb
           replace BK405 := blkb BK405 hb
           replace HB := belb HB hb
           (try clear hb)
           (try clear hb2)
           (try clear hk)
           (try clear hi)
           refine hK.out _ _ ⟨bc BK401 0, bc BK401 1, bc BK392 0, bc BK392 1, bc BK405 0, bc BK405 1⟩ (fun hHeld => ?_)
           clear hK K
           refine norm_ (a' := ?_) ?_ ?_
           rotate_left
           ·show Act.put _ (some 70) _ = _
            simp only [Act.put, List.setIfInBounds_toArray, List.set_cons_zero, List.set_cons_succ, i64_w, i32_w]
            rfl
           refine one_ (i := 9) (N := some 71) #[true, true, true, true, true, true, true, true, true, true, false, false, false, false, false, false, false, false, false] rfl rfl (one_of HT_.out (by kernel_rfl)) (by decide) (fun K hK => ?_)
           refine goes_ Tryz.func41 (by kernel_rfl) rfl #[.agg #[.int .i64 t402, .int .u64 t403], .agg #[.int .i64 t407, .int .u64 t408]] (by rfl) rfl rfl argt ?_
           with_reducible refine (wide_Int_Cmp.calls k2 t402 t403 t407 t408 t409 _ A67.out).mono ?_
           rintro e w95 ⟨rfl, hb⟩
           refine ⟨_, rfl, ?_⟩
           replace BK372 := blkb BK372 hb
           replace BK380 := blkb BK380 hb
           replace BK381 := blkb BK381 hb
           replace BK392 := blkb BK392 hb
           replace BK401 := blkb BK401 hb
           replace BK405 := blkb BK405 hb
           replace HB := belb HB hb
           (try clear hb)
           (try clear hb2)
           (try clear hk)
           (try clear hi)
           refine hK.out _ _ ⟨bc BK401 0, bc BK401 1, bc BK392 0, bc BK392 1, bc BK405 0, bc BK405 1⟩ (fun hHeld => ?_)
           clear hK K
           refine norm_ (a' := ?_) ?_ ?_
           rotate_left
           ·show Act.put _ (some 71) _ = _
            simp only [Act.put, List.setIfInBounds_toArray, List.set_cons_zero, List.set_cons_succ, i64_w, i32_w]
            rfl
           refine pure_ (i := 10) (N := some 72) (v := ?_) (a' := ?_) #[true, true, true, true, true, true, true, true, true, true, true, false, false, false, false, false, false, false, false] rfl rfl (any_of HT_.out (by kernel_rfl)) (fun _ _ _ h => h) (Or.inl ⟨by rfl, ?_⟩) ?_ ?_
           rotate_left
           ·intro w'
            go_simp
            with_reducible rfl
           rotate_left
           ·simp only [Act.put, List.setIfInBounds_toArray, List.set_cons_zero, List.set_cons_succ, i64_w, i32_w]
            rfl
           refine pure_ (i := 11) (N := some 73) (v := ?_) (a' := ?_) #[true, true, true, true, true, true, true, true, true, true, true, true, false, false, false, false, false, false, false] rfl rfl (any_of HT_.out (by kernel_rfl)) (fun _ _ _ h => h) (Or.inl ⟨by rfl, ?_⟩) ?_ ?_
           rotate_left
           ·intro w'
            go_simp
            with_reducible rfl
           rotate_left
           ·simp only [Act.put, List.setIfInBounds_toArray, List.set_cons_zero, List.set_cons_succ, i64_w, i32_w]
            rfl
           refine pure_ (i := 12) (N := some 74) (v := ?_) (a' := ?_) #[true, true, true, true, true, true, true, true, true, true, true, true, true, false, false, false, false, false, false] rfl rfl (any_of HT_.out (by kernel_rfl)) (fun _ _ _ h => h) (Or.inl ⟨by rfl, ?_⟩) ?_ ?_
           rotate_left
           ·intro w'
            go_simp
            with_reducible rfl
           rotate_left
           ·simp only [Act.put, List.setIfInBounds_toArray, List.set_cons_zero, List.set_cons_succ, i64_w, i32_w]
            rfl
           refine pure_ (i := 14) (N := some 76) (v := ?_) (a' := ?_) #[true, true, true, true, true, true, true, true, true, true, true, true, true, false, true, false, false, false, false] rfl rfl (any_of HT_.out (by kernel_rfl)) (fun _ _ _ h => h) (Or.inl ⟨by rfl, ?_⟩) ?_ ?_
           rotate_left
           ·intro w'
            go_simp
            with_reducible rfl
           rotate_left
           ·simp only [Act.put, List.setIfInBounds_toArray, List.set_cons_zero, List.set_cons_succ, i64_w, i32_w]
            rfl
           refine take_ (i := 13) (N := some 75) (v := ?_) (a' := ?_) #[true, true, true, true, true, true, true, true, true, true, true, true, true, true, true, false, false, false, false] rfl rfl (take_ofW HT_.out HW_.out (by kernel_rfl)) (fun _ _ _ h => h) (Or.inl ⟨by rfl, ?_⟩) hHeld ?_ ?_
           rotate_left
           ·rintro w' ⟨s0, s1, s2, s3, s4, s5⟩
            go_simp
            with_reducible rfl
           rotate_left
           ·simp only [Act.put, List.setIfInBounds_toArray, List.set_cons_zero, List.set_cons_succ, i64_w, i32_w]
            rfl
           refine one_ (i := 15) (N := some 77) #[true, true, true, true, true, true, true, true, true, true, true, true, true, true, true, true, false, false, false] rfl rfl (one_of HT_.out (by kernel_rfl)) (by decide) (fun K hK => ?_)
           refine goes_ Tryz.func47 (by kernel_rfl) rfl #[.agg #[.int .i64 (-9223372036854775808), .int .u64 0]] (by rfl) rfl rfl argt ?_
           with_reducible refine (clamp_Size.calls k2 (-9223372036854775808) 0 t410 t411 _ A69.out).mono ?_
           rintro e w96 ⟨rfl, hb⟩
           refine ⟨_, rfl, ?_⟩
           replace BK372 := blkb BK372 hb
           replace BK380 := blkb BK380 hb
           replace BK381 := blkb BK381 hb
           replace BK392 := blkb BK392 hb
           replace BK401 := blkb BK401 hb
           replace BK405 := blkb BK405 hb
           replace HB := belb HB hb
           (try clear hb)
           (try clear hb2)
           (try clear hk)
           (try clear hi)
           refine hK.out _ _ ⟨bc BK401 0, bc BK401 1, bc BK392 0, bc BK392 1, bc BK405 0, bc BK405 1⟩ (fun hHeld => ?_)
           clear hK K
           refine norm_ (a' := ?_) ?_ ?_
           rotate_left
           ·show Act.put _ (some 77) _ = _
            simp only [Act.put, List.setIfInBounds_toArray, List.set_cons_zero, List.set_cons_succ, i64_w, i32_w]
            rfl
           refine pure_ (i := 16) (N := some 78) (v := ?_) (a' := ?_) #[true, true, true, true, true, true, true, true, true, true, true, true, true, true, true, true, true, false, false] rfl rfl (any_of HT_.out (by kernel_rfl)) (fun _ _ _ h => h) (Or.inl ⟨by rfl, ?_⟩) ?_ ?_
           rotate_left
           ·intro w'
            go_simp
            with_reducible rfl
           rotate_left
           ·simp only [Act.put, List.setIfInBounds_toArray, List.set_cons_zero, List.set_cons_succ, i64_w, i32_w]
            rfl
           refine pure_ (i := 17) (N := some 79) (v := ?_) (a' := ?_) #[true, true, true, true, true, true, true, true, true, true, true, true, true, true, true, true, true, true, false] rfl rfl (any_of HT_.out (by kernel_rfl)) (fun _ _ _ h => h) (Or.inl ⟨by rfl, ?_⟩) ?_ ?_
           rotate_left
           ·intro w'
            go_simp
            with_reducible rfl
           rotate_left
           ·simp only [Act.put, List.setIfInBounds_toArray, List.set_cons_zero, List.set_cons_succ, i64_w, i32_w]
            rfl
           refine pure_ (i := 18) (N := some 80) (v := ?_) (a' := ?_) #[true, true, true, true, true, true, true, true, true, true, true, true, true, true, true, true, true, true, true] rfl rfl (any_of HT_.out (by kernel_rfl)) (fun _ _ _ h => h) (Or.inl ⟨by rfl, ?_⟩) ?_ ?_
           rotate_left
           ·intro w'
            go_simp
            with_reducible rfl
           rotate_left
           ·simp only [Act.put, List.setIfInBounds_toArray, List.set_cons_zero, List.set_cons_succ, i64_w, i32_w]
            rfl
           refine done_ (done_of HT_.out (by kernel_rfl)) ?_
           have hcz97_0 : w96.cell? ⟨gb401, 0, none⟩ = some (.int .i64 t399) := bc BK401 0
           have hcz97_1 : w96.cell? ⟨gb401, 1, none⟩ = some (.int .u64 t400) := bc BK401 1
           have hfz97_0 := blk_frozen BK401.out 0
           have hfz97_1 := blk_frozen BK401.out 1
           have hcz98_0 : w96.cell? ⟨gb392, 0, none⟩ = some (.int .i64 x393000_2) := bc BK392 0
           have hcz98_1 : w96.cell? ⟨gb392, 1, none⟩ = some (.int .u64 x393001_2) := bc BK392 1
           have hfz98_0 := blk_frozen BK392.out 0
           have hfz98_1 := blk_frozen BK392.out 1
           try go_wp2
           go_roundg k2
           case measure => have := HJ15.out; have := HK2.out; omega
           case rel => exact ⟨(ji58), (t399), (t400), (by first | rfl | (simp; done) | (simp only [← hji58]; first | rfl | (simp; done) | (simp [mn, mx]; done)) | (simp [*]; done)), H', ⟨by have := HJ15.out; have := HK2.out; omega⟩, ⟨by (with_reducible repeat (first | refine blk_drewN ?_ _ | refine blk_drew ?_ | refine blk_alloc ?_ _)); refine blk_far ?_ NB372_392.out _; (with_reducible repeat (first | refine blk_drewN ?_ _ | refine blk_drew ?_ | refine blk_alloc ?_ _)); refine blk_far ?_ NB372_392.out _; exact blkt BK372⟩, ⟨by (with_reducible repeat (first | refine blk_drewN ?_ _ | refine blk_drew ?_ | refine blk_alloc ?_ _)); refine blk_far ?_ NB380_392.out _; (with_reducible repeat (first | refine blk_drewN ?_ _ | refine blk_drew ?_ | refine blk_alloc ?_ _)); refine blk_far ?_ NB380_392.out _; exact blkt BK380⟩, ⟨by (with_reducible repeat (first | refine blk_drewN ?_ _ | refine blk_drew ?_ | refine blk_alloc ?_ _)); refine blk_far ?_ NB381_392.out _; (with_reducible repeat (first | refine blk_drewN ?_ _ | refine blk_drew ?_ | refine blk_alloc ?_ _)); refine blk_far ?_ NB381_392.out _; exact blkt BK381⟩, ⟨by (with_reducible repeat (first | refine blk_drewN ?_ _ | refine blk_drew ?_ | refine blk_alloc ?_ _)); refine blk_put (cs := #[.int .i64 t399, .int .u64 x393001_2]) ?_ 1 _ rfl; (with_reducible repeat (first | refine blk_drewN ?_ _ | refine blk_drew ?_ | refine blk_alloc ?_ _)); refine blk_put (cs := #[.int .i64 x393000_2, .int .u64 x393001_2]) ?_ 0 _ rfl; exact blkt BK392⟩, ⟨belt HB⟩⟩
          rw [if_neg c68] at H
          have c68b0 : decide (t409 < 0) = false := decide_eq_false c68
          clear c68
          have H' := Aside0.mk H
          clear H
          have q99 : ((ji58) : Int) ≤ ((l3.length : Int) : Int) := of_decide_eq_true (by first | (with_reducible assumption) | assumption)
          obtain ⟨i099, hi099, _, hsz99, _⟩ := info_parts info31
          have hroom99 : l3.length ≤ c3 := HC3.out
          have hC99 : Kd.C k31 _ A3 l3.length l3 := HR3.out
          have hcut99 := cut_to (P := Tryz.prog) 79 31 .i64 Tryz.underlying79 hi099 A3 l3.length c3 (ji58) (of_decide_eq_true (by first | (with_reducible assumption) | assumption)) q99 hroom99
          have hr99 := Kd.C_take (m := ((ji58) : Int).toNat) hC99 (by omega)
          have hy99 : y395.length = ((ji58) : Int).toNat := (by rw [Ny395.out, List.length_take]; omega)
          rw [← Ny395.out] at hr99
          rw [← hy99] at hcut99
          have HR398 := Aside0.mk hr99
          have HC398 := Aside0.mk (show y395.length ≤ c3 from by omega)
          clear hr99 hC99 hroom99 hi099 hsz99
          have KY99 := Aside0.mk hy99
          clear hy99
          replace q99 := eq_true q99
          try go_wp2_with (first | ((with_reducible refine gate_callee (f := 49) rfl ?_); refine goesL_ (some 55) rfl rfl Tryz.func49 (by kernel_rfl) rfl #[.slice A3 y395.length c3] rfl argt ?_; (with_reducible refine (clamp_Carried.calls k2 _ _ y395 t399 t400 _ ?side1 ?side2 A61.out).mono ?_); (case side1 => exact (ct (Kd.C_below HR398.out HB.out))); (case side2 => exact HC398.out); rintro e w100 ⟨rfl, hb⟩; refine ⟨_, rfl, ?_⟩; replace BK372 := blkb BK372 hb; replace BK380 := blkb BK380 hb; replace BK381 := blkb BK381 hb; replace BK392 := blkb BK392 hb; replace HB := belb HB hb; (try clear hb); (try clear hb2); (try clear hk); (try clear hi)) | ((with_reducible refine gate_dst (N := 13) rfl ?_); refine box_event ?hg (N := 13) ?hd (cs := #[.int .i64 0, .int .u64 0]) (t := 31) ?hr ?_; (case hd => rfl); (case hg => rfl); (case hr => first | (go_simp; done) | (go_simp; rfl)); intro gb401 hg w101 hbox hb; have BK401 := Aside0.mk (hbox); have GW401 := bels HB hg; have GE401 := bels HB hg; have NB372_401 := blkl BK372 hg; have NB401_372 := blkg BK372 hg; have NB380_401 := blkl BK380 hg; have NB401_380 := blkg BK380 hg; have NB381_401 := blkl BK381 hg; have NB401_381 := blkg BK381 hg; have NB392_401 := blkl BK392 hg; have NB401_392 := blkg BK392 hg; replace BK372 := blkb BK372 hb; replace BK380 := blkb BK380 hb; replace BK381 := blkb BK381 hb; replace BK392 := blkb BK392 hb; replace HB := belb HB hb; clear hb hbox hg; have hnb102 := NB401_372.out; have hnc102 := NB372_401.out; have hnb103 := NB401_380.out; have hnc103 := NB380_401.out; have hnb104 := NB401_381.out; have hnc104 := NB381_401.out; have hnb105 := NB401_392.out; have hnc105 := NB392_401.out; have hcz106_0 : w101.cell? ⟨gb401, 0, none⟩ = some (.int .i64 0) := bc BK401 0; have hcz106_1 : w101.cell? ⟨gb401, 1, none⟩ = some (.int .u64 0) := bc BK401 1; have hfz106_0 := blk_frozen BK401.out 0; have hfz106_1 := blk_frozen BK401.out 1; have hnb107 := NB392_372.out; have hnc107 := NB372_392.out; have hnb108 := NB392_380.out; have hnc108 := NB380_392.out; have hnb109 := NB392_381.out; have hnc109 := NB381_392.out; have hcz110_0 : w101.cell? ⟨gb392, 0, none⟩ = some (.int .i64 x393000_2) := bc BK392 0; have hcz110_1 : w101.cell? ⟨gb392, 1, none⟩ = some (.int .u64 x393001_2) := bc BK392 1; have hfz110_0 := blk_frozen BK392.out 0; have hfz110_1 := blk_frozen BK392.out 1) | ((with_reducible refine gate_callee (f := 26) rfl ?_); refine goesL_ (some 59) rfl rfl Tryz.func26 (by kernel_rfl) rfl #[.agg #[.int .i64 t399, .int .u64 t400], .agg #[.int .i64 x393000_2, .int .u64 x393001_2]] rfl argt ?_; (with_reducible refine (wide_Int_Sub.calls t399 t400 x393000_2 x393001_2 t402 t403 true _ A62.out).mono ?_); rintro e w111 ⟨rfl, hb⟩; refine ⟨_, rfl, ?_⟩; replace BK372 := Aside0.mk (blk_below (g := gb372) (o := .cells #[.int .i64 a0_0, .int .u64 a0_1] 31 (0, 0)) (by (with_reducible repeat (first | refine blk_drewN ?_ _ | refine blk_drew ?_ | refine blk_alloc ?_ _)); refine blk_far ?_ NB372_401.out _; (with_reducible repeat (first | refine blk_drewN ?_ _ | refine blk_drew ?_ | refine blk_alloc ?_ _)); refine blk_far ?_ NB372_401.out _; exact blkt BK372) hb); replace BK380 := Aside0.mk (blk_below (g := gb380) (o := .cells #[.int .i64 t375, .int .u64 t376] 31 (0, 0)) (by (with_reducible repeat (first | refine blk_drewN ?_ _ | refine blk_drew ?_ | refine blk_alloc ?_ _)); refine blk_far ?_ NB380_401.out _; (with_reducible repeat (first | refine blk_drewN ?_ _ | refine blk_drew ?_ | refine blk_alloc ?_ _)); refine blk_far ?_ NB380_401.out _; exact blkt BK380) hb); replace BK381 := Aside0.mk (blk_below (g := gb381) (o := .cells #[.int .i64 t378, .int .u64 t379] 31 (0, 0)) (by (with_reducible repeat (first | refine blk_drewN ?_ _ | refine blk_drew ?_ | refine blk_alloc ?_ _)); refine blk_far ?_ NB381_401.out _; (with_reducible repeat (first | refine blk_drewN ?_ _ | refine blk_drew ?_ | refine blk_alloc ?_ _)); refine blk_far ?_ NB381_401.out _; exact blkt BK381) hb); replace BK392 := Aside0.mk (blk_below (g := gb392) (o := .cells #[.int .i64 x393000_2, .int .u64 x393001_2] 31 (0, 0)) (by (with_reducible repeat (first | refine blk_drewN ?_ _ | refine blk_drew ?_ | refine blk_alloc ?_ _)); refine blk_far ?_ NB392_401.out _; (with_reducible repeat (first | refine blk_drewN ?_ _ | refine blk_drew ?_ | refine blk_alloc ?_ _)); refine blk_far ?_ NB392_401.out _; exact blkt BK392) hb); replace BK401 := Aside0.mk (blk_below (g := gb401) (o := .cells #[.int .i64 t399, .int .u64 t400] 31 (0, 0)) (by (with_reducible repeat (first | refine blk_drewN ?_ _ | refine blk_drew ?_ | refine blk_alloc ?_ _)); refine blk_put (cs := #[.int .i64 t399, .int .u64 0]) ?_ 1 _ rfl; (with_reducible repeat (first | refine blk_drewN ?_ _ | refine blk_drew ?_ | refine blk_alloc ?_ _)); refine blk_put (cs := #[.int .i64 0, .int .u64 0]) ?_ 0 _ rfl; exact blkt BK401) hb); replace HB := belb HB hb; (try clear hb); (try clear hb2); (try clear hk); (try clear hi)) | ((with_reducible refine gate_dst (N := 14) rfl ?_); refine box_event ?hg (N := 14) ?hd (cs := #[.int .i64 0, .int .u64 0]) (t := 31) ?hr ?_; (case hd => rfl); (case hg => rfl); (case hr => first | (go_simp; done) | (go_simp; rfl)); intro gb405 hg w112 hbox hb; have BK405 := Aside0.mk (hbox); have GW405 := bels HB hg; have GE405 := bels HB hg; have NB372_405 := blkl BK372 hg; have NB405_372 := blkg BK372 hg; have NB380_405 := blkl BK380 hg; have NB405_380 := blkg BK380 hg; have NB381_405 := blkl BK381 hg; have NB405_381 := blkg BK381 hg; have NB392_405 := blkl BK392 hg; have NB405_392 := blkg BK392 hg; have NB401_405 := blkl BK401 hg; have NB405_401 := blkg BK401 hg; replace BK372 := blkb BK372 hb; replace BK380 := blkb BK380 hb; replace BK381 := blkb BK381 hb; replace BK392 := blkb BK392 hb; replace BK401 := blkb BK401 hb; replace HB := belb HB hb; clear hb hbox hg; have hnb113 := NB405_372.out; have hnc113 := NB372_405.out; have hnb114 := NB405_380.out; have hnc114 := NB380_405.out; have hnb115 := NB405_381.out; have hnc115 := NB381_405.out; have hnb116 := NB405_392.out; have hnc116 := NB392_405.out; have hnb117 := NB405_401.out; have hnc117 := NB401_405.out; have hcz118_0 : w112.cell? ⟨gb405, 0, none⟩ = some (.int .i64 0) := bc BK405 0; have hcz118_1 : w112.cell? ⟨gb405, 1, none⟩ = some (.int .u64 0) := bc BK405 1; have hfz118_0 := blk_frozen BK405.out 0; have hfz118_1 := blk_frozen BK405.out 1))
          have n0_ : Aside0 (((w112.setCell ⟨gb405, 0, none⟩ (.int .i64 t402)).setCell ⟨gb405, 1, none⟩ (.int .u64 t403)).heap[gb372]? = some (.cells #[.int .i64 a0_0, .int .u64 a0_1] 31 (0, 0))) := ⟨by (with_reducible repeat (first | refine blk_drewN ?_ _ | refine blk_drew ?_ | refine blk_alloc ?_ _)); refine blk_far ?_ NB372_405.out _; (with_reducible repeat (first | refine blk_drewN ?_ _ | refine blk_drew ?_ | refine blk_alloc ?_ _)); refine blk_far ?_ NB372_405.out _; exact blkt BK372⟩
          have n1_ : Aside0 (((w112.setCell ⟨gb405, 0, none⟩ (.int .i64 t402)).setCell ⟨gb405, 1, none⟩ (.int .u64 t403)).heap[gb380]? = some (.cells #[.int .i64 t375, .int .u64 t376] 31 (0, 0))) := ⟨by (with_reducible repeat (first | refine blk_drewN ?_ _ | refine blk_drew ?_ | refine blk_alloc ?_ _)); refine blk_far ?_ NB380_405.out _; (with_reducible repeat (first | refine blk_drewN ?_ _ | refine blk_drew ?_ | refine blk_alloc ?_ _)); refine blk_far ?_ NB380_405.out _; exact blkt BK380⟩
          have n2_ : Aside0 (((w112.setCell ⟨gb405, 0, none⟩ (.int .i64 t402)).setCell ⟨gb405, 1, none⟩ (.int .u64 t403)).heap[gb381]? = some (.cells #[.int .i64 t378, .int .u64 t379] 31 (0, 0))) := ⟨by (with_reducible repeat (first | refine blk_drewN ?_ _ | refine blk_drew ?_ | refine blk_alloc ?_ _)); refine blk_far ?_ NB381_405.out _; (with_reducible repeat (first | refine blk_drewN ?_ _ | refine blk_drew ?_ | refine blk_alloc ?_ _)); refine blk_far ?_ NB381_405.out _; exact blkt BK381⟩
          have n3_ : Aside0 (((w112.setCell ⟨gb405, 0, none⟩ (.int .i64 t402)).setCell ⟨gb405, 1, none⟩ (.int .u64 t403)).heap[gb392]? = some (.cells #[.int .i64 x393000_2, .int .u64 x393001_2] 31 (0, 0))) := ⟨by (with_reducible repeat (first | refine blk_drewN ?_ _ | refine blk_drew ?_ | refine blk_alloc ?_ _)); refine blk_far ?_ NB392_405.out _; (with_reducible repeat (first | refine blk_drewN ?_ _ | refine blk_drew ?_ | refine blk_alloc ?_ _)); refine blk_far ?_ NB392_405.out _; exact blkt BK392⟩
          have n4_ : Aside0 (((w112.setCell ⟨gb405, 0, none⟩ (.int .i64 t402)).setCell ⟨gb405, 1, none⟩ (.int .u64 t403)).heap[gb401]? = some (.cells #[.int .i64 t399, .int .u64 t400] 31 (0, 0))) := ⟨by (with_reducible repeat (first | refine blk_drewN ?_ _ | refine blk_drew ?_ | refine blk_alloc ?_ _)); refine blk_far ?_ NB401_405.out _; (with_reducible repeat (first | refine blk_drewN ?_ _ | refine blk_drew ?_ | refine blk_alloc ?_ _)); refine blk_far ?_ NB401_405.out _; exact blkt BK401⟩
          have n5_ : Aside0 (((w112.setCell ⟨gb405, 0, none⟩ (.int .i64 t402)).setCell ⟨gb405, 1, none⟩ (.int .u64 t403)).heap[gb405]? = some (.cells #[.int .i64 t402, .int .u64 t403] 31 (0, 0))) := ⟨by (with_reducible repeat (first | refine blk_drewN ?_ _ | refine blk_drew ?_ | refine blk_alloc ?_ _)); refine blk_put (cs := #[.int .i64 t402, .int .u64 0]) ?_ 1 _ rfl; (with_reducible repeat (first | refine blk_drewN ?_ _ | refine blk_drew ?_ | refine blk_alloc ?_ _)); refine blk_put (cs := #[.int .i64 0, .int .u64 0]) ?_ 0 _ rfl; exact blkt BK405⟩
          have n6_ : Aside0 (Below w.heap.size w ((w112.setCell ⟨gb405, 0, none⟩ (.int .i64 t402)).setCell ⟨gb405, 1, none⟩ (.int .u64 t403))) := ⟨belt HB⟩
          (try clear BK372)
          (try clear BK380)
          (try clear BK381)
          (try clear BK392)
          (try clear BK401)
          (try clear BK405)
          (try clear HB)
          generalize ((w112.setCell ⟨gb405, 0, none⟩ (.int .i64 t402)).setCell ⟨gb405, 1, none⟩ (.int .u64 t403)) = w119 at n0_ n1_ n2_ n3_ n4_ n5_ n6_ ⊢
          have BK372 := n0_
          have BK380 := n1_
          have BK381 := n2_
          have BK392 := n3_
          have BK401 := n4_
          have BK405 := n5_
          have HB := n6_
          clear n0_ n1_ n2_ n3_ n4_ n5_ n6_
          replace BK372 := Aside0.mk (blk_drew BK372.out)
          replace BK380 := Aside0.mk (blk_drew BK380.out)
          replace BK381 := Aside0.mk (blk_drew BK381.out)
          replace BK392 := Aside0.mk (blk_drew BK392.out)
          replace BK401 := Aside0.mk (blk_drew BK401.out)
          replace BK405 := Aside0.mk (blk_drew BK405.out)
          replace HB := Aside0.mk (below_drew1 HB.out)
          refine start_ (n := 19) (S := fun w' => w'.cell? ⟨gb401, 0, none⟩ = some (.int .i64 t399) ∧ w'.cell? ⟨gb401, 1, none⟩ = some (.int .u64 t400) ∧ w'.cell? ⟨gb392, 0, none⟩ = some (.int .i64 x393000_2) ∧ w'.cell? ⟨gb392, 1, none⟩ = some (.int .u64 x393001_2) ∧ w'.cell? ⟨gb405, 0, none⟩ = some (.int .i64 t402) ∧ w'.cell? ⟨gb405, 1, none⟩ = some (.int .u64 t403)) (ds := []) #[false, false, false, false, false, false, false, false, false, false, false, false, false, false, false, false, false, false, false] (by kernel_rfl) rfl rfl ⟨bc BK401 0, bc BK401 1, bc BK392 0, bc BK392 1, bc BK405 0, bc BK405 1⟩ (fun hHeld => ?_); refine with_tabW turnstonelaw12_ClampGrows.tab14 turnstonelaw12_ClampGrows.bits14 (fun HT_ HW_ => ?_)
          generalize w119.drew = w120 at BK372 BK380 BK381 BK392 BK401 BK405 HB hHeld ⊢
          refine take_ (i := 0) (N := some 62) (v := ?_) (a' := ?_) #[true, false, false, false, false, false, false, false, false, false, false, false, false, false, false, false, false, false, false] rfl rfl (take_ofW HT_.out HW_.out (by kernel_rfl)) (fun _ _ _ h => h) (Or.inl ⟨by rfl, ?_⟩) hHeld ?_ ?_
          rotate_left
          ·rintro w' ⟨s0, s1, s2, s3, s4, s5⟩
           go_simp
           with_reducible rfl
          rotate_left
          ·simp only [Act.put, List.setIfInBounds_toArray, List.set_cons_zero, List.set_cons_succ, i64_w, i32_w]
           rfl
          refine take_ (i := 1) (N := some 63) (v := ?_) (a' := ?_) #[true, true, false, false, false, false, false, false, false, false, false, false, false, false, false, false, false, false, false] rfl rfl (take_ofW HT_.out HW_.out (by kernel_rfl)) (fun _ _ _ h => h) (Or.inl ⟨by rfl, ?_⟩) hHeld ?_ ?_
          rotate_left
          ·rintro w' ⟨s0, s1, s2, s3, s4, s5⟩
           go_simp
           with_reducible rfl
          rotate_left
          ·simp only [Act.put, List.setIfInBounds_toArray, List.set_cons_zero, List.set_cons_succ, i64_w, i32_w]
           rfl
          refine one_ (i := 2) (N := some 64) #[true, true, true, false, false, false, false, false, false, false, false, false, false, false, false, false, false, false, false] rfl rfl (one_of HT_.out (by kernel_rfl)) (by decide) (fun K hK => ?_)
          refine goes_ Tryz.func41 (by kernel_rfl) rfl #[.agg #[.int .i64 t399, .int .u64 t400], .agg #[.int .i64 x393000_2, .int .u64 x393001_2]] (by rfl) rfl rfl argt ?_
          with_reducible refine (wide_Int_Cmp.calls k2 t399 t400 x393000_2 x393001_2 t406 _ A63.out).mono ?_
          rintro e w121 ⟨rfl, hb⟩
          refine ⟨_, rfl, ?_⟩
          replace BK372 := blkb BK372 hb
          replace BK380 := blkb BK380 hb
          replace BK381 := blkb BK381 hb
          replace BK392 := blkb BK392 hb
          replace BK401 := blkb BK401 hb
          replace BK405 := blkb BK405 hb
          replace HB := belb HB hb
          (try clear hb)
          (try clear hb2)
          (try clear hk)
          (try clear hi)
          refine hK.out _ _ ⟨bc BK401 0, bc BK401 1, bc BK392 0, bc BK392 1, bc BK405 0, bc BK405 1⟩ (fun hHeld => ?_)
          clear hK K
          refine norm_ (a' := ?_) ?_ ?_
          rotate_left
          ·show Act.put _ (some 64) _ = _
           simp only [Act.put, List.setIfInBounds_toArray, List.set_cons_zero, List.set_cons_succ, i64_w, i32_w]
           rfl
          refine pure_ (i := 3) (N := some 65) (v := ?_) (a' := ?_) #[true, true, true, true, false, false, false, false, false, false, false, false, false, false, false, false, false, false, false] rfl rfl (any_of HT_.out (by kernel_rfl)) (fun _ _ _ h => h) (Or.inl ⟨by rfl, ?_⟩) ?_ ?_
          rotate_left
          ·intro w'
           go_simp
           with_reducible rfl
          rotate_left
          ·simp only [Act.put, List.setIfInBounds_toArray, List.set_cons_zero, List.set_cons_succ, i64_w, i32_w]
           rfl
          refine pure_ (i := 4) (N := some 66) (v := ?_) (a' := ?_) #[true, true, true, true, true, false, false, false, false, false, false, false, false, false, false, false, false, false, false] rfl rfl (any_of HT_.out (by kernel_rfl)) (fun _ _ _ h => h) (Or.inl ⟨by rfl, ?_⟩) ?_ ?_
          rotate_left
          ·intro w'
           go_simp
           with_reducible rfl
          rotate_left
          ·simp only [Act.put, List.setIfInBounds_toArray, List.set_cons_zero, List.set_cons_succ, i64_w, i32_w]
           rfl
          refine pure_ (i := 5) (N := some 67) (v := ?_) (a' := ?_) #[true, true, true, true, true, true, false, false, false, false, false, false, false, false, false, false, false, false, false] rfl rfl (any_of HT_.out (by kernel_rfl)) (fun _ _ _ h => h) (Or.inl ⟨by rfl, ?_⟩) ?_ ?_
          rotate_left
          ·intro w'
           go_simp
           with_reducible rfl
          rotate_left
          ·simp only [Act.put, List.setIfInBounds_toArray, List.set_cons_zero, List.set_cons_succ, i64_w, i32_w]
           rfl
          refine pure_ (i := 6) (N := some 68) (v := ?_) (a' := ?_) #[true, true, true, true, true, true, true, false, false, false, false, false, false, false, false, false, false, false, false] rfl rfl (any_of HT_.out (by kernel_rfl)) (fun _ _ _ h => h) (Or.inl ⟨by rfl, ?_⟩) ?_ ?_
          rotate_left
          ·intro w'
           go_simp
           with_reducible rfl
          rotate_left
          ·simp only [Act.put, List.setIfInBounds_toArray, List.set_cons_zero, List.set_cons_succ, i64_w, i32_w]
           rfl
          refine take_ (i := 7) (N := some 69) (v := ?_) (a' := ?_) #[true, true, true, true, true, true, true, true, false, false, false, false, false, false, false, false, false, false, false] rfl rfl (take_ofW HT_.out HW_.out (by kernel_rfl)) (fun _ _ _ h => h) (Or.inl ⟨by rfl, ?_⟩) hHeld ?_ ?_
          rotate_left
          ·rintro w' ⟨s0, s1, s2, s3, s4, s5⟩
           go_simp
           with_reducible rfl
          rotate_left
          ·simp only [Act.put, List.setIfInBounds_toArray, List.set_cons_zero, List.set_cons_succ, i64_w, i32_w]
           rfl
          refine one_ (i := 8) (N := some 70) #[true, true, true, true, true, true, true, true, true, false, false, false, false, false, false, false, false, false, false] rfl rfl (one_of HT_.out (by kernel_rfl)) (by decide) (fun K hK => ?_)
          refine goes_ Tryz.func31 (by kernel_rfl) rfl #[.int .i64 2] (by rfl) rfl rfl argt ?_
          with_reducible refine (wide_Of.calls 2 t407 t408 _ A66.out).mono ?_
          rintro e w122 ⟨rfl, hb⟩
          refine ⟨_, rfl, ?_⟩
          replace BK372 := blkb BK372 hb
          replace BK380 := blkb BK380 hb
          replace BK381 := blkb BK381 hb
          replace BK392 := blkb BK392 hb
          replace BK401 := blkb BK401 hb
          replace BK405 := blkb BK405 hb
          replace HB := belb HB hb
          (try clear hb)
          (try clear hb2)
          (try clear hk)
          (try clear hi)
          refine hK.out _ _ ⟨bc BK401 0, bc BK401 1, bc BK392 0, bc BK392 1, bc BK405 0, bc BK405 1⟩ (fun hHeld => ?_)
          clear hK K
          refine norm_ (a' := ?_) ?_ ?_
          rotate_left
          ·show Act.put _ (some 70) _ = _
           simp only [Act.put, List.setIfInBounds_toArray, List.set_cons_zero, List.set_cons_succ, i64_w, i32_w]
           rfl
          refine one_ (i := 9) (N := some 71) #[true, true, true, true, true, true, true, true, true, true, false, false, false, false, false, false, false, false, false] rfl rfl (one_of HT_.out (by kernel_rfl)) (by decide) (fun K hK => ?_)
          refine goes_ Tryz.func41 (by kernel_rfl) rfl #[.agg #[.int .i64 t402, .int .u64 t403], .agg #[.int .i64 t407, .int .u64 t408]] (by rfl) rfl rfl argt ?_
          with_reducible refine (wide_Int_Cmp.calls k2 t402 t403 t407 t408 t409 _ A67.out).mono ?_
          rintro e w123 ⟨rfl, hb⟩
          refine ⟨_, rfl, ?_⟩
          replace BK372 := blkb BK372 hb
          replace BK380 := blkb BK380 hb
          replace BK381 := blkb BK381 hb
          replace BK392 := blkb BK392 hb
          replace BK401 := blkb BK401 hb
          replace BK405 := blkb BK405 hb
          replace HB := belb HB hb
          (try clear hb)
          (try clear hb2)
          (try clear hk)
          (try clear hi)
          refine hK.out _ _ ⟨bc BK401 0, bc BK401 1, bc BK392 0, bc BK392 1, bc BK405 0, bc BK405 1⟩ (fun hHeld => ?_)
          clear hK K
          refine norm_ (a' := ?_) ?_ ?_
          rotate_left
          ·show Act.put _ (some 71) _ = _
           simp only [Act.put, List.setIfInBounds_toArray, List.set_cons_zero, List.set_cons_succ, i64_w, i32_w]
           rfl
          refine pure_ (i := 10) (N := some 72) (v := ?_) (a' := ?_) #[true, true, true, true, true, true, true, true, true, true, true, false, false, false, false, false, false, false, false] rfl rfl (any_of HT_.out (by kernel_rfl)) (fun _ _ _ h => h) (Or.inl ⟨by rfl, ?_⟩) ?_ ?_
          rotate_left
          ·intro w'
           go_simp
           with_reducible rfl
          rotate_left
          ·simp only [Act.put, List.setIfInBounds_toArray, List.set_cons_zero, List.set_cons_succ, i64_w, i32_w]
           rfl
          refine pure_ (i := 11) (N := some 73) (v := ?_) (a' := ?_) #[true, true, true, true, true, true, true, true, true, true, true, true, false, false, false, false, false, false, false] rfl rfl (any_of HT_.out (by kernel_rfl)) (fun _ _ _ h => h) (Or.inl ⟨by rfl, ?_⟩) ?_ ?_
          rotate_left
          ·intro w'
           go_simp
           with_reducible rfl
          rotate_left
          ·simp only [Act.put, List.setIfInBounds_toArray, List.set_cons_zero, List.set_cons_succ, i64_w, i32_w]
           rfl
          refine pure_ (i := 12) (N := some 74) (v := ?_) (a' := ?_) #[true, true, true, true, true, true, true, true, true, true, true, true, true, false, false, false, false, false, false] rfl rfl (any_of HT_.out (by kernel_rfl)) (fun _ _ _ h => h) (Or.inl ⟨by rfl, ?_⟩) ?_ ?_
          rotate_left
          ·intro w'
           go_simp
           with_reducible rfl
          rotate_left
          ·simp only [Act.put, List.setIfInBounds_toArray, List.set_cons_zero, List.set_cons_succ, i64_w, i32_w]
           rfl
          refine pure_ (i := 13) (N := some 75) (v := undef) (a' := ?_) #[true, true, true, true, true, true, true, true, true, true, true, true, true, true, false, false, false, false, false] rfl rfl (any_of HT_.out (by kernel_rfl)) (fun _ _ _ h => h) (Or.inr ⟨by rfl, rfl⟩) ?_ ?_
          rotate_left
          ·simp only [Act.put, List.setIfInBounds_toArray, List.set_cons_zero, List.set_cons_succ, i64_w, i32_w]
           rfl
          refine pure_ (i := 14) (N := some 76) (v := undef) (a' := ?_) #[true, true, true, true, true, true, true, true, true, true, true, true, true, true, true, false, false, false, false] rfl rfl (any_of HT_.out (by kernel_rfl)) (fun _ _ _ h => h) (Or.inr ⟨by rfl, rfl⟩) ?_ ?_
          rotate_left
          ·simp only [Act.put, List.setIfInBounds_toArray, List.set_cons_zero, List.set_cons_succ, i64_w, i32_w]
           rfl
          refine pure_ (i := 15) (N := some 77) (v := undef) (a' := ?_) #[true, true, true, true, true, true, true, true, true, true, true, true, true, true, true, true, false, false, false] rfl rfl (any_of HT_.out (by kernel_rfl)) (fun _ _ _ h => h) (Or.inr ⟨by rfl, rfl⟩) ?_ ?_
          rotate_left
          ·simp only [Act.put, List.setIfInBounds_toArray, List.set_cons_zero, List.set_cons_succ, i64_w, i32_w]
           rfl
          refine pure_ (i := 16) (N := some 78) (v := undef) (a' := ?_) #[true, true, true, true, true, true, true, true, true, true, true, true, true, true, true, true, true, false, false] rfl rfl (any_of HT_.out (by kernel_rfl)) (fun _ _ _ h => h) (Or.inr ⟨by rfl, rfl⟩) ?_ ?_
          rotate_left
          ·simp only [Act.put, List.setIfInBounds_toArray, List.set_cons_zero, List.set_cons_succ, i64_w, i32_w]
           rfl
          refine pure_ (i := 17) (N := some 79) (v := ?_) (a' := ?_) #[true, true, true, true, true, true, true, true, true, true, true, true, true, true, true, true, true, true, false] rfl rfl (any_of HT_.out (by kernel_rfl)) (fun _ _ _ h => h) (Or.inl ⟨by rfl, ?_⟩) ?_ ?_
          rotate_left
          ·intro w'
           go_simp
           with_reducible rfl
          rotate_left
          ·simp only [Act.put, List.setIfInBounds_toArray, List.set_cons_zero, List.set_cons_succ, i64_w, i32_w]
           rfl
          refine pure_ (i := 18) (N := some 80) (v := ?_) (a' := ?_) #[true, true, true, true, true, true, true, true, true, true, true, true, true, true, true, true, true, true, true] rfl rfl (any_of HT_.out (by kernel_rfl)) (fun _ _ _ h => h) (Or.inl ⟨by rfl, ?_⟩) ?_ ?_
          rotate_left
          ·intro w'
           go_simp
           with_reducible rfl
          rotate_left
          ·simp only [Act.put, List.setIfInBounds_toArray, List.set_cons_zero, List.set_cons_succ, i64_w, i32_w]
           rfl
          refine done_ (done_of HT_.out (by kernel_rfl)) ?_
          have hcz124_0 : w123.cell? ⟨gb401, 0, none⟩ = some (.int .i64 t399) := bc BK401 0
          have hcz124_1 : w123.cell? ⟨gb401, 1, none⟩ = some (.int .u64 t400) := bc BK401 1
          have hfz124_0 := blk_frozen BK401.out 0
          have hfz124_1 := blk_frozen BK401.out 1
          have hcz125_0 : w123.cell? ⟨gb392, 0, none⟩ = some (.int .i64 x393000_2) := bc BK392 0
          have hcz125_1 : w123.cell? ⟨gb392, 1, none⟩ = some (.int .u64 x393001_2) := bc BK392 1
          have hfz125_0 := blk_frozen BK392.out 0
          have hfz125_1 := blk_frozen BK392.out 1
          try go_wp2
          go_roundg k2
          case measure => have := HJ15.out; have := HK2.out; omega
          case rel => exact ⟨(ji58), (t399), (t400), (by first | rfl | (simp; done) | (simp only [← hji58]; first | rfl | (simp; done) | (simp [mn, mx]; done)) | (simp [*]; done)), H', ⟨by have := HJ15.out; have := HK2.out; omega⟩, ⟨by (with_reducible repeat (first | refine blk_drewN ?_ _ | refine blk_drew ?_ | refine blk_alloc ?_ _)); refine blk_far ?_ NB372_392.out _; (with_reducible repeat (first | refine blk_drewN ?_ _ | refine blk_drew ?_ | refine blk_alloc ?_ _)); refine blk_far ?_ NB372_392.out _; exact blkt BK372⟩, ⟨by (with_reducible repeat (first | refine blk_drewN ?_ _ | refine blk_drew ?_ | refine blk_alloc ?_ _)); refine blk_far ?_ NB380_392.out _; (with_reducible repeat (first | refine blk_drewN ?_ _ | refine blk_drew ?_ | refine blk_alloc ?_ _)); refine blk_far ?_ NB380_392.out _; exact blkt BK380⟩, ⟨by (with_reducible repeat (first | refine blk_drewN ?_ _ | refine blk_drew ?_ | refine blk_alloc ?_ _)); refine blk_far ?_ NB381_392.out _; (with_reducible repeat (first | refine blk_drewN ?_ _ | refine blk_drew ?_ | refine blk_alloc ?_ _)); refine blk_far ?_ NB381_392.out _; exact blkt BK381⟩, ⟨by (with_reducible repeat (first | refine blk_drewN ?_ _ | refine blk_drew ?_ | refine blk_alloc ?_ _)); refine blk_put (cs := #[.int .i64 t399, .int .u64 x393001_2]) ?_ 1 _ rfl; (with_reducible repeat (first | refine blk_drewN ?_ _ | refine blk_drew ?_ | refine blk_alloc ?_ _)); refine blk_put (cs := #[.int .i64 x393000_2, .int .u64 x393001_2]) ?_ 0 _ rfl; exact blkt BK392⟩, ⟨belt HB⟩⟩
         replace c65 := Bool.eq_false_iff.mpr c65
         subst c65
         have H1 : (turnstonelaw12_ClampGrows.l0 k2 l3 (l3.length : Int) ji58 t399 t400) = some r := by rw [if_neg (show ¬ (false = true) by decide)] at H; exact H
         clear H
         have H := H1
         clear H1
         have H' := Aside0.mk H
         clear H
         have q126 : ((ji58) : Int) ≤ ((l3.length : Int) : Int) := of_decide_eq_true (by first | (with_reducible assumption) | assumption)
         obtain ⟨i0126, hi0126, _, hsz126, _⟩ := info_parts info31
         have hroom126 : l3.length ≤ c3 := HC3.out
         have hC126 : Kd.C k31 _ A3 l3.length l3 := HR3.out
         have hcut126 := cut_to (P := Tryz.prog) 79 31 .i64 Tryz.underlying79 hi0126 A3 l3.length c3 (ji58) (of_decide_eq_true (by first | (with_reducible assumption) | assumption)) q126 hroom126
         have hr126 := Kd.C_take (m := ((ji58) : Int).toNat) hC126 (by omega)
         have hy126 : y395.length = ((ji58) : Int).toNat := (by rw [Ny395.out, List.length_take]; omega)
         rw [← Ny395.out] at hr126
         rw [← hy126] at hcut126
         have HR398 := Aside0.mk hr126
         have HC398 := Aside0.mk (show y395.length ≤ c3 from by omega)
         clear hr126 hC126 hroom126 hi0126 hsz126
         have KY126 := Aside0.mk hy126
         clear hy126
         replace q126 := eq_true q126
         try go_wp2_with (first | ((with_reducible refine gate_callee (f := 49) rfl ?_); refine goesL_ (some 55) rfl rfl Tryz.func49 (by kernel_rfl) rfl #[.slice A3 y395.length c3] rfl argt ?_; (with_reducible refine (clamp_Carried.calls k2 _ _ y395 t399 t400 _ ?side1 ?side2 A61.out).mono ?_); (case side1 => exact (ct (Kd.C_below HR398.out HB.out))); (case side2 => exact HC398.out); rintro e w127 ⟨rfl, hb⟩; refine ⟨_, rfl, ?_⟩; replace BK372 := blkb BK372 hb; replace BK380 := blkb BK380 hb; replace BK381 := blkb BK381 hb; replace BK392 := blkb BK392 hb; replace HB := belb HB hb; (try clear hb); (try clear hb2); (try clear hk); (try clear hi)) | ((with_reducible refine gate_dst (N := 13) rfl ?_); refine box_event ?hg (N := 13) ?hd (cs := #[.int .i64 0, .int .u64 0]) (t := 31) ?hr ?_; (case hd => rfl); (case hg => rfl); (case hr => first | (go_simp; done) | (go_simp; rfl)); intro gb401 hg w128 hbox hb; have BK401 := Aside0.mk (hbox); have GW401 := bels HB hg; have GE401 := bels HB hg; have NB372_401 := blkl BK372 hg; have NB401_372 := blkg BK372 hg; have NB380_401 := blkl BK380 hg; have NB401_380 := blkg BK380 hg; have NB381_401 := blkl BK381 hg; have NB401_381 := blkg BK381 hg; have NB392_401 := blkl BK392 hg; have NB401_392 := blkg BK392 hg; replace BK372 := blkb BK372 hb; replace BK380 := blkb BK380 hb; replace BK381 := blkb BK381 hb; replace BK392 := blkb BK392 hb; replace HB := belb HB hb; clear hb hbox hg; have hnb129 := NB401_372.out; have hnc129 := NB372_401.out; have hnb130 := NB401_380.out; have hnc130 := NB380_401.out; have hnb131 := NB401_381.out; have hnc131 := NB381_401.out; have hnb132 := NB401_392.out; have hnc132 := NB392_401.out; have hcz133_0 : w128.cell? ⟨gb401, 0, none⟩ = some (.int .i64 0) := bc BK401 0; have hcz133_1 : w128.cell? ⟨gb401, 1, none⟩ = some (.int .u64 0) := bc BK401 1; have hfz133_0 := blk_frozen BK401.out 0; have hfz133_1 := blk_frozen BK401.out 1; have hnb134 := NB392_372.out; have hnc134 := NB372_392.out; have hnb135 := NB392_380.out; have hnc135 := NB380_392.out; have hnb136 := NB392_381.out; have hnc136 := NB381_392.out; have hcz137_0 : w128.cell? ⟨gb392, 0, none⟩ = some (.int .i64 x393000_2) := bc BK392 0; have hcz137_1 : w128.cell? ⟨gb392, 1, none⟩ = some (.int .u64 x393001_2) := bc BK392 1; have hfz137_0 := blk_frozen BK392.out 0; have hfz137_1 := blk_frozen BK392.out 1) | ((with_reducible refine gate_callee (f := 26) rfl ?_); refine goesL_ (some 59) rfl rfl Tryz.func26 (by kernel_rfl) rfl #[.agg #[.int .i64 t399, .int .u64 t400], .agg #[.int .i64 x393000_2, .int .u64 x393001_2]] rfl argt ?_; (with_reducible refine (wide_Int_Sub.calls t399 t400 x393000_2 x393001_2 t402 t403 false _ A62.out).mono ?_); rintro e w138 ⟨rfl, hb⟩; refine ⟨_, rfl, ?_⟩; replace BK372 := Aside0.mk (blk_below (g := gb372) (o := .cells #[.int .i64 a0_0, .int .u64 a0_1] 31 (0, 0)) (by (with_reducible repeat (first | refine blk_drewN ?_ _ | refine blk_drew ?_ | refine blk_alloc ?_ _)); refine blk_far ?_ NB372_401.out _; (with_reducible repeat (first | refine blk_drewN ?_ _ | refine blk_drew ?_ | refine blk_alloc ?_ _)); refine blk_far ?_ NB372_401.out _; exact blkt BK372) hb); replace BK380 := Aside0.mk (blk_below (g := gb380) (o := .cells #[.int .i64 t375, .int .u64 t376] 31 (0, 0)) (by (with_reducible repeat (first | refine blk_drewN ?_ _ | refine blk_drew ?_ | refine blk_alloc ?_ _)); refine blk_far ?_ NB380_401.out _; (with_reducible repeat (first | refine blk_drewN ?_ _ | refine blk_drew ?_ | refine blk_alloc ?_ _)); refine blk_far ?_ NB380_401.out _; exact blkt BK380) hb); replace BK381 := Aside0.mk (blk_below (g := gb381) (o := .cells #[.int .i64 t378, .int .u64 t379] 31 (0, 0)) (by (with_reducible repeat (first | refine blk_drewN ?_ _ | refine blk_drew ?_ | refine blk_alloc ?_ _)); refine blk_far ?_ NB381_401.out _; (with_reducible repeat (first | refine blk_drewN ?_ _ | refine blk_drew ?_ | refine blk_alloc ?_ _)); refine blk_far ?_ NB381_401.out _; exact blkt BK381) hb); replace BK392 := Aside0.mk (blk_below (g := gb392) (o := .cells #[.int .i64 x393000_2, .int .u64 x393001_2] 31 (0, 0)) (by (with_reducible repeat (first | refine blk_drewN ?_ _ | refine blk_drew ?_ | refine blk_alloc ?_ _)); refine blk_far ?_ NB392_401.out _; (with_reducible repeat (first | refine blk_drewN ?_ _ | refine blk_drew ?_ | refine blk_alloc ?_ _)); refine blk_far ?_ NB392_401.out _; exact blkt BK392) hb); replace BK401 := Aside0.mk (blk_below (g := gb401) (o := .cells #[.int .i64 t399, .int .u64 t400] 31 (0, 0)) (by (with_reducible repeat (first | refine blk_drewN ?_ _ | refine blk_drew ?_ | refine blk_alloc ?_ _)); refine blk_put (cs := #[.int .i64 t399, .int .u64 0]) ?_ 1 _ rfl; (with_reducible repeat (first | refine blk_drewN ?_ _ | refine blk_drew ?_ | refine blk_alloc ?_ _)); refine blk_put (cs := #[.int .i64 0, .int .u64 0]) ?_ 0 _ rfl; exact blkt BK401) hb); replace HB := belb HB hb; (try clear hb); (try clear hb2); (try clear hk); (try clear hi)) | ((with_reducible refine gate_dst (N := 14) rfl ?_); refine box_event ?hg (N := 14) ?hd (cs := #[.int .i64 0, .int .u64 0]) (t := 31) ?hr ?_; (case hd => rfl); (case hg => rfl); (case hr => first | (go_simp; done) | (go_simp; rfl)); intro gb405 hg w139 hbox hb; have BK405 := Aside0.mk (hbox); have GW405 := bels HB hg; have GE405 := bels HB hg; have NB372_405 := blkl BK372 hg; have NB405_372 := blkg BK372 hg; have NB380_405 := blkl BK380 hg; have NB405_380 := blkg BK380 hg; have NB381_405 := blkl BK381 hg; have NB405_381 := blkg BK381 hg; have NB392_405 := blkl BK392 hg; have NB405_392 := blkg BK392 hg; have NB401_405 := blkl BK401 hg; have NB405_401 := blkg BK401 hg; replace BK372 := blkb BK372 hb; replace BK380 := blkb BK380 hb; replace BK381 := blkb BK381 hb; replace BK392 := blkb BK392 hb; replace BK401 := blkb BK401 hb; replace HB := belb HB hb; clear hb hbox hg; have hnb140 := NB405_372.out; have hnc140 := NB372_405.out; have hnb141 := NB405_380.out; have hnc141 := NB380_405.out; have hnb142 := NB405_381.out; have hnc142 := NB381_405.out; have hnb143 := NB405_392.out; have hnc143 := NB392_405.out; have hnb144 := NB405_401.out; have hnc144 := NB401_405.out; have hcz145_0 : w139.cell? ⟨gb405, 0, none⟩ = some (.int .i64 0) := bc BK405 0; have hcz145_1 : w139.cell? ⟨gb405, 1, none⟩ = some (.int .u64 0) := bc BK405 1; have hfz145_0 := blk_frozen BK405.out 0; have hfz145_1 := blk_frozen BK405.out 1))
         have n0_ : Aside0 (((w139.setCell ⟨gb405, 0, none⟩ (.int .i64 t402)).setCell ⟨gb405, 1, none⟩ (.int .u64 t403)).heap[gb372]? = some (.cells #[.int .i64 a0_0, .int .u64 a0_1] 31 (0, 0))) := ⟨by (with_reducible repeat (first | refine blk_drewN ?_ _ | refine blk_drew ?_ | refine blk_alloc ?_ _)); refine blk_far ?_ NB372_405.out _; (with_reducible repeat (first | refine blk_drewN ?_ _ | refine blk_drew ?_ | refine blk_alloc ?_ _)); refine blk_far ?_ NB372_405.out _; exact blkt BK372⟩
         have n1_ : Aside0 (((w139.setCell ⟨gb405, 0, none⟩ (.int .i64 t402)).setCell ⟨gb405, 1, none⟩ (.int .u64 t403)).heap[gb380]? = some (.cells #[.int .i64 t375, .int .u64 t376] 31 (0, 0))) := ⟨by (with_reducible repeat (first | refine blk_drewN ?_ _ | refine blk_drew ?_ | refine blk_alloc ?_ _)); refine blk_far ?_ NB380_405.out _; (with_reducible repeat (first | refine blk_drewN ?_ _ | refine blk_drew ?_ | refine blk_alloc ?_ _)); refine blk_far ?_ NB380_405.out _; exact blkt BK380⟩
         have n2_ : Aside0 (((w139.setCell ⟨gb405, 0, none⟩ (.int .i64 t402)).setCell ⟨gb405, 1, none⟩ (.int .u64 t403)).heap[gb381]? = some (.cells #[.int .i64 t378, .int .u64 t379] 31 (0, 0))) := ⟨by (with_reducible repeat (first | refine blk_drewN ?_ _ | refine blk_drew ?_ | refine blk_alloc ?_ _)); refine blk_far ?_ NB381_405.out _; (with_reducible repeat (first | refine blk_drewN ?_ _ | refine blk_drew ?_ | refine blk_alloc ?_ _)); refine blk_far ?_ NB381_405.out _; exact blkt BK381⟩
         have n3_ : Aside0 (((w139.setCell ⟨gb405, 0, none⟩ (.int .i64 t402)).setCell ⟨gb405, 1, none⟩ (.int .u64 t403)).heap[gb392]? = some (.cells #[.int .i64 x393000_2, .int .u64 x393001_2] 31 (0, 0))) := ⟨by (with_reducible repeat (first | refine blk_drewN ?_ _ | refine blk_drew ?_ | refine blk_alloc ?_ _)); refine blk_far ?_ NB392_405.out _; (with_reducible repeat (first | refine blk_drewN ?_ _ | refine blk_drew ?_ | refine blk_alloc ?_ _)); refine blk_far ?_ NB392_405.out _; exact blkt BK392⟩
         have n4_ : Aside0 (((w139.setCell ⟨gb405, 0, none⟩ (.int .i64 t402)).setCell ⟨gb405, 1, none⟩ (.int .u64 t403)).heap[gb401]? = some (.cells #[.int .i64 t399, .int .u64 t400] 31 (0, 0))) := ⟨by (with_reducible repeat (first | refine blk_drewN ?_ _ | refine blk_drew ?_ | refine blk_alloc ?_ _)); refine blk_far ?_ NB401_405.out _; (with_reducible repeat (first | refine blk_drewN ?_ _ | refine blk_drew ?_ | refine blk_alloc ?_ _)); refine blk_far ?_ NB401_405.out _; exact blkt BK401⟩
         have n5_ : Aside0 (((w139.setCell ⟨gb405, 0, none⟩ (.int .i64 t402)).setCell ⟨gb405, 1, none⟩ (.int .u64 t403)).heap[gb405]? = some (.cells #[.int .i64 t402, .int .u64 t403] 31 (0, 0))) := ⟨by (with_reducible repeat (first | refine blk_drewN ?_ _ | refine blk_drew ?_ | refine blk_alloc ?_ _)); refine blk_put (cs := #[.int .i64 t402, .int .u64 0]) ?_ 1 _ rfl; (with_reducible repeat (first | refine blk_drewN ?_ _ | refine blk_drew ?_ | refine blk_alloc ?_ _)); refine blk_put (cs := #[.int .i64 0, .int .u64 0]) ?_ 0 _ rfl; exact blkt BK405⟩
         have n6_ : Aside0 (Below w.heap.size w ((w139.setCell ⟨gb405, 0, none⟩ (.int .i64 t402)).setCell ⟨gb405, 1, none⟩ (.int .u64 t403))) := ⟨belt HB⟩
         (try clear BK372)
         (try clear BK380)
         (try clear BK381)
         (try clear BK392)
         (try clear BK401)
         (try clear BK405)
         (try clear HB)
         generalize ((w139.setCell ⟨gb405, 0, none⟩ (.int .i64 t402)).setCell ⟨gb405, 1, none⟩ (.int .u64 t403)) = w146 at n0_ n1_ n2_ n3_ n4_ n5_ n6_ ⊢
         have BK372 := n0_
         have BK380 := n1_
         have BK381 := n2_
         have BK392 := n3_
         have BK401 := n4_
         have BK405 := n5_
         have HB := n6_
         clear n0_ n1_ n2_ n3_ n4_ n5_ n6_
         replace BK372 := Aside0.mk (blk_drew BK372.out)
         replace BK380 := Aside0.mk (blk_drew BK380.out)
         replace BK381 := Aside0.mk (blk_drew BK381.out)
         replace BK392 := Aside0.mk (blk_drew BK392.out)
         replace BK401 := Aside0.mk (blk_drew BK401.out)
         replace BK405 := Aside0.mk (blk_drew BK405.out)
         replace HB := Aside0.mk (below_drew1 HB.out)
         refine start_ (n := 19) (S := fun w' => w'.cell? ⟨gb401, 0, none⟩ = some (.int .i64 t399) ∧ w'.cell? ⟨gb401, 1, none⟩ = some (.int .u64 t400) ∧ w'.cell? ⟨gb392, 0, none⟩ = some (.int .i64 x393000_2) ∧ w'.cell? ⟨gb392, 1, none⟩ = some (.int .u64 x393001_2)) (ds := []) #[false, false, false, false, false, false, false, false, false, false, false, false, false, false, false, false, false, false, false] (by kernel_rfl) rfl rfl ⟨bc BK401 0, bc BK401 1, bc BK392 0, bc BK392 1⟩ (fun hHeld => ?_); refine with_tabW turnstonelaw12_ClampGrows.tab14 turnstonelaw12_ClampGrows.bits14 (fun HT_ HW_ => ?_)
         generalize w146.drew = w147 at BK372 BK380 BK381 BK392 BK401 BK405 HB hHeld ⊢
         refine take_ (i := 0) (N := some 62) (v := ?_) (a' := ?_) #[true, false, false, false, false, false, false, false, false, false, false, false, false, false, false, false, false, false, false] rfl rfl (take_ofW HT_.out HW_.out (by kernel_rfl)) (fun _ _ _ h => h) (Or.inl ⟨by rfl, ?_⟩) hHeld ?_ ?_
         rotate_left
         ·rintro w' ⟨s0, s1, s2, s3⟩
          go_simp
          with_reducible rfl
         rotate_left
         ·simp only [Act.put, List.setIfInBounds_toArray, List.set_cons_zero, List.set_cons_succ, i64_w, i32_w]
          rfl
         refine take_ (i := 1) (N := some 63) (v := ?_) (a' := ?_) #[true, true, false, false, false, false, false, false, false, false, false, false, false, false, false, false, false, false, false] rfl rfl (take_ofW HT_.out HW_.out (by kernel_rfl)) (fun _ _ _ h => h) (Or.inl ⟨by rfl, ?_⟩) hHeld ?_ ?_
         rotate_left
         ·rintro w' ⟨s0, s1, s2, s3⟩
          go_simp
          with_reducible rfl
         rotate_left
         ·simp only [Act.put, List.setIfInBounds_toArray, List.set_cons_zero, List.set_cons_succ, i64_w, i32_w]
          rfl
         refine one_ (i := 2) (N := some 64) #[true, true, true, false, false, false, false, false, false, false, false, false, false, false, false, false, false, false, false] rfl rfl (one_of HT_.out (by kernel_rfl)) (by decide) (fun K hK => ?_)
         refine goes_ Tryz.func41 (by kernel_rfl) rfl #[.agg #[.int .i64 t399, .int .u64 t400], .agg #[.int .i64 x393000_2, .int .u64 x393001_2]] (by rfl) rfl rfl argt ?_
         with_reducible refine (wide_Int_Cmp.calls k2 t399 t400 x393000_2 x393001_2 t406 _ A63.out).mono ?_
         rintro e w148 ⟨rfl, hb⟩
         refine ⟨_, rfl, ?_⟩
         replace BK372 := blkb BK372 hb
         replace BK380 := blkb BK380 hb
         replace BK381 := blkb BK381 hb
         replace BK392 := blkb BK392 hb
         replace BK401 := blkb BK401 hb
         replace BK405 := blkb BK405 hb
         replace HB := belb HB hb
         (try clear hb)
         (try clear hb2)
         (try clear hk)
         (try clear hi)
         refine hK.out _ _ ⟨bc BK401 0, bc BK401 1, bc BK392 0, bc BK392 1⟩ (fun hHeld => ?_)
         clear hK K
         refine norm_ (a' := ?_) ?_ ?_
         rotate_left
         ·show Act.put _ (some 64) _ = _
          simp only [Act.put, List.setIfInBounds_toArray, List.set_cons_zero, List.set_cons_succ, i64_w, i32_w]
          rfl
         refine pure_ (i := 3) (N := some 65) (v := ?_) (a' := ?_) #[true, true, true, true, false, false, false, false, false, false, false, false, false, false, false, false, false, false, false] rfl rfl (any_of HT_.out (by kernel_rfl)) (fun _ _ _ h => h) (Or.inl ⟨by rfl, ?_⟩) ?_ ?_
         rotate_left
         ·intro w'
          go_simp
          with_reducible rfl
         rotate_left
         ·simp only [Act.put, List.setIfInBounds_toArray, List.set_cons_zero, List.set_cons_succ, i64_w, i32_w]
          rfl
         refine pure_ (i := 4) (N := some 66) (v := ?_) (a' := ?_) #[true, true, true, true, true, false, false, false, false, false, false, false, false, false, false, false, false, false, false] rfl rfl (any_of HT_.out (by kernel_rfl)) (fun _ _ _ h => h) (Or.inl ⟨by rfl, ?_⟩) ?_ ?_
         rotate_left
         ·intro w'
          go_simp
          with_reducible rfl
         rotate_left
         ·simp only [Act.put, List.setIfInBounds_toArray, List.set_cons_zero, List.set_cons_succ, i64_w, i32_w]
          rfl
         refine pure_ (i := 5) (N := some 67) (v := ?_) (a' := ?_) #[true, true, true, true, true, true, false, false, false, false, false, false, false, false, false, false, false, false, false] rfl rfl (any_of HT_.out (by kernel_rfl)) (fun _ _ _ h => h) (Or.inl ⟨by rfl, ?_⟩) ?_ ?_
         rotate_left
         ·intro w'
          go_simp
          with_reducible rfl
         rotate_left
         ·simp only [Act.put, List.setIfInBounds_toArray, List.set_cons_zero, List.set_cons_succ, i64_w, i32_w]
          rfl
         refine pure_ (i := 6) (N := some 68) (v := ?_) (a' := ?_) #[true, true, true, true, true, true, true, false, false, false, false, false, false, false, false, false, false, false, false] rfl rfl (any_of HT_.out (by kernel_rfl)) (fun _ _ _ h => h) (Or.inl ⟨by rfl, ?_⟩) ?_ ?_
         rotate_left
         ·intro w'
          go_simp
          with_reducible rfl
         rotate_left
         ·simp only [Act.put, List.setIfInBounds_toArray, List.set_cons_zero, List.set_cons_succ, i64_w, i32_w]
          rfl
         refine pure_ (i := 7) (N := some 69) (v := undef) (a' := ?_) #[true, true, true, true, true, true, true, true, false, false, false, false, false, false, false, false, false, false, false] rfl rfl (any_of HT_.out (by kernel_rfl)) (fun _ _ _ h => h) (Or.inr ⟨by rfl, rfl⟩) ?_ ?_
         rotate_left
         ·simp only [Act.put, List.setIfInBounds_toArray, List.set_cons_zero, List.set_cons_succ, i64_w, i32_w]
          rfl
         refine pure_ (i := 8) (N := some 70) (v := undef) (a' := ?_) #[true, true, true, true, true, true, true, true, true, false, false, false, false, false, false, false, false, false, false] rfl rfl (any_of HT_.out (by kernel_rfl)) (fun _ _ _ h => h) (Or.inr ⟨by rfl, rfl⟩) ?_ ?_
         rotate_left
         ·simp only [Act.put, List.setIfInBounds_toArray, List.set_cons_zero, List.set_cons_succ, i64_w, i32_w]
          rfl
         refine pure_ (i := 9) (N := some 71) (v := undef) (a' := ?_) #[true, true, true, true, true, true, true, true, true, true, false, false, false, false, false, false, false, false, false] rfl rfl (any_of HT_.out (by kernel_rfl)) (fun _ _ _ h => h) (Or.inr ⟨by rfl, rfl⟩) ?_ ?_
         rotate_left
         ·simp only [Act.put, List.setIfInBounds_toArray, List.set_cons_zero, List.set_cons_succ, i64_w, i32_w]
          rfl
         refine pure_ (i := 10) (N := some 72) (v := undef) (a' := ?_) #[true, true, true, true, true, true, true, true, true, true, true, false, false, false, false, false, false, false, false] rfl rfl (any_of HT_.out (by kernel_rfl)) (fun _ _ _ h => h) (Or.inr ⟨by rfl, rfl⟩) ?_ ?_
         rotate_left
         ·simp only [Act.put, List.setIfInBounds_toArray, List.set_cons_zero, List.set_cons_succ, i64_w, i32_w]
          rfl
         refine pure_ (i := 11) (N := some 73) (v := ?_) (a' := ?_) #[true, true, true, true, true, true, true, true, true, true, true, true, false, false, false, false, false, false, false] rfl rfl (any_of HT_.out (by kernel_rfl)) (fun _ _ _ h => h) (Or.inl ⟨by rfl, ?_⟩) ?_ ?_
         rotate_left
         ·intro w'
          go_simp
          with_reducible rfl
         rotate_left
         ·simp only [Act.put, List.setIfInBounds_toArray, List.set_cons_zero, List.set_cons_succ, i64_w, i32_w]
          rfl
         refine pure_ (i := 12) (N := some 74) (v := ?_) (a' := ?_) #[true, true, true, true, true, true, true, true, true, true, true, true, true, false, false, false, false, false, false] rfl rfl (any_of HT_.out (by kernel_rfl)) (fun _ _ _ h => h) (Or.inl ⟨by rfl, ?_⟩) ?_ ?_
         rotate_left
         ·intro w'
          go_simp
          with_reducible rfl
         rotate_left
         ·simp only [Act.put, List.setIfInBounds_toArray, List.set_cons_zero, List.set_cons_succ, i64_w, i32_w]
          rfl
         refine pure_ (i := 13) (N := some 75) (v := undef) (a' := ?_) #[true, true, true, true, true, true, true, true, true, true, true, true, true, true, false, false, false, false, false] rfl rfl (any_of HT_.out (by kernel_rfl)) (fun _ _ _ h => h) (Or.inr ⟨by rfl, rfl⟩) ?_ ?_
         rotate_left
         ·simp only [Act.put, List.setIfInBounds_toArray, List.set_cons_zero, List.set_cons_succ, i64_w, i32_w]
          rfl
         refine pure_ (i := 14) (N := some 76) (v := undef) (a' := ?_) #[true, true, true, true, true, true, true, true, true, true, true, true, true, true, true, false, false, false, false] rfl rfl (any_of HT_.out (by kernel_rfl)) (fun _ _ _ h => h) (Or.inr ⟨by rfl, rfl⟩) ?_ ?_
         rotate_left
         ·simp only [Act.put, List.setIfInBounds_toArray, List.set_cons_zero, List.set_cons_succ, i64_w, i32_w]
          rfl
         refine pure_ (i := 15) (N := some 77) (v := undef) (a' := ?_) #[true, true, true, true, true, true, true, true, true, true, true, true, true, true, true, true, false, false, false] rfl rfl (any_of HT_.out (by kernel_rfl)) (fun _ _ _ h => h) (Or.inr ⟨by rfl, rfl⟩) ?_ ?_
         rotate_left
         ·simp only [Act.put, List.setIfInBounds_toArray, List.set_cons_zero, List.set_cons_succ, i64_w, i32_w]
          rfl
         refine pure_ (i := 16) (N := some 78) (v := undef) (a' := ?_) #[true, true, true, true, true, true, true, true, true, true, true, true, true, true, true, true, true, false, false] rfl rfl (any_of HT_.out (by kernel_rfl)) (fun _ _ _ h => h) (Or.inr ⟨by rfl, rfl⟩) ?_ ?_
         rotate_left
         ·simp only [Act.put, List.setIfInBounds_toArray, List.set_cons_zero, List.set_cons_succ, i64_w, i32_w]
          rfl
         refine pure_ (i := 17) (N := some 79) (v := ?_) (a' := ?_) #[true, true, true, true, true, true, true, true, true, true, true, true, true, true, true, true, true, true, false] rfl rfl (any_of HT_.out (by kernel_rfl)) (fun _ _ _ h => h) (Or.inl ⟨by rfl, ?_⟩) ?_ ?_
         rotate_left
         ·intro w'
          go_simp
          with_reducible rfl
         rotate_left
         ·simp only [Act.put, List.setIfInBounds_toArray, List.set_cons_zero, List.set_cons_succ, i64_w, i32_w]
          rfl
         refine pure_ (i := 18) (N := some 80) (v := ?_) (a' := ?_) #[true, true, true, true, true, true, true, true, true, true, true, true, true, true, true, true, true, true, true] rfl rfl (any_of HT_.out (by kernel_rfl)) (fun _ _ _ h => h) (Or.inl ⟨by rfl, ?_⟩) ?_ ?_
         rotate_left
         ·intro w'
          go_simp
          with_reducible rfl
         rotate_left
         ·simp only [Act.put, List.setIfInBounds_toArray, List.set_cons_zero, List.set_cons_succ, i64_w, i32_w]
          rfl
         refine done_ (done_of HT_.out (by kernel_rfl)) ?_
         have hcz149_0 : w148.cell? ⟨gb401, 0, none⟩ = some (.int .i64 t399) := bc BK401 0
         have hcz149_1 : w148.cell? ⟨gb401, 1, none⟩ = some (.int .u64 t400) := bc BK401 1
         have hfz149_0 := blk_frozen BK401.out 0
         have hfz149_1 := blk_frozen BK401.out 1
         have hcz150_0 : w148.cell? ⟨gb392, 0, none⟩ = some (.int .i64 x393000_2) := bc BK392 0
         have hcz150_1 : w148.cell? ⟨gb392, 1, none⟩ = some (.int .u64 x393001_2) := bc BK392 1
         have hfz150_0 := blk_frozen BK392.out 0
         have hfz150_1 := blk_frozen BK392.out 1
         try go_wp2
         go_roundg k2
         case measure => have := HJ15.out; have := HK2.out; omega
         case rel => exact ⟨(ji58), (t399), (t400), (by first | rfl | (simp; done) | (simp only [← hji58]; first | rfl | (simp; done) | (simp [mn, mx]; done)) | (simp [*]; done)), H', ⟨by have := HJ15.out; have := HK2.out; omega⟩, ⟨by (with_reducible repeat (first | refine blk_drewN ?_ _ | refine blk_drew ?_ | refine blk_alloc ?_ _)); refine blk_far ?_ NB372_392.out _; (with_reducible repeat (first | refine blk_drewN ?_ _ | refine blk_drew ?_ | refine blk_alloc ?_ _)); refine blk_far ?_ NB372_392.out _; exact blkt BK372⟩, ⟨by (with_reducible repeat (first | refine blk_drewN ?_ _ | refine blk_drew ?_ | refine blk_alloc ?_ _)); refine blk_far ?_ NB380_392.out _; (with_reducible repeat (first | refine blk_drewN ?_ _ | refine blk_drew ?_ | refine blk_alloc ?_ _)); refine blk_far ?_ NB380_392.out _; exact blkt BK380⟩, ⟨by (with_reducible repeat (first | refine blk_drewN ?_ _ | refine blk_drew ?_ | refine blk_alloc ?_ _)); refine blk_far ?_ NB381_392.out _; (with_reducible repeat (first | refine blk_drewN ?_ _ | refine blk_drew ?_ | refine blk_alloc ?_ _)); refine blk_far ?_ NB381_392.out _; exact blkt BK381⟩, ⟨by (with_reducible repeat (first | refine blk_drewN ?_ _ | refine blk_drew ?_ | refine blk_alloc ?_ _)); refine blk_put (cs := #[.int .i64 t399, .int .u64 x393001_2]) ?_ 1 _ rfl; (with_reducible repeat (first | refine blk_drewN ?_ _ | refine blk_drew ?_ | refine blk_alloc ?_ _)); refine blk_put (cs := #[.int .i64 x393000_2, .int .u64 x393001_2]) ?_ 0 _ rfl; exact blkt BK392⟩, ⟨belt HB⟩⟩
        rw [if_neg c60] at H
        exact absurd H (by simp)
       rw [if_neg c59] at H
       exact absurd H (by simp)
      rw [if_neg c57] at H
      have c57b0 : decide (x48_2 < (l3.length : Int)) = false := decide_eq_false c57
      clear c57
      replace H := Option.bind_eq_some_iff.mp H
      obtain ⟨⟨t393, t394⟩, A1510, H⟩ := H
      replace H : (some (t393 == 0 && (t394 == 0))) = some r := H
      have A151 := Aside0.mk A1510
      clear A1510
      obtain rfl := Option.some.inj H
      go_wp2_with (first | ((with_reducible refine gate_callee (f := 49) rfl ?_); refine goesL_ (some 83) rfl rfl Tryz.func49 (by kernel_rfl) rfl #[.slice none 0 0] rfl argt ?_; (refine (clamp_Carried.calls k2 _ _ ([] : List (S31)) t393 t394 _ ?side1 ?side2 A151.out).mono ?_); (case side1 => exact Kd.C_nil _ _); (case side2 => exact Nat.le_refl _); rintro e w152 ⟨rfl, hb⟩; refine ⟨_, rfl, ?_⟩; replace BK372 := blkb BK372 hb; replace BK380 := blkb BK380 hb; replace BK381 := blkb BK381 hb; replace BK392 := blkb BK392 hb; replace HB := belb HB hb; (try clear hb); (try clear hb2); (try clear hk); (try clear hi)))
      go_ret
      exact ⟨by first | rfl | (simp [errW_none, errW_some] <;> rfl) | (simp only [← hji10, ← hji13]; first | rfl | (simp [errW_none, errW_some] <;> rfl)) | (simp [*, errW_none, errW_some] <;> rfl), belt HB⟩
 replace c6 := Bool.eq_false_iff.mpr c6
 subst c6
 have H1 : (none) = some r := by rw [if_neg (show ¬ (false = true) by decide)] at H; exact H
 clear H
 have H := H1
 clear H1
 exact absurd H (by simp)

/-- THE ONE PURE STATEMENT of turnstonelaw12_ClampGrows. -/
def turnstonelaw12_ClampGrows.Pure : Prop := ∀ (a0_0 : Int) (a0_1 : Int) (a1 : Int) (a2 : Int) (l3 : List (S31)), (Lit.int .i64 a0_0).wf = true → (Lit.int .u64 a0_1).wf = true → (Lit.int .i64 a1).wf = true → (Lit.int .i64 a2).wf = true → l3.length ≤ maxLen → (∀ x ∈ l3, wfS31 x) → ∃ k, turnstonelaw12_ClampGrows.f k a0_0 a0_1 a1 a2 l3 = some true
theorem turnstonelaw12_ClampGrows.walk (P : turnstonelaw12_ClampGrows.Pure) (a0_0 : Int) (a0_1 : Int) (a1 : Int) (a2 : Int) (A3 : Option Addr) (c3 : Nat) (l3 : List (S31)) (w : World) (w0_0 : (Lit.int .i64 a0_0).wf = true) (w0_1 : (Lit.int .u64 a0_1).wf = true) (w1 : (Lit.int .i64 a1).wf = true) (w2 : (Lit.int .i64 a2).wf = true) (hr3 : Kd.C k31 w A3 l3.length l3) (hc3 : l3.length ≤ c3) (hm3 : l3.length ≤ maxLen) (hw3 : ∀ x ∈ l3, wfS31 x) :
  Calls Tryz.prog 14 #[.agg #[.int .i64 a0_0, .int .u64 a0_1], .int .i64 a1, .int .i64 a2, .slice A3 l3.length c3] w fun e w' => e = .returned (.bool true) ∧ Below w.heap.size w w' := by
 obtain ⟨k, h⟩ := P a0_0 a0_1 a1 a2 l3 w0_0 w0_1 w1 w2 hm3 hw3
 refine (turnstonelaw12_ClampGrows.calls k a0_0 a0_1 a1 a2 _ _ l3 true w hr3 hc3 h).mono ?_
 rintro e w' ⟨rfl, hd⟩
 exact ⟨rfl, hd⟩

end Go.Proofs.YtfbkamgdkdnpoaaGreatDoor.Print
