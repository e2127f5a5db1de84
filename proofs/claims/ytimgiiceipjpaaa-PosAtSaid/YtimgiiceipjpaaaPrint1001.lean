/- What each Go function that is named below answers, as a Lean function, and that its walk comes to just that: for whatever arguments that function gives an answer for. Written by a program of this session (wip/mkpr.py, pr.sh). -/
import Derived.Test.YtimgiiceipjpaaaPrint1000
import Derived.Test.YtimgiiceipjpaaaPrint1005
namespace Go.Proofs.Ytimgiiceipjpaaa.Print
open Go.RowKit Go.Proofs.YtimgiiceipjpaaaW.PrintWords Go.Proofs.YtimgiiceipjpaaaW.PrintLast Go.Proofs.YtimgiiceipjpaaaW.PrintMore
attribute [local go_sem] max2_int min2_int max_two min_two max_three min_three max_four min_four   -- for this text's walks alone
open Go.Proofs.Ytimgiiceipjpaaa.Bits Go.Proofs.Ytimgiiceipjpaaa.Short
attribute [local go_sem] add64_run0 sub64_run0 add64_run sub64_run
set_option linter.unusedVariables false
set_option linter.unusedSimpArgs false

theorem eqA59 (d : Nat) (w : World) (x0 y0 : Int) (x1 y1 : Int) :
  (Op.equalIn (d + 2) 59 (.agg #[.int .i64 x0, .int .u64 x1]) (.agg #[.int .i64 y0, .int .u64 y1])).run Try.prog w = .ok (x0 == y0 && (x1 == y1)) w := by
 refine eqA_of Try.underlying59 (by kernel_rfl) ?_
 refine eqf_cons (by rfl) (by go_simp; rfl) (by go_simp; rfl) (by go_simp) ?_
 exact eqf_last (by rfl) (by go_simp; rfl) (by go_simp; rfl) (by go_simp)

theorem eqA71 (d : Nat) (w : World) (x0 y0 : Int) (x1 y1 : Int) (x2 y2 : Int) :
  (Op.equalIn (d + 2) 71 (.agg #[.int .u64 x0, .int .u32 x1, .int .u32 x2]) (.agg #[.int .u64 y0, .int .u32 y1, .int .u32 y2])).run Try.prog w = .ok (x0 == y0 && (x1 == y1 && (x2 == y2))) w := by
 refine eqA_of Try.underlying71 (by kernel_rfl) ?_
 refine eqf_cons (by rfl) (by go_simp; rfl) (by go_simp; rfl) (by go_simp) ?_
 refine eqf_cons (by rfl) (by go_simp; rfl) (by go_simp; rfl) (by go_simp) ?_
 exact eqf_last (by rfl) (by go_simp; rfl) (by go_simp; rfl) (by go_simp)

/-! ### vtime_Time_Add: function 25 -/
def vtime_Time_Add.f (a0 : Int) (a1 : Int) : Option (Int) := some (IntKind.u64.wrap (a0 + (IntKind.u64.wrap (a1))))
set_option maxHeartbeats 8000000 in
set_option maxRecDepth 100000 in
theorem vtime_Time_Add.calls (a0 : Int) (a1 : Int) (r : Int) (w : World) (h : vtime_Time_Add.f a0 a1 = some r) :
  Calls Try.prog 25 #[.int .u64 a0, .int .i64 a1] w fun e w' => e = .returned (.int .u64 r) ∧ Drawn0 w w' := by
 have H : (some (IntKind.u64.wrap (a0 + (IntKind.u64.wrap (a1))))) = some r := h
 clear h
 obtain rfl := Option.some.inj H
 go_enter Try.func25, Try.ntmps25
 go_wp2
 go_ret
 exact ⟨by first | rfl | (simp; done) | (simp [*]; done), by repeat (first | exact Drawn0.refl _ | apply Drawn0.step)⟩


/-! ### bits_Len64: function 93 -/
def bits_Len64.f (a0 : Int) : Option Int := if 0 ≤ a0 ∧ a0 ≤ 18446744073709551615 then some (Lib.bitLen a0.toNat : Int) else none
theorem bits_Len64.calls (x : Int) (r : Int) (w : World) (h : bits_Len64.f x = some r) :
  Calls Try.prog 93 #[.int .u64 x] w fun e w' => e = .returned (.int .i64 r) ∧ Drawn0 w w' := by
 unfold bits_Len64.f at h
 split at h
 ·rename_i hx
  obtain rfl := Option.some.inj h
  refine (len64_calls x w hx.1 hx.2).mono ?_
  rintro e w' ⟨rfl, rfl⟩
  exact ⟨rfl, Drawn0.refl _⟩
 cases h


/-! ### bits_LeadingZeros64: function 86 -/
def bits_LeadingZeros64.f (a0 : Int) : Option (Int) := (bits_Len64.f a0).bind fun t253 => (some (wrap64 (64 - t253)))
set_option maxHeartbeats 8000000 in
set_option maxRecDepth 100000 in
theorem bits_LeadingZeros64.calls (a0 : Int) (r : Int) (w : World) (h : bits_LeadingZeros64.f a0 = some r) :
  Calls Try.prog 86 #[.int .u64 a0] w fun e w' => e = .returned (.int .i64 r) ∧ Drawn0 w w' := by
 have H : ((bits_Len64.f a0).bind fun t253 => (some (wrap64 (64 - t253)))) = some r := h
 clear h
 replace H := Option.bind_eq_some_iff.mp H
 obtain ⟨t253, A20, H⟩ := H
 replace H : (some (wrap64 (64 - t253))) = some r := H
 have A2 := Aside0.mk A20
 clear A20
 obtain rfl := Option.some.inj H
 go_enter Try.func86, Try.ntmps86
 go_wp2_with (first | ((with_reducible refine gate_callee (f := 93) rfl ?_); refine goesL_ (some 4) rfl rfl Try.func93 (by kernel_rfl) rfl #[.int .u64 a0] rfl argt ?_; (with_reducible refine (bits_Len64.calls a0 t253 _ A2.out).mono ?_); rintro e w' ⟨rfl, ⟨nd, rfl⟩⟩; refine ⟨_, rfl, ?_⟩))
 go_ret
 exact ⟨by first | rfl | (simp; done) | (simp [*]; done), by repeat (first | exact Drawn0.refl _ | apply Drawn0.step)⟩


/-! ### bits_Div64: function 68 -/
mutual
def bits_Div64.j2 : Nat → Int → Int → Int → Int → Int → Int → Int → Int → Option (Int × Int)
 | 0, _, _, _, _, _, _, _, _ => none
 | k + 1, x2, x8, x9, x10, x11, x13, x14, x15 => if x9 = 0 then (none) else (bits_Div64.l1 k x2 x8 x9 x10 x14 x15 (IntKind.u64.wrap ((IntKind.u64.wrap ((IntKind.u64.wrap ((IntKind.u64.wrap (x11 * 4294967296)) + x13)) - (IntKind.u64.wrap (x15 * x2)))) - (IntKind.u64.wrap ((IntKind.u64.wrap (Int.tdiv (IntKind.u64.wrap ((IntKind.u64.wrap ((IntKind.u64.wrap (x11 * 4294967296)) + x13)) - (IntKind.u64.wrap (x15 * x2)))) x9)) * x9)))) (IntKind.u64.wrap ((IntKind.u64.wrap ((IntKind.u64.wrap (x11 * 4294967296)) + x13)) - (IntKind.u64.wrap (x15 * x2)))) (IntKind.u64.wrap (Int.tdiv (IntKind.u64.wrap ((IntKind.u64.wrap ((IntKind.u64.wrap (x11 * 4294967296)) + x13)) - (IntKind.u64.wrap (x15 * x2)))) x9)))
def bits_Div64.l1 : Nat → Int → Int → Int → Int → Int → Int → Int → Int → Int → Option (Int × Int)
 | 0, _, _, _, _, _, _, _, _, _ => none
 | k + 1, x2, x8, x9, x10, x14, x15, x16, x17, x18 => if x18 ≥ 4294967296 then (bits_Div64.j4 k x2 x8 x9 x10 x14 x15 x16 x17 x18 true) else (bits_Div64.j4 k x2 x8 x9 x10 x14 x15 x16 x17 x18 (decide ((IntKind.u64.wrap (x18 * x10)) > (IntKind.u64.wrap ((IntKind.u64.wrap (4294967296 * x16)) + x14)))))
def bits_Div64.j4 : Nat → Int → Int → Int → Int → Int → Int → Int → Int → Int → Bool → Option (Int × Int)
 | 0, _, _, _, _, _, _, _, _, _, _ => none
 | k + 1, x2, x8, x9, x10, x14, x15, x16, x17, x18, x113 => if x113 = true then (if (IntKind.u64.wrap (x16 + x9)) ≥ 4294967296 then (if 0 ≤ x8 then (some (IntKind.u64.wrap ((IntKind.u64.wrap (x15 * 4294967296)) + (IntKind.u64.wrap (x18 - 1))), shr .u64 (IntKind.u64.wrap ((IntKind.u64.wrap ((IntKind.u64.wrap (x17 * 4294967296)) + x14)) - (IntKind.u64.wrap ((IntKind.u64.wrap (x18 - 1)) * x2)))) x8)) else (none)) else (bits_Div64.l1 k x2 x8 x9 x10 x14 x15 (IntKind.u64.wrap (x16 + x9)) x17 (IntKind.u64.wrap (x18 - 1)))) else (if 0 ≤ x8 then (some (IntKind.u64.wrap ((IntKind.u64.wrap (x15 * 4294967296)) + x18), shr .u64 (IntKind.u64.wrap ((IntKind.u64.wrap ((IntKind.u64.wrap (x17 * 4294967296)) + x14)) - (IntKind.u64.wrap (x18 * x2)))) x8)) else (none))
def bits_Div64.l0 : Nat → Int → Int → Int → Int → Int → Int → Int → Int → Int → Option (Int × Int)
 | 0, _, _, _, _, _, _, _, _, _ => none
 | k + 1, x2, x8, x9, x10, x11, x13, x14, x15, x16 => if x15 ≥ 4294967296 then (bits_Div64.j1 k x2 x8 x9 x10 x11 x13 x14 x15 x16 true) else (bits_Div64.j1 k x2 x8 x9 x10 x11 x13 x14 x15 x16 (decide ((IntKind.u64.wrap (x15 * x10)) > (IntKind.u64.wrap ((IntKind.u64.wrap (4294967296 * x16)) + x13)))))
def bits_Div64.j1 : Nat → Int → Int → Int → Int → Int → Int → Int → Int → Int → Bool → Option (Int × Int)
 | 0, _, _, _, _, _, _, _, _, _, _ => none
 | k + 1, x2, x8, x9, x10, x11, x13, x14, x15, x16, x78 => if x78 = true then (if (IntKind.u64.wrap (x16 + x9)) ≥ 4294967296 then (bits_Div64.j2 k x2 x8 x9 x10 x11 x13 x14 (IntKind.u64.wrap (x15 - 1))) else (bits_Div64.l0 k x2 x8 x9 x10 x11 x13 x14 (IntKind.u64.wrap (x15 - 1)) (IntKind.u64.wrap (x16 + x9)))) else (bits_Div64.j2 k x2 x8 x9 x10 x11 x13 x14 x15)
end
def bits_Div64.f (k : Nat) (a0 : Int) (a1 : Int) (a2 : Int) : Option (Int × Int) := if a2 = 0 then (none) else (if a2 ≤ a0 then (none) else (if a0 = 0 then (some (IntKind.u64.wrap (Int.tdiv a1 a2), Int.tmod a1 a2)) else ((bits_LeadingZeros64.f a2).bind fun t254 => (if 0 ≤ (IntKind.u64.wrap (t254)) then (if 0 ≤ (IntKind.u64.wrap (64 - (IntKind.u64.wrap (t254)))) then (if ((shl .u64 a2 (IntKind.u64.wrap (t254))) / 4294967296) = 0 then (none) else (bits_Div64.l0 k (shl .u64 a2 (IntKind.u64.wrap (t254))) (IntKind.u64.wrap (t254)) ((shl .u64 a2 (IntKind.u64.wrap (t254))) / 4294967296) (Go.bits .and .u64 (shl .u64 a2 (IntKind.u64.wrap (t254))) 4294967295) (Go.bits .or .u64 (shl .u64 a0 (IntKind.u64.wrap (t254))) (shr .u64 a1 (IntKind.u64.wrap (64 - (IntKind.u64.wrap (t254)))))) ((shl .u64 a1 (IntKind.u64.wrap (t254))) / 4294967296) (Go.bits .and .u64 (shl .u64 a1 (IntKind.u64.wrap (t254))) 4294967295) (IntKind.u64.wrap (Int.tdiv (Go.bits .or .u64 (shl .u64 a0 (IntKind.u64.wrap (t254))) (shr .u64 a1 (IntKind.u64.wrap (64 - (IntKind.u64.wrap (t254)))))) ((shl .u64 a2 (IntKind.u64.wrap (t254))) / 4294967296))) (IntKind.u64.wrap ((Go.bits .or .u64 (shl .u64 a0 (IntKind.u64.wrap (t254))) (shr .u64 a1 (IntKind.u64.wrap (64 - (IntKind.u64.wrap (t254)))))) - (IntKind.u64.wrap ((IntKind.u64.wrap (Int.tdiv (Go.bits .or .u64 (shl .u64 a0 (IntKind.u64.wrap (t254))) (shr .u64 a1 (IntKind.u64.wrap (64 - (IntKind.u64.wrap (t254)))))) ((shl .u64 a2 (IntKind.u64.wrap (t254))) / 4294967296))) * ((shl .u64 a2 (IntKind.u64.wrap (t254))) / 4294967296))))))) else (none)) else (none)))))
theorem bits_Div64.mono_l : ∀ k, (∀ y0 y1 y2 y3 y4 y5 y6 y7, LeO (bits_Div64.j2 k y0 y1 y2 y3 y4 y5 y6 y7) (bits_Div64.j2 (k + 1) y0 y1 y2 y3 y4 y5 y6 y7)) ∧ (∀ y0 y1 y2 y3 y4 y5 y6 y7 y8, LeO (bits_Div64.l1 k y0 y1 y2 y3 y4 y5 y6 y7 y8) (bits_Div64.l1 (k + 1) y0 y1 y2 y3 y4 y5 y6 y7 y8)) ∧ (∀ y0 y1 y2 y3 y4 y5 y6 y7 y8 y9, LeO (bits_Div64.j4 k y0 y1 y2 y3 y4 y5 y6 y7 y8 y9) (bits_Div64.j4 (k + 1) y0 y1 y2 y3 y4 y5 y6 y7 y8 y9)) ∧ (∀ y0 y1 y2 y3 y4 y5 y6 y7 y8, LeO (bits_Div64.l0 k y0 y1 y2 y3 y4 y5 y6 y7 y8) (bits_Div64.l0 (k + 1) y0 y1 y2 y3 y4 y5 y6 y7 y8)) ∧ (∀ y0 y1 y2 y3 y4 y5 y6 y7 y8 y9, LeO (bits_Div64.j1 k y0 y1 y2 y3 y4 y5 y6 y7 y8 y9) (bits_Div64.j1 (k + 1) y0 y1 y2 y3 y4 y5 y6 y7 y8 y9))
 | 0 => ⟨fun _ _ _ _ _ _ _ _ r h => by simp [bits_Div64.j2] at h, fun _ _ _ _ _ _ _ _ _ r h => by simp [bits_Div64.l1] at h, fun _ _ _ _ _ _ _ _ _ _ r h => by simp [bits_Div64.j4] at h, fun _ _ _ _ _ _ _ _ _ r h => by simp [bits_Div64.l0] at h, fun _ _ _ _ _ _ _ _ _ _ r h => by simp [bits_Div64.j1] at h⟩
 | k + 1 => by
  obtain ⟨ih0, ih1, ih2, ih3, ih4⟩ := bits_Div64.mono_l k
  refine ⟨?_, ?_, ?_, ?_, ?_⟩
  ·intro y0 y1 y2 y3 y4 y5 y6 y7
   unfold bits_Div64.j2
   repeat' first
   | (with_reducible exact ih0 _ _ _ _ _ _ _ _)
   | (with_reducible exact ih1 _ _ _ _ _ _ _ _ _)
   | (with_reducible exact ih2 _ _ _ _ _ _ _ _ _ _)
   | (with_reducible exact ih3 _ _ _ _ _ _ _ _ _)
   | (with_reducible exact ih4 _ _ _ _ _ _ _ _ _ _)
   | (with_reducible exact LeO.refl _)
   | (with_reducible exact LeO.none _)
   | (with_reducible refine LeO.ite ?_ ?_)
   | (with_reducible refine LeO.bind ?_ (fun _ => ?_))
   | exact ih0 _ _ _ _ _ _ _ _
   | exact ih1 _ _ _ _ _ _ _ _ _
   | exact ih2 _ _ _ _ _ _ _ _ _ _
   | exact ih3 _ _ _ _ _ _ _ _ _
   | exact ih4 _ _ _ _ _ _ _ _ _ _
   | exact LeO.none _
   | refine LeO.ite ?_ ?_
   | refine LeO.bind ?_ (fun _ => ?_)
  ·intro y0 y1 y2 y3 y4 y5 y6 y7 y8
   unfold bits_Div64.l1
   repeat' first
   | (with_reducible exact ih0 _ _ _ _ _ _ _ _)
   | (with_reducible exact ih1 _ _ _ _ _ _ _ _ _)
   | (with_reducible exact ih2 _ _ _ _ _ _ _ _ _ _)
   | (with_reducible exact ih3 _ _ _ _ _ _ _ _ _)
   | (with_reducible exact ih4 _ _ _ _ _ _ _ _ _ _)
   | (with_reducible exact LeO.refl _)
   | (with_reducible exact LeO.none _)
   | (with_reducible refine LeO.ite ?_ ?_)
   | (with_reducible refine LeO.bind ?_ (fun _ => ?_))
   | exact ih0 _ _ _ _ _ _ _ _
   | exact ih1 _ _ _ _ _ _ _ _ _
   | exact ih2 _ _ _ _ _ _ _ _ _ _
   | exact ih3 _ _ _ _ _ _ _ _ _
   | exact ih4 _ _ _ _ _ _ _ _ _ _
   | exact LeO.none _
   | refine LeO.ite ?_ ?_
   | refine LeO.bind ?_ (fun _ => ?_)
  ·intro y0 y1 y2 y3 y4 y5 y6 y7 y8 y9
   unfold bits_Div64.j4
   repeat' first
   | (with_reducible exact ih0 _ _ _ _ _ _ _ _)
   | (with_reducible exact ih1 _ _ _ _ _ _ _ _ _)
   | (with_reducible exact ih2 _ _ _ _ _ _ _ _ _ _)
   | (with_reducible exact ih3 _ _ _ _ _ _ _ _ _)
   | (with_reducible exact ih4 _ _ _ _ _ _ _ _ _ _)
   | (with_reducible exact LeO.refl _)
   | (with_reducible exact LeO.none _)
   | (with_reducible refine LeO.ite ?_ ?_)
   | (with_reducible refine LeO.bind ?_ (fun _ => ?_))
   | exact ih0 _ _ _ _ _ _ _ _
   | exact ih1 _ _ _ _ _ _ _ _ _
   | exact ih2 _ _ _ _ _ _ _ _ _ _
   | exact ih3 _ _ _ _ _ _ _ _ _
   | exact ih4 _ _ _ _ _ _ _ _ _ _
   | exact LeO.none _
   | refine LeO.ite ?_ ?_
   | refine LeO.bind ?_ (fun _ => ?_)
  ·intro y0 y1 y2 y3 y4 y5 y6 y7 y8
   unfold bits_Div64.l0
   repeat' first
   | (with_reducible exact ih0 _ _ _ _ _ _ _ _)
   | (with_reducible exact ih1 _ _ _ _ _ _ _ _ _)
   | (with_reducible exact ih2 _ _ _ _ _ _ _ _ _ _)
   | (with_reducible exact ih3 _ _ _ _ _ _ _ _ _)
   | (with_reducible exact ih4 _ _ _ _ _ _ _ _ _ _)
   | (with_reducible exact LeO.refl _)
   | (with_reducible exact LeO.none _)
   | (with_reducible refine LeO.ite ?_ ?_)
   | (with_reducible refine LeO.bind ?_ (fun _ => ?_))
   | exact ih0 _ _ _ _ _ _ _ _
   | exact ih1 _ _ _ _ _ _ _ _ _
   | exact ih2 _ _ _ _ _ _ _ _ _ _
   | exact ih3 _ _ _ _ _ _ _ _ _
   | exact ih4 _ _ _ _ _ _ _ _ _ _
   | exact LeO.none _
   | refine LeO.ite ?_ ?_
   | refine LeO.bind ?_ (fun _ => ?_)
  intro y0 y1 y2 y3 y4 y5 y6 y7 y8 y9
  unfold bits_Div64.j1
  repeat' first
  | (with_reducible exact ih0 _ _ _ _ _ _ _ _)
  | (with_reducible exact ih1 _ _ _ _ _ _ _ _ _)
  | (with_reducible exact ih2 _ _ _ _ _ _ _ _ _ _)
  | (with_reducible exact ih3 _ _ _ _ _ _ _ _ _)
  | (with_reducible exact ih4 _ _ _ _ _ _ _ _ _ _)
  | (with_reducible exact LeO.refl _)
  | (with_reducible exact LeO.none _)
  | (with_reducible refine LeO.ite ?_ ?_)
  | (with_reducible refine LeO.bind ?_ (fun _ => ?_))
  | exact ih0 _ _ _ _ _ _ _ _
  | exact ih1 _ _ _ _ _ _ _ _ _
  | exact ih2 _ _ _ _ _ _ _ _ _ _
  | exact ih3 _ _ _ _ _ _ _ _ _
  | exact ih4 _ _ _ _ _ _ _ _ _ _
  | exact LeO.none _
  | refine LeO.ite ?_ ?_
  | refine LeO.bind ?_ (fun _ => ?_)
theorem bits_Div64.mono : ∀ a0 a1 a2 k, LeO (bits_Div64.f k a0 a1 a2) (bits_Div64.f (k + 1) a0 a1 a2) := by
 intro a0 a1 a2 k
 obtain ⟨ih0, ih1, ih2, ih3, ih4⟩ := bits_Div64.mono_l k
 unfold bits_Div64.f
 repeat' first
   | (with_reducible exact ih0 _ _ _ _ _ _ _ _)
   | (with_reducible exact ih1 _ _ _ _ _ _ _ _ _)
   | (with_reducible exact ih2 _ _ _ _ _ _ _ _ _ _)
   | (with_reducible exact ih3 _ _ _ _ _ _ _ _ _)
   | (with_reducible exact ih4 _ _ _ _ _ _ _ _ _ _)
   | (with_reducible exact LeO.refl _)
   | (with_reducible exact LeO.none _)
   | (with_reducible refine LeO.ite ?_ ?_)
   | (with_reducible refine LeO.bind ?_ (fun _ => ?_))
   | exact ih0 _ _ _ _ _ _ _ _
   | exact ih1 _ _ _ _ _ _ _ _ _
   | exact ih2 _ _ _ _ _ _ _ _ _ _
   | exact ih3 _ _ _ _ _ _ _ _ _
   | exact ih4 _ _ _ _ _ _ _ _ _ _
   | exact LeO.none _
   | refine LeO.ite ?_ ?_
   | refine LeO.bind ?_ (fun _ => ?_)
set_option maxHeartbeats 8000000 in
set_option maxRecDepth 100000 in
theorem bits_Div64.calls (k : Nat) (a0 : Int) (a1 : Int) (a2 : Int) (r1 : Int) (r2 : Int) (w : World) (h : bits_Div64.f k a0 a1 a2 = some (r1, r2)) :
  Calls Try.prog 68 #[.int .u64 a0, .int .u64 a1, .int .u64 a2] w fun e w' => e = .returned (.tuple #[.int .u64 r1, .int .u64 r2]) ∧ Drawn0 w w' := by
 have H : (if a2 = 0 then (none) else (if a2 ≤ a0 then (none) else (if a0 = 0 then (some (IntKind.u64.wrap (Int.tdiv a1 a2), Int.tmod a1 a2)) else ((bits_LeadingZeros64.f a2).bind fun t254 => (if 0 ≤ (IntKind.u64.wrap (t254)) then (if 0 ≤ (IntKind.u64.wrap (64 - (IntKind.u64.wrap (t254)))) then (if ((shl .u64 a2 (IntKind.u64.wrap (t254))) / 4294967296) = 0 then (none) else (bits_Div64.l0 k (shl .u64 a2 (IntKind.u64.wrap (t254))) (IntKind.u64.wrap (t254)) ((shl .u64 a2 (IntKind.u64.wrap (t254))) / 4294967296) (Go.bits .and .u64 (shl .u64 a2 (IntKind.u64.wrap (t254))) 4294967295) (Go.bits .or .u64 (shl .u64 a0 (IntKind.u64.wrap (t254))) (shr .u64 a1 (IntKind.u64.wrap (64 - (IntKind.u64.wrap (t254)))))) ((shl .u64 a1 (IntKind.u64.wrap (t254))) / 4294967296) (Go.bits .and .u64 (shl .u64 a1 (IntKind.u64.wrap (t254))) 4294967295) (IntKind.u64.wrap (Int.tdiv (Go.bits .or .u64 (shl .u64 a0 (IntKind.u64.wrap (t254))) (shr .u64 a1 (IntKind.u64.wrap (64 - (IntKind.u64.wrap (t254)))))) ((shl .u64 a2 (IntKind.u64.wrap (t254))) / 4294967296))) (IntKind.u64.wrap ((Go.bits .or .u64 (shl .u64 a0 (IntKind.u64.wrap (t254))) (shr .u64 a1 (IntKind.u64.wrap (64 - (IntKind.u64.wrap (t254)))))) - (IntKind.u64.wrap ((IntKind.u64.wrap (Int.tdiv (Go.bits .or .u64 (shl .u64 a0 (IntKind.u64.wrap (t254))) (shr .u64 a1 (IntKind.u64.wrap (64 - (IntKind.u64.wrap (t254)))))) ((shl .u64 a2 (IntKind.u64.wrap (t254))) / 4294967296))) * ((shl .u64 a2 (IntKind.u64.wrap (t254))) / 4294967296))))))) else (none)) else (none)))))) = some (r1, r2) := h
 clear h
 by_cases c4 : a2 = 0
 ·rw [if_pos c4] at H
  exact absurd H (by simp)
 rw [if_neg c4] at H
 have c4b0 : (a2 == 0) = false := beq_eq_false_iff_ne.mpr c4
 have c4b1 : (a2 != 0) = true := bne_iff_ne.mpr c4
 by_cases c5 : a2 ≤ a0
 ·rw [if_pos c5] at H
  exact absurd H (by simp)
 rw [if_neg c5] at H
 have c5b0 : decide (a2 ≤ a0) = false := decide_eq_false c5
 clear c5
 by_cases c6 : a0 = 0
 ·rw [if_pos c6] at H
  have c6b0 : (a0 == 0) = true := beq_iff_eq.mpr c6
  have c6b1 : (a0 != 0) = false := bne_eq_false_iff_eq.mpr c6
  clear c6
  simp only [Option.some.injEq, Prod.mk.injEq] at H
  obtain ⟨rfl, rfl⟩ := H
  go_enter Try.func68, Try.ntmps68
  go_wp2
  repeat (go_quiet (fail); try go_wp2)
  go_ret2
  exact ⟨by first | rfl | (simp; done) | (simp [*]; done), by repeat (first | exact Drawn0.refl _ | apply Drawn0.step)⟩
 rw [if_neg c6] at H
 have c6b0 : (a0 == 0) = false := beq_eq_false_iff_ne.mpr c6
 have c6b1 : (a0 != 0) = true := bne_iff_ne.mpr c6
 replace H := Option.bind_eq_some_iff.mp H
 obtain ⟨t254, A70, H⟩ := H
 replace H : (if 0 ≤ (IntKind.u64.wrap (t254)) then (if 0 ≤ (IntKind.u64.wrap (64 - (IntKind.u64.wrap (t254)))) then (if ((shl .u64 a2 (IntKind.u64.wrap (t254))) / 4294967296) = 0 then (none) else (bits_Div64.l0 k (shl .u64 a2 (IntKind.u64.wrap (t254))) (IntKind.u64.wrap (t254)) ((shl .u64 a2 (IntKind.u64.wrap (t254))) / 4294967296) (Go.bits .and .u64 (shl .u64 a2 (IntKind.u64.wrap (t254))) 4294967295) (Go.bits .or .u64 (shl .u64 a0 (IntKind.u64.wrap (t254))) (shr .u64 a1 (IntKind.u64.wrap (64 - (IntKind.u64.wrap (t254)))))) ((shl .u64 a1 (IntKind.u64.wrap (t254))) / 4294967296) (Go.bits .and .u64 (shl .u64 a1 (IntKind.u64.wrap (t254))) 4294967295) (IntKind.u64.wrap (Int.tdiv (Go.bits .or .u64 (shl .u64 a0 (IntKind.u64.wrap (t254))) (shr .u64 a1 (IntKind.u64.wrap (64 - (IntKind.u64.wrap (t254)))))) ((shl .u64 a2 (IntKind.u64.wrap (t254))) / 4294967296))) (IntKind.u64.wrap ((Go.bits .or .u64 (shl .u64 a0 (IntKind.u64.wrap (t254))) (shr .u64 a1 (IntKind.u64.wrap (64 - (IntKind.u64.wrap (t254)))))) - (IntKind.u64.wrap ((IntKind.u64.wrap (Int.tdiv (Go.bits .or .u64 (shl .u64 a0 (IntKind.u64.wrap (t254))) (shr .u64 a1 (IntKind.u64.wrap (64 - (IntKind.u64.wrap (t254)))))) ((shl .u64 a2 (IntKind.u64.wrap (t254))) / 4294967296))) * ((shl .u64 a2 (IntKind.u64.wrap (t254))) / 4294967296))))))) else (none)) else (none)) = some (r1, r2) := H
 have A7 := Aside0.mk A70
 clear A70
 obtain ⟨ji8, hji8⟩ : ∃ j_ : Int, (IntKind.u64.wrap (t254)) = j_ := ⟨_, rfl⟩
 replace H : (if 0 ≤ (ji8) then (if 0 ≤ (IntKind.u64.wrap (64 - (ji8))) then (if ((shl .u64 a2 (ji8)) / 4294967296) = 0 then (none) else (bits_Div64.l0 k (shl .u64 a2 (ji8)) ji8 ((shl .u64 a2 (ji8)) / 4294967296) (Go.bits .and .u64 (shl .u64 a2 (ji8)) 4294967295) (Go.bits .or .u64 (shl .u64 a0 (ji8)) (shr .u64 a1 (IntKind.u64.wrap (64 - (ji8))))) ((shl .u64 a1 (ji8)) / 4294967296) (Go.bits .and .u64 (shl .u64 a1 (ji8)) 4294967295) (IntKind.u64.wrap (Int.tdiv (Go.bits .or .u64 (shl .u64 a0 (ji8)) (shr .u64 a1 (IntKind.u64.wrap (64 - (ji8))))) ((shl .u64 a2 (ji8)) / 4294967296))) (IntKind.u64.wrap ((Go.bits .or .u64 (shl .u64 a0 (ji8)) (shr .u64 a1 (IntKind.u64.wrap (64 - (ji8))))) - (IntKind.u64.wrap ((IntKind.u64.wrap (Int.tdiv (Go.bits .or .u64 (shl .u64 a0 (ji8)) (shr .u64 a1 (IntKind.u64.wrap (64 - (ji8))))) ((shl .u64 a2 (ji8)) / 4294967296))) * ((shl .u64 a2 (ji8)) / 4294967296))))))) else (none)) else (none)) = some (r1, r2) := by first | (rw [hji8] at H; exact H) | (simp only [hji8] at H ⊢; exact H)
 (try rw [hji8] at A7)
 by_cases c9 : 0 ≤ (ji8)
 ·rw [if_pos c9] at H
  have c9b0 := eq_true c9
  have c9b1 : decide (0 ≤ (ji8)) = true := decide_eq_true c9
  clear c9
  obtain ⟨ji10, hji10⟩ : ∃ j_ : Int, (shl .u64 a2 (ji8)) = j_ := ⟨_, rfl⟩
  replace H : (if 0 ≤ (IntKind.u64.wrap (64 - (ji8))) then (if ((ji10) / 4294967296) = 0 then (none) else (bits_Div64.l0 k ji10 ji8 ((ji10) / 4294967296) (Go.bits .and .u64 (ji10) 4294967295) (Go.bits .or .u64 (shl .u64 a0 (ji8)) (shr .u64 a1 (IntKind.u64.wrap (64 - (ji8))))) ((shl .u64 a1 (ji8)) / 4294967296) (Go.bits .and .u64 (shl .u64 a1 (ji8)) 4294967295) (IntKind.u64.wrap (Int.tdiv (Go.bits .or .u64 (shl .u64 a0 (ji8)) (shr .u64 a1 (IntKind.u64.wrap (64 - (ji8))))) ((ji10) / 4294967296))) (IntKind.u64.wrap ((Go.bits .or .u64 (shl .u64 a0 (ji8)) (shr .u64 a1 (IntKind.u64.wrap (64 - (ji8))))) - (IntKind.u64.wrap ((IntKind.u64.wrap (Int.tdiv (Go.bits .or .u64 (shl .u64 a0 (ji8)) (shr .u64 a1 (IntKind.u64.wrap (64 - (ji8))))) ((ji10) / 4294967296))) * ((ji10) / 4294967296))))))) else (none)) = some (r1, r2) := by first | (rw [hji10] at H; exact H) | (simp only [hji10] at H ⊢; exact H)
  (try rw [hji10] at A7)
  have hji10_ : (IntKind.u64.wrap (a2 * 2 ^ min (ji8).toNat 64)) = ji10 := hji10
  have hji10z : (ji8) ≤ 64 → (IntKind.u64.wrap (a2 * 2 ^ (ji8).toNat)) = ji10 := shl_small hji10
  have c11b0 := eq_true (of_decide_eq_true (by first | (with_reducible assumption) | assumption) : 0 ≤ (ji8))
  obtain ⟨ji12, hji12⟩ : ∃ j_ : Int, (shl .u64 a0 (ji8)) = j_ := ⟨_, rfl⟩
  replace H : (if 0 ≤ (IntKind.u64.wrap (64 - (ji8))) then (if ((ji10) / 4294967296) = 0 then (none) else (bits_Div64.l0 k ji10 ji8 ((ji10) / 4294967296) (Go.bits .and .u64 (ji10) 4294967295) (Go.bits .or .u64 (ji12) (shr .u64 a1 (IntKind.u64.wrap (64 - (ji8))))) ((shl .u64 a1 (ji8)) / 4294967296) (Go.bits .and .u64 (shl .u64 a1 (ji8)) 4294967295) (IntKind.u64.wrap (Int.tdiv (Go.bits .or .u64 (ji12) (shr .u64 a1 (IntKind.u64.wrap (64 - (ji8))))) ((ji10) / 4294967296))) (IntKind.u64.wrap ((Go.bits .or .u64 (ji12) (shr .u64 a1 (IntKind.u64.wrap (64 - (ji8))))) - (IntKind.u64.wrap ((IntKind.u64.wrap (Int.tdiv (Go.bits .or .u64 (ji12) (shr .u64 a1 (IntKind.u64.wrap (64 - (ji8))))) ((ji10) / 4294967296))) * ((ji10) / 4294967296))))))) else (none)) = some (r1, r2) := by first | (rw [hji12] at H; exact H) | (simp only [hji12] at H ⊢; exact H)
  (try rw [hji12] at A7)
  have hji12_ : (IntKind.u64.wrap (a0 * 2 ^ min (ji8).toNat 64)) = ji12 := hji12
  have hji12z : (ji8) ≤ 64 → (IntKind.u64.wrap (a0 * 2 ^ (ji8).toNat)) = ji12 := shl_small hji12
  obtain ⟨ji13, hji13⟩ : ∃ j_ : Int, (IntKind.u64.wrap (64 - (ji8))) = j_ := ⟨_, rfl⟩
  replace H : (if 0 ≤ (ji13) then (if ((ji10) / 4294967296) = 0 then (none) else (bits_Div64.l0 k ji10 ji8 ((ji10) / 4294967296) (Go.bits .and .u64 (ji10) 4294967295) (Go.bits .or .u64 (ji12) (shr .u64 a1 (ji13))) ((shl .u64 a1 (ji8)) / 4294967296) (Go.bits .and .u64 (shl .u64 a1 (ji8)) 4294967295) (IntKind.u64.wrap (Int.tdiv (Go.bits .or .u64 (ji12) (shr .u64 a1 (ji13))) ((ji10) / 4294967296))) (IntKind.u64.wrap ((Go.bits .or .u64 (ji12) (shr .u64 a1 (ji13))) - (IntKind.u64.wrap ((IntKind.u64.wrap (Int.tdiv (Go.bits .or .u64 (ji12) (shr .u64 a1 (ji13))) ((ji10) / 4294967296))) * ((ji10) / 4294967296))))))) else (none)) = some (r1, r2) := by first | (rw [hji13] at H; exact H) | (simp only [hji13] at H ⊢; exact H)
  (try rw [hji13] at A7)
  by_cases c14 : 0 ≤ (ji13)
  ·rw [if_pos c14] at H
   have c14b0 := eq_true c14
   have c14b1 : decide (0 ≤ (ji13)) = true := decide_eq_true c14
   clear c14
   obtain ⟨ji15, hji15⟩ : ∃ j_ : Int, (shr .u64 a1 (ji13)) = j_ := ⟨_, rfl⟩
   replace H : (if ((ji10) / 4294967296) = 0 then (none) else (bits_Div64.l0 k ji10 ji8 ((ji10) / 4294967296) (Go.bits .and .u64 (ji10) 4294967295) (Go.bits .or .u64 (ji12) (ji15)) ((shl .u64 a1 (ji8)) / 4294967296) (Go.bits .and .u64 (shl .u64 a1 (ji8)) 4294967295) (IntKind.u64.wrap (Int.tdiv (Go.bits .or .u64 (ji12) (ji15)) ((ji10) / 4294967296))) (IntKind.u64.wrap ((Go.bits .or .u64 (ji12) (ji15)) - (IntKind.u64.wrap ((IntKind.u64.wrap (Int.tdiv (Go.bits .or .u64 (ji12) (ji15)) ((ji10) / 4294967296))) * ((ji10) / 4294967296))))))) = some (r1, r2) := by first | (rw [hji15] at H; exact H) | (simp only [hji15] at H ⊢; exact H)
   (try rw [hji15] at A7)
   have hji15_ : (a1 / 2 ^ min (ji13).toNat 64) = ji15 := hji15
   have hji15z : (ji13) ≤ 64 → (a1 / 2 ^ (ji13).toNat) = ji15 := shr_small hji15
   have c16b0 := eq_true (of_decide_eq_true (by first | (with_reducible assumption) | assumption) : 0 ≤ (ji8))
   obtain ⟨ji17, hji17⟩ : ∃ j_ : Int, (shl .u64 a1 (ji8)) = j_ := ⟨_, rfl⟩
   replace H : (if ((ji10) / 4294967296) = 0 then (none) else (bits_Div64.l0 k ji10 ji8 ((ji10) / 4294967296) (Go.bits .and .u64 (ji10) 4294967295) (Go.bits .or .u64 (ji12) (ji15)) ((ji17) / 4294967296) (Go.bits .and .u64 (ji17) 4294967295) (IntKind.u64.wrap (Int.tdiv (Go.bits .or .u64 (ji12) (ji15)) ((ji10) / 4294967296))) (IntKind.u64.wrap ((Go.bits .or .u64 (ji12) (ji15)) - (IntKind.u64.wrap ((IntKind.u64.wrap (Int.tdiv (Go.bits .or .u64 (ji12) (ji15)) ((ji10) / 4294967296))) * ((ji10) / 4294967296))))))) = some (r1, r2) := by first | (rw [hji17] at H; exact H) | (simp only [hji17] at H ⊢; exact H)
   (try rw [hji17] at A7)
   have hji17_ : (IntKind.u64.wrap (a1 * 2 ^ min (ji8).toNat 64)) = ji17 := hji17
   have hji17z : (ji8) ≤ 64 → (IntKind.u64.wrap (a1 * 2 ^ (ji8).toNat)) = ji17 := shl_small hji17
   by_cases c18 : ((ji10) / 4294967296) = 0
   ·rw [if_pos c18] at H
    exact absurd H (by simp)
   rw [if_neg c18] at H
   have c18b0 : (((ji10) / 4294967296) == 0) = false := beq_eq_false_iff_ne.mpr c18
   have c18b1 : (((ji10) / 4294967296) != 0) = true := bne_iff_ne.mpr c18
   have HC19 := Aside0.mk H
   clear H
   go_enter Try.func68, Try.ntmps68
   go_upto_block 0 with (first | (go_at_call 86; (with_reducible refine (bits_LeadingZeros64.calls a2 t254 _ A7.out).mono ?_); rintro e w' ⟨rfl, ⟨nd, rfl⟩⟩; (try first | exact ⟨rfl, _, World.drewN_drewN _ _ _⟩ | exact ⟨rfl, _, Eq.trans (World.drewN_drewN _ _ _) (congrArg (World.drewN _) (Nat.add_assoc _ _ _))⟩)))
   repeat (go_quiet (first | (go_at_call 86; (with_reducible refine (bits_LeadingZeros64.calls a2 t254 _ A7.out).mono ?_); rintro e w' ⟨rfl, ⟨nd, rfl⟩⟩; (try first | exact ⟨rfl, _, World.drewN_drewN _ _ _⟩ | exact ⟨rfl, _, Eq.trans (World.drewN_drewN _ _ _) (congrArg (World.drewN _) (Nat.add_assoc _ _ _))⟩))); go_upto_block 0 with (first | (go_at_call 86; (with_reducible refine (bits_LeadingZeros64.calls a2 t254 _ A7.out).mono ?_); rintro e w' ⟨rfl, ⟨nd, rfl⟩⟩; (try first | exact ⟨rfl, _, World.drewN_drewN _ _ _⟩ | exact ⟨rfl, _, Eq.trans (World.drewN_drewN _ _ _) (congrArg (World.drewN _) (Nat.add_assoc _ _ _))⟩))))
   (try simp only [Act.put, List.setIfInBounds_toArray, List.set_cons_zero, List.set_cons_succ])
   go_cut [15] (fun v15 wc => ∃ (kq : Nat) (x15_18 : Int), v15 = .int .u64 x15_18 ∧ Aside0 (bits_Div64.j2 kq ji10 ji8 ((ji10) / 4294967296) (Go.bits .and .u64 (ji10) 4294967295) (Go.bits .or .u64 (ji12) (ji15)) ((ji17) / 4294967296) (Go.bits .and .u64 (ji17) 4294967295) x15_18 = some (r1, r2)) ∧ Aside0 (kq ≤ k) ∧ Drawn0 w wc)
   case first =>
    have H := HC19.out
    clear HC19
    have H' := Aside0.mk H
    clear H
    go_wp2
    repeat (go_quiet (fail); try go_wp2)
    (try simp only [Act.put, List.setIfInBounds_toArray, List.set_cons_zero, List.set_cons_succ])
    go_loopg [15, 16] k (fun kq v15 v16 w' => ∃ (x15_1 : Int) (x16_1 : Int), v15 = .int .u64 x15_1 ∧ v16 = .int .u64 x16_1 ∧ Aside0 (bits_Div64.l0 kq ji10 ji8 ((ji10) / 4294967296) (Go.bits .and .u64 (ji10) 4294967295) (Go.bits .or .u64 (ji12) (ji15)) ((ji17) / 4294967296) (Go.bits .and .u64 (ji17) 4294967295) x15_1 x16_1 = some (r1, r2)) ∧ Aside0 (kq ≤ k) ∧ Drawn0 w w')
    case atStart => exact ⟨(IntKind.u64.wrap (Int.tdiv (Go.bits .or .u64 (ji12) (ji15)) ((ji10) / 4294967296))), (IntKind.u64.wrap ((Go.bits .or .u64 (ji12) (ji15)) - (IntKind.u64.wrap ((IntKind.u64.wrap (Int.tdiv (Go.bits .or .u64 (ji12) (ji15)) ((ji10) / 4294967296))) * ((ji10) / 4294967296))))), (by first | rfl | (simp; done) | (simp only [← hji10, ← hji12, ← hji15] <;> (first | rfl | simp)) | (simp [*]; done)), (by first | rfl | (simp; done) | (simp only [← hji10, ← hji12, ← hji15] <;> (first | rfl | simp)) | (simp [*]; done)), H', ⟨Nat.le_refl _⟩, by repeat (first | exact Drawn0.refl _ | apply Drawn0.step)⟩
    case round =>
     clear H'
     try clear c1
     try clear p2
     try clear c4
     try clear c4b0
     try clear c4b1
     try clear c5
     try clear c5b0
     try clear c6
     try clear c6b0
     try clear c6b1
     try clear c9
     try clear c9b0
     try clear c9b1
     try clear c11
     try clear c11b0
     try clear c14
     try clear c14b0
     try clear c14b1
     try clear c16
     try clear c16b0
     try clear c18
     try clear c18b0
     try clear c18b1
     obtain ⟨x15_1, x16_1, rfl, rfl, HA, HK1, ⟨m1, rfl⟩⟩ := hrel
     cases gk with
     | zero => exact absurd HA.out (by simp [bits_Div64.l0])
     | succ k1 =>
      have H := HA.out
      clear HA
      simp only [bits_Div64.l0] at H
      have HC20 := Aside0.mk H
      clear H
      go_upto_region 17 with (fail)
      repeat (go_quiet (fail); go_upto_region 17 with (fail))
      go_cut [78] (fun v78 wc => ∃ (kq : Nat) (x78_19 : Bool), v78 = .bool x78_19 ∧ Aside0 (bits_Div64.j1 kq ji10 ji8 ((ji10) / 4294967296) (Go.bits .and .u64 (ji10) 4294967295) (Go.bits .or .u64 (ji12) (ji15)) ((ji17) / 4294967296) (Go.bits .and .u64 (ji17) 4294967295) x15_1 x16_1 x78_19 = some (r1, r2)) ∧ Aside0 (kq ≤ k1) ∧ Drawn0 w wc)
      case first =>
       have H := HC20.out
       clear HC20
       by_cases c21 : x15_1 ≥ 4294967296
       ·rw [if_pos c21] at H
        have c21b0 : decide (4294967296 ≤ x15_1) = true := decide_eq_true c21
        clear c21
        (first | rw [c21b0] | (simp only [i64_w, i32_w]; rw [c21b0]) | skip)
        have H' := Aside0.mk H
        clear H
        go_wp2
        repeat (go_quiet (fail); try go_wp2)
        go_meet
        case rel => exact ⟨_, (true), (by first | rfl | (simp; done) | (simp [*]; done)), H', ⟨by have := HK1.out; first | omega | exact Nat.le_refl _⟩, by repeat (first | exact Drawn0.refl _ | apply Drawn0.step)⟩
       rw [if_neg c21] at H
       have c21b0 : decide (4294967296 ≤ x15_1) = false := decide_eq_false c21
       clear c21
       (first | rw [c21b0] | (simp only [i64_w, i32_w]; rw [c21b0]) | skip)
       have H' := Aside0.mk H
       clear H
       go_wp2
       repeat (go_quiet (fail); try go_wp2)
       go_meet
       case rel => exact ⟨_, (decide ((IntKind.u64.wrap (x15_1 * (Go.bits .and .u64 (ji10) 4294967295))) > (IntKind.u64.wrap ((IntKind.u64.wrap (4294967296 * x16_1)) + ((ji17) / 4294967296))))), (by first | rfl | (simp; done) | (simp only [← hji10, ← hji17] <;> (first | rfl | simp)) | (simp [*]; done)), H', ⟨by have := HK1.out; first | omega | exact Nat.le_refl _⟩, by repeat (first | exact Drawn0.refl _ | apply Drawn0.step)⟩
      case rest =>
       clear HC20
       try clear c1
       try clear c2
       try clear p2
       try clear c4
       try clear c4b0
       try clear c4b1
       try clear c5
       try clear c5b0
       try clear c6
       try clear c6b0
       try clear c6b1
       try clear c9
       try clear c9b0
       try clear c9b1
       try clear c11
       try clear c11b0
       try clear c14
       try clear c14b0
       try clear c14b1
       try clear c16
       try clear c16b0
       try clear c18
       try clear c18b0
       try clear c18b1
       try clear c21
       try clear c21b0
       try clear p2
       obtain ⟨kq, x78_19, rfl, HA, HJ19, ⟨mc19, rfl⟩⟩ := hcut
       cases kq with
       | zero => exact absurd HA.out (by simp [bits_Div64.j1])
       | succ kj19 =>
        have H := HA.out
        clear HA
        simp only [bits_Div64.j1] at H
        by_cases c22 : x78_19 = true
        ·subst c22
         have H1 : (if (IntKind.u64.wrap (x16_1 + ((ji10) / 4294967296))) ≥ 4294967296 then (bits_Div64.j2 kj19 ji10 ji8 ((ji10) / 4294967296) (Go.bits .and .u64 (ji10) 4294967295) (Go.bits .or .u64 (ji12) (ji15)) ((ji17) / 4294967296) (Go.bits .and .u64 (ji17) 4294967295) (IntKind.u64.wrap (x15_1 - 1))) else (bits_Div64.l0 kj19 ji10 ji8 ((ji10) / 4294967296) (Go.bits .and .u64 (ji10) 4294967295) (Go.bits .or .u64 (ji12) (ji15)) ((ji17) / 4294967296) (Go.bits .and .u64 (ji17) 4294967295) (IntKind.u64.wrap (x15_1 - 1)) (IntKind.u64.wrap (x16_1 + ((ji10) / 4294967296))))) = some (r1, r2) := by rw [if_pos rfl] at H; exact H
         clear H
         have H := H1
         clear H1
         by_cases c23 : (IntKind.u64.wrap (x16_1 + ((ji10) / 4294967296))) ≥ 4294967296
         ·rw [if_pos c23] at H
          have c23b0 : decide (4294967296 ≤ (IntKind.u64.wrap (x16_1 + ((ji10) / 4294967296)))) = true := decide_eq_true c23
          clear c23
          have H' := Aside0.mk H
          clear H
          go_wp2
          repeat (go_quiet (fail); try go_wp2)
          go_meet
          case rel => exact ⟨_, (IntKind.u64.wrap (x15_1 - 1)), (by first | rfl | (simp; done) | (simp [*]; done)), H', ⟨by have := HK1.out; have := HJ19.out; first | omega | exact Nat.le_refl _⟩, by repeat (first | exact Drawn0.refl _ | apply Drawn0.step)⟩
         rw [if_neg c23] at H
         have c23b0 : decide (4294967296 ≤ (IntKind.u64.wrap (x16_1 + ((ji10) / 4294967296)))) = false := decide_eq_false c23
         clear c23
         have H' := Aside0.mk H
         clear H
         go_wp2
         repeat (go_quiet (fail); try go_wp2)
         go_roundg kj19
         case measure => have := HK1.out; have := HJ19.out; omega
         case rel => exact ⟨(IntKind.u64.wrap (x15_1 - 1)), (IntKind.u64.wrap (x16_1 + ((ji10) / 4294967296))), (by first | rfl | (simp; done) | (simp [*]; done)), (by first | rfl | (simp; done) | (simp only [← hji10]; first | rfl | (simp; done) | (simp [mn, mx]; done)) | (simp [*]; done)), H', ⟨by have := HK1.out; have := HJ19.out; omega⟩, by repeat (first | exact Drawn0.refl _ | apply Drawn0.step)⟩
        replace c22 := Bool.eq_false_iff.mpr c22
        subst c22
        have H1 : (bits_Div64.j2 kj19 ji10 ji8 ((ji10) / 4294967296) (Go.bits .and .u64 (ji10) 4294967295) (Go.bits .or .u64 (ji12) (ji15)) ((ji17) / 4294967296) (Go.bits .and .u64 (ji17) 4294967295) x15_1) = some (r1, r2) := by rw [if_neg (show ¬ (false = true) by decide)] at H; exact H
        clear H
        have H := H1
        clear H1
        have H' := Aside0.mk H
        clear H
        go_wp2
        repeat (go_quiet (fail); try go_wp2)
        go_meet
        case rel => exact ⟨_, (x15_1), (by first | rfl | (simp; done) | (simp [*]; done)), H', ⟨by have := HK1.out; have := HJ19.out; first | omega | exact Nat.le_refl _⟩, by repeat (first | exact Drawn0.refl _ | apply Drawn0.step)⟩
   case rest =>
    clear HC19
    try clear c1
    try clear c2
    try clear p2
    try clear c4
    try clear c4b0
    try clear c4b1
    try clear c5
    try clear c5b0
    try clear c6
    try clear c6b0
    try clear c6b1
    try clear c9
    try clear c9b0
    try clear c9b1
    try clear c11
    try clear c11b0
    try clear c14
    try clear c14b0
    try clear c14b1
    try clear c16
    try clear c16b0
    try clear c18
    try clear c18b0
    try clear c18b1
    try clear c19
    try clear c21
    try clear c21b0
    try clear c22
    try clear c23
    try clear c23b0
    try clear p2
    obtain ⟨kq, x15_18, rfl, HA, HJ18, ⟨mc18, rfl⟩⟩ := hcut
    cases kq with
    | zero => exact absurd HA.out (by simp [bits_Div64.j2])
    | succ kj18 =>
     have H := HA.out
     clear HA
     simp only [bits_Div64.j2] at H
     by_cases c24 : ((ji10) / 4294967296) = 0
     ·rw [if_pos c24] at H
      exact absurd H (by simp)
     rw [if_neg c24] at H
     have c24b0 : (((ji10) / 4294967296) == 0) = false := beq_eq_false_iff_ne.mpr c24
     have c24b1 : (((ji10) / 4294967296) != 0) = true := bne_iff_ne.mpr c24
     have H' := Aside0.mk H
     clear H
     go_wp2
     repeat (go_quiet (fail); try go_wp2)
     (try simp only [Act.put, List.setIfInBounds_toArray, List.set_cons_zero, List.set_cons_succ])
     go_loopg [16, 18] kj18 (fun kq v16 v18 w' => ∃ (x16_2 : Int) (x18_2 : Int), v16 = .int .u64 x16_2 ∧ v18 = .int .u64 x18_2 ∧ Aside0 (bits_Div64.l1 kq ji10 ji8 ((ji10) / 4294967296) (Go.bits .and .u64 (ji10) 4294967295) (Go.bits .and .u64 (ji17) 4294967295) x15_18 x16_2 (IntKind.u64.wrap ((IntKind.u64.wrap ((IntKind.u64.wrap ((Go.bits .or .u64 (ji12) (ji15)) * 4294967296)) + ((ji17) / 4294967296))) - (IntKind.u64.wrap (x15_18 * ji10)))) x18_2 = some (r1, r2)) ∧ Aside0 (kq ≤ kj18) ∧ Drawn0 w w')
     case atStart => exact ⟨(IntKind.u64.wrap ((IntKind.u64.wrap ((IntKind.u64.wrap ((IntKind.u64.wrap ((Go.bits .or .u64 (ji12) (ji15)) * 4294967296)) + ((ji17) / 4294967296))) - (IntKind.u64.wrap (x15_18 * ji10)))) - (IntKind.u64.wrap ((IntKind.u64.wrap (Int.tdiv (IntKind.u64.wrap ((IntKind.u64.wrap ((IntKind.u64.wrap ((Go.bits .or .u64 (ji12) (ji15)) * 4294967296)) + ((ji17) / 4294967296))) - (IntKind.u64.wrap (x15_18 * ji10)))) ((ji10) / 4294967296))) * ((ji10) / 4294967296))))), (IntKind.u64.wrap (Int.tdiv (IntKind.u64.wrap ((IntKind.u64.wrap ((IntKind.u64.wrap ((Go.bits .or .u64 (ji12) (ji15)) * 4294967296)) + ((ji17) / 4294967296))) - (IntKind.u64.wrap (x15_18 * ji10)))) ((ji10) / 4294967296))), (by first | rfl | (simp; done) | (simp only [← hji10, ← hji12, ← hji15, ← hji17] <;> (first | rfl | simp)) | (simp [*]; done)), (by first | rfl | (simp; done) | (simp only [← hji10, ← hji12, ← hji15, ← hji17] <;> (first | rfl | simp)) | (simp [*]; done)), H', ⟨Nat.le_refl _⟩, by repeat (first | exact Drawn0.refl _ | apply Drawn0.step)⟩
     case round =>
      clear H'
      try clear c1
      try clear c2
      try clear p2
      try clear c4
      try clear c4b0
      try clear c4b1
      try clear c5
      try clear c5b0
      try clear c6
      try clear c6b0
      try clear c6b1
      try clear c9
      try clear c9b0
      try clear c9b1
      try clear c11
      try clear c11b0
      try clear c14
      try clear c14b0
      try clear c14b1
      try clear c16
      try clear c16b0
      try clear c18
      try clear c18b0
      try clear c18b1
      try clear c19
      try clear c21
      try clear c21b0
      try clear c22
      try clear c23
      try clear c23b0
      try clear c24
      try clear c24b0
      try clear c24b1
      try clear p2
      obtain ⟨x16_2, x18_2, rfl, rfl, HA, HK2, ⟨m2, rfl⟩⟩ := hrel
      cases gk with
      | zero => exact absurd HA.out (by simp [bits_Div64.l1])
      | succ k2 =>
       have H := HA.out
       clear HA
       simp only [bits_Div64.l1] at H
       have HC25 := Aside0.mk H
       clear H
       go_upto_region 24 with (fail)
       repeat (go_quiet (fail); go_upto_region 24 with (fail))
       go_cut [113] (fun v113 wc => ∃ (kq : Nat) (x113_24 : Bool), v113 = .bool x113_24 ∧ Aside0 (bits_Div64.j4 kq ji10 ji8 ((ji10) / 4294967296) (Go.bits .and .u64 (ji10) 4294967295) (Go.bits .and .u64 (ji17) 4294967295) x15_18 x16_2 (IntKind.u64.wrap ((IntKind.u64.wrap ((IntKind.u64.wrap ((Go.bits .or .u64 (ji12) (ji15)) * 4294967296)) + ((ji17) / 4294967296))) - (IntKind.u64.wrap (x15_18 * ji10)))) x18_2 x113_24 = some (r1, r2)) ∧ Aside0 (kq ≤ k2) ∧ Drawn0 w wc)
       case first =>
        have H := HC25.out
        clear HC25
        by_cases c26 : x18_2 ≥ 4294967296
        ·rw [if_pos c26] at H
         have c26b0 : decide (4294967296 ≤ x18_2) = true := decide_eq_true c26
         clear c26
         (first | rw [c26b0] | (simp only [i64_w, i32_w]; rw [c26b0]) | skip)
         have H' := Aside0.mk H
         clear H
         go_wp2
         repeat (go_quiet (fail); try go_wp2)
         go_meet
         case rel => exact ⟨_, (true), (by first | rfl | (simp; done) | (simp [*]; done)), H', ⟨by have := HJ18.out; have := HK2.out; first | omega | exact Nat.le_refl _⟩, by repeat (first | exact Drawn0.refl _ | apply Drawn0.step)⟩
        rw [if_neg c26] at H
        have c26b0 : decide (4294967296 ≤ x18_2) = false := decide_eq_false c26
        clear c26
        (first | rw [c26b0] | (simp only [i64_w, i32_w]; rw [c26b0]) | skip)
        have H' := Aside0.mk H
        clear H
        go_wp2
        repeat (go_quiet (fail); try go_wp2)
        go_meet
        case rel => exact ⟨_, (decide ((IntKind.u64.wrap (x18_2 * (Go.bits .and .u64 (ji10) 4294967295))) > (IntKind.u64.wrap ((IntKind.u64.wrap (4294967296 * x16_2)) + (Go.bits .and .u64 (ji17) 4294967295))))), (by first | rfl | (simp; done) | (simp only [← hji10, ← hji17] <;> (first | rfl | simp)) | (simp [*]; done)), H', ⟨by have := HJ18.out; have := HK2.out; first | omega | exact Nat.le_refl _⟩, by repeat (first | exact Drawn0.refl _ | apply Drawn0.step)⟩
       case rest =>
        clear HC25
        try clear c1
        try clear c2
        try clear p2
        try clear c4
        try clear c4b0
        try clear c4b1
        try clear c5
        try clear c5b0
        try clear c6
        try clear c6b0
        try clear c6b1
        try clear c9
        try clear c9b0
        try clear c9b1
        try clear c11
        try clear c11b0
        try clear c14
        try clear c14b0
        try clear c14b1
        try clear c16
        try clear c16b0
        try clear c18
        try clear c18b0
        try clear c18b1
        try clear c19
        try clear c21
        try clear c21b0
        try clear c22
        try clear c23
        try clear c23b0
        try clear c24
        try clear c24b0
        try clear c24b1
        try clear c26
        try clear c26b0
        try clear p2
        obtain ⟨kq, x113_24, rfl, HA, HJ24, ⟨mc24, rfl⟩⟩ := hcut
        cases kq with
        | zero => exact absurd HA.out (by simp [bits_Div64.j4])
        | succ kj24 =>
         have H := HA.out
         clear HA
         simp only [bits_Div64.j4] at H
         by_cases c27 : x113_24 = true
         ·subst c27
          have H1 : (if (IntKind.u64.wrap (x16_2 + ((ji10) / 4294967296))) ≥ 4294967296 then (if 0 ≤ ji8 then (some (IntKind.u64.wrap ((IntKind.u64.wrap (x15_18 * 4294967296)) + (IntKind.u64.wrap (x18_2 - 1))), shr .u64 (IntKind.u64.wrap ((IntKind.u64.wrap ((IntKind.u64.wrap ((IntKind.u64.wrap ((IntKind.u64.wrap ((IntKind.u64.wrap ((Go.bits .or .u64 (ji12) (ji15)) * 4294967296)) + ((ji17) / 4294967296))) - (IntKind.u64.wrap (x15_18 * ji10)))) * 4294967296)) + (Go.bits .and .u64 (ji17) 4294967295))) - (IntKind.u64.wrap ((IntKind.u64.wrap (x18_2 - 1)) * ji10)))) ji8)) else (none)) else (bits_Div64.l1 kj24 ji10 ji8 ((ji10) / 4294967296) (Go.bits .and .u64 (ji10) 4294967295) (Go.bits .and .u64 (ji17) 4294967295) x15_18 (IntKind.u64.wrap (x16_2 + ((ji10) / 4294967296))) (IntKind.u64.wrap ((IntKind.u64.wrap ((IntKind.u64.wrap ((Go.bits .or .u64 (ji12) (ji15)) * 4294967296)) + ((ji17) / 4294967296))) - (IntKind.u64.wrap (x15_18 * ji10)))) (IntKind.u64.wrap (x18_2 - 1)))) = some (r1, r2) := by rw [if_pos rfl] at H; exact H
          clear H
          have H := H1
          clear H1
          by_cases c28 : (IntKind.u64.wrap (x16_2 + ((ji10) / 4294967296))) ≥ 4294967296
          ·rw [if_pos c28] at H
           have c28b0 : decide (4294967296 ≤ (IntKind.u64.wrap (x16_2 + ((ji10) / 4294967296)))) = true := decide_eq_true c28
           clear c28
           by_cases c29 : 0 ≤ ji8
           ·rw [if_pos c29] at H
            have c29b0 := eq_true c29
            have c29b1 : decide (0 ≤ ji8) = true := decide_eq_true c29
            clear c29
            obtain ⟨ji30, hji30⟩ : ∃ j_ : Int, (shr .u64 (IntKind.u64.wrap ((IntKind.u64.wrap ((IntKind.u64.wrap ((IntKind.u64.wrap ((IntKind.u64.wrap ((IntKind.u64.wrap ((Go.bits .or .u64 (ji12) (ji15)) * 4294967296)) + ((ji17) / 4294967296))) - (IntKind.u64.wrap (x15_18 * ji10)))) * 4294967296)) + (Go.bits .and .u64 (ji17) 4294967295))) - (IntKind.u64.wrap ((IntKind.u64.wrap (x18_2 - 1)) * ji10)))) ji8) = j_ := ⟨_, rfl⟩
            replace H : (some (IntKind.u64.wrap ((IntKind.u64.wrap (x15_18 * 4294967296)) + (IntKind.u64.wrap (x18_2 - 1))), ji30)) = some (r1, r2) := by first | (rw [hji30] at H; exact H) | (simp only [hji30] at H ⊢; exact H)
            have hji30_ : ((IntKind.u64.wrap ((IntKind.u64.wrap ((IntKind.u64.wrap ((IntKind.u64.wrap ((IntKind.u64.wrap ((IntKind.u64.wrap ((Go.bits .or .u64 (ji12) (ji15)) * 4294967296)) + ((ji17) / 4294967296))) - (IntKind.u64.wrap (x15_18 * ji10)))) * 4294967296)) + (Go.bits .and .u64 (ji17) 4294967295))) - (IntKind.u64.wrap ((IntKind.u64.wrap (x18_2 - 1)) * ji10)))) / 2 ^ min ji8.toNat 64) = ji30 := hji30
            have hji30z : ji8 ≤ 64 → ((IntKind.u64.wrap ((IntKind.u64.wrap ((IntKind.u64.wrap ((IntKind.u64.wrap ((IntKind.u64.wrap ((IntKind.u64.wrap ((Go.bits .or .u64 (ji12) (ji15)) * 4294967296)) + ((ji17) / 4294967296))) - (IntKind.u64.wrap (x15_18 * ji10)))) * 4294967296)) + (Go.bits .and .u64 (ji17) 4294967295))) - (IntKind.u64.wrap ((IntKind.u64.wrap (x18_2 - 1)) * ji10)))) / 2 ^ ji8.toNat) = ji30 := shr_small hji30
            simp only [Option.some.injEq, Prod.mk.injEq] at H
            obtain ⟨rfl, rfl⟩ := H
            go_wp2
            repeat (go_quiet (fail); try go_wp2)
            go_ret2
            exact ⟨by first | rfl | (simp; done) | (simp only [← hji8, ← hji10, ← hji12, ← hji13, ← hji15, ← hji17, ← hji30] <;> (first | rfl | simp)) | (simp [*]; done), by repeat (first | exact Drawn0.refl _ | apply Drawn0.step)⟩
           rw [if_neg c29] at H
           exact absurd H (by simp)
          rw [if_neg c28] at H
          have c28b0 : decide (4294967296 ≤ (IntKind.u64.wrap (x16_2 + ((ji10) / 4294967296)))) = false := decide_eq_false c28
          clear c28
          have H' := Aside0.mk H
          clear H
          go_wp2
          repeat (go_quiet (fail); try go_wp2)
          go_roundg kj24
          case measure => have := HJ18.out; have := HK2.out; have := HJ24.out; omega
          case rel => exact ⟨(IntKind.u64.wrap (x16_2 + ((ji10) / 4294967296))), (IntKind.u64.wrap (x18_2 - 1)), (by first | rfl | (simp; done) | (simp only [← hji10]; first | rfl | (simp; done) | (simp [mn, mx]; done)) | (simp [*]; done)), (by first | rfl | (simp; done) | (simp [*]; done)), H', ⟨by have := HJ18.out; have := HK2.out; have := HJ24.out; omega⟩, by repeat (first | exact Drawn0.refl _ | apply Drawn0.step)⟩
         replace c27 := Bool.eq_false_iff.mpr c27
         subst c27
         have H1 : (if 0 ≤ ji8 then (some (IntKind.u64.wrap ((IntKind.u64.wrap (x15_18 * 4294967296)) + x18_2), shr .u64 (IntKind.u64.wrap ((IntKind.u64.wrap ((IntKind.u64.wrap ((IntKind.u64.wrap ((IntKind.u64.wrap ((IntKind.u64.wrap ((Go.bits .or .u64 (ji12) (ji15)) * 4294967296)) + ((ji17) / 4294967296))) - (IntKind.u64.wrap (x15_18 * ji10)))) * 4294967296)) + (Go.bits .and .u64 (ji17) 4294967295))) - (IntKind.u64.wrap (x18_2 * ji10)))) ji8)) else (none)) = some (r1, r2) := by rw [if_neg (show ¬ (false = true) by decide)] at H; exact H
         clear H
         have H := H1
         clear H1
         by_cases c31 : 0 ≤ ji8
         ·rw [if_pos c31] at H
          have c31b0 := eq_true c31
          have c31b1 : decide (0 ≤ ji8) = true := decide_eq_true c31
          clear c31
          obtain ⟨ji32, hji32⟩ : ∃ j_ : Int, (shr .u64 (IntKind.u64.wrap ((IntKind.u64.wrap ((IntKind.u64.wrap ((IntKind.u64.wrap ((IntKind.u64.wrap ((IntKind.u64.wrap ((Go.bits .or .u64 (ji12) (ji15)) * 4294967296)) + ((ji17) / 4294967296))) - (IntKind.u64.wrap (x15_18 * ji10)))) * 4294967296)) + (Go.bits .and .u64 (ji17) 4294967295))) - (IntKind.u64.wrap (x18_2 * ji10)))) ji8) = j_ := ⟨_, rfl⟩
          replace H : (some (IntKind.u64.wrap ((IntKind.u64.wrap (x15_18 * 4294967296)) + x18_2), ji32)) = some (r1, r2) := by first | (rw [hji32] at H; exact H) | (simp only [hji32] at H ⊢; exact H)
          have hji32_ : ((IntKind.u64.wrap ((IntKind.u64.wrap ((IntKind.u64.wrap ((IntKind.u64.wrap ((IntKind.u64.wrap ((IntKind.u64.wrap ((Go.bits .or .u64 (ji12) (ji15)) * 4294967296)) + ((ji17) / 4294967296))) - (IntKind.u64.wrap (x15_18 * ji10)))) * 4294967296)) + (Go.bits .and .u64 (ji17) 4294967295))) - (IntKind.u64.wrap (x18_2 * ji10)))) / 2 ^ min ji8.toNat 64) = ji32 := hji32
          have hji32z : ji8 ≤ 64 → ((IntKind.u64.wrap ((IntKind.u64.wrap ((IntKind.u64.wrap ((IntKind.u64.wrap ((IntKind.u64.wrap ((IntKind.u64.wrap ((Go.bits .or .u64 (ji12) (ji15)) * 4294967296)) + ((ji17) / 4294967296))) - (IntKind.u64.wrap (x15_18 * ji10)))) * 4294967296)) + (Go.bits .and .u64 (ji17) 4294967295))) - (IntKind.u64.wrap (x18_2 * ji10)))) / 2 ^ ji8.toNat) = ji32 := shr_small hji32
          simp only [Option.some.injEq, Prod.mk.injEq] at H
          obtain ⟨rfl, rfl⟩ := H
          go_wp2
          repeat (go_quiet (fail); try go_wp2)
          go_ret2
          exact ⟨by first | rfl | (simp; done) | (simp only [← hji8, ← hji10, ← hji12, ← hji13, ← hji15, ← hji17, ← hji32] <;> (first | rfl | simp)) | (simp [*]; done), by repeat (first | exact Drawn0.refl _ | apply Drawn0.step)⟩
         rw [if_neg c31] at H
         exact absurd H (by simp)
  rw [if_neg c14] at H
  exact absurd H (by simp)
 rw [if_neg c9] at H
 exact absurd H (by simp)


/-! ### wide_Int_Div: function 70 -/
def wide_Int_Div.f (k : Nat) (a0_0 : Int) (a0_1 : Int) (a1 : Int) : Option (Int × Int × Int × Bool) := if a1 = 0 then (some (0, 0, 0, false)) else ((wide_Int_size.f a0_0 a0_1).bind fun bt262 => ((bits_Div64.f k (Int.tmod bt262.1 a1) bt262.2 a1).bind fun bt264 => (if a0_0 ≥ 0 then (some (wrap64 (IntKind.u64.wrap (Int.tdiv bt262.1 a1)), bt264.1, bt264.2, true)) else (if bt264.2 > 0 then ((wide_Int_flip.f (wrap64 (IntKind.u64.wrap ((IntKind.u64.wrap (Int.tdiv bt262.1 a1)) + (addHi bt264.1 1 0)))) (addLo bt264.1 1 0)).bind fun bt266 => (some (bt266.1, bt266.2, IntKind.u64.wrap (a1 - bt264.2), true))) else ((wide_Int_flip.f (wrap64 (IntKind.u64.wrap (Int.tdiv bt262.1 a1))) bt264.1).bind fun bt268 => (some (bt268.1, bt268.2, bt264.2, true)))))))
theorem wide_Int_Div.mono : ∀ a0 a1 a2 k, LeO (wide_Int_Div.f k a0 a1 a2) (wide_Int_Div.f (k + 1) a0 a1 a2) := by
 intro a0 a1 a2 k
 unfold wide_Int_Div.f
 repeat' first
   | (with_reducible exact bits_Div64.mono _ _ _ _)
   | (with_reducible exact LeO.refl _)
   | (with_reducible exact LeO.none _)
   | (with_reducible refine LeO.ite ?_ ?_)
   | (with_reducible refine LeO.bind ?_ (fun _ => ?_))
   | exact bits_Div64.mono _ _ _ _
   | exact LeO.none _
   | refine LeO.ite ?_ ?_
   | refine LeO.bind ?_ (fun _ => ?_)
set_option maxHeartbeats 8000000 in
set_option maxRecDepth 100000 in
theorem wide_Int_Div.calls (k : Nat) (a0_0 : Int) (a0_1 : Int) (a1 : Int) (r1 : Int) (r2 : Int) (r3 : Int) (r4 : Bool) (w : World) (h : wide_Int_Div.f k a0_0 a0_1 a1 = some (r1, r2, r3, r4)) :
  Calls Try.prog 70 #[.agg #[.int .i64 a0_0, .int .u64 a0_1], .int .u64 a1] w fun e w' => e = .returned (.tuple #[.agg #[.int .i64 r1, .int .u64 r2], .int .u64 r3, .bool r4]) ∧ Below w.heap.size w w' := by
 have hu59 := Try.underlying59
 have HB := Aside0.mk (Below.refl w.heap.size w)
 have H : (if a1 = 0 then (some (0, 0, 0, false)) else ((wide_Int_size.f a0_0 a0_1).bind fun bt262 => ((bits_Div64.f k (Int.tmod bt262.1 a1) bt262.2 a1).bind fun bt264 => (if a0_0 ≥ 0 then (some (wrap64 (IntKind.u64.wrap (Int.tdiv bt262.1 a1)), bt264.1, bt264.2, true)) else (if bt264.2 > 0 then ((wide_Int_flip.f (wrap64 (IntKind.u64.wrap ((IntKind.u64.wrap (Int.tdiv bt262.1 a1)) + (addHi bt264.1 1 0)))) (addLo bt264.1 1 0)).bind fun bt266 => (some (bt266.1, bt266.2, IntKind.u64.wrap (a1 - bt264.2), true))) else ((wide_Int_flip.f (wrap64 (IntKind.u64.wrap (Int.tdiv bt262.1 a1))) bt264.1).bind fun bt268 => (some (bt268.1, bt268.2, bt264.2, true)))))))) = some (r1, r2, r3, r4) := h
 clear h
 by_cases c3 : a1 = 0
 ·rw [if_pos c3] at H
  have c3b0 : (a1 == 0) = true := beq_iff_eq.mpr c3
  have c3b1 : (a1 != 0) = false := bne_eq_false_iff_eq.mpr c3
  clear c3
  simp only [Option.some.injEq, Prod.mk.injEq] at H
  obtain ⟨rfl, rfl, rfl, rfl⟩ := H
  go_enter Try.func70, Try.ntmps70
  go_wp2_with (first | ((with_reducible refine gate_dst (N := 2) rfl ?_); refine box_event ?hg (N := 2) ?hd (cs := #[.int .i64 a0_0, .int .u64 a0_1]) (t := 59) ?hr ?_; (case hd => rfl); (case hg => rfl); (case hr => first | (go_simp; done) | (go_simp; rfl)); intro gb260 hg w4 hbox hb; have BK260 := Aside0.mk (hbox); have GW260 := bels HB hg; have GE260 := bels HB hg; replace HB := belb HB hb; clear hb hbox hg) | ((with_reducible refine gate_dst (N := 4) rfl ?_); refine box_event ?hg (N := 4) ?hd (cs := #[.int .i64 0, .int .u64 0]) (t := 59) ?hr ?_; (case hd => rfl); (case hg => rfl); (case hr => first | (go_simp; done) | (go_simp; rfl)); intro gb261 hg w5 hbox hb; have BK261 := Aside0.mk (hbox); have GW261 := bels HB hg; have GE261 := bels HB hg; have NB260_261 := blkl BK260 hg; have NB261_260 := blkg BK260 hg; replace BK260 := blkb BK260 hb; replace HB := belb HB hb; clear hb hbox hg; have hnb6 := NB261_260.out; have hnc6 := NB260_261.out; have hcz7_0 : w5.cell? ⟨gb261, 0, none⟩ = some (.int .i64 0) := bc BK261 0; have hcz7_1 : w5.cell? ⟨gb261, 1, none⟩ = some (.int .u64 0) := bc BK261 1; have hfz7_0 := blk_frozen BK261.out 0; have hfz7_1 := blk_frozen BK261.out 1))
  repeat (go_quiet (first | ((with_reducible refine gate_dst (N := 2) rfl ?_); refine box_event ?hg (N := 2) ?hd (cs := #[.int .i64 a0_0, .int .u64 a0_1]) (t := 59) ?hr ?_; (case hd => rfl); (case hg => rfl); (case hr => first | (go_simp; done) | (go_simp; rfl)); intro gb260 hg w4 hbox hb; have BK260 := Aside0.mk (hbox); have GW260 := bels HB hg; have GE260 := bels HB hg; replace HB := belb HB hb; clear hb hbox hg) | ((with_reducible refine gate_dst (N := 4) rfl ?_); refine box_event ?hg (N := 4) ?hd (cs := #[.int .i64 0, .int .u64 0]) (t := 59) ?hr ?_; (case hd => rfl); (case hg => rfl); (case hr => first | (go_simp; done) | (go_simp; rfl)); intro gb261 hg w5 hbox hb; have BK261 := Aside0.mk (hbox); have GW261 := bels HB hg; have GE261 := bels HB hg; have NB260_261 := blkl BK260 hg; have NB261_260 := blkg BK260 hg; replace BK260 := blkb BK260 hb; replace HB := belb HB hb; clear hb hbox hg; have hnb6 := NB261_260.out; have hnc6 := NB260_261.out; have hcz7_0 : w5.cell? ⟨gb261, 0, none⟩ = some (.int .i64 0) := bc BK261 0; have hcz7_1 : w5.cell? ⟨gb261, 1, none⟩ = some (.int .u64 0) := bc BK261 1; have hfz7_0 := blk_frozen BK261.out 0; have hfz7_1 := blk_frozen BK261.out 1)); try go_wp2_with (first | ((with_reducible refine gate_dst (N := 2) rfl ?_); refine box_event ?hg (N := 2) ?hd (cs := #[.int .i64 a0_0, .int .u64 a0_1]) (t := 59) ?hr ?_; (case hd => rfl); (case hg => rfl); (case hr => first | (go_simp; done) | (go_simp; rfl)); intro gb260 hg w4 hbox hb; have BK260 := Aside0.mk (hbox); have GW260 := bels HB hg; have GE260 := bels HB hg; replace HB := belb HB hb; clear hb hbox hg) | ((with_reducible refine gate_dst (N := 4) rfl ?_); refine box_event ?hg (N := 4) ?hd (cs := #[.int .i64 0, .int .u64 0]) (t := 59) ?hr ?_; (case hd => rfl); (case hg => rfl); (case hr => first | (go_simp; done) | (go_simp; rfl)); intro gb261 hg w5 hbox hb; have BK261 := Aside0.mk (hbox); have GW261 := bels HB hg; have GE261 := bels HB hg; have NB260_261 := blkl BK260 hg; have NB261_260 := blkg BK260 hg; replace BK260 := blkb BK260 hb; replace HB := belb HB hb; clear hb hbox hg; have hnb6 := NB261_260.out; have hnc6 := NB260_261.out; have hcz7_0 : w5.cell? ⟨gb261, 0, none⟩ = some (.int .i64 0) := bc BK261 0; have hcz7_1 : w5.cell? ⟨gb261, 1, none⟩ = some (.int .u64 0) := bc BK261 1; have hfz7_0 := blk_frozen BK261.out 0; have hfz7_1 := blk_frozen BK261.out 1)))
  refine bodyPost_ret (results_ctt rfl _ _ gb261 59 #[.int .i64 0, .int .u64 0] (0, 0) _ rfl (by (with_reducible repeat (first | refine blk_drewN ?_ _ | refine blk_drew ?_ | refine blk_alloc ?_ _)); refine blk_put (cs := #[.int .i64 0, .int .u64 0]) ?_ 1 _ rfl; (with_reducible repeat (first | refine blk_drewN ?_ _ | refine blk_drew ?_ | refine blk_alloc ?_ _)); refine blk_put (cs := #[.int .i64 0, .int .u64 0]) ?_ 0 _ rfl; exact blkt BK261) Try.underlying59 rfl (by kernel_rfl)) rfl ?_
  exact ⟨by first | rfl | (simp [errW_none, errW_some] <;> rfl) | (simp [*, errW_none, errW_some] <;> rfl), belt HB⟩
 rw [if_neg c3] at H
 have c3b0 : (a1 == 0) = false := beq_eq_false_iff_ne.mpr c3
 have c3b1 : (a1 != 0) = true := bne_iff_ne.mpr c3
 replace H := Option.bind_eq_some_iff.mp H
 obtain ⟨⟨t262, t263⟩, A80, H⟩ := H
 replace H : ((bits_Div64.f k (Int.tmod t262 a1) t263 a1).bind fun bt264 => (if a0_0 ≥ 0 then (some (wrap64 (IntKind.u64.wrap (Int.tdiv t262 a1)), bt264.1, bt264.2, true)) else (if bt264.2 > 0 then ((wide_Int_flip.f (wrap64 (IntKind.u64.wrap ((IntKind.u64.wrap (Int.tdiv t262 a1)) + (addHi bt264.1 1 0)))) (addLo bt264.1 1 0)).bind fun bt266 => (some (bt266.1, bt266.2, IntKind.u64.wrap (a1 - bt264.2), true))) else ((wide_Int_flip.f (wrap64 (IntKind.u64.wrap (Int.tdiv t262 a1))) bt264.1).bind fun bt268 => (some (bt268.1, bt268.2, bt264.2, true)))))) = some (r1, r2, r3, r4) := H
 have A8 := Aside0.mk A80
 clear A80
 replace H := Option.bind_eq_some_iff.mp H
 obtain ⟨⟨t264, t265⟩, A90, H⟩ := H
 replace H : (if a0_0 ≥ 0 then (some (wrap64 (IntKind.u64.wrap (Int.tdiv t262 a1)), t264, t265, true)) else (if t265 > 0 then ((wide_Int_flip.f (wrap64 (IntKind.u64.wrap ((IntKind.u64.wrap (Int.tdiv t262 a1)) + (addHi t264 1 0)))) (addLo t264 1 0)).bind fun bt266 => (some (bt266.1, bt266.2, IntKind.u64.wrap (a1 - t265), true))) else ((wide_Int_flip.f (wrap64 (IntKind.u64.wrap (Int.tdiv t262 a1))) t264).bind fun bt268 => (some (bt268.1, bt268.2, t265, true))))) = some (r1, r2, r3, r4) := H
 have A9 := Aside0.mk A90
 clear A90
 by_cases c10 : a0_0 ≥ 0
 ·rw [if_pos c10] at H
  have c10b0 : decide (0 ≤ a0_0) = true := decide_eq_true c10
  clear c10
  simp only [Option.some.injEq, Prod.mk.injEq] at H
  obtain ⟨rfl, rfl, rfl, rfl⟩ := H
  go_enter Try.func70, Try.ntmps70
  go_wp2_with (first | ((with_reducible refine gate_dst (N := 2) rfl ?_); refine box_event ?hg (N := 2) ?hd (cs := #[.int .i64 a0_0, .int .u64 a0_1]) (t := 59) ?hr ?_; (case hd => rfl); (case hg => rfl); (case hr => first | (go_simp; done) | (go_simp; rfl)); intro gb260 hg w11 hbox hb; have BK260 := Aside0.mk (hbox); have GW260 := bels HB hg; have GE260 := bels HB hg; replace HB := belb HB hb; clear hb hbox hg) | ((with_reducible refine gate_dst (N := 4) rfl ?_); refine box_event ?hg (N := 4) ?hd (cs := #[.int .i64 0, .int .u64 0]) (t := 59) ?hr ?_; (case hd => rfl); (case hg => rfl); (case hr => first | (go_simp; done) | (go_simp; rfl)); intro gb261 hg w12 hbox hb; have BK261 := Aside0.mk (hbox); have GW261 := bels HB hg; have GE261 := bels HB hg; have NB260_261 := blkl BK260 hg; have NB261_260 := blkg BK260 hg; replace BK260 := blkb BK260 hb; replace HB := belb HB hb; clear hb hbox hg; have hnb13 := NB260_261.out; have hnc13 := NB261_260.out; have hcz14_0 : w12.cell? ⟨gb260, 0, none⟩ = some (.int .i64 a0_0) := bc BK260 0; have hcz14_1 : w12.cell? ⟨gb260, 1, none⟩ = some (.int .u64 a0_1) := bc BK260 1; have hfz14_0 := blk_frozen BK260.out 0; have hfz14_1 := blk_frozen BK260.out 1) | (go_at_call 87; (with_reducible refine (wide_Int_size.calls a0_0 a0_1 t262 t263 _ A8.out).mono ?_); rintro e w15 ⟨rfl, hb⟩; replace BK260 := blkb BK260 hb; replace BK261 := blkb BK261 hb; replace HB := belb HB hb; (try clear hb); (try clear hb2); (try clear hk); (try clear hi)) | (go_at_call 68; (with_reducible refine (bits_Div64.calls k (Int.tmod t262 a1) t263 a1 t264 t265 _ A9.out).mono ?_); rintro e w' ⟨rfl, ⟨nd, rfl⟩⟩; (try first | exact ⟨rfl, _, World.drewN_drewN _ _ _⟩ | exact ⟨rfl, _, Eq.trans (World.drewN_drewN _ _ _) (congrArg (World.drewN _) (Nat.add_assoc _ _ _))⟩); have hcz16_0 : w15.cell? ⟨gb260, 0, none⟩ = some (.int .i64 a0_0) := bc BK260 0; have hcz16_1 : w15.cell? ⟨gb260, 1, none⟩ = some (.int .u64 a0_1) := bc BK260 1; have hfz16_0 := blk_frozen BK260.out 0; have hfz16_1 := blk_frozen BK260.out 1; have hcz17_0 : w15.cell? ⟨gb261, 0, none⟩ = some (.int .i64 0) := bc BK261 0; have hcz17_1 : w15.cell? ⟨gb261, 1, none⟩ = some (.int .u64 0) := bc BK261 1; have hfz17_0 := blk_frozen BK261.out 0; have hfz17_1 := blk_frozen BK261.out 1))
  repeat (go_quiet (first | ((with_reducible refine gate_dst (N := 2) rfl ?_); refine box_event ?hg (N := 2) ?hd (cs := #[.int .i64 a0_0, .int .u64 a0_1]) (t := 59) ?hr ?_; (case hd => rfl); (case hg => rfl); (case hr => first | (go_simp; done) | (go_simp; rfl)); intro gb260 hg w11 hbox hb; have BK260 := Aside0.mk (hbox); have GW260 := bels HB hg; have GE260 := bels HB hg; replace HB := belb HB hb; clear hb hbox hg) | ((with_reducible refine gate_dst (N := 4) rfl ?_); refine box_event ?hg (N := 4) ?hd (cs := #[.int .i64 0, .int .u64 0]) (t := 59) ?hr ?_; (case hd => rfl); (case hg => rfl); (case hr => first | (go_simp; done) | (go_simp; rfl)); intro gb261 hg w12 hbox hb; have BK261 := Aside0.mk (hbox); have GW261 := bels HB hg; have GE261 := bels HB hg; have NB260_261 := blkl BK260 hg; have NB261_260 := blkg BK260 hg; replace BK260 := blkb BK260 hb; replace HB := belb HB hb; clear hb hbox hg; have hnb13 := NB260_261.out; have hnc13 := NB261_260.out; have hcz14_0 : w12.cell? ⟨gb260, 0, none⟩ = some (.int .i64 a0_0) := bc BK260 0; have hcz14_1 : w12.cell? ⟨gb260, 1, none⟩ = some (.int .u64 a0_1) := bc BK260 1; have hfz14_0 := blk_frozen BK260.out 0; have hfz14_1 := blk_frozen BK260.out 1) | (go_at_call 87; (with_reducible refine (wide_Int_size.calls a0_0 a0_1 t262 t263 _ A8.out).mono ?_); rintro e w15 ⟨rfl, hb⟩; replace BK260 := blkb BK260 hb; replace BK261 := blkb BK261 hb; replace HB := belb HB hb; (try clear hb); (try clear hb2); (try clear hk); (try clear hi)) | (go_at_call 68; (with_reducible refine (bits_Div64.calls k (Int.tmod t262 a1) t263 a1 t264 t265 _ A9.out).mono ?_); rintro e w' ⟨rfl, ⟨nd, rfl⟩⟩; (try first | exact ⟨rfl, _, World.drewN_drewN _ _ _⟩ | exact ⟨rfl, _, Eq.trans (World.drewN_drewN _ _ _) (congrArg (World.drewN _) (Nat.add_assoc _ _ _))⟩); have hcz16_0 : w15.cell? ⟨gb260, 0, none⟩ = some (.int .i64 a0_0) := bc BK260 0; have hcz16_1 : w15.cell? ⟨gb260, 1, none⟩ = some (.int .u64 a0_1) := bc BK260 1; have hfz16_0 := blk_frozen BK260.out 0; have hfz16_1 := blk_frozen BK260.out 1; have hcz17_0 : w15.cell? ⟨gb261, 0, none⟩ = some (.int .i64 0) := bc BK261 0; have hcz17_1 : w15.cell? ⟨gb261, 1, none⟩ = some (.int .u64 0) := bc BK261 1; have hfz17_0 := blk_frozen BK261.out 0; have hfz17_1 := blk_frozen BK261.out 1)); try go_wp2_with (first | ((with_reducible refine gate_dst (N := 2) rfl ?_); refine box_event ?hg (N := 2) ?hd (cs := #[.int .i64 a0_0, .int .u64 a0_1]) (t := 59) ?hr ?_; (case hd => rfl); (case hg => rfl); (case hr => first | (go_simp; done) | (go_simp; rfl)); intro gb260 hg w11 hbox hb; have BK260 := Aside0.mk (hbox); have GW260 := bels HB hg; have GE260 := bels HB hg; replace HB := belb HB hb; clear hb hbox hg) | ((with_reducible refine gate_dst (N := 4) rfl ?_); refine box_event ?hg (N := 4) ?hd (cs := #[.int .i64 0, .int .u64 0]) (t := 59) ?hr ?_; (case hd => rfl); (case hg => rfl); (case hr => first | (go_simp; done) | (go_simp; rfl)); intro gb261 hg w12 hbox hb; have BK261 := Aside0.mk (hbox); have GW261 := bels HB hg; have GE261 := bels HB hg; have NB260_261 := blkl BK260 hg; have NB261_260 := blkg BK260 hg; replace BK260 := blkb BK260 hb; replace HB := belb HB hb; clear hb hbox hg; have hnb13 := NB260_261.out; have hnc13 := NB261_260.out; have hcz14_0 : w12.cell? ⟨gb260, 0, none⟩ = some (.int .i64 a0_0) := bc BK260 0; have hcz14_1 : w12.cell? ⟨gb260, 1, none⟩ = some (.int .u64 a0_1) := bc BK260 1; have hfz14_0 := blk_frozen BK260.out 0; have hfz14_1 := blk_frozen BK260.out 1) | (go_at_call 87; (with_reducible refine (wide_Int_size.calls a0_0 a0_1 t262 t263 _ A8.out).mono ?_); rintro e w15 ⟨rfl, hb⟩; replace BK260 := blkb BK260 hb; replace BK261 := blkb BK261 hb; replace HB := belb HB hb; (try clear hb); (try clear hb2); (try clear hk); (try clear hi)) | (go_at_call 68; (with_reducible refine (bits_Div64.calls k (Int.tmod t262 a1) t263 a1 t264 t265 _ A9.out).mono ?_); rintro e w' ⟨rfl, ⟨nd, rfl⟩⟩; (try first | exact ⟨rfl, _, World.drewN_drewN _ _ _⟩ | exact ⟨rfl, _, Eq.trans (World.drewN_drewN _ _ _) (congrArg (World.drewN _) (Nat.add_assoc _ _ _))⟩); have hcz16_0 : w15.cell? ⟨gb260, 0, none⟩ = some (.int .i64 a0_0) := bc BK260 0; have hcz16_1 : w15.cell? ⟨gb260, 1, none⟩ = some (.int .u64 a0_1) := bc BK260 1; have hfz16_0 := blk_frozen BK260.out 0; have hfz16_1 := blk_frozen BK260.out 1; have hcz17_0 : w15.cell? ⟨gb261, 0, none⟩ = some (.int .i64 0) := bc BK261 0; have hcz17_1 : w15.cell? ⟨gb261, 1, none⟩ = some (.int .u64 0) := bc BK261 1; have hfz17_0 := blk_frozen BK261.out 0; have hfz17_1 := blk_frozen BK261.out 1)))
  refine bodyPost_ret (results_ctt rfl _ _ gb261 59 #[.int .i64 (wrap64 (IntKind.u64.wrap (Int.tdiv t262 a1))), .int .u64 t264] (0, 0) _ rfl (by (with_reducible repeat (first | refine blk_drewN ?_ _ | refine blk_drew ?_ | refine blk_alloc ?_ _)); refine blk_put (cs := #[.int .i64 (wrap64 (IntKind.u64.wrap (Int.tdiv t262 a1))), .int .u64 0]) ?_ 1 _ rfl; (with_reducible repeat (first | refine blk_drewN ?_ _ | refine blk_drew ?_ | refine blk_alloc ?_ _)); refine blk_put (cs := #[.int .i64 0, .int .u64 0]) ?_ 0 _ rfl; exact blkt BK261) Try.underlying59 rfl (by kernel_rfl)) rfl ?_
  exact ⟨by first | rfl | (simp [errW_none, errW_some] <;> rfl) | (simp [*, errW_none, errW_some] <;> rfl), belt HB⟩
 rw [if_neg c10] at H
 have c10b0 : decide (0 ≤ a0_0) = false := decide_eq_false c10
 clear c10
 by_cases c18 : t265 > 0
 ·rw [if_pos c18] at H
  have c18b0 : decide (0 < t265) = true := decide_eq_true c18
  clear c18
  replace H := Option.bind_eq_some_iff.mp H
  obtain ⟨⟨t266, t267⟩, A190, H⟩ := H
  replace H : (some (t266, t267, IntKind.u64.wrap (a1 - t265), true)) = some (r1, r2, r3, r4) := H
  have A19 := Aside0.mk A190
  clear A190
  simp only [Option.some.injEq, Prod.mk.injEq] at H
  obtain ⟨rfl, rfl, rfl, rfl⟩ := H
  go_enter Try.func70, Try.ntmps70
  go_wp2_with (first | ((with_reducible refine gate_dst (N := 2) rfl ?_); refine box_event ?hg (N := 2) ?hd (cs := #[.int .i64 a0_0, .int .u64 a0_1]) (t := 59) ?hr ?_; (case hd => rfl); (case hg => rfl); (case hr => first | (go_simp; done) | (go_simp; rfl)); intro gb260 hg w20 hbox hb; have BK260 := Aside0.mk (hbox); have GW260 := bels HB hg; have GE260 := bels HB hg; replace HB := belb HB hb; clear hb hbox hg) | ((with_reducible refine gate_dst (N := 4) rfl ?_); refine box_event ?hg (N := 4) ?hd (cs := #[.int .i64 0, .int .u64 0]) (t := 59) ?hr ?_; (case hd => rfl); (case hg => rfl); (case hr => first | (go_simp; done) | (go_simp; rfl)); intro gb261 hg w21 hbox hb; have BK261 := Aside0.mk (hbox); have GW261 := bels HB hg; have GE261 := bels HB hg; have NB260_261 := blkl BK260 hg; have NB261_260 := blkg BK260 hg; replace BK260 := blkb BK260 hb; replace HB := belb HB hb; clear hb hbox hg; have hnb22 := NB260_261.out; have hnc22 := NB261_260.out; have hcz23_0 : w21.cell? ⟨gb260, 0, none⟩ = some (.int .i64 a0_0) := bc BK260 0; have hcz23_1 : w21.cell? ⟨gb260, 1, none⟩ = some (.int .u64 a0_1) := bc BK260 1; have hfz23_0 := blk_frozen BK260.out 0; have hfz23_1 := blk_frozen BK260.out 1) | (go_at_call 87; (with_reducible refine (wide_Int_size.calls a0_0 a0_1 t262 t263 _ A8.out).mono ?_); rintro e w24 ⟨rfl, hb⟩; replace BK260 := blkb BK260 hb; replace BK261 := blkb BK261 hb; replace HB := belb HB hb; (try clear hb); (try clear hb2); (try clear hk); (try clear hi)) | (go_at_call 68; (with_reducible refine (bits_Div64.calls k (Int.tmod t262 a1) t263 a1 t264 t265 _ A9.out).mono ?_); rintro e w' ⟨rfl, ⟨nd, rfl⟩⟩; (try first | exact ⟨rfl, _, World.drewN_drewN _ _ _⟩ | exact ⟨rfl, _, Eq.trans (World.drewN_drewN _ _ _) (congrArg (World.drewN _) (Nat.add_assoc _ _ _))⟩); have hcz25_0 : w24.cell? ⟨gb260, 0, none⟩ = some (.int .i64 a0_0) := bc BK260 0; have hcz25_1 : w24.cell? ⟨gb260, 1, none⟩ = some (.int .u64 a0_1) := bc BK260 1; have hfz25_0 := blk_frozen BK260.out 0; have hfz25_1 := blk_frozen BK260.out 1) | (go_at_call 90; (with_reducible refine (wide_Int_flip.calls (wrap64 (IntKind.u64.wrap ((IntKind.u64.wrap (Int.tdiv t262 a1)) + (addHi t264 1 0)))) (addLo t264 1 0) t266 t267 _ A19.out).mono ?_); rintro e w26 ⟨rfl, hb⟩; replace BK260 := blkb BK260 hb; replace BK261 := blkb BK261 hb; replace HB := belb HB hb; (try clear hb); (try clear hb2); (try clear hk); (try clear hi); have hcz27_0 : w26.cell? ⟨gb261, 0, none⟩ = some (.int .i64 0) := bc BK261 0; have hcz27_1 : w26.cell? ⟨gb261, 1, none⟩ = some (.int .u64 0) := bc BK261 1; have hfz27_0 := blk_frozen BK261.out 0; have hfz27_1 := blk_frozen BK261.out 1))
  repeat (go_quiet (first | ((with_reducible refine gate_dst (N := 2) rfl ?_); refine box_event ?hg (N := 2) ?hd (cs := #[.int .i64 a0_0, .int .u64 a0_1]) (t := 59) ?hr ?_; (case hd => rfl); (case hg => rfl); (case hr => first | (go_simp; done) | (go_simp; rfl)); intro gb260 hg w20 hbox hb; have BK260 := Aside0.mk (hbox); have GW260 := bels HB hg; have GE260 := bels HB hg; replace HB := belb HB hb; clear hb hbox hg) | ((with_reducible refine gate_dst (N := 4) rfl ?_); refine box_event ?hg (N := 4) ?hd (cs := #[.int .i64 0, .int .u64 0]) (t := 59) ?hr ?_; (case hd => rfl); (case hg => rfl); (case hr => first | (go_simp; done) | (go_simp; rfl)); intro gb261 hg w21 hbox hb; have BK261 := Aside0.mk (hbox); have GW261 := bels HB hg; have GE261 := bels HB hg; have NB260_261 := blkl BK260 hg; have NB261_260 := blkg BK260 hg; replace BK260 := blkb BK260 hb; replace HB := belb HB hb; clear hb hbox hg; have hnb22 := NB260_261.out; have hnc22 := NB261_260.out; have hcz23_0 : w21.cell? ⟨gb260, 0, none⟩ = some (.int .i64 a0_0) := bc BK260 0; have hcz23_1 : w21.cell? ⟨gb260, 1, none⟩ = some (.int .u64 a0_1) := bc BK260 1; have hfz23_0 := blk_frozen BK260.out 0; have hfz23_1 := blk_frozen BK260.out 1) | (go_at_call 87; (with_reducible refine (wide_Int_size.calls a0_0 a0_1 t262 t263 _ A8.out).mono ?_); rintro e w24 ⟨rfl, hb⟩; replace BK260 := blkb BK260 hb; replace BK261 := blkb BK261 hb; replace HB := belb HB hb; (try clear hb); (try clear hb2); (try clear hk); (try clear hi)) | (go_at_call 68; (with_reducible refine (bits_Div64.calls k (Int.tmod t262 a1) t263 a1 t264 t265 _ A9.out).mono ?_); rintro e w' ⟨rfl, ⟨nd, rfl⟩⟩; (try first | exact ⟨rfl, _, World.drewN_drewN _ _ _⟩ | exact ⟨rfl, _, Eq.trans (World.drewN_drewN _ _ _) (congrArg (World.drewN _) (Nat.add_assoc _ _ _))⟩); have hcz25_0 : w24.cell? ⟨gb260, 0, none⟩ = some (.int .i64 a0_0) := bc BK260 0; have hcz25_1 : w24.cell? ⟨gb260, 1, none⟩ = some (.int .u64 a0_1) := bc BK260 1; have hfz25_0 := blk_frozen BK260.out 0; have hfz25_1 := blk_frozen BK260.out 1) | (go_at_call 90; (with_reducible refine (wide_Int_flip.calls (wrap64 (IntKind.u64.wrap ((IntKind.u64.wrap (Int.tdiv t262 a1)) + (addHi t264 1 0)))) (addLo t264 1 0) t266 t267 _ A19.out).mono ?_); rintro e w26 ⟨rfl, hb⟩; replace BK260 := blkb BK260 hb; replace BK261 := blkb BK261 hb; replace HB := belb HB hb; (try clear hb); (try clear hb2); (try clear hk); (try clear hi); have hcz27_0 : w26.cell? ⟨gb261, 0, none⟩ = some (.int .i64 0) := bc BK261 0; have hcz27_1 : w26.cell? ⟨gb261, 1, none⟩ = some (.int .u64 0) := bc BK261 1; have hfz27_0 := blk_frozen BK261.out 0; have hfz27_1 := blk_frozen BK261.out 1)); try go_wp2_with (first | ((with_reducible refine gate_dst (N := 2) rfl ?_); refine box_event ?hg (N := 2) ?hd (cs := #[.int .i64 a0_0, .int .u64 a0_1]) (t := 59) ?hr ?_; (case hd => rfl); (case hg => rfl); (case hr => first | (go_simp; done) | (go_simp; rfl)); intro gb260 hg w20 hbox hb; have BK260 := Aside0.mk (hbox); have GW260 := bels HB hg; have GE260 := bels HB hg; replace HB := belb HB hb; clear hb hbox hg) | ((with_reducible refine gate_dst (N := 4) rfl ?_); refine box_event ?hg (N := 4) ?hd (cs := #[.int .i64 0, .int .u64 0]) (t := 59) ?hr ?_; (case hd => rfl); (case hg => rfl); (case hr => first | (go_simp; done) | (go_simp; rfl)); intro gb261 hg w21 hbox hb; have BK261 := Aside0.mk (hbox); have GW261 := bels HB hg; have GE261 := bels HB hg; have NB260_261 := blkl BK260 hg; have NB261_260 := blkg BK260 hg; replace BK260 := blkb BK260 hb; replace HB := belb HB hb; clear hb hbox hg; have hnb22 := NB260_261.out; have hnc22 := NB261_260.out; have hcz23_0 : w21.cell? ⟨gb260, 0, none⟩ = some (.int .i64 a0_0) := bc BK260 0; have hcz23_1 : w21.cell? ⟨gb260, 1, none⟩ = some (.int .u64 a0_1) := bc BK260 1; have hfz23_0 := blk_frozen BK260.out 0; have hfz23_1 := blk_frozen BK260.out 1) | (go_at_call 87; (with_reducible refine (wide_Int_size.calls a0_0 a0_1 t262 t263 _ A8.out).mono ?_); rintro e w24 ⟨rfl, hb⟩; replace BK260 := blkb BK260 hb; replace BK261 := blkb BK261 hb; replace HB := belb HB hb; (try clear hb); (try clear hb2); (try clear hk); (try clear hi)) | (go_at_call 68; (with_reducible refine (bits_Div64.calls k (Int.tmod t262 a1) t263 a1 t264 t265 _ A9.out).mono ?_); rintro e w' ⟨rfl, ⟨nd, rfl⟩⟩; (try first | exact ⟨rfl, _, World.drewN_drewN _ _ _⟩ | exact ⟨rfl, _, Eq.trans (World.drewN_drewN _ _ _) (congrArg (World.drewN _) (Nat.add_assoc _ _ _))⟩); have hcz25_0 : w24.cell? ⟨gb260, 0, none⟩ = some (.int .i64 a0_0) := bc BK260 0; have hcz25_1 : w24.cell? ⟨gb260, 1, none⟩ = some (.int .u64 a0_1) := bc BK260 1; have hfz25_0 := blk_frozen BK260.out 0; have hfz25_1 := blk_frozen BK260.out 1) | (go_at_call 90; (with_reducible refine (wide_Int_flip.calls (wrap64 (IntKind.u64.wrap ((IntKind.u64.wrap (Int.tdiv t262 a1)) + (addHi t264 1 0)))) (addLo t264 1 0) t266 t267 _ A19.out).mono ?_); rintro e w26 ⟨rfl, hb⟩; replace BK260 := blkb BK260 hb; replace BK261 := blkb BK261 hb; replace HB := belb HB hb; (try clear hb); (try clear hb2); (try clear hk); (try clear hi); have hcz27_0 : w26.cell? ⟨gb261, 0, none⟩ = some (.int .i64 0) := bc BK261 0; have hcz27_1 : w26.cell? ⟨gb261, 1, none⟩ = some (.int .u64 0) := bc BK261 1; have hfz27_0 := blk_frozen BK261.out 0; have hfz27_1 := blk_frozen BK261.out 1)))
  refine bodyPost_ret (results_ctt rfl _ _ gb261 59 #[.int .i64 t266, .int .u64 t267] (0, 0) _ rfl (by (with_reducible repeat (first | refine blk_drewN ?_ _ | refine blk_drew ?_ | refine blk_alloc ?_ _)); refine blk_put (cs := #[.int .i64 t266, .int .u64 0]) ?_ 1 _ rfl; (with_reducible repeat (first | refine blk_drewN ?_ _ | refine blk_drew ?_ | refine blk_alloc ?_ _)); refine blk_put (cs := #[.int .i64 0, .int .u64 0]) ?_ 0 _ rfl; exact blkt BK261) Try.underlying59 rfl (by kernel_rfl)) rfl ?_
  exact ⟨by first | rfl | (simp [errW_none, errW_some] <;> rfl) | (simp [*, errW_none, errW_some] <;> rfl), belt HB⟩
 rw [if_neg c18] at H
 have c18b0 : decide (0 < t265) = false := decide_eq_false c18
 clear c18
 replace H := Option.bind_eq_some_iff.mp H
 obtain ⟨⟨t268, t269⟩, A280, H⟩ := H
 replace H : (some (t268, t269, t265, true)) = some (r1, r2, r3, r4) := H
 have A28 := Aside0.mk A280
 clear A280
 simp only [Option.some.injEq, Prod.mk.injEq] at H
 obtain ⟨rfl, rfl, rfl, rfl⟩ := H
 go_enter Try.func70, Try.ntmps70
 go_wp2_with (first | ((with_reducible refine gate_dst (N := 2) rfl ?_); refine box_event ?hg (N := 2) ?hd (cs := #[.int .i64 a0_0, .int .u64 a0_1]) (t := 59) ?hr ?_; (case hd => rfl); (case hg => rfl); (case hr => first | (go_simp; done) | (go_simp; rfl)); intro gb260 hg w29 hbox hb; have BK260 := Aside0.mk (hbox); have GW260 := bels HB hg; have GE260 := bels HB hg; replace HB := belb HB hb; clear hb hbox hg) | ((with_reducible refine gate_dst (N := 4) rfl ?_); refine box_event ?hg (N := 4) ?hd (cs := #[.int .i64 0, .int .u64 0]) (t := 59) ?hr ?_; (case hd => rfl); (case hg => rfl); (case hr => first | (go_simp; done) | (go_simp; rfl)); intro gb261 hg w30 hbox hb; have BK261 := Aside0.mk (hbox); have GW261 := bels HB hg; have GE261 := bels HB hg; have NB260_261 := blkl BK260 hg; have NB261_260 := blkg BK260 hg; replace BK260 := blkb BK260 hb; replace HB := belb HB hb; clear hb hbox hg; have hnb31 := NB260_261.out; have hnc31 := NB261_260.out; have hcz32_0 : w30.cell? ⟨gb260, 0, none⟩ = some (.int .i64 a0_0) := bc BK260 0; have hcz32_1 : w30.cell? ⟨gb260, 1, none⟩ = some (.int .u64 a0_1) := bc BK260 1; have hfz32_0 := blk_frozen BK260.out 0; have hfz32_1 := blk_frozen BK260.out 1) | (go_at_call 87; (with_reducible refine (wide_Int_size.calls a0_0 a0_1 t262 t263 _ A8.out).mono ?_); rintro e w33 ⟨rfl, hb⟩; replace BK260 := blkb BK260 hb; replace BK261 := blkb BK261 hb; replace HB := belb HB hb; (try clear hb); (try clear hb2); (try clear hk); (try clear hi)) | (go_at_call 68; (with_reducible refine (bits_Div64.calls k (Int.tmod t262 a1) t263 a1 t264 t265 _ A9.out).mono ?_); rintro e w' ⟨rfl, ⟨nd, rfl⟩⟩; (try first | exact ⟨rfl, _, World.drewN_drewN _ _ _⟩ | exact ⟨rfl, _, Eq.trans (World.drewN_drewN _ _ _) (congrArg (World.drewN _) (Nat.add_assoc _ _ _))⟩); have hcz34_0 : w33.cell? ⟨gb260, 0, none⟩ = some (.int .i64 a0_0) := bc BK260 0; have hcz34_1 : w33.cell? ⟨gb260, 1, none⟩ = some (.int .u64 a0_1) := bc BK260 1; have hfz34_0 := blk_frozen BK260.out 0; have hfz34_1 := blk_frozen BK260.out 1) | (go_at_call 90; (with_reducible refine (wide_Int_flip.calls (wrap64 (IntKind.u64.wrap (Int.tdiv t262 a1))) t264 t268 t269 _ A28.out).mono ?_); rintro e w35 ⟨rfl, hb⟩; replace BK260 := blkb BK260 hb; replace BK261 := blkb BK261 hb; replace HB := belb HB hb; (try clear hb); (try clear hb2); (try clear hk); (try clear hi); have hcz36_0 : w35.cell? ⟨gb261, 0, none⟩ = some (.int .i64 0) := bc BK261 0; have hcz36_1 : w35.cell? ⟨gb261, 1, none⟩ = some (.int .u64 0) := bc BK261 1; have hfz36_0 := blk_frozen BK261.out 0; have hfz36_1 := blk_frozen BK261.out 1))
 repeat (go_quiet (first | ((with_reducible refine gate_dst (N := 2) rfl ?_); refine box_event ?hg (N := 2) ?hd (cs := #[.int .i64 a0_0, .int .u64 a0_1]) (t := 59) ?hr ?_; (case hd => rfl); (case hg => rfl); (case hr => first | (go_simp; done) | (go_simp; rfl)); intro gb260 hg w29 hbox hb; have BK260 := Aside0.mk (hbox); have GW260 := bels HB hg; have GE260 := bels HB hg; replace HB := belb HB hb; clear hb hbox hg) | ((with_reducible refine gate_dst (N := 4) rfl ?_); refine box_event ?hg (N := 4) ?hd (cs := #[.int .i64 0, .int .u64 0]) (t := 59) ?hr ?_; (case hd => rfl); (case hg => rfl); (case hr => first | (go_simp; done) | (go_simp; rfl)); intro gb261 hg w30 hbox hb; have BK261 := Aside0.mk (hbox); have GW261 := bels HB hg; have GE261 := bels HB hg; have NB260_261 := blkl BK260 hg; have NB261_260 := blkg BK260 hg; replace BK260 := blkb BK260 hb; replace HB := belb HB hb; clear hb hbox hg; have hnb31 := NB260_261.out; have hnc31 := NB261_260.out; have hcz32_0 : w30.cell? ⟨gb260, 0, none⟩ = some (.int .i64 a0_0) := bc BK260 0; have hcz32_1 : w30.cell? ⟨gb260, 1, none⟩ = some (.int .u64 a0_1) := bc BK260 1; have hfz32_0 := blk_frozen BK260.out 0; have hfz32_1 := blk_frozen BK260.out 1) | (go_at_call 87; (with_reducible refine (wide_Int_size.calls a0_0 a0_1 t262 t263 _ A8.out).mono ?_); rintro e w33 ⟨rfl, hb⟩; replace BK260 := blkb BK260 hb; replace BK261 := blkb BK261 hb; replace HB := belb HB hb; (try clear hb); (try clear hb2); (try clear hk); (try clear hi)) | (go_at_call 68; (with_reducible refine (bits_Div64.calls k (Int.tmod t262 a1) t263 a1 t264 t265 _ A9.out).mono ?_); rintro e w' ⟨rfl, ⟨nd, rfl⟩⟩; (try first | exact ⟨rfl, _, World.drewN_drewN _ _ _⟩ | exact ⟨rfl, _, Eq.trans (World.drewN_drewN _ _ _) (congrArg (World.drewN _) (Nat.add_assoc _ _ _))⟩); have hcz34_0 : w33.cell? ⟨gb260, 0, none⟩ = some (.int .i64 a0_0) := bc BK260 0; have hcz34_1 : w33.cell? ⟨gb260, 1, none⟩ = some (.int .u64 a0_1) := bc BK260 1; have hfz34_0 := blk_frozen BK260.out 0; have hfz34_1 := blk_frozen BK260.out 1) | (go_at_call 90; (with_reducible refine (wide_Int_flip.calls (wrap64 (IntKind.u64.wrap (Int.tdiv t262 a1))) t264 t268 t269 _ A28.out).mono ?_); rintro e w35 ⟨rfl, hb⟩; replace BK260 := blkb BK260 hb; replace BK261 := blkb BK261 hb; replace HB := belb HB hb; (try clear hb); (try clear hb2); (try clear hk); (try clear hi); have hcz36_0 : w35.cell? ⟨gb261, 0, none⟩ = some (.int .i64 0) := bc BK261 0; have hcz36_1 : w35.cell? ⟨gb261, 1, none⟩ = some (.int .u64 0) := bc BK261 1; have hfz36_0 := blk_frozen BK261.out 0; have hfz36_1 := blk_frozen BK261.out 1)); try go_wp2_with (first | ((with_reducible refine gate_dst (N := 2) rfl ?_); refine box_event ?hg (N := 2) ?hd (cs := #[.int .i64 a0_0, .int .u64 a0_1]) (t := 59) ?hr ?_; (case hd => rfl); (case hg => rfl); (case hr => first | (go_simp; done) | (go_simp; rfl)); intro gb260 hg w29 hbox hb; have BK260 := Aside0.mk (hbox); have GW260 := bels HB hg; have GE260 := bels HB hg; replace HB := belb HB hb; clear hb hbox hg) | ((with_reducible refine gate_dst (N := 4) rfl ?_); refine box_event ?hg (N := 4) ?hd (cs := #[.int .i64 0, .int .u64 0]) (t := 59) ?hr ?_; (case hd => rfl); (case hg => rfl); (case hr => first | (go_simp; done) | (go_simp; rfl)); intro gb261 hg w30 hbox hb; have BK261 := Aside0.mk (hbox); have GW261 := bels HB hg; have GE261 := bels HB hg; have NB260_261 := blkl BK260 hg; have NB261_260 := blkg BK260 hg; replace BK260 := blkb BK260 hb; replace HB := belb HB hb; clear hb hbox hg; have hnb31 := NB260_261.out; have hnc31 := NB261_260.out; have hcz32_0 : w30.cell? ⟨gb260, 0, none⟩ = some (.int .i64 a0_0) := bc BK260 0; have hcz32_1 : w30.cell? ⟨gb260, 1, none⟩ = some (.int .u64 a0_1) := bc BK260 1; have hfz32_0 := blk_frozen BK260.out 0; have hfz32_1 := blk_frozen BK260.out 1) | (go_at_call 87; (with_reducible refine (wide_Int_size.calls a0_0 a0_1 t262 t263 _ A8.out).mono ?_); rintro e w33 ⟨rfl, hb⟩; replace BK260 := blkb BK260 hb; replace BK261 := blkb BK261 hb; replace HB := belb HB hb; (try clear hb); (try clear hb2); (try clear hk); (try clear hi)) | (go_at_call 68; (with_reducible refine (bits_Div64.calls k (Int.tmod t262 a1) t263 a1 t264 t265 _ A9.out).mono ?_); rintro e w' ⟨rfl, ⟨nd, rfl⟩⟩; (try first | exact ⟨rfl, _, World.drewN_drewN _ _ _⟩ | exact ⟨rfl, _, Eq.trans (World.drewN_drewN _ _ _) (congrArg (World.drewN _) (Nat.add_assoc _ _ _))⟩); have hcz34_0 : w33.cell? ⟨gb260, 0, none⟩ = some (.int .i64 a0_0) := bc BK260 0; have hcz34_1 : w33.cell? ⟨gb260, 1, none⟩ = some (.int .u64 a0_1) := bc BK260 1; have hfz34_0 := blk_frozen BK260.out 0; have hfz34_1 := blk_frozen BK260.out 1) | (go_at_call 90; (with_reducible refine (wide_Int_flip.calls (wrap64 (IntKind.u64.wrap (Int.tdiv t262 a1))) t264 t268 t269 _ A28.out).mono ?_); rintro e w35 ⟨rfl, hb⟩; replace BK260 := blkb BK260 hb; replace BK261 := blkb BK261 hb; replace HB := belb HB hb; (try clear hb); (try clear hb2); (try clear hk); (try clear hi); have hcz36_0 : w35.cell? ⟨gb261, 0, none⟩ = some (.int .i64 0) := bc BK261 0; have hcz36_1 : w35.cell? ⟨gb261, 1, none⟩ = some (.int .u64 0) := bc BK261 1; have hfz36_0 := blk_frozen BK261.out 0; have hfz36_1 := blk_frozen BK261.out 1)))
 refine bodyPost_ret (results_ctt rfl _ _ gb261 59 #[.int .i64 t268, .int .u64 t269] (0, 0) _ rfl (by (with_reducible repeat (first | refine blk_drewN ?_ _ | refine blk_drew ?_ | refine blk_alloc ?_ _)); refine blk_put (cs := #[.int .i64 t268, .int .u64 0]) ?_ 1 _ rfl; (with_reducible repeat (first | refine blk_drewN ?_ _ | refine blk_drew ?_ | refine blk_alloc ?_ _)); refine blk_put (cs := #[.int .i64 0, .int .u64 0]) ?_ 0 _ rfl; exact blkt BK261) Try.underlying59 rfl (by kernel_rfl)) rfl ?_
 exact ⟨by first | rfl | (simp [errW_none, errW_some] <;> rfl) | (simp [*, errW_none, errW_some] <;> rfl), belt HB⟩


attribute [local go_sem high] eqA59
/-! ### wide_Int_Small: function 76 -/
def wide_Int_Small.f (a0_0 : Int) (a0_1 : Int) : Option (Int × Bool) := (wide_Of.f (wrap64 (a0_1))).bind fun bt273 => (if (!(bt273.1 == a0_0) || (!(bt273.2 == a0_1))) = true then (some (0, false)) else (some (wrap64 (a0_1), true)))
set_option maxHeartbeats 8000000 in
set_option maxRecDepth 100000 in
theorem wide_Int_Small.calls (a0_0 : Int) (a0_1 : Int) (r1 : Int) (r2 : Bool) (w : World) (h : wide_Int_Small.f a0_0 a0_1 = some (r1, r2)) :
  Calls Try.prog 76 #[.agg #[.int .i64 a0_0, .int .u64 a0_1]] w fun e w' => e = .returned (.tuple #[.int .i64 r1, .bool r2]) ∧ Below w.heap.size w w' := by
 have hu59 := Try.underlying59
 have HB := Aside0.mk (Below.refl w.heap.size w)
 have H : ((wide_Of.f (wrap64 (a0_1))).bind fun bt273 => (if (!(bt273.1 == a0_0) || (!(bt273.2 == a0_1))) = true then (some (0, false)) else (some (wrap64 (a0_1), true)))) = some (r1, r2) := h
 clear h
 replace H := Option.bind_eq_some_iff.mp H
 obtain ⟨⟨t273, t274⟩, A20, H⟩ := H
 replace H : (if (!(t273 == a0_0) || (!(t274 == a0_1))) = true then (some (0, false)) else (some (wrap64 (a0_1), true))) = some (r1, r2) := H
 have A2 := Aside0.mk A20
 clear A20
 by_cases c3 : (!(t273 == a0_0) || (!(t274 == a0_1))) = true
 ·rw [if_pos c3] at H
  have c3b0 : (!(t273 == a0_0) || (!(t274 == a0_1))) = true := c3
  clear c3
  simp only [Option.some.injEq, Prod.mk.injEq] at H
  obtain ⟨rfl, rfl⟩ := H
  go_enter Try.func76, Try.ntmps76
  try go_wp2_with (first | ((with_reducible refine gate_dst (N := 1) rfl ?_); refine box_event ?hg (N := 1) ?hd (cs := #[.int .i64 a0_0, .int .u64 a0_1]) (t := 59) ?hr ?_; (case hd => rfl); (case hg => rfl); (case hr => first | (go_simp; done) | (go_simp; rfl)); intro gb272 hg w4 hbox hb; have BK272 := Aside0.mk (hbox); have GW272 := bels HB hg; have GE272 := bels HB hg; replace HB := belb HB hb; clear hb hbox hg; have hcz5_0 : w4.cell? ⟨gb272, 0, none⟩ = some (.int .i64 a0_0) := bc BK272 0; have hcz5_1 : w4.cell? ⟨gb272, 1, none⟩ = some (.int .u64 a0_1) := bc BK272 1; have hfz5_0 := blk_frozen BK272.out 0; have hfz5_1 := blk_frozen BK272.out 1))
  replace BK272 := Aside0.mk (blk_drew BK272.out)
  replace HB := Aside0.mk (below_drew1 HB.out)
  refine start_ (n := 4) (S := fun w' => w'.cell? ⟨gb272, 0, none⟩ = some (.int .i64 a0_0) ∧ w'.cell? ⟨gb272, 1, none⟩ = some (.int .u64 a0_1)) (ds := []) #[false, false, false, false] (by kernel_rfl) rfl rfl ⟨bc BK272 0, bc BK272 1⟩ (fun hHeld => ?_)
  generalize w4.drew = w6 at BK272 HB hHeld ⊢
  refine pure_ (i := 0) (N := some 8) (v := ?_) (a' := ?_) #[true, false, false, false] rfl rfl (by kernel_rfl) (fun _ _ _ h => h) (Or.inl ⟨by rfl, ?_⟩) ?_ ?_
  rotate_left
  ·intro w'
   go_simp
   with_reducible rfl
  rotate_left
  ·simp only [Act.put, List.setIfInBounds_toArray, List.set_cons_zero, List.set_cons_succ, i64_w, i32_w]
   rfl
  refine take_ (i := 2) (N := some 10) (v := ?_) (a' := ?_) #[true, false, true, false] rfl rfl (by kernel_rfl) (fun _ _ _ h => h) (Or.inl ⟨by rfl, ?_⟩) hHeld ?_ ?_
  rotate_left
  ·rintro w' ⟨s0, s1⟩
   go_simp
   with_reducible rfl
  rotate_left
  ·simp only [Act.put, List.setIfInBounds_toArray, List.set_cons_zero, List.set_cons_succ, i64_w, i32_w]
   rfl
  refine one_ (i := 1) (N := some 9) #[true, true, true, false] rfl rfl (by kernel_rfl) (by decide) (fun K hK => ?_)
  refine goes_ Try.func88 (by kernel_rfl) rfl #[.int .i64 (wrap64 (a0_1))] (by rfl) rfl rfl argt ?_
  with_reducible refine (wide_Of.calls (wrap64 (a0_1)) t273 t274 _ A2.out).mono ?_
  rintro e w7 ⟨rfl, hb⟩
  refine ⟨_, rfl, ?_⟩
  replace BK272 := blkb BK272 hb
  replace HB := belb HB hb
  (try clear hb)
  (try clear hb2)
  (try clear hk)
  (try clear hi)
  refine hK.out _ _ ⟨bc BK272 0, bc BK272 1⟩ (fun hHeld => ?_)
  clear hK K
  refine norm_ (a' := ?_) ?_ ?_
  rotate_left
  ·show Act.put _ (some 9) _ = _
   simp only [Act.put, List.setIfInBounds_toArray, List.set_cons_zero, List.set_cons_succ, i64_w, i32_w]
   rfl
  refine pure_ (i := 3) (N := some 11) (v := ?_) (a' := ?_) #[true, true, true, true] rfl rfl (by kernel_rfl) (fun _ _ _ h => h) (Or.inl ⟨by rfl, ?_⟩) ?_ ?_
  rotate_left
  ·intro w'
   go_simp
   with_reducible rfl
  rotate_left
  ·simp only [Act.put, List.setIfInBounds_toArray, List.set_cons_zero, List.set_cons_succ, i64_w, i32_w]
   rfl
  refine done_ (by kernel_rfl) ?_
  try go_wp2
  go_ret2
  exact ⟨by first | rfl | (simp [errW_none, errW_some] <;> rfl) | (simp [*, errW_none, errW_some] <;> rfl), belt HB⟩
 rw [if_neg c3] at H
 have c3b0 : (!(t273 == a0_0) || (!(t274 == a0_1))) = false := by simpa using c3
 clear c3
 simp only [Option.some.injEq, Prod.mk.injEq] at H
 obtain ⟨rfl, rfl⟩ := H
 go_enter Try.func76, Try.ntmps76
 try go_wp2_with (first | ((with_reducible refine gate_dst (N := 1) rfl ?_); refine box_event ?hg (N := 1) ?hd (cs := #[.int .i64 a0_0, .int .u64 a0_1]) (t := 59) ?hr ?_; (case hd => rfl); (case hg => rfl); (case hr => first | (go_simp; done) | (go_simp; rfl)); intro gb272 hg w8 hbox hb; have BK272 := Aside0.mk (hbox); have GW272 := bels HB hg; have GE272 := bels HB hg; replace HB := belb HB hb; clear hb hbox hg; have hcz9_0 : w8.cell? ⟨gb272, 0, none⟩ = some (.int .i64 a0_0) := bc BK272 0; have hcz9_1 : w8.cell? ⟨gb272, 1, none⟩ = some (.int .u64 a0_1) := bc BK272 1; have hfz9_0 := blk_frozen BK272.out 0; have hfz9_1 := blk_frozen BK272.out 1))
 replace BK272 := Aside0.mk (blk_drew BK272.out)
 replace HB := Aside0.mk (below_drew1 HB.out)
 refine start_ (n := 4) (S := fun w' => w'.cell? ⟨gb272, 0, none⟩ = some (.int .i64 a0_0) ∧ w'.cell? ⟨gb272, 1, none⟩ = some (.int .u64 a0_1)) (ds := []) #[false, false, false, false] (by kernel_rfl) rfl rfl ⟨bc BK272 0, bc BK272 1⟩ (fun hHeld => ?_)
 generalize w8.drew = w10 at BK272 HB hHeld ⊢
 refine pure_ (i := 0) (N := some 8) (v := ?_) (a' := ?_) #[true, false, false, false] rfl rfl (by kernel_rfl) (fun _ _ _ h => h) (Or.inl ⟨by rfl, ?_⟩) ?_ ?_
 rotate_left
 ·intro w'
  go_simp
  with_reducible rfl
 rotate_left
 ·simp only [Act.put, List.setIfInBounds_toArray, List.set_cons_zero, List.set_cons_succ, i64_w, i32_w]
  rfl
 refine take_ (i := 2) (N := some 10) (v := ?_) (a' := ?_) #[true, false, true, false] rfl rfl (by kernel_rfl) (fun _ _ _ h => h) (Or.inl ⟨by rfl, ?_⟩) hHeld ?_ ?_
 rotate_left
 ·rintro w' ⟨s0, s1⟩
  go_simp
  with_reducible rfl
 rotate_left
 ·simp only [Act.put, List.setIfInBounds_toArray, List.set_cons_zero, List.set_cons_succ, i64_w, i32_w]
  rfl
 refine one_ (i := 1) (N := some 9) #[true, true, true, false] rfl rfl (by kernel_rfl) (by decide) (fun K hK => ?_)
 refine goes_ Try.func88 (by kernel_rfl) rfl #[.int .i64 (wrap64 (a0_1))] (by rfl) rfl rfl argt ?_
 with_reducible refine (wide_Of.calls (wrap64 (a0_1)) t273 t274 _ A2.out).mono ?_
 rintro e w11 ⟨rfl, hb⟩
 refine ⟨_, rfl, ?_⟩
 replace BK272 := blkb BK272 hb
 replace HB := belb HB hb
 (try clear hb)
 (try clear hb2)
 (try clear hk)
 (try clear hi)
 refine hK.out _ _ ⟨bc BK272 0, bc BK272 1⟩ (fun hHeld => ?_)
 clear hK K
 refine norm_ (a' := ?_) ?_ ?_
 rotate_left
 ·show Act.put _ (some 9) _ = _
  simp only [Act.put, List.setIfInBounds_toArray, List.set_cons_zero, List.set_cons_succ, i64_w, i32_w]
  rfl
 refine pure_ (i := 3) (N := some 11) (v := ?_) (a' := ?_) #[true, true, true, true] rfl rfl (by kernel_rfl) (fun _ _ _ h => h) (Or.inl ⟨by rfl, ?_⟩) ?_ ?_
 rotate_left
 ·intro w'
  go_simp
  with_reducible rfl
 rotate_left
 ·simp only [Act.put, List.setIfInBounds_toArray, List.set_cons_zero, List.set_cons_succ, i64_w, i32_w]
  rfl
 refine done_ (by kernel_rfl) ?_
 try go_wp2
 go_ret2
 exact ⟨by first | rfl | (simp [errW_none, errW_some] <;> rfl) | (simp [*, errW_none, errW_some] <;> rfl), belt HB⟩


/-! ### pos_At: function 45 -/
def pos_At.f (k : Nat) (a0 : Int) (a1_0 : Int) (a1_1 : Int) (a2 : Int) : Option (Int × Int × Int × Bool) := (pos_weight.f a2).bind fun t277 => (if t277 = true then ((wide_Int_Div.f k a1_0 a1_1 (IntKind.u64.wrap (a2))).bind fun bt278 => ((wide_Int_Small.f bt278.1 bt278.2.1).bind fun bt283 => (if bt283.2 = true then ((vtime_Time_Add.f a0 bt283.1).bind fun t285 => (some (t285, (bt278.2.2.1) % 4294967296, a2, true))) else (some (0, 0, 0, false))))) else (some (0, 0, 0, false)))
theorem pos_At.mono : ∀ a0 a1 a2 a3 k, LeO (pos_At.f k a0 a1 a2 a3) (pos_At.f (k + 1) a0 a1 a2 a3) := by
 intro a0 a1 a2 a3 k
 unfold pos_At.f
 repeat' first
   | (with_reducible exact wide_Int_Div.mono _ _ _ _)
   | (with_reducible exact LeO.refl _)
   | (with_reducible exact LeO.none _)
   | (with_reducible refine LeO.ite ?_ ?_)
   | (with_reducible refine LeO.bind ?_ (fun _ => ?_))
   | exact wide_Int_Div.mono _ _ _ _
   | exact LeO.none _
   | refine LeO.ite ?_ ?_
   | refine LeO.bind ?_ (fun _ => ?_)
set_option maxHeartbeats 8000000 in
set_option maxRecDepth 100000 in
theorem pos_At.calls (k : Nat) (a0 : Int) (a1_0 : Int) (a1_1 : Int) (a2 : Int) (r1 : Int) (r2 : Int) (r3 : Int) (r4 : Bool) (w : World) (h : pos_At.f k a0 a1_0 a1_1 a2 = some (r1, r2, r3, r4)) :
  Calls Try.prog 45 #[.int .u64 a0, .agg #[.int .i64 a1_0, .int .u64 a1_1], .int .u32 a2] w fun e w' => e = .returned (.tuple #[.agg #[.int .u64 r1, .int .u32 r2, .int .u32 r3], .bool r4]) ∧ Below w.heap.size w w' := by
 have hu59 := Try.underlying59
 have hu67 := Try.underlying67
 have HB := Aside0.mk (Below.refl w.heap.size w)
 have H : ((pos_weight.f a2).bind fun t277 => (if t277 = true then ((wide_Int_Div.f k a1_0 a1_1 (IntKind.u64.wrap (a2))).bind fun bt278 => ((wide_Int_Small.f bt278.1 bt278.2.1).bind fun bt283 => (if bt283.2 = true then ((vtime_Time_Add.f a0 bt283.1).bind fun t285 => (some (t285, (bt278.2.2.1) % 4294967296, a2, true))) else (some (0, 0, 0, false))))) else (some (0, 0, 0, false)))) = some (r1, r2, r3, r4) := h
 clear h
 replace H := Option.bind_eq_some_iff.mp H
 obtain ⟨t277, A40, H⟩ := H
 replace H : (if t277 = true then ((wide_Int_Div.f k a1_0 a1_1 (IntKind.u64.wrap (a2))).bind fun bt278 => ((wide_Int_Small.f bt278.1 bt278.2.1).bind fun bt283 => (if bt283.2 = true then ((vtime_Time_Add.f a0 bt283.1).bind fun t285 => (some (t285, (bt278.2.2.1) % 4294967296, a2, true))) else (some (0, 0, 0, false))))) else (some (0, 0, 0, false))) = some (r1, r2, r3, r4) := H
 have A4 := Aside0.mk A40
 clear A40
 by_cases c5 : t277 = true
 ·subst c5
  have H1 : ((wide_Int_Div.f k a1_0 a1_1 (IntKind.u64.wrap (a2))).bind fun bt278 => ((wide_Int_Small.f bt278.1 bt278.2.1).bind fun bt283 => (if bt283.2 = true then ((vtime_Time_Add.f a0 bt283.1).bind fun t285 => (some (t285, (bt278.2.2.1) % 4294967296, a2, true))) else (some (0, 0, 0, false))))) = some (r1, r2, r3, r4) := by rw [if_pos rfl] at H; exact H
  clear H
  have H := H1
  clear H1
  replace H := Option.bind_eq_some_iff.mp H
  obtain ⟨⟨t278, t279, t280, t281⟩, A60, H⟩ := H
  replace H : ((wide_Int_Small.f t278 t279).bind fun bt283 => (if bt283.2 = true then ((vtime_Time_Add.f a0 bt283.1).bind fun t285 => (some (t285, (t280) % 4294967296, a2, true))) else (some (0, 0, 0, false)))) = some (r1, r2, r3, r4) := H
  have A6 := Aside0.mk A60
  clear A60
  replace H := Option.bind_eq_some_iff.mp H
  obtain ⟨⟨t283, t284⟩, A70, H⟩ := H
  replace H : (if t284 = true then ((vtime_Time_Add.f a0 t283).bind fun t285 => (some (t285, (t280) % 4294967296, a2, true))) else (some (0, 0, 0, false))) = some (r1, r2, r3, r4) := H
  have A7 := Aside0.mk A70
  clear A70
  by_cases c8 : t284 = true
  ·subst c8
   have H1 : ((vtime_Time_Add.f a0 t283).bind fun t285 => (some (t285, (t280) % 4294967296, a2, true))) = some (r1, r2, r3, r4) := by rw [if_pos rfl] at H; exact H
   clear H
   have H := H1
   clear H1
   replace H := Option.bind_eq_some_iff.mp H
   obtain ⟨t285, A90, H⟩ := H
   replace H : (some (t285, (t280) % 4294967296, a2, true)) = some (r1, r2, r3, r4) := H
   have A9 := Aside0.mk A90
   clear A90
   simp only [Option.some.injEq, Prod.mk.injEq] at H
   obtain ⟨rfl, rfl, rfl, rfl⟩ := H
   go_enter Try.func45, Try.ntmps45
   go_wp2_with (first | ((with_reducible refine gate_dst (N := 4) rfl ?_); refine box_event ?hg (N := 4) ?hd (cs := #[.int .i64 a1_0, .int .u64 a1_1]) (t := 59) ?hr ?_; (case hd => rfl); (case hg => rfl); (case hr => first | (go_simp; done) | (go_simp; rfl)); intro gb275 hg w10 hbox hb; have BK275 := Aside0.mk (hbox); have GW275 := bels HB hg; have GE275 := bels HB hg; replace HB := belb HB hb; clear hb hbox hg) | ((with_reducible refine gate_dst (N := 6) rfl ?_); refine box_event ?hg (N := 6) ?hd (cs := #[.int .u64 0, .int .u32 0, .int .u32 0]) (t := 67) ?hr ?_; (case hd => rfl); (case hg => rfl); (case hr => first | (go_simp; done) | (go_simp; rfl)); intro gb276 hg w11 hbox hb; have BK276 := Aside0.mk (hbox); have GW276 := bels HB hg; have GE276 := bels HB hg; have NB275_276 := blkl BK275 hg; have NB276_275 := blkg BK275 hg; replace BK275 := blkb BK275 hb; replace HB := belb HB hb; clear hb hbox hg) | ((with_reducible refine gate_callee (f := 75) rfl ?_); refine goesL_ (some 14) rfl rfl Try.func75 (by kernel_rfl) rfl #[.int .u32 a2] rfl argt ?_; (with_reducible refine (pos_weight.calls a2 true _ A4.out).mono ?_); rintro e w' ⟨rfl, ⟨nd, rfl⟩⟩; refine ⟨_, rfl, ?_⟩; (try (rw [drewN_self w11]; generalize hq_ : World.drewN w11 _ = w11; replace BK275 : Aside0 (w11.heap[gb275]? = some (.cells #[.int .i64 a1_0, .int .u64 a1_1] 59 (0, 0))) := ⟨by rw [← hq_]; exact (blkt BK275)⟩; replace BK276 : Aside0 (w11.heap[gb276]? = some (.cells #[.int .u64 0, .int .u32 0, .int .u32 0] 67 (0, 0))) := ⟨by rw [← hq_]; exact (blkt BK276)⟩; replace HB : Aside0 (Below w.heap.size w w11) := ⟨by rw [← hq_]; exact (belt HB)⟩; clear hq_)); have hnb12 := NB275_276.out; have hnc12 := NB276_275.out; have hcz13_0 : w11.cell? ⟨gb275, 0, none⟩ = some (.int .i64 a1_0) := bc BK275 0; have hcz13_1 : w11.cell? ⟨gb275, 1, none⟩ = some (.int .u64 a1_1) := bc BK275 1; have hfz13_0 := blk_frozen BK275.out 0; have hfz13_1 := blk_frozen BK275.out 1) | ((with_reducible refine gate_callee (f := 70) rfl ?_); refine goesL_ (some 21) rfl rfl Try.func70 (by kernel_rfl) rfl #[.agg #[.int .i64 a1_0, .int .u64 a1_1], .int .u64 (IntKind.u64.wrap (a2))] rfl argt ?_; (with_reducible refine (wide_Int_Div.calls k a1_0 a1_1 (IntKind.u64.wrap (a2)) t278 t279 t280 t281 _ A6.out).mono ?_); rintro e w14 ⟨rfl, hb⟩; refine ⟨_, rfl, ?_⟩; replace BK275 := blkb BK275 hb; replace BK276 := blkb BK276 hb; replace HB := belb HB hb; (try clear hb); (try clear hb2); (try clear hk); (try clear hi)) | ((with_reducible refine gate_dst (N := 8) rfl ?_); refine box_event ?hg (N := 8) ?hd (cs := #[.int .i64 0, .int .u64 0]) (t := 59) ?hr ?_; (case hd => rfl); (case hg => rfl); (case hr => first | (go_simp; done) | (go_simp; rfl)); intro gb282 hg w15 hbox hb; have BK282 := Aside0.mk (hbox); have GW282 := bels HB hg; have GE282 := bels HB hg; have NB275_282 := blkl BK275 hg; have NB282_275 := blkg BK275 hg; have NB276_282 := blkl BK276 hg; have NB282_276 := blkg BK276 hg; replace BK275 := blkb BK275 hb; replace BK276 := blkb BK276 hb; replace HB := belb HB hb; clear hb hbox hg; have hnb16 := NB282_275.out; have hnc16 := NB275_282.out; have hnb17 := NB282_276.out; have hnc17 := NB276_282.out; have hcz18_0 : w15.cell? ⟨gb282, 0, none⟩ = some (.int .i64 0) := bc BK282 0; have hcz18_1 : w15.cell? ⟨gb282, 1, none⟩ = some (.int .u64 0) := bc BK282 1; have hfz18_0 := blk_frozen BK282.out 0; have hfz18_1 := blk_frozen BK282.out 1) | ((with_reducible refine gate_callee (f := 76) rfl ?_); refine goesL_ (some 27) rfl rfl Try.func76 (by kernel_rfl) rfl #[.agg #[.int .i64 t278, .int .u64 t279]] rfl argt ?_; (with_reducible refine (wide_Int_Small.calls t278 t279 t283 true _ A7.out).mono ?_); rintro e w19 ⟨rfl, hb⟩; refine ⟨_, rfl, ?_⟩; replace BK275 := Aside0.mk (blk_below (g := gb275) (o := .cells #[.int .i64 a1_0, .int .u64 a1_1] 59 (0, 0)) (by (with_reducible repeat (first | refine blk_drewN ?_ _ | refine blk_drew ?_ | refine blk_alloc ?_ _)); refine blk_far ?_ NB275_282.out _; (with_reducible repeat (first | refine blk_drewN ?_ _ | refine blk_drew ?_ | refine blk_alloc ?_ _)); refine blk_far ?_ NB275_282.out _; exact blkt BK275) hb); replace BK276 := Aside0.mk (blk_below (g := gb276) (o := .cells #[.int .u64 0, .int .u32 0, .int .u32 0] 67 (0, 0)) (by (with_reducible repeat (first | refine blk_drewN ?_ _ | refine blk_drew ?_ | refine blk_alloc ?_ _)); refine blk_far ?_ NB276_282.out _; (with_reducible repeat (first | refine blk_drewN ?_ _ | refine blk_drew ?_ | refine blk_alloc ?_ _)); refine blk_far ?_ NB276_282.out _; exact blkt BK276) hb); replace BK282 := Aside0.mk (blk_below (g := gb282) (o := .cells #[.int .i64 t278, .int .u64 t279] 59 (0, 0)) (by (with_reducible repeat (first | refine blk_drewN ?_ _ | refine blk_drew ?_ | refine blk_alloc ?_ _)); refine blk_put (cs := #[.int .i64 t278, .int .u64 0]) ?_ 1 _ rfl; (with_reducible repeat (first | refine blk_drewN ?_ _ | refine blk_drew ?_ | refine blk_alloc ?_ _)); refine blk_put (cs := #[.int .i64 0, .int .u64 0]) ?_ 0 _ rfl; exact blkt BK282) hb); replace HB := belb HB hb; (try clear hb); (try clear hb2); (try clear hk); (try clear hi)) | ((with_reducible refine gate_callee (f := 25) rfl ?_); refine goesL_ (some 35) rfl rfl Try.func25 (by kernel_rfl) rfl #[.int .u64 a0, .int .i64 t283] rfl argt ?_; (with_reducible refine (vtime_Time_Add.calls a0 t283 t285 _ A9.out).mono ?_); rintro e w' ⟨rfl, ⟨nd, rfl⟩⟩; refine ⟨_, rfl, ?_⟩; (try (rw [drewN_self w19]; generalize hq_ : World.drewN w19 _ = w19; replace BK275 : Aside0 (w19.heap[gb275]? = some (.cells #[.int .i64 a1_0, .int .u64 a1_1] 59 (0, 0))) := ⟨by rw [← hq_]; exact (blkt BK275)⟩; replace BK276 : Aside0 (w19.heap[gb276]? = some (.cells #[.int .u64 0, .int .u32 0, .int .u32 0] 67 (0, 0))) := ⟨by rw [← hq_]; exact (blkt BK276)⟩; replace BK282 : Aside0 (w19.heap[gb282]? = some (.cells #[.int .i64 t278, .int .u64 t279] 59 (0, 0))) := ⟨by rw [← hq_]; exact (blkt BK282)⟩; replace HB : Aside0 (Below w.heap.size w w19) := ⟨by rw [← hq_]; exact (belt HB)⟩; clear hq_)); have hcz20_0 : w19.cell? ⟨gb276, 0, none⟩ = some (.int .u64 0) := bc BK276 0; have hcz20_1 : w19.cell? ⟨gb276, 1, none⟩ = some (.int .u32 0) := bc BK276 1; have hcz20_2 : w19.cell? ⟨gb276, 2, none⟩ = some (.int .u32 0) := bc BK276 2; have hfz20_0 := blk_frozen BK276.out 0; have hfz20_1 := blk_frozen BK276.out 1; have hfz20_2 := blk_frozen BK276.out 2))
   refine bodyPost_ret (results_ct rfl _ _ gb276 67 #[.int .u64 t285, .int .u32 ((t280) % 4294967296), .int .u32 a2] (0, 0) _ rfl (by (with_reducible repeat (first | refine blk_drewN ?_ _ | refine blk_drew ?_ | refine blk_alloc ?_ _)); refine blk_put (cs := #[.int .u64 t285, .int .u32 ((t280) % 4294967296), .int .u32 0]) ?_ 2 _ rfl; (with_reducible repeat (first | refine blk_drewN ?_ _ | refine blk_drew ?_ | refine blk_alloc ?_ _)); refine blk_put (cs := #[.int .u64 t285, .int .u32 0, .int .u32 0]) ?_ 1 _ rfl; (with_reducible repeat (first | refine blk_drewN ?_ _ | refine blk_drew ?_ | refine blk_alloc ?_ _)); refine blk_put (cs := #[.int .u64 0, .int .u32 0, .int .u32 0]) ?_ 0 _ rfl; exact blkt BK276) Try.underlying67 rfl (by kernel_rfl)) rfl ?_
   exact ⟨by first | rfl | (simp [errW_none, errW_some] <;> rfl) | (simp [*, errW_none, errW_some] <;> rfl), belt HB⟩
  replace c8 := Bool.eq_false_iff.mpr c8
  subst c8
  have H1 : (some (0, 0, 0, false)) = some (r1, r2, r3, r4) := by rw [if_neg (show ¬ (false = true) by decide)] at H; exact H
  clear H
  have H := H1
  clear H1
  simp only [Option.some.injEq, Prod.mk.injEq] at H
  obtain ⟨rfl, rfl, rfl, rfl⟩ := H
  go_enter Try.func45, Try.ntmps45
  go_wp2_with (first | ((with_reducible refine gate_dst (N := 4) rfl ?_); refine box_event ?hg (N := 4) ?hd (cs := #[.int .i64 a1_0, .int .u64 a1_1]) (t := 59) ?hr ?_; (case hd => rfl); (case hg => rfl); (case hr => first | (go_simp; done) | (go_simp; rfl)); intro gb275 hg w21 hbox hb; have BK275 := Aside0.mk (hbox); have GW275 := bels HB hg; have GE275 := bels HB hg; replace HB := belb HB hb; clear hb hbox hg) | ((with_reducible refine gate_dst (N := 6) rfl ?_); refine box_event ?hg (N := 6) ?hd (cs := #[.int .u64 0, .int .u32 0, .int .u32 0]) (t := 67) ?hr ?_; (case hd => rfl); (case hg => rfl); (case hr => first | (go_simp; done) | (go_simp; rfl)); intro gb276 hg w22 hbox hb; have BK276 := Aside0.mk (hbox); have GW276 := bels HB hg; have GE276 := bels HB hg; have NB275_276 := blkl BK275 hg; have NB276_275 := blkg BK275 hg; replace BK275 := blkb BK275 hb; replace HB := belb HB hb; clear hb hbox hg) | ((with_reducible refine gate_callee (f := 75) rfl ?_); refine goesL_ (some 14) rfl rfl Try.func75 (by kernel_rfl) rfl #[.int .u32 a2] rfl argt ?_; (with_reducible refine (pos_weight.calls a2 true _ A4.out).mono ?_); rintro e w' ⟨rfl, ⟨nd, rfl⟩⟩; refine ⟨_, rfl, ?_⟩; (try (rw [drewN_self w22]; generalize hq_ : World.drewN w22 _ = w22; replace BK275 : Aside0 (w22.heap[gb275]? = some (.cells #[.int .i64 a1_0, .int .u64 a1_1] 59 (0, 0))) := ⟨by rw [← hq_]; exact (blkt BK275)⟩; replace BK276 : Aside0 (w22.heap[gb276]? = some (.cells #[.int .u64 0, .int .u32 0, .int .u32 0] 67 (0, 0))) := ⟨by rw [← hq_]; exact (blkt BK276)⟩; replace HB : Aside0 (Below w.heap.size w w22) := ⟨by rw [← hq_]; exact (belt HB)⟩; clear hq_)); have hnb23 := NB275_276.out; have hnc23 := NB276_275.out; have hcz24_0 : w22.cell? ⟨gb275, 0, none⟩ = some (.int .i64 a1_0) := bc BK275 0; have hcz24_1 : w22.cell? ⟨gb275, 1, none⟩ = some (.int .u64 a1_1) := bc BK275 1; have hfz24_0 := blk_frozen BK275.out 0; have hfz24_1 := blk_frozen BK275.out 1) | ((with_reducible refine gate_callee (f := 70) rfl ?_); refine goesL_ (some 21) rfl rfl Try.func70 (by kernel_rfl) rfl #[.agg #[.int .i64 a1_0, .int .u64 a1_1], .int .u64 (IntKind.u64.wrap (a2))] rfl argt ?_; (with_reducible refine (wide_Int_Div.calls k a1_0 a1_1 (IntKind.u64.wrap (a2)) t278 t279 t280 t281 _ A6.out).mono ?_); rintro e w25 ⟨rfl, hb⟩; refine ⟨_, rfl, ?_⟩; replace BK275 := blkb BK275 hb; replace BK276 := blkb BK276 hb; replace HB := belb HB hb; (try clear hb); (try clear hb2); (try clear hk); (try clear hi)) | ((with_reducible refine gate_dst (N := 8) rfl ?_); refine box_event ?hg (N := 8) ?hd (cs := #[.int .i64 0, .int .u64 0]) (t := 59) ?hr ?_; (case hd => rfl); (case hg => rfl); (case hr => first | (go_simp; done) | (go_simp; rfl)); intro gb282 hg w26 hbox hb; have BK282 := Aside0.mk (hbox); have GW282 := bels HB hg; have GE282 := bels HB hg; have NB275_282 := blkl BK275 hg; have NB282_275 := blkg BK275 hg; have NB276_282 := blkl BK276 hg; have NB282_276 := blkg BK276 hg; replace BK275 := blkb BK275 hb; replace BK276 := blkb BK276 hb; replace HB := belb HB hb; clear hb hbox hg; have hnb27 := NB282_275.out; have hnc27 := NB275_282.out; have hnb28 := NB282_276.out; have hnc28 := NB276_282.out; have hcz29_0 : w26.cell? ⟨gb282, 0, none⟩ = some (.int .i64 0) := bc BK282 0; have hcz29_1 : w26.cell? ⟨gb282, 1, none⟩ = some (.int .u64 0) := bc BK282 1; have hfz29_0 := blk_frozen BK282.out 0; have hfz29_1 := blk_frozen BK282.out 1) | ((with_reducible refine gate_callee (f := 76) rfl ?_); refine goesL_ (some 27) rfl rfl Try.func76 (by kernel_rfl) rfl #[.agg #[.int .i64 t278, .int .u64 t279]] rfl argt ?_; (with_reducible refine (wide_Int_Small.calls t278 t279 t283 false _ A7.out).mono ?_); rintro e w30 ⟨rfl, hb⟩; refine ⟨_, rfl, ?_⟩; replace BK275 := Aside0.mk (blk_below (g := gb275) (o := .cells #[.int .i64 a1_0, .int .u64 a1_1] 59 (0, 0)) (by (with_reducible repeat (first | refine blk_drewN ?_ _ | refine blk_drew ?_ | refine blk_alloc ?_ _)); refine blk_far ?_ NB275_282.out _; (with_reducible repeat (first | refine blk_drewN ?_ _ | refine blk_drew ?_ | refine blk_alloc ?_ _)); refine blk_far ?_ NB275_282.out _; exact blkt BK275) hb); replace BK276 := Aside0.mk (blk_below (g := gb276) (o := .cells #[.int .u64 0, .int .u32 0, .int .u32 0] 67 (0, 0)) (by (with_reducible repeat (first | refine blk_drewN ?_ _ | refine blk_drew ?_ | refine blk_alloc ?_ _)); refine blk_far ?_ NB276_282.out _; (with_reducible repeat (first | refine blk_drewN ?_ _ | refine blk_drew ?_ | refine blk_alloc ?_ _)); refine blk_far ?_ NB276_282.out _; exact blkt BK276) hb); replace BK282 := Aside0.mk (blk_below (g := gb282) (o := .cells #[.int .i64 t278, .int .u64 t279] 59 (0, 0)) (by (with_reducible repeat (first | refine blk_drewN ?_ _ | refine blk_drew ?_ | refine blk_alloc ?_ _)); refine blk_put (cs := #[.int .i64 t278, .int .u64 0]) ?_ 1 _ rfl; (with_reducible repeat (first | refine blk_drewN ?_ _ | refine blk_drew ?_ | refine blk_alloc ?_ _)); refine blk_put (cs := #[.int .i64 0, .int .u64 0]) ?_ 0 _ rfl; exact blkt BK282) hb); replace HB := belb HB hb; (try clear hb); (try clear hb2); (try clear hk); (try clear hi); have hcz31_0 : w30.cell? ⟨gb276, 0, none⟩ = some (.int .u64 0) := bc BK276 0; have hcz31_1 : w30.cell? ⟨gb276, 1, none⟩ = some (.int .u32 0) := bc BK276 1; have hcz31_2 : w30.cell? ⟨gb276, 2, none⟩ = some (.int .u32 0) := bc BK276 2; have hfz31_0 := blk_frozen BK276.out 0; have hfz31_1 := blk_frozen BK276.out 1; have hfz31_2 := blk_frozen BK276.out 2))
  refine bodyPost_ret (results_ct rfl _ _ gb276 67 #[.int .u64 0, .int .u32 0, .int .u32 0] (0, 0) _ rfl (by (with_reducible repeat (first | refine blk_drewN ?_ _ | refine blk_drew ?_ | refine blk_alloc ?_ _)); refine blk_put (cs := #[.int .u64 0, .int .u32 0, .int .u32 0]) ?_ 2 _ rfl; (with_reducible repeat (first | refine blk_drewN ?_ _ | refine blk_drew ?_ | refine blk_alloc ?_ _)); refine blk_put (cs := #[.int .u64 0, .int .u32 0, .int .u32 0]) ?_ 1 _ rfl; (with_reducible repeat (first | refine blk_drewN ?_ _ | refine blk_drew ?_ | refine blk_alloc ?_ _)); refine blk_put (cs := #[.int .u64 0, .int .u32 0, .int .u32 0]) ?_ 0 _ rfl; exact blkt BK276) Try.underlying67 rfl (by kernel_rfl)) rfl ?_
  exact ⟨by first | rfl | (simp [errW_none, errW_some] <;> rfl) | (simp [*, errW_none, errW_some] <;> rfl), belt HB⟩
 replace c5 := Bool.eq_false_iff.mpr c5
 subst c5
 have H1 : (some (0, 0, 0, false)) = some (r1, r2, r3, r4) := by rw [if_neg (show ¬ (false = true) by decide)] at H; exact H
 clear H
 have H := H1
 clear H1
 simp only [Option.some.injEq, Prod.mk.injEq] at H
 obtain ⟨rfl, rfl, rfl, rfl⟩ := H
 go_enter Try.func45, Try.ntmps45
 go_wp2_with (first | ((with_reducible refine gate_dst (N := 4) rfl ?_); refine box_event ?hg (N := 4) ?hd (cs := #[.int .i64 a1_0, .int .u64 a1_1]) (t := 59) ?hr ?_; (case hd => rfl); (case hg => rfl); (case hr => first | (go_simp; done) | (go_simp; rfl)); intro gb275 hg w32 hbox hb; have BK275 := Aside0.mk (hbox); have GW275 := bels HB hg; have GE275 := bels HB hg; replace HB := belb HB hb; clear hb hbox hg) | ((with_reducible refine gate_dst (N := 6) rfl ?_); refine box_event ?hg (N := 6) ?hd (cs := #[.int .u64 0, .int .u32 0, .int .u32 0]) (t := 67) ?hr ?_; (case hd => rfl); (case hg => rfl); (case hr => first | (go_simp; done) | (go_simp; rfl)); intro gb276 hg w33 hbox hb; have BK276 := Aside0.mk (hbox); have GW276 := bels HB hg; have GE276 := bels HB hg; have NB275_276 := blkl BK275 hg; have NB276_275 := blkg BK275 hg; replace BK275 := blkb BK275 hb; replace HB := belb HB hb; clear hb hbox hg) | ((with_reducible refine gate_callee (f := 75) rfl ?_); refine goesL_ (some 14) rfl rfl Try.func75 (by kernel_rfl) rfl #[.int .u32 a2] rfl argt ?_; (with_reducible refine (pos_weight.calls a2 false _ A4.out).mono ?_); rintro e w' ⟨rfl, ⟨nd, rfl⟩⟩; refine ⟨_, rfl, ?_⟩; (try (rw [drewN_self w33]; generalize hq_ : World.drewN w33 _ = w33; replace BK275 : Aside0 (w33.heap[gb275]? = some (.cells #[.int .i64 a1_0, .int .u64 a1_1] 59 (0, 0))) := ⟨by rw [← hq_]; exact (blkt BK275)⟩; replace BK276 : Aside0 (w33.heap[gb276]? = some (.cells #[.int .u64 0, .int .u32 0, .int .u32 0] 67 (0, 0))) := ⟨by rw [← hq_]; exact (blkt BK276)⟩; replace HB : Aside0 (Below w.heap.size w w33) := ⟨by rw [← hq_]; exact (belt HB)⟩; clear hq_)); have hnb34 := NB276_275.out; have hnc34 := NB275_276.out; have hcz35_0 : w33.cell? ⟨gb276, 0, none⟩ = some (.int .u64 0) := bc BK276 0; have hcz35_1 : w33.cell? ⟨gb276, 1, none⟩ = some (.int .u32 0) := bc BK276 1; have hcz35_2 : w33.cell? ⟨gb276, 2, none⟩ = some (.int .u32 0) := bc BK276 2; have hfz35_0 := blk_frozen BK276.out 0; have hfz35_1 := blk_frozen BK276.out 1; have hfz35_2 := blk_frozen BK276.out 2))
 refine bodyPost_ret (results_ct rfl _ _ gb276 67 #[.int .u64 0, .int .u32 0, .int .u32 0] (0, 0) _ rfl (by (with_reducible repeat (first | refine blk_drewN ?_ _ | refine blk_drew ?_ | refine blk_alloc ?_ _)); refine blk_put (cs := #[.int .u64 0, .int .u32 0, .int .u32 0]) ?_ 2 _ rfl; (with_reducible repeat (first | refine blk_drewN ?_ _ | refine blk_drew ?_ | refine blk_alloc ?_ _)); refine blk_put (cs := #[.int .u64 0, .int .u32 0, .int .u32 0]) ?_ 1 _ rfl; (with_reducible repeat (first | refine blk_drewN ?_ _ | refine blk_drew ?_ | refine blk_alloc ?_ _)); refine blk_put (cs := #[.int .u64 0, .int .u32 0, .int .u32 0]) ?_ 0 _ rfl; exact blkt BK276) Try.underlying67 rfl (by kernel_rfl)) rfl ?_
 exact ⟨by first | rfl | (simp [errW_none, errW_some] <;> rfl) | (simp [*, errW_none, errW_some] <;> rfl), belt HB⟩


/-! ### pos_Pos_Move: function 47 -/
def pos_Pos_Move.f (k : Nat) (a0_0 : Int) (a0_1 : Int) (a0_2 : Int) (a1 : Int) : Option (Int × Int × Int × Bool) := (wide_OfU.f a1).bind fun bt293 => ((wide_OfU.f (IntKind.u64.wrap (a0_1))).bind fun bt295 => ((wide_Int_Add.f bt293.1 bt293.2 bt295.1 bt295.2).bind fun bt297 => ((pos_At.f k a0_0 bt297.1 bt297.2.1 a0_2).bind fun bt301 => (some (bt301.1, bt301.2.1, bt301.2.2.1, bt301.2.2.2)))))
theorem pos_Pos_Move.mono : ∀ a0 a1 a2 a3 k, LeO (pos_Pos_Move.f k a0 a1 a2 a3) (pos_Pos_Move.f (k + 1) a0 a1 a2 a3) := by
 intro a0 a1 a2 a3 k
 unfold pos_Pos_Move.f
 repeat' first
   | (with_reducible exact pos_At.mono _ _ _ _ _)
   | (with_reducible exact LeO.refl _)
   | (with_reducible exact LeO.none _)
   | (with_reducible refine LeO.ite ?_ ?_)
   | (with_reducible refine LeO.bind ?_ (fun _ => ?_))
   | exact pos_At.mono _ _ _ _ _
   | exact LeO.none _
   | refine LeO.ite ?_ ?_
   | refine LeO.bind ?_ (fun _ => ?_)
def pos_Pos_Move.T1 : Bool × List (List Nat × List Nat) := (true, [([], []), ([0], [0]), ([], []), ([2], [2]), ([3], [3]), ([4, 1], [4]), ([1, 5, 5], [1, 5]), ([6], [6]), ([7], [7]), ([7], [7]), ([], []), ([10, 8, 6, 0, 1, 2, 3, 4, 5, 6, 7, 8, 10], [8, 10]), ([9, 11, 0, 1, 2, 3, 4, 5, 6, 7, 8, 9, 10, 11], [9])])
def pos_Pos_Move.B1 : List Nat := [0, 1, 0, 4, 12, 31, 63, 127, 255, 255, 0, 1535, 4095]
theorem pos_Pos_Move.tab1 : rtab .any (opsOf Try.f47 1) = pos_Pos_Move.T1 := by kernel_rfl
theorem pos_Pos_Move.bits1 : waitsOk pos_Pos_Move.T1.2 pos_Pos_Move.B1 = true := by kernel_rfl
set_option maxHeartbeats 8000000 in
set_option maxRecDepth 100000 in
theorem pos_Pos_Move.calls (k : Nat) (a0_0 : Int) (a0_1 : Int) (a0_2 : Int) (a1 : Int) (r1 : Int) (r2 : Int) (r3 : Int) (r4 : Bool) (w : World) (h : pos_Pos_Move.f k a0_0 a0_1 a0_2 a1 = some (r1, r2, r3, r4)) :
  Calls Try.prog 47 #[.agg #[.int .u64 a0_0, .int .u32 a0_1, .int .u32 a0_2], .int .u64 a1] w fun e w' => e = .returned (.tuple #[.agg #[.int .u64 r1, .int .u32 r2, .int .u32 r3], .bool r4]) ∧ Below w.heap.size w w' := by
 have hu67 := Try.underlying67
 have hu59 := Try.underlying59
 have HB := Aside0.mk (Below.refl w.heap.size w)
 have H : ((wide_OfU.f a1).bind fun bt293 => ((wide_OfU.f (IntKind.u64.wrap (a0_1))).bind fun bt295 => ((wide_Int_Add.f bt293.1 bt293.2 bt295.1 bt295.2).bind fun bt297 => ((pos_At.f k a0_0 bt297.1 bt297.2.1 a0_2).bind fun bt301 => (some (bt301.1, bt301.2.1, bt301.2.2.1, bt301.2.2.2)))))) = some (r1, r2, r3, r4) := h
 clear h
 replace H := Option.bind_eq_some_iff.mp H
 obtain ⟨⟨t293, t294⟩, A30, H⟩ := H
 replace H : ((wide_OfU.f (IntKind.u64.wrap (a0_1))).bind fun bt295 => ((wide_Int_Add.f t293 t294 bt295.1 bt295.2).bind fun bt297 => ((pos_At.f k a0_0 bt297.1 bt297.2.1 a0_2).bind fun bt301 => (some (bt301.1, bt301.2.1, bt301.2.2.1, bt301.2.2.2))))) = some (r1, r2, r3, r4) := H
 have A3 := Aside0.mk A30
 clear A30
 replace H := Option.bind_eq_some_iff.mp H
 obtain ⟨⟨t295, t296⟩, A40, H⟩ := H
 replace H : ((wide_Int_Add.f t293 t294 t295 t296).bind fun bt297 => ((pos_At.f k a0_0 bt297.1 bt297.2.1 a0_2).bind fun bt301 => (some (bt301.1, bt301.2.1, bt301.2.2.1, bt301.2.2.2)))) = some (r1, r2, r3, r4) := H
 have A4 := Aside0.mk A40
 clear A40
 replace H := Option.bind_eq_some_iff.mp H
 obtain ⟨⟨t297, t298, t299⟩, A50, H⟩ := H
 replace H : ((pos_At.f k a0_0 t297 t298 a0_2).bind fun bt301 => (some (bt301.1, bt301.2.1, bt301.2.2.1, bt301.2.2.2))) = some (r1, r2, r3, r4) := H
 have A5 := Aside0.mk A50
 clear A50
 replace H := Option.bind_eq_some_iff.mp H
 obtain ⟨⟨t301, t302, t303, t304⟩, A60, H⟩ := H
 replace H : (some (t301, t302, t303, t304)) = some (r1, r2, r3, r4) := H
 have A6 := Aside0.mk A60
 clear A60
 simp only [Option.some.injEq, Prod.mk.injEq] at H
 obtain ⟨rfl, rfl, rfl, rfl⟩ := H
 go_enter Try.func47, Try.ntmps47
 try go_wp2_with (first | ((with_reducible refine gate_dst (N := 2) rfl ?_); refine box_event ?hg (N := 2) ?hd (cs := #[.int .u64 a0_0, .int .u32 a0_1, .int .u32 a0_2]) (t := 67) ?hr ?_; (case hd => rfl); (case hg => rfl); (case hr => first | (go_simp; done) | (go_simp; rfl)); intro gb291 hg w7 hbox hb; have BK291 := Aside0.mk (hbox); have GW291 := bels HB hg; have GE291 := bels HB hg; replace HB := belb HB hb; clear hb hbox hg) | ((with_reducible refine gate_dst (N := 4) rfl ?_); refine box_event ?hg (N := 4) ?hd (cs := #[.int .u64 0, .int .u32 0, .int .u32 0]) (t := 67) ?hr ?_; (case hd => rfl); (case hg => rfl); (case hr => first | (go_simp; done) | (go_simp; rfl)); intro gb292 hg w8 hbox hb; have BK292 := Aside0.mk (hbox); have GW292 := bels HB hg; have GE292 := bels HB hg; have NB291_292 := blkl BK291 hg; have NB292_291 := blkg BK291 hg; replace BK291 := blkb BK291 hb; replace HB := belb HB hb; clear hb hbox hg))
 replace BK291 := Aside0.mk (blk_drew BK291.out)
 replace BK292 := Aside0.mk (blk_drew BK292.out)
 replace HB := Aside0.mk (below_drew1 HB.out)
 refine start_ (n := 13) (S := fun w' => w'.cell? ⟨gb291, 0, none⟩ = some (.int .u64 a0_0) ∧ w'.cell? ⟨gb291, 1, none⟩ = some (.int .u32 a0_1) ∧ w'.cell? ⟨gb291, 2, none⟩ = some (.int .u32 a0_2)) (ds := []) #[false, false, false, false, false, false, false, false, false, false, false, false, false] (by kernel_rfl) rfl rfl ⟨bc BK291 0, bc BK291 1, bc BK291 2⟩ (fun hHeld => ?_); refine with_tabW pos_Pos_Move.tab1 pos_Pos_Move.bits1 (fun HT_ HW_ => ?_)
 generalize w8.drew = w9 at BK291 BK292 HB hHeld ⊢
 refine pure_ (i := 0) (N := some 9) (v := ?_) (a' := ?_) #[true, false, false, false, false, false, false, false, false, false, false, false, false] rfl rfl (any_of HT_.out (by kernel_rfl)) (fun _ _ _ h => h) (Or.inl ⟨by rfl, ?_⟩) ?_ ?_
 rotate_left
 ·intro w'
  go_simp
  with_reducible rfl
 rotate_left
 ·simp only [Act.put, List.setIfInBounds_toArray, List.set_cons_zero, List.set_cons_succ, i64_w, i32_w]
  rfl
 refine pure_ (i := 2) (N := some 11) (v := ?_) (a' := ?_) #[true, false, true, false, false, false, false, false, false, false, false, false, false] rfl rfl (any_of HT_.out (by kernel_rfl)) (fun _ _ _ h => h) (Or.inl ⟨by rfl, ?_⟩) ?_ ?_
 rotate_left
 ·intro w'
  go_simp
  with_reducible rfl
 rotate_left
 ·simp only [Act.put, List.setIfInBounds_toArray, List.set_cons_zero, List.set_cons_succ, i64_w, i32_w]
  rfl
 refine take_ (i := 3) (N := some 12) (v := ?_) (a' := ?_) #[true, false, true, true, false, false, false, false, false, false, false, false, false] rfl rfl (take_ofW HT_.out HW_.out (by kernel_rfl)) (fun _ _ _ h => h) (Or.inl ⟨by rfl, ?_⟩) hHeld ?_ ?_
 rotate_left
 ·rintro w' ⟨s0, s1, s2⟩
  go_simp
  with_reducible rfl
 rotate_left
 ·simp only [Act.put, List.setIfInBounds_toArray, List.set_cons_zero, List.set_cons_succ, i64_w, i32_w]
  rfl
 refine pure_ (i := 4) (N := some 13) (v := ?_) (a' := ?_) #[true, false, true, true, true, false, false, false, false, false, false, false, false] rfl rfl (any_of HT_.out (by kernel_rfl)) (fun _ _ _ h => h) (Or.inl ⟨by rfl, ?_⟩) ?_ ?_
 rotate_left
 ·intro w'
  go_simp
  with_reducible rfl
 rotate_left
 ·simp only [Act.put, List.setIfInBounds_toArray, List.set_cons_zero, List.set_cons_succ, i64_w, i32_w]
  rfl
 refine join_ (σ := Nat) 2 #[true, true, true, true, true, true, true, true, true, true, true, false, false] (fun s_ => [(10, .agg #[.int .i64 t293, .int .u64 t294]), (14, .agg #[.int .i64 t295, .int .u64 t296]), (15, .tuple #[.agg #[.int .i64 t297, .int .u64 t298], .bool t299]), (6, .pointer (some ⟨s_, 0, none⟩)), (8, .tuple #[.agg #[.int .i64 t297, .int .u64 t298], .bool t299]), (16, .agg #[.int .i64 t297, .int .u64 t298]), (17, .bool t299)]) (fun s_ w' => (w'.cell? ⟨gb291, 0, none⟩ = some (.int .u64 a0_0) ∧ w'.cell? ⟨gb291, 1, none⟩ = some (.int .u32 a0_1) ∧ w'.cell? ⟨gb291, 2, none⟩ = some (.int .u32 a0_2)) ∧ (w'.heap[gb291]? = some (.cells #[.int .u64 a0_0, .int .u32 a0_1, .int .u32 a0_2] 67 (0, 0))) ∧ (w'.heap[gb292]? = some (.cells #[.int .u64 0, .int .u32 0, .int .u32 0] 67 (0, 0))) ∧ (w'.heap[s_]? = some (.cells #[.int .i64 0, .int .u64 0] 59 (0, 0))) ∧ (w.heap.size ≤ s_) ∧ (w.heap.size ≤ s_) ∧ (gb291 ≠ s_) ∧ (s_ ≠ gb291) ∧ (gb292 ≠ s_) ∧ (s_ ≠ gb292) ∧ (Below w.heap.size w w')) ?_ ?_
 rotate_left
 ·intro hCont
  refine two_ (i := 1) (j := 10) (Ni := some 10) (Nj := some 6) #[true, true, true, true, true, false, false, false, false, false, false, false, false] #[true, false, true, true, true, false, false, false, false, false, true, false, false] rfl rfl rfl rfl (two_of HT_.out (by kernel_rfl)) (by decide) (by decide) (fun K hK => ?_) (fun K hK => ?_)
  ·skip
   refine goes_ Try.func80 (by kernel_rfl) rfl #[.int .u64 a1] (by rfl) rfl rfl argt ?_
   with_reducible refine (wide_OfU.calls a1 t293 t294 _ A3.out).mono ?_
   rintro e w10 ⟨rfl, hb⟩
   refine ⟨_, rfl, ?_⟩
   replace BK291 := blkb BK291 hb
   replace BK292 := blkb BK292 hb
   replace HB := belb HB hb
   (try clear hb)
   (try clear hb2)
   (try clear hk)
   (try clear hi)
   refine hK.out _ _ ⟨bc BK291 0, bc BK291 1, bc BK291 2⟩ (fun hHeld => ?_)
   clear hK K
   refine norm_ (a' := ?_) ?_ ?_
   rotate_left
   ·show Act.put _ (some 10) _ = _
    simp only [Act.put, List.setIfInBounds_toArray, List.set_cons_zero, List.set_cons_succ, i64_w, i32_w]
    rfl
   refine two_ (i := 5) (j := 10) (Ni := some 14) (Nj := some 6) #[true, true, true, true, true, true, false, false, false, false, false, false, false] #[true, true, true, true, true, false, false, false, false, false, true, false, false] rfl rfl rfl rfl (two_of HT_.out (by kernel_rfl)) (by decide) (by decide) (fun K hK => ?_) (fun K hK => ?_)
   ·skip
    refine goes_ Try.func80 (by kernel_rfl) rfl #[.int .u64 (IntKind.u64.wrap (a0_1))] (by rfl) rfl rfl argt ?_
    with_reducible refine (wide_OfU.calls (IntKind.u64.wrap (a0_1)) t295 t296 _ A4.out).mono ?_
    rintro e w11 ⟨rfl, hb⟩
    refine ⟨_, rfl, ?_⟩
    replace BK291 := blkb BK291 hb
    replace BK292 := blkb BK292 hb
    replace HB := belb HB hb
    (try clear hb)
    (try clear hb2)
    (try clear hk)
    (try clear hi)
    refine hK.out _ _ ⟨bc BK291 0, bc BK291 1, bc BK291 2⟩ (fun hHeld => ?_)
    clear hK K
    refine norm_ (a' := ?_) ?_ ?_
    rotate_left
    ·show Act.put _ (some 14) _ = _
     simp only [Act.put, List.setIfInBounds_toArray, List.set_cons_zero, List.set_cons_succ, i64_w, i32_w]
     rfl
    refine two_ (i := 6) (j := 10) (Ni := some 15) (Nj := some 6) #[true, true, true, true, true, true, true, false, false, false, false, false, false] #[true, true, true, true, true, true, false, false, false, false, true, false, false] rfl rfl rfl rfl (two_of HT_.out (by kernel_rfl)) (by decide) (by decide) (fun K hK => ?_) (fun K hK => ?_)
    ·skip
     refine goes_ Try.func81 (by kernel_rfl) rfl #[.agg #[.int .i64 t293, .int .u64 t294], .agg #[.int .i64 t295, .int .u64 t296]] (by rfl) rfl rfl argt ?_
     with_reducible refine (wide_Int_Add.calls t293 t294 t295 t296 t297 t298 t299 _ A5.out).mono ?_
     rintro e w12 ⟨rfl, hb⟩
     refine ⟨_, rfl, ?_⟩
     replace BK291 := blkb BK291 hb
     replace BK292 := blkb BK292 hb
     replace HB := belb HB hb
     (try clear hb)
     (try clear hb2)
     (try clear hk)
     (try clear hi)
     refine hK.out _ _ ⟨bc BK291 0, bc BK291 1, bc BK291 2⟩ (fun hHeld => ?_)
     clear hK K
     refine norm_ (a' := ?_) ?_ ?_
     rotate_left
     ·show Act.put _ (some 15) _ = _
      simp only [Act.put, List.setIfInBounds_toArray, List.set_cons_zero, List.set_cons_succ, i64_w, i32_w]
      rfl
     refine pure_ (i := 7) (N := some 8) (v := ?_) (a' := ?_) #[true, true, true, true, true, true, true, true, false, false, false, false, false] rfl rfl (any_of HT_.out (by kernel_rfl)) (fun _ _ _ h => h) (Or.inl ⟨by rfl, ?_⟩) ?_ ?_
     rotate_left
     ·intro w'
      go_simp
      with_reducible rfl
     rotate_left
     ·simp only [Act.put, List.setIfInBounds_toArray, List.set_cons_zero, List.set_cons_succ, i64_w, i32_w]
      rfl
     refine pure_ (i := 8) (N := some 16) (v := ?_) (a' := ?_) #[true, true, true, true, true, true, true, true, true, false, false, false, false] rfl rfl (any_of HT_.out (by kernel_rfl)) (fun _ _ _ h => h) (Or.inl ⟨by rfl, ?_⟩) ?_ ?_
     rotate_left
     ·intro w'
      go_simp
      with_reducible rfl
     rotate_left
     ·simp only [Act.put, List.setIfInBounds_toArray, List.set_cons_zero, List.set_cons_succ, i64_w, i32_w]
      rfl
     refine pure_ (i := 9) (N := some 17) (v := ?_) (a' := ?_) #[true, true, true, true, true, true, true, true, true, true, false, false, false] rfl rfl (any_of HT_.out (by kernel_rfl)) (fun _ _ _ h => h) (Or.inl ⟨by rfl, ?_⟩) ?_ ?_
     rotate_left
     ·intro w'
      go_simp
      with_reducible rfl
     rotate_left
     ·simp only [Act.put, List.setIfInBounds_toArray, List.set_cons_zero, List.set_cons_succ, i64_w, i32_w]
      rfl
     refine one_ (i := 10) (N := some 6) #[true, true, true, true, true, true, true, true, true, true, true, false, false] rfl rfl (one_of HT_.out (by kernel_rfl)) (by decide) (fun K hK => ?_)
     refine box_step ?hg (N := 6) ?hd (cs := #[.int .i64 0, .int .u64 0]) (t := 59) ?hr ?_; (case hd => rfl); (case hg => rfl); (case hr => first | (go_simp; done) | (go_simp; rfl))
     intro gb300 hg w13 hbox hb
     have BK300 := Aside0.mk (hbox)
     have GW300 := bels HB hg
     have GE300 := bels HB hg
     have NB291_300 := blkl BK291 hg
     have NB300_291 := blkg BK291 hg
     have NB292_300 := blkl BK292 hg
     have NB300_292 := blkg BK292 hg
     replace BK291 := blkb BK291 hb
     replace BK292 := blkb BK292 hb
     replace HB := belb HB hb
     clear hb hbox hg
     refine hK.out _ _ ⟨bc BK291 0, bc BK291 1, bc BK291 2⟩ (fun hHeld => ?_)
     clear hK K
     refine norm_ (a' := ?_) ?_ ?_
     rotate_left
     ·show Act.put _ (some 6) _ = _
      simp only [Act.put, List.setIfInBounds_toArray, List.set_cons_zero, List.set_cons_succ, i64_w, i32_w]
      rfl
     exact norm_ (by simp only [putAll, Act.put, List.setIfInBounds_toArray, List.set_cons_zero, List.set_cons_succ]) (hCont (gb300) _ ⟨hHeld, (blkt BK291), (blkt BK292), (blkt BK300), GW300.out, GE300.out, NB291_300.out, NB300_291.out, NB292_300.out, NB300_292.out, (belt HB)⟩)
    skip
    refine box_step ?hg (N := 6) ?hd (cs := #[.int .i64 0, .int .u64 0]) (t := 59) ?hr ?_; (case hd => rfl); (case hg => rfl); (case hr => first | (go_simp; done) | (go_simp; rfl))
    intro gb300 hg w12 hbox hb
    have BK300 := Aside0.mk (hbox)
    have GW300 := bels HB hg
    have GE300 := bels HB hg
    have NB291_300 := blkl BK291 hg
    have NB300_291 := blkg BK291 hg
    have NB292_300 := blkl BK292 hg
    have NB300_292 := blkg BK292 hg
    replace BK291 := blkb BK291 hb
    replace BK292 := blkb BK292 hb
    replace HB := belb HB hb
    clear hb hbox hg
    refine hK.out _ _ ⟨bc BK291 0, bc BK291 1, bc BK291 2⟩ (fun hHeld => ?_)
    clear hK K
    refine norm_ (a' := ?_) ?_ ?_
    rotate_left
    ·show Act.put _ (some 6) _ = _
     simp only [Act.put, List.setIfInBounds_toArray, List.set_cons_zero, List.set_cons_succ, i64_w, i32_w]
     rfl
    refine one_ (i := 6) (N := some 15) #[true, true, true, true, true, true, true, false, false, false, true, false, false] rfl rfl (one_of HT_.out (by kernel_rfl)) (by decide) (fun K hK => ?_)
    refine goes_ Try.func81 (by kernel_rfl) rfl #[.agg #[.int .i64 t293, .int .u64 t294], .agg #[.int .i64 t295, .int .u64 t296]] (by rfl) rfl rfl argt ?_
    with_reducible refine (wide_Int_Add.calls t293 t294 t295 t296 t297 t298 t299 _ A5.out).mono ?_
    rintro e w13 ⟨rfl, hb⟩
    refine ⟨_, rfl, ?_⟩
    replace BK291 := blkb BK291 hb
    replace BK292 := blkb BK292 hb
    replace BK300 := blkb BK300 hb
    replace HB := belb HB hb
    (try clear hb)
    (try clear hb2)
    (try clear hk)
    (try clear hi)
    refine hK.out _ _ ⟨bc BK291 0, bc BK291 1, bc BK291 2⟩ (fun hHeld => ?_)
    clear hK K
    refine norm_ (a' := ?_) ?_ ?_
    rotate_left
    ·show Act.put _ (some 15) _ = _
     simp only [Act.put, List.setIfInBounds_toArray, List.set_cons_zero, List.set_cons_succ, i64_w, i32_w]
     rfl
    refine pure_ (i := 7) (N := some 8) (v := ?_) (a' := ?_) #[true, true, true, true, true, true, true, true, false, false, true, false, false] rfl rfl (any_of HT_.out (by kernel_rfl)) (fun _ _ _ h => h) (Or.inl ⟨by rfl, ?_⟩) ?_ ?_
    rotate_left
    ·intro w'
     go_simp
     with_reducible rfl
    rotate_left
    ·simp only [Act.put, List.setIfInBounds_toArray, List.set_cons_zero, List.set_cons_succ, i64_w, i32_w]
     rfl
    refine pure_ (i := 8) (N := some 16) (v := ?_) (a' := ?_) #[true, true, true, true, true, true, true, true, true, false, true, false, false] rfl rfl (any_of HT_.out (by kernel_rfl)) (fun _ _ _ h => h) (Or.inl ⟨by rfl, ?_⟩) ?_ ?_
    rotate_left
    ·intro w'
     go_simp
     with_reducible rfl
    rotate_left
    ·simp only [Act.put, List.setIfInBounds_toArray, List.set_cons_zero, List.set_cons_succ, i64_w, i32_w]
     rfl
    refine pure_ (i := 9) (N := some 17) (v := ?_) (a' := ?_) #[true, true, true, true, true, true, true, true, true, true, true, false, false] rfl rfl (any_of HT_.out (by kernel_rfl)) (fun _ _ _ h => h) (Or.inl ⟨by rfl, ?_⟩) ?_ ?_
    rotate_left
    ·intro w'
     go_simp
     with_reducible rfl
    rotate_left
    ·simp only [Act.put, List.setIfInBounds_toArray, List.set_cons_zero, List.set_cons_succ, i64_w, i32_w]
     rfl
    exact norm_ (by simp only [putAll, Act.put, List.setIfInBounds_toArray, List.set_cons_zero, List.set_cons_succ]) (hCont (gb300) _ ⟨hHeld, (blkt BK291), (blkt BK292), (blkt BK300), GW300.out, GE300.out, NB291_300.out, NB300_291.out, NB292_300.out, NB300_292.out, (belt HB)⟩)
   skip
   refine box_step ?hg (N := 6) ?hd (cs := #[.int .i64 0, .int .u64 0]) (t := 59) ?hr ?_; (case hd => rfl); (case hg => rfl); (case hr => first | (go_simp; done) | (go_simp; rfl))
   intro gb300 hg w11 hbox hb
   have BK300 := Aside0.mk (hbox)
   have GW300 := bels HB hg
   have GE300 := bels HB hg
   have NB291_300 := blkl BK291 hg
   have NB300_291 := blkg BK291 hg
   have NB292_300 := blkl BK292 hg
   have NB300_292 := blkg BK292 hg
   replace BK291 := blkb BK291 hb
   replace BK292 := blkb BK292 hb
   replace HB := belb HB hb
   clear hb hbox hg
   refine hK.out _ _ ⟨bc BK291 0, bc BK291 1, bc BK291 2⟩ (fun hHeld => ?_)
   clear hK K
   refine norm_ (a' := ?_) ?_ ?_
   rotate_left
   ·show Act.put _ (some 6) _ = _
    simp only [Act.put, List.setIfInBounds_toArray, List.set_cons_zero, List.set_cons_succ, i64_w, i32_w]
    rfl
   refine one_ (i := 5) (N := some 14) #[true, true, true, true, true, true, false, false, false, false, true, false, false] rfl rfl (one_of HT_.out (by kernel_rfl)) (by decide) (fun K hK => ?_)
   refine goes_ Try.func80 (by kernel_rfl) rfl #[.int .u64 (IntKind.u64.wrap (a0_1))] (by rfl) rfl rfl argt ?_
   with_reducible refine (wide_OfU.calls (IntKind.u64.wrap (a0_1)) t295 t296 _ A4.out).mono ?_
   rintro e w12 ⟨rfl, hb⟩
   refine ⟨_, rfl, ?_⟩
   replace BK291 := blkb BK291 hb
   replace BK292 := blkb BK292 hb
   replace BK300 := blkb BK300 hb
   replace HB := belb HB hb
   (try clear hb)
   (try clear hb2)
   (try clear hk)
   (try clear hi)
   refine hK.out _ _ ⟨bc BK291 0, bc BK291 1, bc BK291 2⟩ (fun hHeld => ?_)
   clear hK K
   refine norm_ (a' := ?_) ?_ ?_
   rotate_left
   ·show Act.put _ (some 14) _ = _
    simp only [Act.put, List.setIfInBounds_toArray, List.set_cons_zero, List.set_cons_succ, i64_w, i32_w]
    rfl
   refine one_ (i := 6) (N := some 15) #[true, true, true, true, true, true, true, false, false, false, true, false, false] rfl rfl (one_of HT_.out (by kernel_rfl)) (by decide) (fun K hK => ?_)
   refine goes_ Try.func81 (by kernel_rfl) rfl #[.agg #[.int .i64 t293, .int .u64 t294], .agg #[.int .i64 t295, .int .u64 t296]] (by rfl) rfl rfl argt ?_
   with_reducible refine (wide_Int_Add.calls t293 t294 t295 t296 t297 t298 t299 _ A5.out).mono ?_
   rintro e w13 ⟨rfl, hb⟩
   refine ⟨_, rfl, ?_⟩
   replace BK291 := blkb BK291 hb
   replace BK292 := blkb BK292 hb
   replace BK300 := blkb BK300 hb
   replace HB := belb HB hb
   (try clear hb)
   (try clear hb2)
   (try clear hk)
   (try clear hi)
   refine hK.out _ _ ⟨bc BK291 0, bc BK291 1, bc BK291 2⟩ (fun hHeld => ?_)
   clear hK K
   refine norm_ (a' := ?_) ?_ ?_
   rotate_left
   ·show Act.put _ (some 15) _ = _
    simp only [Act.put, List.setIfInBounds_toArray, List.set_cons_zero, List.set_cons_succ, i64_w, i32_w]
    rfl
   refine pure_ (i := 7) (N := some 8) (v := ?_) (a' := ?_) #[true, true, true, true, true, true, true, true, false, false, true, false, false] rfl rfl (any_of HT_.out (by kernel_rfl)) (fun _ _ _ h => h) (Or.inl ⟨by rfl, ?_⟩) ?_ ?_
   rotate_left
   ·intro w'
    go_simp
    with_reducible rfl
   rotate_left
   ·simp only [Act.put, List.setIfInBounds_toArray, List.set_cons_zero, List.set_cons_succ, i64_w, i32_w]
    rfl
   refine pure_ (i := 8) (N := some 16) (v := ?_) (a' := ?_) #[true, true, true, true, true, true, true, true, true, false, true, false, false] rfl rfl (any_of HT_.out (by kernel_rfl)) (fun _ _ _ h => h) (Or.inl ⟨by rfl, ?_⟩) ?_ ?_
   rotate_left
   ·intro w'
    go_simp
    with_reducible rfl
   rotate_left
   ·simp only [Act.put, List.setIfInBounds_toArray, List.set_cons_zero, List.set_cons_succ, i64_w, i32_w]
    rfl
   refine pure_ (i := 9) (N := some 17) (v := ?_) (a' := ?_) #[true, true, true, true, true, true, true, true, true, true, true, false, false] rfl rfl (any_of HT_.out (by kernel_rfl)) (fun _ _ _ h => h) (Or.inl ⟨by rfl, ?_⟩) ?_ ?_
   rotate_left
   ·intro w'
    go_simp
    with_reducible rfl
   rotate_left
   ·simp only [Act.put, List.setIfInBounds_toArray, List.set_cons_zero, List.set_cons_succ, i64_w, i32_w]
    rfl
   exact norm_ (by simp only [putAll, Act.put, List.setIfInBounds_toArray, List.set_cons_zero, List.set_cons_succ]) (hCont (gb300) _ ⟨hHeld, (blkt BK291), (blkt BK292), (blkt BK300), GW300.out, GE300.out, NB291_300.out, NB300_291.out, NB292_300.out, NB300_292.out, (belt HB)⟩)
  skip
  refine box_step ?hg (N := 6) ?hd (cs := #[.int .i64 0, .int .u64 0]) (t := 59) ?hr ?_; (case hd => rfl); (case hg => rfl); (case hr => first | (go_simp; done) | (go_simp; rfl))
  intro gb300 hg w10 hbox hb
  have BK300 := Aside0.mk (hbox)
  have GW300 := bels HB hg
  have GE300 := bels HB hg
  have NB291_300 := blkl BK291 hg
  have NB300_291 := blkg BK291 hg
  have NB292_300 := blkl BK292 hg
  have NB300_292 := blkg BK292 hg
  replace BK291 := blkb BK291 hb
  replace BK292 := blkb BK292 hb
  replace HB := belb HB hb
  clear hb hbox hg
  refine hK.out _ _ ⟨bc BK291 0, bc BK291 1, bc BK291 2⟩ (fun hHeld => ?_)
  clear hK K
  refine norm_ (a' := ?_) ?_ ?_
  rotate_left
  ·show Act.put _ (some 6) _ = _
   simp only [Act.put, List.setIfInBounds_toArray, List.set_cons_zero, List.set_cons_succ, i64_w, i32_w]
   rfl
  refine one_ (i := 1) (N := some 10) #[true, true, true, true, true, false, false, false, false, false, true, false, false] rfl rfl (one_of HT_.out (by kernel_rfl)) (by decide) (fun K hK => ?_)
  refine goes_ Try.func80 (by kernel_rfl) rfl #[.int .u64 a1] (by rfl) rfl rfl argt ?_
  with_reducible refine (wide_OfU.calls a1 t293 t294 _ A3.out).mono ?_
  rintro e w11 ⟨rfl, hb⟩
  refine ⟨_, rfl, ?_⟩
  replace BK291 := blkb BK291 hb
  replace BK292 := blkb BK292 hb
  replace BK300 := blkb BK300 hb
  replace HB := belb HB hb
  (try clear hb)
  (try clear hb2)
  (try clear hk)
  (try clear hi)
  refine hK.out _ _ ⟨bc BK291 0, bc BK291 1, bc BK291 2⟩ (fun hHeld => ?_)
  clear hK K
  refine norm_ (a' := ?_) ?_ ?_
  rotate_left
  ·show Act.put _ (some 10) _ = _
   simp only [Act.put, List.setIfInBounds_toArray, List.set_cons_zero, List.set_cons_succ, i64_w, i32_w]
   rfl
  refine one_ (i := 5) (N := some 14) #[true, true, true, true, true, true, false, false, false, false, true, false, false] rfl rfl (one_of HT_.out (by kernel_rfl)) (by decide) (fun K hK => ?_)
  refine goes_ Try.func80 (by kernel_rfl) rfl #[.int .u64 (IntKind.u64.wrap (a0_1))] (by rfl) rfl rfl argt ?_
  with_reducible refine (wide_OfU.calls (IntKind.u64.wrap (a0_1)) t295 t296 _ A4.out).mono ?_
  rintro e w12 ⟨rfl, hb⟩
  refine ⟨_, rfl, ?_⟩
  replace BK291 := blkb BK291 hb
  replace BK292 := blkb BK292 hb
  replace BK300 := blkb BK300 hb
  replace HB := belb HB hb
  (try clear hb)
  (try clear hb2)
  (try clear hk)
  (try clear hi)
  refine hK.out _ _ ⟨bc BK291 0, bc BK291 1, bc BK291 2⟩ (fun hHeld => ?_)
  clear hK K
  refine norm_ (a' := ?_) ?_ ?_
  rotate_left
  ·show Act.put _ (some 14) _ = _
   simp only [Act.put, List.setIfInBounds_toArray, List.set_cons_zero, List.set_cons_succ, i64_w, i32_w]
   rfl
  refine one_ (i := 6) (N := some 15) #[true, true, true, true, true, true, true, false, false, false, true, false, false] rfl rfl (one_of HT_.out (by kernel_rfl)) (by decide) (fun K hK => ?_)
  refine goes_ Try.func81 (by kernel_rfl) rfl #[.agg #[.int .i64 t293, .int .u64 t294], .agg #[.int .i64 t295, .int .u64 t296]] (by rfl) rfl rfl argt ?_
  with_reducible refine (wide_Int_Add.calls t293 t294 t295 t296 t297 t298 t299 _ A5.out).mono ?_
  rintro e w13 ⟨rfl, hb⟩
  refine ⟨_, rfl, ?_⟩
  replace BK291 := blkb BK291 hb
  replace BK292 := blkb BK292 hb
  replace BK300 := blkb BK300 hb
  replace HB := belb HB hb
  (try clear hb)
  (try clear hb2)
  (try clear hk)
  (try clear hi)
  refine hK.out _ _ ⟨bc BK291 0, bc BK291 1, bc BK291 2⟩ (fun hHeld => ?_)
  clear hK K
  refine norm_ (a' := ?_) ?_ ?_
  rotate_left
  ·show Act.put _ (some 15) _ = _
   simp only [Act.put, List.setIfInBounds_toArray, List.set_cons_zero, List.set_cons_succ, i64_w, i32_w]
   rfl
  refine pure_ (i := 7) (N := some 8) (v := ?_) (a' := ?_) #[true, true, true, true, true, true, true, true, false, false, true, false, false] rfl rfl (any_of HT_.out (by kernel_rfl)) (fun _ _ _ h => h) (Or.inl ⟨by rfl, ?_⟩) ?_ ?_
  rotate_left
  ·intro w'
   go_simp
   with_reducible rfl
  rotate_left
  ·simp only [Act.put, List.setIfInBounds_toArray, List.set_cons_zero, List.set_cons_succ, i64_w, i32_w]
   rfl
  refine pure_ (i := 8) (N := some 16) (v := ?_) (a' := ?_) #[true, true, true, true, true, true, true, true, true, false, true, false, false] rfl rfl (any_of HT_.out (by kernel_rfl)) (fun _ _ _ h => h) (Or.inl ⟨by rfl, ?_⟩) ?_ ?_
  rotate_left
  ·intro w'
   go_simp
   with_reducible rfl
  rotate_left
  ·simp only [Act.put, List.setIfInBounds_toArray, List.set_cons_zero, List.set_cons_succ, i64_w, i32_w]
   rfl
  refine pure_ (i := 9) (N := some 17) (v := ?_) (a' := ?_) #[true, true, true, true, true, true, true, true, true, true, true, false, false] rfl rfl (any_of HT_.out (by kernel_rfl)) (fun _ _ _ h => h) (Or.inl ⟨by rfl, ?_⟩) ?_ ?_
  rotate_left
  ·intro w'
   go_simp
   with_reducible rfl
  rotate_left
  ·simp only [Act.put, List.setIfInBounds_toArray, List.set_cons_zero, List.set_cons_succ, i64_w, i32_w]
   rfl
  exact norm_ (by simp only [putAll, Act.put, List.setIfInBounds_toArray, List.set_cons_zero, List.set_cons_succ]) (hCont (gb300) _ ⟨hHeld, (blkt BK291), (blkt BK292), (blkt BK300), GW300.out, GE300.out, NB291_300.out, NB300_291.out, NB292_300.out, NB300_292.out, (belt HB)⟩)
 rintro gb300 w14 ⟨hS_, h0_, h1_, h2_, h3_, h4_, h5_, h6_, h7_, h8_, h9_⟩
 replace BK291 : Aside0 (w14.heap[gb291]? = some (.cells #[.int .u64 a0_0, .int .u32 a0_1, .int .u32 a0_2] 67 (0, 0))) := ⟨h0_⟩
 replace BK292 : Aside0 (w14.heap[gb292]? = some (.cells #[.int .u64 0, .int .u32 0, .int .u32 0] 67 (0, 0))) := ⟨h1_⟩
 have BK300 : Aside0 (w14.heap[gb300]? = some (.cells #[.int .i64 0, .int .u64 0] 59 (0, 0))) := ⟨h2_⟩
 have GW300 : Aside0 (w.heap.size ≤ gb300) := ⟨h3_⟩
 have GE300 : Aside0 (w.heap.size ≤ gb300) := ⟨h4_⟩
 have NB291_300 : Aside0 (gb291 ≠ gb300) := ⟨h5_⟩
 have NB300_291 : Aside0 (gb300 ≠ gb291) := ⟨h6_⟩
 have NB292_300 : Aside0 (gb292 ≠ gb300) := ⟨h7_⟩
 have NB300_292 : Aside0 (gb300 ≠ gb292) := ⟨h8_⟩
 replace HB : Aside0 (Below w.heap.size w w14) := ⟨h9_⟩
 clear h0_ h1_ h2_ h3_ h4_ h5_ h6_ h7_ h8_ h9_
 have hHeld : w14.cell? ⟨gb291, 0, none⟩ = some (.int .u64 a0_0) ∧ w14.cell? ⟨gb291, 1, none⟩ = some (.int .u32 a0_1) ∧ w14.cell? ⟨gb291, 2, none⟩ = some (.int .u32 a0_2) := hS_
 refine norm_ (a' := ?_) ?_ ?_
 rotate_left
 ·simp only [putAll, Act.put, List.setIfInBounds_toArray, List.set_cons_zero, List.set_cons_succ]
  rfl
 refine one_ (i := 11) (N := none) #[true, true, true, true, true, true, true, true, true, true, true, true, false] rfl rfl (one_of HT_.out (by kernel_rfl)) (by decide) (fun K hK => ?_)
 have hs15 : w14.cell? ⟨gb300, 0, none⟩ = some (.int .i64 0) := bc BK300 0
 have hfs15 := blk_frozen BK300.out 0
 have hns15_0 := NB291_300.out
 have hns15_1 := NB292_300.out
 have hms15_0 := NB300_291.out
 have hms15_1 := NB300_292.out
 have hs16 : w14.cell? ⟨gb300, 1, none⟩ = some (.int .u64 0) := bc BK300 1
 have hfs16 := blk_frozen BK300.out 1
 have hns16_0 := NB291_300.out
 have hns16_1 := NB292_300.out
 have hms16_0 := NB300_291.out
 have hms16_1 := NB300_292.out
 refine skip_ (w1 := ?_) (by rfl) rfl ?_ ?_
 rotate_left
 ·go_simp
  rfl
 refine hK.out _ _ ⟨((cell_far (p := ⟨gb300, _, none⟩) NB291_300.out _).trans (((cell_far (p := ⟨gb300, _, none⟩) NB291_300.out _).trans (hHeld.1)))), ((cell_far (p := ⟨gb300, _, none⟩) NB291_300.out _).trans (((cell_far (p := ⟨gb300, _, none⟩) NB291_300.out _).trans (hHeld.2.1)))), ((cell_far (p := ⟨gb300, _, none⟩) NB291_300.out _).trans (((cell_far (p := ⟨gb300, _, none⟩) NB291_300.out _).trans (hHeld.2.2))))⟩ (fun hHeld => ?_)
 clear hK K
 refine pure_ (i := 12) (N := some 7) (v := ?_) (a' := ?_) #[true, true, true, true, true, true, true, true, true, true, true, true, true] rfl rfl (any_of HT_.out (by kernel_rfl)) (fun _ _ _ h => h) (Or.inl ⟨by rfl, ?_⟩) ?_ ?_
 rotate_left
 ·intro w'
  go_simp
  with_reducible rfl
 rotate_left
 ·simp only [Act.put, List.setIfInBounds_toArray, List.set_cons_zero, List.set_cons_succ, i64_w, i32_w]
  rfl
 refine done_ (done_of HT_.out (by kernel_rfl)) ?_
 have hnb17 := NB291_292.out
 have hnc17 := NB292_291.out
 have hnb18 := NB291_300.out
 have hnc18 := NB300_291.out
 have hcz19_0 : w14.cell? ⟨gb291, 0, none⟩ = some (.int .u64 a0_0) := bc BK291 0
 have hcz19_1 : w14.cell? ⟨gb291, 1, none⟩ = some (.int .u32 a0_1) := bc BK291 1
 have hcz19_2 : w14.cell? ⟨gb291, 2, none⟩ = some (.int .u32 a0_2) := bc BK291 2
 have hfz19_0 := blk_frozen BK291.out 0
 have hfz19_1 := blk_frozen BK291.out 1
 have hfz19_2 := blk_frozen BK291.out 2
 have hnb20 := NB300_292.out
 have hnc20 := NB292_300.out
 have hcz21_0 : w14.cell? ⟨gb300, 0, none⟩ = some (.int .i64 0) := bc BK300 0
 have hcz21_1 : w14.cell? ⟨gb300, 1, none⟩ = some (.int .u64 0) := bc BK300 1
 have hfz21_0 := blk_frozen BK300.out 0
 have hfz21_1 := blk_frozen BK300.out 1
 try go_wp2_with (first | ((with_reducible refine gate_callee (f := 45) rfl ?_); refine goesL_ (some 23) rfl rfl Try.func45 (by kernel_rfl) rfl #[.int .u64 a0_0, .agg #[.int .i64 t297, .int .u64 t298], .int .u32 a0_2] rfl argt ?_; (with_reducible refine (pos_At.calls k a0_0 t297 t298 a0_2 t301 t302 t303 t304 _ A6.out).mono ?_); rintro e w22 ⟨rfl, hb⟩; refine ⟨_, rfl, ?_⟩; replace BK291 := Aside0.mk (blk_below (g := gb291) (o := .cells #[.int .u64 a0_0, .int .u32 a0_1, .int .u32 a0_2] 67 (0, 0)) (by (with_reducible repeat (first | refine blk_drewN ?_ _ | refine blk_drew ?_ | refine blk_alloc ?_ _)); refine blk_far ?_ NB291_300.out _; (with_reducible repeat (first | refine blk_drewN ?_ _ | refine blk_drew ?_ | refine blk_alloc ?_ _)); refine blk_far ?_ NB291_300.out _; exact blkt BK291) hb); replace BK292 := Aside0.mk (blk_below (g := gb292) (o := .cells #[.int .u64 0, .int .u32 0, .int .u32 0] 67 (0, 0)) (by (with_reducible repeat (first | refine blk_drewN ?_ _ | refine blk_drew ?_ | refine blk_alloc ?_ _)); refine blk_far ?_ NB292_300.out _; (with_reducible repeat (first | refine blk_drewN ?_ _ | refine blk_drew ?_ | refine blk_alloc ?_ _)); refine blk_far ?_ NB292_300.out _; exact blkt BK292) hb); replace BK300 := Aside0.mk (blk_below (g := gb300) (o := .cells #[.int .i64 t297, .int .u64 t298] 59 (0, 0)) (by (with_reducible repeat (first | refine blk_drewN ?_ _ | refine blk_drew ?_ | refine blk_alloc ?_ _)); refine blk_put (cs := #[.int .i64 t297, .int .u64 0]) ?_ 1 _ rfl; (with_reducible repeat (first | refine blk_drewN ?_ _ | refine blk_drew ?_ | refine blk_alloc ?_ _)); refine blk_put (cs := #[.int .i64 0, .int .u64 0]) ?_ 0 _ rfl; exact blkt BK300) hb); replace HB := belb HB hb; (try clear hb); (try clear hb2); (try clear hk); (try clear hi); have hcz23_0 : w22.cell? ⟨gb292, 0, none⟩ = some (.int .u64 0) := bc BK292 0; have hcz23_1 : w22.cell? ⟨gb292, 1, none⟩ = some (.int .u32 0) := bc BK292 1; have hcz23_2 : w22.cell? ⟨gb292, 2, none⟩ = some (.int .u32 0) := bc BK292 2; have hfz23_0 := blk_frozen BK292.out 0; have hfz23_1 := blk_frozen BK292.out 1; have hfz23_2 := blk_frozen BK292.out 2))
 refine bodyPost_ret (results_ct rfl _ _ gb292 67 #[.int .u64 t301, .int .u32 t302, .int .u32 t303] (0, 0) _ rfl (by (with_reducible repeat (first | refine blk_drewN ?_ _ | refine blk_drew ?_ | refine blk_alloc ?_ _)); refine blk_put (cs := #[.int .u64 t301, .int .u32 t302, .int .u32 0]) ?_ 2 _ rfl; (with_reducible repeat (first | refine blk_drewN ?_ _ | refine blk_drew ?_ | refine blk_alloc ?_ _)); refine blk_put (cs := #[.int .u64 t301, .int .u32 0, .int .u32 0]) ?_ 1 _ rfl; (with_reducible repeat (first | refine blk_drewN ?_ _ | refine blk_drew ?_ | refine blk_alloc ?_ _)); refine blk_put (cs := #[.int .u64 0, .int .u32 0, .int .u32 0]) ?_ 0 _ rfl; exact blkt BK292) Try.underlying67 rfl (by kernel_rfl)) rfl ?_
 exact ⟨by first | rfl | (simp [errW_none, errW_some] <;> rfl) | (simp [*, errW_none, errW_some] <;> rfl), belt HB⟩


/-! ### turnstoneref03_Round: function 26 -/
mutual
def turnstoneref03_Round.l0 : Nat → Bool → List Int → Bool → List Int → Option (Bool × List Int)
 | 0, _, _, _, _ => none
 | k + 1, x406000, x406001, x412000, x412001 => (turnstoneref01_Sign.f x406000 x406001).bind fun t412 => (if t412 < 0 then ((turnstoneref01_Add.f k x406000 x406001 x412000 x412001).bind fun bt413 => (turnstoneref03_Round.l0 k bt413.1 bt413.2 x412000 x412001)) else (turnstoneref03_Round.l1 k x406000 x406001 x412000 x412001))
def turnstoneref03_Round.l1 : Nat → Bool → List Int → Bool → List Int → Option (Bool × List Int)
 | 0, _, _, _, _ => none
 | k + 1, x406000, x406001, x412000, x412001 => (turnstoneref01_Cmp.f k x406000 x406001 x412000 x412001).bind fun t417 => (if t417 ≥ 0 then ((turnstoneref01_Sub.f k x406000 x406001 x412000 x412001).bind fun bt418 => (turnstoneref03_Round.l1 k bt418.1 bt418.2 x412000 x412001)) else (some (x406000, x406001)))
end
def turnstoneref03_Round.f (k : Nat) (a0_0 : Bool) (l0_1 : List Int) : Option (Bool × List Int) := (turnstoneref01_Power.f k 64).bind fun bt407 => (turnstoneref03_Round.l0 k a0_0 l0_1 bt407.1 bt407.2)
theorem turnstoneref03_Round.mono_l : ∀ k, (∀ y0 y1 y2 y3, LeO (turnstoneref03_Round.l0 k y0 y1 y2 y3) (turnstoneref03_Round.l0 (k + 1) y0 y1 y2 y3)) ∧ (∀ y0 y1 y2 y3, LeO (turnstoneref03_Round.l1 k y0 y1 y2 y3) (turnstoneref03_Round.l1 (k + 1) y0 y1 y2 y3))
 | 0 => ⟨fun _ _ _ _ r h => by simp [turnstoneref03_Round.l0] at h, fun _ _ _ _ r h => by simp [turnstoneref03_Round.l1] at h⟩
 | k + 1 => by
  obtain ⟨ih0, ih1⟩ := turnstoneref03_Round.mono_l k
  refine ⟨?_, ?_⟩
  ·intro y0 y1 y2 y3
   unfold turnstoneref03_Round.l0
   repeat' first
   | (with_reducible exact ih0 _ _ _ _)
   | (with_reducible exact ih1 _ _ _ _)
   | (with_reducible exact turnstoneref01_Add.mono _ _ _ _ _)
   | (with_reducible exact turnstoneref01_Cmp.mono _ _ _ _ _)
   | (with_reducible exact turnstoneref01_Power.mono _ _)
   | (with_reducible exact turnstoneref01_Sub.mono _ _ _ _ _)
   | (with_reducible exact LeO.refl _)
   | (with_reducible exact LeO.none _)
   | (with_reducible refine LeO.ite ?_ ?_)
   | (with_reducible refine LeO.bind ?_ (fun _ => ?_))
   | exact ih0 _ _ _ _
   | exact ih1 _ _ _ _
   | exact turnstoneref01_Add.mono _ _ _ _ _
   | exact turnstoneref01_Cmp.mono _ _ _ _ _
   | exact turnstoneref01_Power.mono _ _
   | exact turnstoneref01_Sub.mono _ _ _ _ _
   | exact LeO.none _
   | refine LeO.ite ?_ ?_
   | refine LeO.bind ?_ (fun _ => ?_)
  intro y0 y1 y2 y3
  unfold turnstoneref03_Round.l1
  repeat' first
  | (with_reducible exact ih0 _ _ _ _)
  | (with_reducible exact ih1 _ _ _ _)
  | (with_reducible exact turnstoneref01_Add.mono _ _ _ _ _)
  | (with_reducible exact turnstoneref01_Cmp.mono _ _ _ _ _)
  | (with_reducible exact turnstoneref01_Power.mono _ _)
  | (with_reducible exact turnstoneref01_Sub.mono _ _ _ _ _)
  | (with_reducible exact LeO.refl _)
  | (with_reducible exact LeO.none _)
  | (with_reducible refine LeO.ite ?_ ?_)
  | (with_reducible refine LeO.bind ?_ (fun _ => ?_))
  | exact ih0 _ _ _ _
  | exact ih1 _ _ _ _
  | exact turnstoneref01_Add.mono _ _ _ _ _
  | exact turnstoneref01_Cmp.mono _ _ _ _ _
  | exact turnstoneref01_Power.mono _ _
  | exact turnstoneref01_Sub.mono _ _ _ _ _
  | exact LeO.none _
  | refine LeO.ite ?_ ?_
  | refine LeO.bind ?_ (fun _ => ?_)
theorem turnstoneref03_Round.mono : ∀ a0 a1 k, LeO (turnstoneref03_Round.f k a0 a1) (turnstoneref03_Round.f (k + 1) a0 a1) := by
 intro a0 a1 k
 obtain ⟨ih0, ih1⟩ := turnstoneref03_Round.mono_l k
 unfold turnstoneref03_Round.f
 repeat' first
   | (with_reducible exact ih0 _ _ _ _)
   | (with_reducible exact ih1 _ _ _ _)
   | (with_reducible exact turnstoneref01_Add.mono _ _ _ _ _)
   | (with_reducible exact turnstoneref01_Cmp.mono _ _ _ _ _)
   | (with_reducible exact turnstoneref01_Power.mono _ _)
   | (with_reducible exact turnstoneref01_Sub.mono _ _ _ _ _)
   | (with_reducible exact LeO.refl _)
   | (with_reducible exact LeO.none _)
   | (with_reducible refine LeO.ite ?_ ?_)
   | (with_reducible refine LeO.bind ?_ (fun _ => ?_))
   | exact ih0 _ _ _ _
   | exact ih1 _ _ _ _
   | exact turnstoneref01_Add.mono _ _ _ _ _
   | exact turnstoneref01_Cmp.mono _ _ _ _ _
   | exact turnstoneref01_Power.mono _ _
   | exact turnstoneref01_Sub.mono _ _ _ _ _
   | exact LeO.none _
   | refine LeO.ite ?_ ?_
   | refine LeO.bind ?_ (fun _ => ?_)
set_option maxHeartbeats 8000000 in
set_option maxRecDepth 100000 in
theorem turnstoneref03_Round.calls (k : Nat) (a0_0 : Bool) (P0_1_ : Nat → Prop) (A0_1 : Option Addr) (c0_1 : Nat) (l0_1 : List Int) (r1 : Bool) (r2 : List Int) (w : World) (hs0_1 : Kd.V (Kd.int .i64) 3 w w.heap.size (fun k_ => P0_1_ k_) (.slice A0_1 l0_1.length c0_1) l0_1) (h : turnstoneref03_Round.f k a0_0 l0_1 = some (r1, r2)) :
  Calls Try.prog 26 #[.agg #[.bool a0_0, .slice A0_1 l0_1.length c0_1]] w fun e w' => ∃ v1_ : Value, e = .returned (.agg #[.bool r1, v1_]) ∧ Kd.V (Kd.int .i64) 3 w' w.heap.size (fun k_ => (P0_1_ k_ ∨ w.heap.size ≤ k_)) v1_ r2 ∧ Below w.heap.size w w' := by
 have hu28 := Try.underlying28
 have HO0_1 := Aside0.mk (show Kd.V (Kd.int .i64) 3 w w.heap.size (fun k_ => (P0_1_ k_ ∨ w.heap.size ≤ k_)) (.slice A0_1 l0_1.length c0_1) l0_1 from Kd.V_mono hs0_1 (fun k_ hk => .inl hk))
 have HB := Aside0.mk (Below.refl w.heap.size w)
 have H : ((turnstoneref01_Power.f k 64).bind fun bt407 => (turnstoneref03_Round.l0 k a0_0 l0_1 bt407.1 bt407.2)) = some (r1, r2) := h
 clear h
 replace H := Option.bind_eq_some_iff.mp H
 obtain ⟨⟨t407, t408⟩, A20, H⟩ := H
 replace H : (turnstoneref03_Round.l0 k a0_0 l0_1 t407 t408) = some (r1, r2) := H
 have A2 := Aside0.mk A20
 clear A20
 have H' := Aside0.mk H
 clear H
 go_enter Try.func26, Try.ntmps26
 go_wp2_with (first | ((with_reducible refine gate_dst (N := 1) rfl ?_); refine box_event ?hg (N := 1) ?hd (cs := #[.bool a0_0, .slice A0_1 l0_1.length c0_1]) (t := 28) ?hr ?_; (case hd => rfl); (case hg => rfl); (case hr => first | (go_simp; done) | (go_simp; rfl)); intro gb405 hg w3 hbox hb; replace HO0_1 := Aside0.mk (Kd.V_below (Kd.V_elderB (vt HO0_1) gb405 (Nat.le_of_eq hg.symm)) hb); have BK405 := Aside0.mk (hbox); have GW405 := bels HB hg; have GE405 := bels HB hg; replace HB := belb HB hb; clear hb hbox hg) | ((with_reducible refine gate_dst (N := 2) rfl ?_); refine box_event ?hg (N := 2) ?hd (cs := #[.bool false, .slice none 0 0]) (t := 28) ?hr ?_; (case hd => rfl); (case hg => rfl); (case hr => first | (go_simp; done) | (go_simp; rfl)); intro gb406 hg w4 hbox hb; replace HO0_1 := Aside0.mk (Kd.V_below (Kd.V_elderB (vt HO0_1) gb406 (Nat.le_of_eq hg.symm)) hb); have BK406 := Aside0.mk (hbox); have GW406 := bels HB hg; have GE406 := bels HB hg; have NB405_406 := blkl BK405 hg; have NB406_405 := blkg BK405 hg; replace BK405 := blkb BK405 hb; replace HB := belb HB hb; clear hb hbox hg) | ((with_reducible refine gate_callee (f := 60) rfl ?_); refine goesL_ (some 4) rfl rfl Try.func60 (by kernel_rfl) rfl #[.int .i64 64] rfl argt ?_; (with_reducible refine (turnstoneref01_Power.calls k 64 t407 t408 _ A2.out).mono ?_); rintro e w5 ⟨v409, rfl, ho0, hb⟩; refine ⟨_, rfl, ?_⟩; replace HO0_1 := vb HO0_1 hb; have HO410 := Aside0.mk (Kd.V_lower (Kd.V_mono (ok' := fun k_ => (P0_1_ k_ ∨ w.heap.size ≤ k_) ∧ k_ ≠ gb405 ∧ k_ ≠ gb406) ho0 (fun k_ hk_ => ⟨(.inr (Nat.le_trans (below_size (belt HB)) hk_)), (Kd.freshB (blkt BK405) k_ hk_), (Kd.freshB (blkt BK406) k_ hk_)⟩)) (below_size (belt HB))); replace BK405 := blkb BK405 hb; replace BK406 := blkb BK406 hb; replace HB := belb HB hb; (try clear hb); (try clear hb2); (try clear hk); (try clear hi); (try clear ho0)) | ((with_reducible refine gate_dst (N := 3) rfl ?_); refine box_event ?hg (N := 3) ?hd (cs := #[.bool false, .slice none 0 0]) (t := 28) ?hr ?_; (case hd => rfl); (case hg => rfl); (case hr => first | (go_simp; done) | (go_simp; rfl)); intro gb411 hg w6 hbox hb; replace HO0_1 := Aside0.mk (Kd.V_below (Kd.V_elderB (vt HO0_1) gb411 (Nat.le_of_eq hg.symm)) hb); replace HO410 := Aside0.mk (Kd.V_below (Kd.V_elderB (vt HO410) gb411 (Nat.le_of_eq hg.symm)) hb); have BK411 := Aside0.mk (hbox); have GW411 := bels HB hg; have GE411 := bels HB hg; have NB405_411 := blkl BK405 hg; have NB411_405 := blkg BK405 hg; have NB406_411 := blkl BK406 hg; have NB411_406 := blkg BK406 hg; replace BK405 := blkb BK405 hb; replace BK406 := blkb BK406 hb; replace HB := belb HB hb; clear hb hbox hg; have hnb7 := NB411_405.out; have hnc7 := NB405_411.out; have hnb8 := NB411_406.out; have hnc8 := NB406_411.out; have hcz9_0 : w6.cell? ⟨gb411, 0, none⟩ = some (.bool false) := bc BK411 0; have hcz9_1 : w6.cell? ⟨gb411, 1, none⟩ = some (.slice none 0 0) := bc BK411 1; have hfz9_0 := blk_frozen BK411.out 0; have hfz9_1 := blk_frozen BK411.out 1; obtain ⟨Ao10, co10, eo10⟩ := Kd.V_slice HO410.out; subst eo10))
 (try simp only [Act.put, List.setIfInBounds_toArray, List.set_cons_zero, List.set_cons_succ])
 go_loopg [] k (fun kq w' => ∃ (x406000_1 : Bool) (x406001_1 : List Int) (u406001 : Value), Aside0 (turnstoneref03_Round.l0 kq x406000_1 x406001_1 t407 t408 = some (r1, r2)) ∧ Aside0 (kq ≤ k) ∧ Aside0 (Kd.V (Kd.int .i64) 3 w' w.heap.size (fun k_ => (P0_1_ k_ ∨ w.heap.size ≤ k_) ∧ k_ ≠ gb405 ∧ k_ ≠ gb406 ∧ k_ ≠ gb411) u406001 x406001_1) ∧ Aside0 (Kd.V (Kd.int .i64) 3 w' w.heap.size (fun k_ => (P0_1_ k_ ∨ w.heap.size ≤ k_) ∧ k_ ≠ gb405 ∧ k_ ≠ gb406 ∧ k_ ≠ gb411) (.slice Ao10 t408.length co10) t408) ∧ Aside0 (w'.heap[gb405]? = some (.cells #[.bool x406000_1, u406001] 28 (0, 0))) ∧ Aside0 (w'.heap[gb406]? = some (.cells #[.bool false, (.slice none 0 0)] 28 (0, 0))) ∧ Aside0 (w'.heap[gb411]? = some (.cells #[.bool t407, (.slice Ao10 t408.length co10)] 28 (0, 0))) ∧ Aside0 (Below w.heap.size w w'))
 case atStart => exact ⟨(a0_0), (l0_1), (.slice A0_1 l0_1.length c0_1), H', ⟨Nat.le_refl _⟩, ⟨by (with_reducible repeat (first | apply Kd.V_alloc | apply Kd.V_drewN | apply Kd.V_drew)); exact Kd.V_mono (Kd.V_far (p := ⟨gb411, 1, none⟩) (Kd.V_far (p := ⟨gb411, 0, none⟩) (Kd.V_mono HO0_1.out (fun k_ hk => (⟨hk, hk.2⟩ : _ ∧ k_ ≠ gb411))) (fun _ hk => hk.2) (.bool t407)) (fun _ hk => hk.2) (.slice Ao10 t408.length co10)) (fun _ hk => ⟨hk.1.1.1.1, ⟨hk.1.1.1.2, ⟨hk.1.1.2, hk.1.2⟩⟩⟩)⟩, ⟨by (with_reducible repeat (first | apply Kd.V_alloc | apply Kd.V_drewN | apply Kd.V_drew)); exact Kd.V_mono (Kd.V_far (p := ⟨gb411, 1, none⟩) (Kd.V_far (p := ⟨gb411, 0, none⟩) (Kd.V_mono HO410.out (fun k_ hk => (⟨hk, hk.2⟩ : _ ∧ k_ ≠ gb411))) (fun _ hk => hk.2) (.bool t407)) (fun _ hk => hk.2) (.slice Ao10 t408.length co10)) (fun _ hk => ⟨hk.1.1.1, ⟨hk.1.1.2.1, ⟨hk.1.1.2.2, hk.1.2⟩⟩⟩)⟩, ⟨by (with_reducible repeat (first | refine blk_drewN ?_ _ | refine blk_drew ?_ | refine blk_alloc ?_ _)); refine blk_far ?_ NB405_411.out _; (with_reducible repeat (first | refine blk_drewN ?_ _ | refine blk_drew ?_ | refine blk_alloc ?_ _)); refine blk_far ?_ NB405_411.out _; exact blkt BK405⟩, ⟨by (with_reducible repeat (first | refine blk_drewN ?_ _ | refine blk_drew ?_ | refine blk_alloc ?_ _)); refine blk_far ?_ NB406_411.out _; (with_reducible repeat (first | refine blk_drewN ?_ _ | refine blk_drew ?_ | refine blk_alloc ?_ _)); refine blk_far ?_ NB406_411.out _; exact blkt BK406⟩, ⟨by (with_reducible repeat (first | refine blk_drewN ?_ _ | refine blk_drew ?_ | refine blk_alloc ?_ _)); refine blk_put (cs := #[.bool t407, .slice none 0 0]) ?_ 1 _ rfl; (with_reducible repeat (first | refine blk_drewN ?_ _ | refine blk_drew ?_ | refine blk_alloc ?_ _)); refine blk_put (cs := #[.bool false, .slice none 0 0]) ?_ 0 _ rfl; exact blkt BK411⟩, ⟨belt HB⟩⟩
 case round =>
  clear H'
  try clear c2
  try clear p2
  try clear c6
  try clear c7
  try clear c8
  try clear hcz9_0
  try clear hcz9_1
  try clear hfz9_0
  try clear hfz9_1
  obtain ⟨x406000_1, x406001_1, u406001, HA, HK1, HO_406001, HO_412001, BK405, BK406, BK411, HB⟩ := hrel
  cases gk with
  | zero => exact absurd HA.out (by simp [turnstoneref03_Round.l0])
  | succ k1 =>
   have H := HA.out
   clear HA
   simp only [turnstoneref03_Round.l0] at H
   replace H := Option.bind_eq_some_iff.mp H
   obtain ⟨t412, A110, H⟩ := H
   replace H : (if t412 < 0 then ((turnstoneref01_Add.f k1 x406000_1 x406001_1 t407 t408).bind fun bt413 => (turnstoneref03_Round.l0 k1 bt413.1 bt413.2 t407 t408)) else (turnstoneref03_Round.l1 k1 x406000_1 x406001_1 t407 t408)) = some (r1, r2) := H
   have A11 := Aside0.mk A110
   clear A110
   by_cases c12 : t412 < 0
   ·rw [if_pos c12] at H
    have c12b0 : decide (t412 < 0) = true := decide_eq_true c12
    clear c12
    replace H := Option.bind_eq_some_iff.mp H
    obtain ⟨⟨t413, t414⟩, A130, H⟩ := H
    replace H : (turnstoneref03_Round.l0 k1 t413 t414 t407 t408) = some (r1, r2) := H
    have A13 := Aside0.mk A130
    clear A130
    have H' := Aside0.mk H
    clear H
    have hnb14 := NB405_406.out
    have hnc14 := NB406_405.out
    have hnb15 := NB405_411.out
    have hnc15 := NB411_405.out
    have hcz16_0 : wr.cell? ⟨gb405, 0, none⟩ = some (.bool x406000_1) := bc BK405 0
    have hcz16_1 : wr.cell? ⟨gb405, 1, none⟩ = some (u406001) := bc BK405 1
    have hfz16_0 := blk_frozen BK405.out 0
    have hfz16_1 := blk_frozen BK405.out 1
    obtain ⟨Ao17, co17, eo17⟩ := Kd.V_slice HO_406001.out
    subst eo17
    go_wp2_with (first | ((with_reducible refine gate_callee (f := 59) rfl ?_); refine goesL_ (some 6) rfl rfl Try.func59 (by kernel_rfl) rfl #[.agg #[.bool x406000_1, .slice Ao17 x406001_1.length co17]] rfl argt ?_; (with_reducible refine (turnstoneref01_Sign.calls x406000_1 _ _ x406001_1 t412 _ ?side1 ?side2 A11.out).mono ?_); (case side1 => repeat (first | exact (Kd.V_reads' HO_406001.out).2.2 | (with_reducible refine Kd.C_alloc ?_ _) | (with_reducible refine Kd.C_drewN ?_ _) | (with_reducible refine Kd.C_drew ?_))); (case side2 => exact (Kd.V_reads' HO_406001.out).2.1); rintro e w18 ⟨rfl, hb⟩; refine ⟨_, rfl, ?_⟩; replace HO_406001 := vb HO_406001 hb; replace HO_412001 := vb HO_412001 hb; replace BK405 := blkb BK405 hb; replace BK406 := blkb BK406 hb; replace BK411 := blkb BK411 hb; replace HB := belb HB hb; (try clear hb); (try clear hb2); (try clear hk); (try clear hi); have hcz19_0 : w18.cell? ⟨gb405, 0, none⟩ = some (.bool x406000_1) := bc BK405 0; have hcz19_1 : w18.cell? ⟨gb405, 1, none⟩ = some (.slice Ao17 x406001_1.length co17) := bc BK405 1; have hfz19_0 := blk_frozen BK405.out 0; have hfz19_1 := blk_frozen BK405.out 1; have hnb20 := NB411_406.out; have hnc20 := NB406_411.out; have hcz21_0 : w18.cell? ⟨gb411, 0, none⟩ = some (.bool t407) := bc BK411 0; have hcz21_1 : w18.cell? ⟨gb411, 1, none⟩ = some (.slice Ao10 t408.length co10) := bc BK411 1; have hfz21_0 := blk_frozen BK411.out 0; have hfz21_1 := blk_frozen BK411.out 1) | ((with_reducible refine gate_callee (f := 27) rfl ?_); refine goesL_ (some 10) rfl rfl Try.func27 (by kernel_rfl) rfl #[.agg #[.bool x406000_1, .slice Ao17 x406001_1.length co17], .agg #[.bool t407, .slice Ao10 t408.length co10]] rfl argt ?_; (with_reducible refine (turnstoneref01_Add.calls k1 x406000_1 _ _ x406001_1 t407 _ _ t408 t413 t414 _ ?side1 ?side2 ?side3 ?side4 A13.out).mono ?_); (case side1 => repeat (first | exact (Kd.V_reads' HO_406001.out).2.2 | (with_reducible refine Kd.C_alloc ?_ _) | (with_reducible refine Kd.C_drewN ?_ _) | (with_reducible refine Kd.C_drew ?_))); (case side2 => exact (Kd.V_reads' HO_406001.out).2.1); (case side3 => repeat (first | exact (Kd.V_reads' HO_412001.out).2.2 | (with_reducible refine Kd.C_alloc ?_ _) | (with_reducible refine Kd.C_drewN ?_ _) | (with_reducible refine Kd.C_drew ?_))); (case side4 => exact (Kd.V_reads' HO_412001.out).2.1); rintro e w22 ⟨v415, rfl, ho0, hb⟩; refine ⟨_, rfl, ?_⟩; replace HO_406001 := vb HO_406001 hb; replace HO_412001 := vb HO_412001 hb; have HO416 := Aside0.mk (Kd.V_lower (Kd.V_mono (ok' := fun k_ => (P0_1_ k_ ∨ w.heap.size ≤ k_) ∧ k_ ≠ gb405 ∧ k_ ≠ gb406 ∧ k_ ≠ gb411) ho0 (fun k_ hk_ => ⟨(.inr (Nat.le_trans (below_size (belt HB)) hk_)), (Kd.freshB (blkt BK405) k_ hk_), (Kd.freshB (blkt BK406) k_ hk_), (Kd.freshB (blkt BK411) k_ hk_)⟩)) (below_size (belt HB))); replace BK405 := blkb BK405 hb; replace BK406 := blkb BK406 hb; replace BK411 := blkb BK411 hb; replace HB := belb HB hb; (try clear hb); (try clear hb2); (try clear hk); (try clear hi); (try clear ho0); have hcz23_0 : w22.cell? ⟨gb405, 0, none⟩ = some (.bool x406000_1) := bc BK405 0; have hcz23_1 : w22.cell? ⟨gb405, 1, none⟩ = some (.slice Ao17 x406001_1.length co17) := bc BK405 1; have hfz23_0 := blk_frozen BK405.out 0; have hfz23_1 := blk_frozen BK405.out 1; obtain ⟨Ao24, co24, eo24⟩ := Kd.V_slice HO416.out; subst eo24))
    go_roundg k1
    case measure => have := HK1.out; omega
    case rel => exact ⟨(t413), (t414), (.slice Ao24 t414.length co24), H', ⟨by have := HK1.out; omega⟩, ⟨by (with_reducible repeat (first | apply Kd.V_alloc | apply Kd.V_drewN | apply Kd.V_drew)); exact Kd.V_mono (Kd.V_far (p := ⟨gb405, 1, none⟩) (Kd.V_far (p := ⟨gb405, 0, none⟩) (Kd.V_mono HO416.out (fun k_ hk => (⟨hk, hk.2.1⟩ : _ ∧ k_ ≠ gb405))) (fun _ hk => hk.2) (.bool t413)) (fun _ hk => hk.2) (.slice Ao24 t414.length co24)) (fun _ hk => ⟨hk.1.1, ⟨hk.1.2.1, ⟨hk.1.2.2.1, hk.1.2.2.2⟩⟩⟩)⟩, ⟨by (with_reducible repeat (first | apply Kd.V_alloc | apply Kd.V_drewN | apply Kd.V_drew)); exact Kd.V_mono (Kd.V_far (p := ⟨gb405, 1, none⟩) (Kd.V_far (p := ⟨gb405, 0, none⟩) (Kd.V_mono HO_412001.out (fun k_ hk => (⟨hk, hk.2.1⟩ : _ ∧ k_ ≠ gb405))) (fun _ hk => hk.2) (.bool t413)) (fun _ hk => hk.2) (.slice Ao24 t414.length co24)) (fun _ hk => ⟨hk.1.1, ⟨hk.1.2.1, ⟨hk.1.2.2.1, hk.1.2.2.2⟩⟩⟩)⟩, ⟨by (with_reducible repeat (first | refine blk_drewN ?_ _ | refine blk_drew ?_ | refine blk_alloc ?_ _)); refine blk_put (cs := #[.bool t413, .slice Ao17 x406001_1.length co17]) ?_ 1 _ rfl; (with_reducible repeat (first | refine blk_drewN ?_ _ | refine blk_drew ?_ | refine blk_alloc ?_ _)); refine blk_put (cs := #[.bool x406000_1, .slice Ao17 x406001_1.length co17]) ?_ 0 _ rfl; exact blkt BK405⟩, ⟨by (with_reducible repeat (first | refine blk_drewN ?_ _ | refine blk_drew ?_ | refine blk_alloc ?_ _)); refine blk_far ?_ NB406_405.out _; (with_reducible repeat (first | refine blk_drewN ?_ _ | refine blk_drew ?_ | refine blk_alloc ?_ _)); refine blk_far ?_ NB406_405.out _; exact blkt BK406⟩, ⟨by (with_reducible repeat (first | refine blk_drewN ?_ _ | refine blk_drew ?_ | refine blk_alloc ?_ _)); refine blk_far ?_ NB411_405.out _; (with_reducible repeat (first | refine blk_drewN ?_ _ | refine blk_drew ?_ | refine blk_alloc ?_ _)); refine blk_far ?_ NB411_405.out _; exact blkt BK411⟩, ⟨belt HB⟩⟩
   rw [if_neg c12] at H
   have c12b0 : decide (t412 < 0) = false := decide_eq_false c12
   clear c12
   have H' := Aside0.mk H
   clear H
   have hnb25 := NB405_406.out
   have hnc25 := NB406_405.out
   have hnb26 := NB405_411.out
   have hnc26 := NB411_405.out
   have hcz27_0 : wr.cell? ⟨gb405, 0, none⟩ = some (.bool x406000_1) := bc BK405 0
   have hcz27_1 : wr.cell? ⟨gb405, 1, none⟩ = some (u406001) := bc BK405 1
   have hfz27_0 := blk_frozen BK405.out 0
   have hfz27_1 := blk_frozen BK405.out 1
   obtain ⟨Ao28, co28, eo28⟩ := Kd.V_slice HO_406001.out
   subst eo28
   go_wp2_with (first | ((with_reducible refine gate_callee (f := 59) rfl ?_); refine goesL_ (some 6) rfl rfl Try.func59 (by kernel_rfl) rfl #[.agg #[.bool x406000_1, .slice Ao28 x406001_1.length co28]] rfl argt ?_; (with_reducible refine (turnstoneref01_Sign.calls x406000_1 _ _ x406001_1 t412 _ ?side1 ?side2 A11.out).mono ?_); (case side1 => repeat (first | exact (Kd.V_reads' HO_406001.out).2.2 | (with_reducible refine Kd.C_alloc ?_ _) | (with_reducible refine Kd.C_drewN ?_ _) | (with_reducible refine Kd.C_drew ?_))); (case side2 => exact (Kd.V_reads' HO_406001.out).2.1); rintro e w29 ⟨rfl, hb⟩; refine ⟨_, rfl, ?_⟩; replace HO_406001 := vb HO_406001 hb; replace HO_412001 := vb HO_412001 hb; replace BK405 := blkb BK405 hb; replace BK406 := blkb BK406 hb; replace BK411 := blkb BK411 hb; replace HB := belb HB hb; (try clear hb); (try clear hb2); (try clear hk); (try clear hi)))
   (try simp only [Act.put, List.setIfInBounds_toArray, List.set_cons_zero, List.set_cons_succ])
   go_loopg [] k1 (fun kq w' => ∃ (x406000_2 : Bool) (x406001_2 : List Int) (u406001 : Value), Aside0 (turnstoneref03_Round.l1 kq x406000_2 x406001_2 t407 t408 = some (r1, r2)) ∧ Aside0 (kq ≤ k1) ∧ Aside0 (Kd.V (Kd.int .i64) 3 w' w.heap.size (fun k_ => (P0_1_ k_ ∨ w.heap.size ≤ k_) ∧ k_ ≠ gb405 ∧ k_ ≠ gb406 ∧ k_ ≠ gb411) u406001 x406001_2) ∧ Aside0 (Kd.V (Kd.int .i64) 3 w' w.heap.size (fun k_ => (P0_1_ k_ ∨ w.heap.size ≤ k_) ∧ k_ ≠ gb405 ∧ k_ ≠ gb406 ∧ k_ ≠ gb411) (.slice Ao10 t408.length co10) t408) ∧ Aside0 (w'.heap[gb405]? = some (.cells #[.bool x406000_2, u406001] 28 (0, 0))) ∧ Aside0 (w'.heap[gb406]? = some (.cells #[.bool false, (.slice none 0 0)] 28 (0, 0))) ∧ Aside0 (w'.heap[gb411]? = some (.cells #[.bool t407, (.slice Ao10 t408.length co10)] 28 (0, 0))) ∧ Aside0 (Below w.heap.size w w'))
   case atStart => exact ⟨(x406000_1), (x406001_1), (.slice Ao28 x406001_1.length co28), H', ⟨Nat.le_refl _⟩, ⟨by (with_reducible repeat (first | apply Kd.V_alloc | apply Kd.V_drewN | apply Kd.V_drew)); exact HO_406001.out⟩, ⟨by (with_reducible repeat (first | apply Kd.V_alloc | apply Kd.V_drewN | apply Kd.V_drew)); exact HO_412001.out⟩, ⟨blkt BK405⟩, ⟨blkt BK406⟩, ⟨blkt BK411⟩, ⟨belt HB⟩⟩
   case round =>
    clear H'
    try clear c1
    try clear c2
    try clear p2
    try clear c5
    try clear c6
    try clear c7
    try clear c8
    try clear c12
    try clear c12b0
    try clear c14
    try clear c15
    try clear c20
    try clear c25
    try clear c26
    try clear c27
    try clear hcz16_0
    try clear hcz16_1
    try clear hcz19_0
    try clear hcz19_1
    try clear hcz21_0
    try clear hcz21_1
    try clear hcz23_0
    try clear hcz23_1
    try clear hcz27_0
    try clear hcz27_1
    try clear hcz9_0
    try clear hcz9_1
    try clear hfz16_0
    try clear hfz16_1
    try clear hfz19_0
    try clear hfz19_1
    try clear hfz21_0
    try clear hfz21_1
    try clear hfz23_0
    try clear hfz23_1
    try clear hfz27_0
    try clear hfz27_1
    try clear hfz9_0
    try clear hfz9_1
    try clear p2
    obtain ⟨x406000_2, x406001_2, u406001, HA, HK2, HO_406001, HO_412001, BK405, BK406, BK411, HB⟩ := hrel
    cases gk with
    | zero => exact absurd HA.out (by simp [turnstoneref03_Round.l1])
    | succ k2 =>
     have H := HA.out
     clear HA
     simp only [turnstoneref03_Round.l1] at H
     replace H := Option.bind_eq_some_iff.mp H
     obtain ⟨t417, A300, H⟩ := H
     replace H : (if t417 ≥ 0 then ((turnstoneref01_Sub.f k2 x406000_2 x406001_2 t407 t408).bind fun bt418 => (turnstoneref03_Round.l1 k2 bt418.1 bt418.2 t407 t408)) else (some (x406000_2, x406001_2))) = some (r1, r2) := H
     have A30 := Aside0.mk A300
     clear A300
     by_cases c31 : t417 ≥ 0
     ·rw [if_pos c31] at H
      have c31b0 : decide (0 ≤ t417) = true := decide_eq_true c31
      clear c31
      replace H := Option.bind_eq_some_iff.mp H
      obtain ⟨⟨t418, t419⟩, A320, H⟩ := H
      replace H : (turnstoneref03_Round.l1 k2 t418 t419 t407 t408) = some (r1, r2) := H
      have A32 := Aside0.mk A320
      clear A320
      have H' := Aside0.mk H
      clear H
      have hnb33 := NB405_406.out
      have hnc33 := NB406_405.out
      have hnb34 := NB405_411.out
      have hnc34 := NB411_405.out
      have hcz35_0 : wr.cell? ⟨gb405, 0, none⟩ = some (.bool x406000_2) := bc BK405 0
      have hcz35_1 : wr.cell? ⟨gb405, 1, none⟩ = some (u406001) := bc BK405 1
      have hfz35_0 := blk_frozen BK405.out 0
      have hfz35_1 := blk_frozen BK405.out 1
      have hnb36 := NB411_406.out
      have hnc36 := NB406_411.out
      have hcz37_0 : wr.cell? ⟨gb411, 0, none⟩ = some (.bool t407) := bc BK411 0
      have hcz37_1 : wr.cell? ⟨gb411, 1, none⟩ = some (.slice Ao10 t408.length co10) := bc BK411 1
      have hfz37_0 := blk_frozen BK411.out 0
      have hfz37_1 := blk_frozen BK411.out 1
      obtain ⟨Ao38, co38, eo38⟩ := Kd.V_slice HO_406001.out
      subst eo38
      go_wp2_with (first | ((with_reducible refine gate_callee (f := 18) rfl ?_); refine goesL_ (some 13) rfl rfl Try.func18 (by kernel_rfl) rfl #[.agg #[.bool x406000_2, .slice Ao38 x406001_2.length co38], .agg #[.bool t407, .slice Ao10 t408.length co10]] rfl argt ?_; (with_reducible refine (turnstoneref01_Cmp.calls k2 x406000_2 _ _ x406001_2 t407 _ _ t408 t417 _ ?side1 ?side2 ?side3 ?side4 A30.out).mono ?_); (case side1 => repeat (first | exact (Kd.V_reads' HO_406001.out).2.2 | (with_reducible refine Kd.C_alloc ?_ _) | (with_reducible refine Kd.C_drewN ?_ _) | (with_reducible refine Kd.C_drew ?_))); (case side2 => exact (Kd.V_reads' HO_406001.out).2.1); (case side3 => repeat (first | exact (Kd.V_reads' HO_412001.out).2.2 | (with_reducible refine Kd.C_alloc ?_ _) | (with_reducible refine Kd.C_drewN ?_ _) | (with_reducible refine Kd.C_drew ?_))); (case side4 => exact (Kd.V_reads' HO_412001.out).2.1); rintro e w39 ⟨rfl, hb⟩; refine ⟨_, rfl, ?_⟩; replace HO_406001 := vb HO_406001 hb; replace HO_412001 := vb HO_412001 hb; replace BK405 := blkb BK405 hb; replace BK406 := blkb BK406 hb; replace BK411 := blkb BK411 hb; replace HB := belb HB hb; (try clear hb); (try clear hb2); (try clear hk); (try clear hi); have hcz40_0 : w39.cell? ⟨gb405, 0, none⟩ = some (.bool x406000_2) := bc BK405 0; have hcz40_1 : w39.cell? ⟨gb405, 1, none⟩ = some (.slice Ao38 x406001_2.length co38) := bc BK405 1; have hfz40_0 := blk_frozen BK405.out 0; have hfz40_1 := blk_frozen BK405.out 1; have hcz41_0 : w39.cell? ⟨gb411, 0, none⟩ = some (.bool t407) := bc BK411 0; have hcz41_1 : w39.cell? ⟨gb411, 1, none⟩ = some (.slice Ao10 t408.length co10) := bc BK411 1; have hfz41_0 := blk_frozen BK411.out 0; have hfz41_1 := blk_frozen BK411.out 1) | ((with_reducible refine gate_callee (f := 43) rfl ?_); refine goesL_ (some 17) rfl rfl Try.func43 (by kernel_rfl) rfl #[.agg #[.bool x406000_2, .slice Ao38 x406001_2.length co38], .agg #[.bool t407, .slice Ao10 t408.length co10]] rfl argt ?_; (with_reducible refine (turnstoneref01_Sub.calls k2 x406000_2 _ _ x406001_2 t407 (fun k_ => ((P0_1_ k_ ∨ w.heap.size ≤ k_) ∧ (k_ ≠ gb405 ∧ (k_ ≠ gb406 ∧ k_ ≠ gb411)))) _ _ t408 t418 t419 _ ?side1 ?side2 ?side3 A32.out).mono ?_); (case side1 => repeat (first | exact (Kd.V_reads' HO_406001.out).2.2 | (with_reducible refine Kd.C_alloc ?_ _) | (with_reducible refine Kd.C_drewN ?_ _) | (with_reducible refine Kd.C_drew ?_))); (case side2 => exact (Kd.V_reads' HO_406001.out).2.1); (case side3 => exact HO_412001.out); rintro e w42 ⟨v420, rfl, ho0, hb⟩; refine ⟨_, rfl, ?_⟩; replace HO_406001 := vb HO_406001 hb; replace HO_412001 := vb HO_412001 hb; have HO421 := Aside0.mk (Kd.V_lower (Kd.V_mono (ok' := fun k_ => (P0_1_ k_ ∨ w.heap.size ≤ k_) ∧ k_ ≠ gb405 ∧ k_ ≠ gb406 ∧ k_ ≠ gb411) ho0 (fun k_ hk_ => ⟨Or.elim hk_ (fun hs_ => hs_.1) (fun hn_ => (.inr (Nat.le_trans (below_size (belt HB)) hn_))), Or.elim hk_ (fun hs_ => hs_.2.1) (fun hn_ => (Kd.freshB (blkt BK405) k_ hn_)), Or.elim hk_ (fun hs_ => hs_.2.2.1) (fun hn_ => (Kd.freshB (blkt BK406) k_ hn_)), Or.elim hk_ (fun hs_ => hs_.2.2.2) (fun hn_ => (Kd.freshB (blkt BK411) k_ hn_))⟩)) (below_size (belt HB))); replace BK405 := blkb BK405 hb; replace BK406 := blkb BK406 hb; replace BK411 := blkb BK411 hb; replace HB := belb HB hb; (try clear hb); (try clear hb2); (try clear hk); (try clear hi); (try clear ho0); have hcz43_0 : w42.cell? ⟨gb405, 0, none⟩ = some (.bool x406000_2) := bc BK405 0; have hcz43_1 : w42.cell? ⟨gb405, 1, none⟩ = some (.slice Ao38 x406001_2.length co38) := bc BK405 1; have hfz43_0 := blk_frozen BK405.out 0; have hfz43_1 := blk_frozen BK405.out 1; obtain ⟨Ao44, co44, eo44⟩ := Kd.V_slice HO421.out; subst eo44))
      go_roundg k2
      case measure => have := HK1.out; have := HK2.out; omega
      case rel => exact ⟨(t418), (t419), (.slice Ao44 t419.length co44), H', ⟨by have := HK1.out; have := HK2.out; omega⟩, ⟨by (with_reducible repeat (first | apply Kd.V_alloc | apply Kd.V_drewN | apply Kd.V_drew)); exact Kd.V_mono (Kd.V_far (p := ⟨gb405, 1, none⟩) (Kd.V_far (p := ⟨gb405, 0, none⟩) (Kd.V_mono HO421.out (fun k_ hk => (⟨hk, hk.2.1⟩ : _ ∧ k_ ≠ gb405))) (fun _ hk => hk.2) (.bool t418)) (fun _ hk => hk.2) (.slice Ao44 t419.length co44)) (fun _ hk => ⟨hk.1.1, ⟨hk.1.2.1, ⟨hk.1.2.2.1, hk.1.2.2.2⟩⟩⟩)⟩, ⟨by (with_reducible repeat (first | apply Kd.V_alloc | apply Kd.V_drewN | apply Kd.V_drew)); exact Kd.V_mono (Kd.V_far (p := ⟨gb405, 1, none⟩) (Kd.V_far (p := ⟨gb405, 0, none⟩) (Kd.V_mono HO_412001.out (fun k_ hk => (⟨hk, hk.2.1⟩ : _ ∧ k_ ≠ gb405))) (fun _ hk => hk.2) (.bool t418)) (fun _ hk => hk.2) (.slice Ao44 t419.length co44)) (fun _ hk => ⟨hk.1.1, ⟨hk.1.2.1, ⟨hk.1.2.2.1, hk.1.2.2.2⟩⟩⟩)⟩, ⟨by (with_reducible repeat (first | refine blk_drewN ?_ _ | refine blk_drew ?_ | refine blk_alloc ?_ _)); refine blk_put (cs := #[.bool t418, .slice Ao38 x406001_2.length co38]) ?_ 1 _ rfl; (with_reducible repeat (first | refine blk_drewN ?_ _ | refine blk_drew ?_ | refine blk_alloc ?_ _)); refine blk_put (cs := #[.bool x406000_2, .slice Ao38 x406001_2.length co38]) ?_ 0 _ rfl; exact blkt BK405⟩, ⟨by (with_reducible repeat (first | refine blk_drewN ?_ _ | refine blk_drew ?_ | refine blk_alloc ?_ _)); refine blk_far ?_ NB406_405.out _; (with_reducible repeat (first | refine blk_drewN ?_ _ | refine blk_drew ?_ | refine blk_alloc ?_ _)); refine blk_far ?_ NB406_405.out _; exact blkt BK406⟩, ⟨by (with_reducible repeat (first | refine blk_drewN ?_ _ | refine blk_drew ?_ | refine blk_alloc ?_ _)); refine blk_far ?_ NB411_405.out _; (with_reducible repeat (first | refine blk_drewN ?_ _ | refine blk_drew ?_ | refine blk_alloc ?_ _)); refine blk_far ?_ NB411_405.out _; exact blkt BK411⟩, ⟨belt HB⟩⟩
     rw [if_neg c31] at H
     have c31b0 : decide (0 ≤ t417) = false := decide_eq_false c31
     clear c31
     simp only [Option.some.injEq, Prod.mk.injEq] at H
     obtain ⟨rfl, rfl⟩ := H
     have hnb45 := NB405_406.out
     have hnc45 := NB406_405.out
     have hnb46 := NB405_411.out
     have hnc46 := NB411_405.out
     have hcz47_0 : wr.cell? ⟨gb405, 0, none⟩ = some (.bool x406000_2) := bc BK405 0
     have hcz47_1 : wr.cell? ⟨gb405, 1, none⟩ = some (u406001) := bc BK405 1
     have hfz47_0 := blk_frozen BK405.out 0
     have hfz47_1 := blk_frozen BK405.out 1
     have hnb48 := NB411_406.out
     have hnc48 := NB406_411.out
     have hcz49_0 : wr.cell? ⟨gb411, 0, none⟩ = some (.bool t407) := bc BK411 0
     have hcz49_1 : wr.cell? ⟨gb411, 1, none⟩ = some (.slice Ao10 t408.length co10) := bc BK411 1
     have hfz49_0 := blk_frozen BK411.out 0
     have hfz49_1 := blk_frozen BK411.out 1
     obtain ⟨Ao50, co50, eo50⟩ := Kd.V_slice HO_406001.out
     subst eo50
     go_wp2_with (first | ((with_reducible refine gate_callee (f := 18) rfl ?_); refine goesL_ (some 13) rfl rfl Try.func18 (by kernel_rfl) rfl #[.agg #[.bool x406000_2, .slice Ao50 x406001_2.length co50], .agg #[.bool t407, .slice Ao10 t408.length co10]] rfl argt ?_; (with_reducible refine (turnstoneref01_Cmp.calls k2 x406000_2 _ _ x406001_2 t407 _ _ t408 t417 _ ?side1 ?side2 ?side3 ?side4 A30.out).mono ?_); (case side1 => repeat (first | exact (Kd.V_reads' HO_406001.out).2.2 | (with_reducible refine Kd.C_alloc ?_ _) | (with_reducible refine Kd.C_drewN ?_ _) | (with_reducible refine Kd.C_drew ?_))); (case side2 => exact (Kd.V_reads' HO_406001.out).2.1); (case side3 => repeat (first | exact (Kd.V_reads' HO_412001.out).2.2 | (with_reducible refine Kd.C_alloc ?_ _) | (with_reducible refine Kd.C_drewN ?_ _) | (with_reducible refine Kd.C_drew ?_))); (case side4 => exact (Kd.V_reads' HO_412001.out).2.1); rintro e w51 ⟨rfl, hb⟩; refine ⟨_, rfl, ?_⟩; replace HO_406001 := vb HO_406001 hb; replace HO_412001 := vb HO_412001 hb; replace BK405 := blkb BK405 hb; replace BK406 := blkb BK406 hb; replace BK411 := blkb BK411 hb; replace HB := belb HB hb; (try clear hb); (try clear hb2); (try clear hk); (try clear hi); have hcz52_0 : w51.cell? ⟨gb405, 0, none⟩ = some (.bool x406000_2) := bc BK405 0; have hcz52_1 : w51.cell? ⟨gb405, 1, none⟩ = some (.slice Ao50 x406001_2.length co50) := bc BK405 1; have hfz52_0 := blk_frozen BK405.out 0; have hfz52_1 := blk_frozen BK405.out 1; have hcz53_0 : w51.cell? ⟨gb406, 0, none⟩ = some (.bool false) := bc BK406 0; have hcz53_1 : w51.cell? ⟨gb406, 1, none⟩ = some (.slice none 0 0) := bc BK406 1; have hfz53_0 := blk_frozen BK406.out 0; have hfz53_1 := blk_frozen BK406.out 1))
     refine bodyPost_ret (results_cell_row rfl _ _ gb406 28 #[.bool x406000_2, .slice Ao50 x406001_2.length co50] (0, 0) _ rfl (by (with_reducible repeat (first | refine blk_drewN ?_ _ | refine blk_drew ?_ | refine blk_alloc ?_ _)); refine blk_put (cs := #[.bool x406000_2, .slice none 0 0]) ?_ 1 _ rfl; (with_reducible repeat (first | refine blk_drewN ?_ _ | refine blk_drew ?_ | refine blk_alloc ?_ _)); refine blk_put (cs := #[.bool false, .slice none 0 0]) ?_ 0 _ rfl; exact blkt BK406) Try.underlying28 rfl (by kernel_rfl)) rfl ?_
     exact ⟨_, by first | rfl | (simp [errW_none, errW_some] <;> rfl) | (simp [*, errW_none, errW_some] <;> rfl), by (with_reducible repeat (first | apply Kd.V_alloc | apply Kd.V_drewN | apply Kd.V_drew)); exact Kd.V_mono (Kd.V_far (p := ⟨gb406, 1, none⟩) (Kd.V_far (p := ⟨gb406, 0, none⟩) (Kd.V_mono HO_406001.out (fun k_ hk => (⟨hk, hk.2.2.1⟩ : _ ∧ k_ ≠ gb406))) (fun _ hk => hk.2) (.bool x406000_2)) (fun _ hk => hk.2) (.slice Ao50 x406001_2.length co50)) (fun _ hk => hk.1.1), belt HB⟩


/-! ### turnstoneref01_Div: function 77 -/
def turnstoneref01_Div.l0 : Nat → Int → List Int → Int → Int → Bool → List Int → Option (Bool × List Int × Int)
 | 0, _, _, _, _, _, _ => none
 | k + 1, x1, x6, x7, x8, x423000, x423001 => if x8 ≥ 0 then (if 0 ≤ x8 then (if x8 < (x423001.length : Int) then (if x1 = 0 then (none) else (if x8 < (x6.length : Int) then (turnstoneref01_Div.l0 k x1 (x6.set (x8 : Int).toNat (wrap64 (Int.tdiv (wrap64 ((wrap64 (x7 * 10000)) + (rd x423001 x8))) x1))) (Int.tmod (wrap64 ((wrap64 (x7 * 10000)) + (rd x423001 x8))) x1) (wrap64 (x8 - 1)) x423000 x423001) else (none))) else (none)) else (none)) else ((turnstoneref01_trim.f k false x6).bind fun bt429 => (if x423000 = true then (if x7 > 0 then ((turnstoneref01_N.f k 1).bind fun bt434 => ((turnstoneref01_Add.f k bt429.1 bt429.2 bt434.1 bt434.2).bind fun bt438 => ((turnstoneref01_Neg.f k bt438.1 bt438.2).bind fun bt442 => (some (bt442.1, bt442.2, wrap64 (x1 - x7)))))) else ((turnstoneref01_Neg.f k bt429.1 bt429.2).bind fun bt446 => (some (bt446.1, bt446.2, x7)))) else (some (bt429.1, bt429.2, x7))))
def turnstoneref01_Div.f (k : Nat) (a0_0 : Bool) (l0_1 : List Int) (a1 : Int) : Option (Bool × List Int × Int) := if 0 ≤ (l0_1.length : Int) then (if ((l0_1.length : Int) : Int).toNat ≤ 35184372088832 then (turnstoneref01_Div.l0 k a1 (List.replicate ((l0_1.length : Int) : Int).toNat 0) 0 (wrap64 ((l0_1.length : Int) - 1)) a0_0 l0_1) else (none)) else (none)
theorem turnstoneref01_Div.mono_l : ∀ k, (∀ y0 y1 y2 y3 y4 y5, LeO (turnstoneref01_Div.l0 k y0 y1 y2 y3 y4 y5) (turnstoneref01_Div.l0 (k + 1) y0 y1 y2 y3 y4 y5))
 | 0 => fun _ _ _ _ _ _ r h => by simp [turnstoneref01_Div.l0] at h
 | k + 1 => by
  have ih0 := turnstoneref01_Div.mono_l k
  ·intro y0 y1 y2 y3 y4 y5
   unfold turnstoneref01_Div.l0
   repeat' first
   | (with_reducible exact ih0 _ _ _ _ _ _)
   | (with_reducible exact turnstoneref01_Add.mono _ _ _ _ _)
   | (with_reducible exact turnstoneref01_N.mono _ _)
   | (with_reducible exact turnstoneref01_Neg.mono _ _ _)
   | (with_reducible exact turnstoneref01_trim.mono _ _ _)
   | (with_reducible exact LeO.refl _)
   | (with_reducible exact LeO.none _)
   | (with_reducible refine LeO.ite ?_ ?_)
   | (with_reducible refine LeO.bind ?_ (fun _ => ?_))
   | exact ih0 _ _ _ _ _ _
   | exact turnstoneref01_Add.mono _ _ _ _ _
   | exact turnstoneref01_N.mono _ _
   | exact turnstoneref01_Neg.mono _ _ _
   | exact turnstoneref01_trim.mono _ _ _
   | exact LeO.none _
   | refine LeO.ite ?_ ?_
   | refine LeO.bind ?_ (fun _ => ?_)
theorem turnstoneref01_Div.mono : ∀ a0 a1 a2 k, LeO (turnstoneref01_Div.f k a0 a1 a2) (turnstoneref01_Div.f (k + 1) a0 a1 a2) := by
 intro a0 a1 a2 k
 have ih0 := turnstoneref01_Div.mono_l k
 unfold turnstoneref01_Div.f
 repeat' first
   | (with_reducible exact ih0 _ _ _ _ _ _)
   | (with_reducible exact turnstoneref01_Add.mono _ _ _ _ _)
   | (with_reducible exact turnstoneref01_N.mono _ _)
   | (with_reducible exact turnstoneref01_Neg.mono _ _ _)
   | (with_reducible exact turnstoneref01_trim.mono _ _ _)
   | (with_reducible exact LeO.refl _)
   | (with_reducible exact LeO.none _)
   | (with_reducible refine LeO.ite ?_ ?_)
   | (with_reducible refine LeO.bind ?_ (fun _ => ?_))
   | exact ih0 _ _ _ _ _ _
   | exact turnstoneref01_Add.mono _ _ _ _ _
   | exact turnstoneref01_N.mono _ _
   | exact turnstoneref01_Neg.mono _ _ _
   | exact turnstoneref01_trim.mono _ _ _
   | exact LeO.none _
   | refine LeO.ite ?_ ?_
   | refine LeO.bind ?_ (fun _ => ?_)
set_option maxHeartbeats 8000000 in
set_option maxRecDepth 100000 in
theorem turnstoneref01_Div.calls (k : Nat) (a0_0 : Bool) (A0_1 : Option Addr) (c0_1 : Nat) (l0_1 : List Int) (a1 : Int) (r1 : Bool) (r2 : List Int) (r3 : Int) (w : World) (hr0_1 : Kd.C (Kd.int .i64) w A0_1 l0_1.length l0_1) (hc0_1 : l0_1.length ≤ c0_1) (h : turnstoneref01_Div.f k a0_0 l0_1 a1 = some (r1, r2, r3)) :
  Calls Try.prog 77 #[.agg #[.bool a0_0, .slice A0_1 l0_1.length c0_1], .int .i64 a1] w fun e w' => ∃ v1_ : Value, e = .returned (.tuple #[.agg #[.bool r1, v1_], .int .i64 r3]) ∧ Kd.V (Kd.int .i64) 3 w' w.heap.size (fun k_ => (w.heap.size ≤ k_)) v1_ r2 ∧ Below w.heap.size w w' := by
 have hu28 := Try.underlying28
 have HR0_1 := Aside0.mk hr0_1
 have HC0_1 := Aside0.mk hc0_1
 clear hr0_1 hc0_1
 have HB := Aside0.mk (Below.refl w.heap.size w)
 have H : (if 0 ≤ (l0_1.length : Int) then (if ((l0_1.length : Int) : Int).toNat ≤ 35184372088832 then (turnstoneref01_Div.l0 k a1 (List.replicate ((l0_1.length : Int) : Int).toNat 0) 0 (wrap64 ((l0_1.length : Int) - 1)) a0_0 l0_1) else (none)) else (none)) = some (r1, r2, r3) := h
 clear h
 by_cases c3 : 0 ≤ (l0_1.length : Int)
 ·rw [if_pos c3] at H
  have c3b0 := eq_true c3
  have c3b1 : decide (0 ≤ (l0_1.length : Int)) = true := decide_eq_true c3
  clear c3
  by_cases c4 : ((l0_1.length : Int) : Int).toNat ≤ 35184372088832
  ·rw [if_pos c4] at H
   have c4b0 := eq_true c4
   have c4b1 : decide (((l0_1.length : Int) : Int).toNat ≤ 35184372088832) = true := decide_eq_true c4
   clear c4
   obtain ⟨y424, hy424⟩ : ∃ y_ : List Int, y_ = (List.replicate ((l0_1.length : Int) : Int).toNat 0) := ⟨_, rfl⟩
   replace H : (turnstoneref01_Div.l0 k a1 y424 0 (wrap64 ((l0_1.length : Int) - 1)) a0_0 l0_1) = some (r1, r2, r3) := by first | (rw [hy424]; with_reducible exact H) | (have H2_ := (Option.bind_some _ _).symm.trans H; rw [hy424]; with_reducible exact H2_) | (have H2_ := (Option.bind_some _ _).symm.trans H; with_reducible exact H2_) | with_reducible exact H | (rw [hy424]; exact H) | exact H
   have Ny424 := Aside0.mk hy424
   clear hy424
   have H' := Aside0.mk H
   clear H
   go_enter Try.func77, Try.ntmps77
   go_wp2_with (first | ((with_reducible refine gate_dst (N := 2) rfl ?_); refine box_event ?hg (N := 2) ?hd (cs := #[.bool a0_0, .slice A0_1 l0_1.length c0_1]) (t := 28) ?hr ?_; (case hd => rfl); (case hg => rfl); (case hr => first | (go_simp; done) | (go_simp; rfl)); intro gb422 hg w5 hbox hb; have BK422 := Aside0.mk (hbox); have GW422 := bels HB hg; have GE422 := bels HB hg; replace HB := belb HB hb; clear hb hbox hg) | ((with_reducible refine gate_dst (N := 4) rfl ?_); refine box_event ?hg (N := 4) ?hd (cs := #[.bool false, .slice none 0 0]) (t := 28) ?hr ?_; (case hd => rfl); (case hg => rfl); (case hr => first | (go_simp; done) | (go_simp; rfl)); intro gb423 hg w6 hbox hb; have BK423 := Aside0.mk (hbox); have GW423 := bels HB hg; have GE423 := bels HB hg; have NB422_423 := blkl BK422 hg; have NB423_422 := blkg BK422 hg; replace BK422 := blkb BK422 hb; replace HB := belb HB hb; clear hb hbox hg; have hnb7 := NB422_423.out; have hnc7 := NB423_422.out; have hcz8_0 : w6.cell? ⟨gb422, 0, none⟩ = some (.bool a0_0) := bc BK422 0; have hcz8_1 : w6.cell? ⟨gb422, 1, none⟩ = some (.slice A0_1 l0_1.length c0_1) := bc BK422 1; have hfz8_0 := blk_frozen BK422.out 0; have hfz8_1 := blk_frozen BK422.out 1) | ((with_reducible refine gate_dst (N := 13) rfl ?_); refine Kd.R_make (Kd.int .i64) _ 3 rfl (N := 13) rfl 26 _ _ rfl (l0_1.length : Int) rfl rfl Try.underlying26 (.int .i64 0) 8 info3 rfl (by decide) (by omega) 0 (ok := fun _ => True) (okp := fun _ => True) rfl (fun _ hk => hk) trivial (of_decide_eq_true (by first | (with_reducible assumption) | assumption)) (Nat.le_trans (Nat.mul_le_mul_right _ (of_decide_eq_true (by first | (with_reducible assumption) | assumption) : (l0_1.length : Int).toNat ≤ 35184372088832)) (by omega)) (Below.refl _ _) (Nat.le_refl _) ?_; intro v425 w9 ho10 hb hg_ hnew_; clear hg_ hnew_; (first | rw [← Ny424.out] at ho10 | (simp only [Int.reduceToNat] at ho10; rw [← Ny424.out] at ho10)); have HO426 := Aside0.mk (Kd.R_lower (Kd.R_newM (M := fun k_ => (w.heap.size ≤ k_)) ho10 (below_size (belt HB)) (fun k_ h_ => h_)) (below_size (belt HB))); replace BK422 := blkb BK422 hb; replace BK423 := blkb BK423 hb; replace HB := belb HB hb; clear hb ho10; have hcz11_0 : w9.cell? ⟨gb422, 0, none⟩ = some (.bool a0_0) := bc BK422 0; have hcz11_1 : w9.cell? ⟨gb422, 1, none⟩ = some (.slice A0_1 l0_1.length c0_1) := bc BK422 1; have hfz11_0 := blk_frozen BK422.out 0; have hfz11_1 := blk_frozen BK422.out 1))
   (try simp only [Act.put, List.setIfInBounds_toArray, List.set_cons_zero, List.set_cons_succ])
   go_loopg [7, 8] k (fun kq v7 v8 w' => ∃ (x6_1 : List Int) (x7_1 : Int) (x8_1 : Int), v7 = .int .i64 x7_1 ∧ v8 = .int .i64 x8_1 ∧ Aside0 (turnstoneref01_Div.l0 kq a1 x6_1 x7_1 x8_1 a0_0 l0_1 = some (r1, r2, r3)) ∧ Aside0 (kq ≤ k) ∧ Aside0 (Kd.R (Kd.int .i64) 3 w' w.heap.size (fun k_ => (w.heap.size ≤ k_)) v425 x6_1) ∧ Aside0 (w'.heap[gb422]? = some (.cells #[.bool a0_0, (.slice A0_1 l0_1.length c0_1)] 28 (0, 0))) ∧ Aside0 (w'.heap[gb423]? = some (.cells #[.bool false, (.slice none 0 0)] 28 (0, 0))) ∧ Aside0 (Below w.heap.size w w'))
   case atStart => exact ⟨(y424), (0), (wrap64 ((l0_1.length : Int) - 1)), (by first | rfl | (simp; done) | (simp [*]; done)), (by first | rfl | (simp; done) | (simp [*]; done)), H', ⟨Nat.le_refl _⟩, ⟨by (with_reducible repeat (first | apply Kd.R_alloc | apply Kd.R_drewN | apply Kd.R_drew)); exact Kd.R_mono HO426.out (fun _ hk => hk.1)⟩, ⟨blkt BK422⟩, ⟨blkt BK423⟩, ⟨belt HB⟩⟩
   case round =>
    clear H'
    try clear p2
    try clear c3
    try clear c3b0
    try clear c3b1
    try clear c4
    try clear c4b0
    try clear c4b1
    try clear p6
    try clear c7
    try clear hcz11_0
    try clear hcz11_1
    try clear hcz8_0
    try clear hcz8_1
    try clear hfz11_0
    try clear hfz11_1
    try clear hfz8_0
    try clear hfz8_1
    obtain ⟨x6_1, x7_1, x8_1, rfl, rfl, HA, HK1, HO_6, BK422, BK423, HB⟩ := hrel
    cases gk with
    | zero => exact absurd HA.out (by simp [turnstoneref01_Div.l0])
    | succ k1 =>
     have H := HA.out
     clear HA
     simp only [turnstoneref01_Div.l0] at H
     by_cases c12 : x8_1 ≥ 0
     ·rw [if_pos c12] at H
      have c12b0 : decide (0 ≤ x8_1) = true := decide_eq_true c12
      clear c12
      by_cases c13 : 0 ≤ x8_1
      ·rw [if_pos c13] at H
       have c13b0 : decide (0 ≤ x8_1) = true := decide_eq_true c13
       clear c13
       by_cases c14 : x8_1 < (l0_1.length : Int)
       ·rw [if_pos c14] at H
        have c14b0 : decide (x8_1 < (l0_1.length : Int)) = true := decide_eq_true c14
        clear c14
        by_cases c15 : a1 = 0
        ·rw [if_pos c15] at H
         exact absurd H (by simp)
        rw [if_neg c15] at H
        have c15b0 : (a1 == 0) = false := beq_eq_false_iff_ne.mpr c15
        have c15b1 : (a1 != 0) = true := bne_iff_ne.mpr c15
        by_cases c16 : x8_1 < (x6_1.length : Int)
        ·rw [if_pos c16] at H
         have c16b0 : decide (x8_1 < (x6_1.length : Int)) = true := decide_eq_true c16
         clear c16
         obtain ⟨y428, hy428⟩ : ∃ y_ : List Int, y_ = (x6_1.set (x8_1 : Int).toNat (wrap64 (Int.tdiv (wrap64 ((wrap64 (x7_1 * 10000)) + (rd l0_1 x8_1))) a1))) := ⟨_, rfl⟩
         replace H : (turnstoneref01_Div.l0 k1 a1 y428 (Int.tmod (wrap64 ((wrap64 (x7_1 * 10000)) + (rd l0_1 x8_1))) a1) (wrap64 (x8_1 - 1)) a0_0 l0_1) = some (r1, r2, r3) := by first | (rw [hy428]; with_reducible exact H) | (have H2_ := (Option.bind_some _ _).symm.trans H; rw [hy428]; with_reducible exact H2_) | (have H2_ := (Option.bind_some _ _).symm.trans H; with_reducible exact H2_) | with_reducible exact H | (rw [hy428]; exact H) | exact H
         have Ny428 := Aside0.mk hy428
         clear hy428
         have H' := Aside0.mk H
         clear H
         have hnb18 := NB422_423.out
         have hnc18 := NB423_422.out
         have hcz19_0 : wr.cell? ⟨gb422, 0, none⟩ = some (.bool a0_0) := bc BK422 0
         have hcz19_1 : wr.cell? ⟨gb422, 1, none⟩ = some (.slice A0_1 l0_1.length c0_1) := bc BK422 1
         have hfz19_0 := blk_frozen BK422.out 0
         have hfz19_1 := blk_frozen BK422.out 1
         have p427 : 0 ≤ (x8_1 : Int) := of_decide_eq_true (by first | (with_reducible assumption) | assumption)
         have q427 : x8_1 < (l0_1.length : Int) := of_decide_eq_true (by first | (with_reducible assumption) | assumption)
         obtain ⟨ad427, e427, hx427_0⟩ := Kd.at_int HR0_1.out x8_1 p427 q427
         cases e427
         replace hx427_0 := (HB.out.cell (World.block_lt_of_cell? w _ hx427_0)).trans hx427_0
         replace p427 := eq_true p427
         replace q427 := eq_true q427
         have p17 : 0 ≤ (x8_1 : Int) := of_decide_eq_true (by first | (with_reducible assumption) | assumption)
         have q17 : (x8_1 : Int) < ((x6_1.length : Int) : Int) := of_decide_eq_true (by first | (with_reducible assumption) | assumption)
         obtain ⟨go17, co17, eo17, gb17, gl17, cl17, HG17⟩ := Kd.R_form HO_6.out (by omega)
         (first | cases eo17 | (injection eo17 with ea_ en_ ec_; (first | subst ea_ | (injection ea_ with ea_; subst ea_)); subst ec_; clear en_))
         have GB17 := Aside0.mk gb17
         have GG17 := Aside0.mk HG17
         clear gb17 gl17 HG17
         obtain ⟨hx17_0, hf17_0⟩ := Kd.R_celln 0 HO_6.out (x8_1 : Int) p17 q17
         replace p17 := eq_true p17
         replace q17 := eq_true q17
         have HP20 := Kd.R_putg HO_6.out (x8_1 : Int) (wrap64 (Int.tdiv (wrap64 ((wrap64 (x7_1 * 10000)) + (rd l0_1 x8_1))) a1))
         go_wp2_with (first | ((with_reducible refine gate_store (t := 3) (p := 35) rfl ?_); refine store_event (t := 3) (p := 35) (v := ?vo_w21) (w1 := (wr.setCell ⟨go17, (x8_1 : Int).toNat, none⟩ (.int .i64 (wrap64 (Int.tdiv (wrap64 ((wrap64 (x7_1 * 10000)) + (rd l0_1 x8_1))) a1))))) ?hg ?ho ?hn ?hr ?_; (case ho => rfl); (case hg => rfl); (case hn => rfl); (case hr => first | (go_simp; done) | (go_simp; rfl)); intro w21 hw; have hg : wr.grownBy w21 (some go17) := (by rw [hw]; exact HP20.2); have hp_ : Kd.R (Kd.int .i64) 3 w21 w.heap.size (fun k_ => (w.heap.size ≤ k_)) (.slice (some ⟨go17, 0, none⟩) x6_1.length co17) y428 := (by rw [hw, Ny428.out]; exact HP20.1); clear HP20; replace BK422 := Aside0.mk (blk_grown (blkt BK422) hg (Kd.R_ne HO_6.out BK422.out (by decide))); replace BK423 := Aside0.mk (blk_grown (blkt BK423) hg (Kd.R_ne HO_6.out BK423.out (by decide))); replace HB := Aside0.mk ((by rw [hw]; exact below_set (HB.out) GB17.out : Below w.heap.size w w21)); replace HO_6 := Aside0.mk (hp_); clear hg hw hp_))
         go_roundg k1
         case measure => have := HK1.out; omega
         case rel => exact ⟨(y428), (Int.tmod (wrap64 ((wrap64 (x7_1 * 10000)) + (rd l0_1 x8_1))) a1), (wrap64 (x8_1 - 1)), (by first | rfl | (simp; done) | (simp [*]; done)), (by first | rfl | (simp; done) | (simp [*]; done)), H', ⟨by have := HK1.out; omega⟩, ⟨by (with_reducible repeat (first | apply Kd.R_alloc | apply Kd.R_drewN | apply Kd.R_drew)); exact HO_6.out⟩, ⟨blkt BK422⟩, ⟨blkt BK423⟩, ⟨belt HB⟩⟩
        rw [if_neg c16] at H
        exact absurd H (by simp)
       rw [if_neg c14] at H
       exact absurd H (by simp)
      rw [if_neg c13] at H
      exact absurd H (by simp)
     rw [if_neg c12] at H
     have c12b0 : decide (0 ≤ x8_1) = false := decide_eq_false c12
     clear c12
     replace H := Option.bind_eq_some_iff.mp H
     obtain ⟨⟨t429, t430⟩, A220, H⟩ := H
     replace H : (if a0_0 = true then (if x7_1 > 0 then ((turnstoneref01_N.f k1 1).bind fun bt434 => ((turnstoneref01_Add.f k1 t429 t430 bt434.1 bt434.2).bind fun bt438 => ((turnstoneref01_Neg.f k1 bt438.1 bt438.2).bind fun bt442 => (some (bt442.1, bt442.2, wrap64 (a1 - x7_1)))))) else ((turnstoneref01_Neg.f k1 t429 t430).bind fun bt446 => (some (bt446.1, bt446.2, x7_1)))) else (some (t429, t430, x7_1))) = some (r1, r2, r3) := H
     have A22 := Aside0.mk A220
     clear A220
     by_cases c23 : a0_0 = true
     ·subst c23
      have H1 : (if x7_1 > 0 then ((turnstoneref01_N.f k1 1).bind fun bt434 => ((turnstoneref01_Add.f k1 t429 t430 bt434.1 bt434.2).bind fun bt438 => ((turnstoneref01_Neg.f k1 bt438.1 bt438.2).bind fun bt442 => (some (bt442.1, bt442.2, wrap64 (a1 - x7_1)))))) else ((turnstoneref01_Neg.f k1 t429 t430).bind fun bt446 => (some (bt446.1, bt446.2, x7_1)))) = some (r1, r2, r3) := by rw [if_pos rfl] at H; exact H
      clear H
      have H := H1
      clear H1
      by_cases c24 : x7_1 > 0
      ·rw [if_pos c24] at H
       have c24b0 : decide (0 < x7_1) = true := decide_eq_true c24
       clear c24
       replace H := Option.bind_eq_some_iff.mp H
       obtain ⟨⟨t434, t435⟩, A250, H⟩ := H
       replace H : ((turnstoneref01_Add.f k1 t429 t430 t434 t435).bind fun bt438 => ((turnstoneref01_Neg.f k1 bt438.1 bt438.2).bind fun bt442 => (some (bt442.1, bt442.2, wrap64 (a1 - x7_1))))) = some (r1, r2, r3) := H
       have A25 := Aside0.mk A250
       clear A250
       replace H := Option.bind_eq_some_iff.mp H
       obtain ⟨⟨t438, t439⟩, A260, H⟩ := H
       replace H : ((turnstoneref01_Neg.f k1 t438 t439).bind fun bt442 => (some (bt442.1, bt442.2, wrap64 (a1 - x7_1)))) = some (r1, r2, r3) := H
       have A26 := Aside0.mk A260
       clear A260
       replace H := Option.bind_eq_some_iff.mp H
       obtain ⟨⟨t442, t443⟩, A270, H⟩ := H
       replace H : (some (t442, t443, wrap64 (a1 - x7_1))) = some (r1, r2, r3) := H
       have A27 := Aside0.mk A270
       clear A270
       simp only [Option.some.injEq, Prod.mk.injEq] at H
       obtain ⟨rfl, rfl, rfl⟩ := H
       obtain ⟨Ao28, co28, eo28⟩ := Kd.R_slice HO_6.out
       subst eo28
       try go_wp2_with (first | ((with_reducible refine gate_callee (f := 62) rfl ?_); refine goesL_ (some 41) rfl rfl Try.func62 (by kernel_rfl) rfl #[.agg #[.bool false, .slice Ao28 x6_1.length co28]] rfl argt ?_; (with_reducible refine (turnstoneref01_trim.calls k1 false (fun k_ => some k_ = (.slice Ao28 x6_1.length co28 : Value).ownBlock) _ _ x6_1 t429 t430 _ ?side1 A22.out).mono ?_); (case side1 => exact Kd.R_V (Kd.R_tight rfl (Kd.R_types (Kd.R_types (HO_6.out) BK422.out (by decide)) BK423.out (by decide)))); rintro e w29 ⟨v431, rfl, ho0, hb⟩; refine ⟨_, rfl, ?_⟩; have HO432 := Aside0.mk (Kd.V_lower (Kd.V_mono (ok' := fun k_ => (w.heap.size ≤ k_) ∧ k_ ≠ gb422 ∧ k_ ≠ gb423) ho0 (fun k_ hk_ => ⟨Or.elim hk_ (fun hs_ => ((Kd.R_types (Kd.R_types (HO_6.out) BK422.out (by decide)) BK423.out (by decide)).1 k_ hs_.symm).1.1) (fun hn_ => (Nat.le_trans (below_size (belt HB)) hn_)), Or.elim hk_ (fun hs_ => ((Kd.R_types (Kd.R_types (HO_6.out) BK422.out (by decide)) BK423.out (by decide)).1 k_ hs_.symm).1.2) (fun hn_ => (Kd.freshB (blkt BK422) k_ hn_)), Or.elim hk_ (fun hs_ => ((Kd.R_types (Kd.R_types (HO_6.out) BK422.out (by decide)) BK423.out (by decide)).1 k_ hs_.symm).2) (fun hn_ => (Kd.freshB (blkt BK423) k_ hn_))⟩)) (below_size (belt HB))); replace HO_6 := rb HO_6 hb; replace BK422 := blkb BK422 hb; replace BK423 := blkb BK423 hb; replace HB := belb HB hb; (try clear hb); (try clear hb2); (try clear hk); (try clear hi); (try clear ho0)) | ((with_reducible refine gate_dst (N := 9) rfl ?_); refine box_event ?hg (N := 9) ?hd (cs := #[.bool false, .slice none 0 0]) (t := 28) ?hr ?_; (case hd => rfl); (case hg => rfl); (case hr => first | (go_simp; done) | (go_simp; rfl)); intro gb433 hg w30 hbox hb; replace HO_6 := rb HO_6 hb; replace HO432 := Aside0.mk (Kd.V_below (Kd.V_elderB (vt HO432) gb433 (Nat.le_of_eq hg.symm)) hb); have BK433 := Aside0.mk (hbox); have GW433 := bels HB hg; have GE433 := bels HB hg; have NB422_433 := blkl BK422 hg; have NB433_422 := blkg BK422 hg; have NB423_433 := blkl BK423 hg; have NB433_423 := blkg BK423 hg; replace BK422 := blkb BK422 hb; replace BK423 := blkb BK423 hb; replace HB := belb HB hb; clear hb hbox hg; have hnb31 := NB433_422.out; have hnc31 := NB422_433.out; have hnb32 := NB433_423.out; have hnc32 := NB423_433.out; have hcz33_0 : w30.cell? ⟨gb433, 0, none⟩ = some (.bool false) := bc BK433 0; have hcz33_1 : w30.cell? ⟨gb433, 1, none⟩ = some (.slice none 0 0) := bc BK433 1; have hfz33_0 := blk_frozen BK433.out 0; have hfz33_1 := blk_frozen BK433.out 1; obtain ⟨Ao34, co34, eo34⟩ := Kd.V_slice HO432.out; subst eo34; have hnb35 := NB422_423.out; have hnc35 := NB423_422.out; have hcz36_0 : w30.cell? ⟨gb422, 0, none⟩ = some (.bool true) := bc BK422 0; have hcz36_1 : w30.cell? ⟨gb422, 1, none⟩ = some (.slice A0_1 l0_1.length c0_1) := bc BK422 1; have hfz36_0 := blk_frozen BK422.out 0; have hfz36_1 := blk_frozen BK422.out 1))
       have n0_ : Aside0 (Kd.R (Kd.int .i64) 3 ((w30.setCell ⟨gb433, 0, none⟩ (.bool t429)).setCell ⟨gb433, 1, none⟩ (.slice Ao34 t430.length co34)) w.heap.size (fun k_ => (w.heap.size ≤ k_)) (.slice Ao28 x6_1.length co28) x6_1) := ⟨by (with_reducible repeat (first | apply Kd.R_alloc | apply Kd.R_drewN | apply Kd.R_drew)); exact Kd.R_mono (Kd.R_far (p := ⟨gb433, 1, none⟩) (Kd.R_far (p := ⟨gb433, 0, none⟩) (Kd.R_types HO_6.out BK433.out (by decide)) (fun _ hk => hk.2) (.bool t429)) (fun _ hk => hk.2) (.slice Ao34 t430.length co34)) (fun _ hk => hk.1)⟩
       have n1_ : Aside0 (Kd.V (Kd.int .i64) 3 ((w30.setCell ⟨gb433, 0, none⟩ (.bool t429)).setCell ⟨gb433, 1, none⟩ (.slice Ao34 t430.length co34)) w.heap.size (fun k_ => (w.heap.size ≤ k_) ∧ k_ ≠ gb422 ∧ k_ ≠ gb423 ∧ k_ ≠ gb433) (.slice Ao34 t430.length co34) t430) := ⟨by (with_reducible repeat (first | apply Kd.V_alloc | apply Kd.V_drewN | apply Kd.V_drew)); exact Kd.V_mono (Kd.V_far (p := ⟨gb433, 1, none⟩) (Kd.V_far (p := ⟨gb433, 0, none⟩) (Kd.V_mono HO432.out (fun k_ hk => (⟨hk, hk.2⟩ : _ ∧ k_ ≠ gb433))) (fun _ hk => hk.2) (.bool t429)) (fun _ hk => hk.2) (.slice Ao34 t430.length co34)) (fun _ hk => ⟨hk.1.1.1, ⟨hk.1.1.2.1, ⟨hk.1.1.2.2, hk.1.2⟩⟩⟩)⟩
       have n2_ : Aside0 (((w30.setCell ⟨gb433, 0, none⟩ (.bool t429)).setCell ⟨gb433, 1, none⟩ (.slice Ao34 t430.length co34)).heap[gb422]? = some (.cells #[.bool true, .slice A0_1 l0_1.length c0_1] 28 (0, 0))) := ⟨by (with_reducible repeat (first | refine blk_drewN ?_ _ | refine blk_drew ?_ | refine blk_alloc ?_ _)); refine blk_far ?_ NB422_433.out _; (with_reducible repeat (first | refine blk_drewN ?_ _ | refine blk_drew ?_ | refine blk_alloc ?_ _)); refine blk_far ?_ NB422_433.out _; exact blkt BK422⟩
       have n3_ : Aside0 (((w30.setCell ⟨gb433, 0, none⟩ (.bool t429)).setCell ⟨gb433, 1, none⟩ (.slice Ao34 t430.length co34)).heap[gb423]? = some (.cells #[.bool false, .slice none 0 0] 28 (0, 0))) := ⟨by (with_reducible repeat (first | refine blk_drewN ?_ _ | refine blk_drew ?_ | refine blk_alloc ?_ _)); refine blk_far ?_ NB423_433.out _; (with_reducible repeat (first | refine blk_drewN ?_ _ | refine blk_drew ?_ | refine blk_alloc ?_ _)); refine blk_far ?_ NB423_433.out _; exact blkt BK423⟩
       have n4_ : Aside0 (((w30.setCell ⟨gb433, 0, none⟩ (.bool t429)).setCell ⟨gb433, 1, none⟩ (.slice Ao34 t430.length co34)).heap[gb433]? = some (.cells #[.bool t429, .slice Ao34 t430.length co34] 28 (0, 0))) := ⟨by (with_reducible repeat (first | refine blk_drewN ?_ _ | refine blk_drew ?_ | refine blk_alloc ?_ _)); refine blk_put (cs := #[.bool t429, .slice none 0 0]) ?_ 1 _ rfl; (with_reducible repeat (first | refine blk_drewN ?_ _ | refine blk_drew ?_ | refine blk_alloc ?_ _)); refine blk_put (cs := #[.bool false, .slice none 0 0]) ?_ 0 _ rfl; exact blkt BK433⟩
       have n5_ : Aside0 (Below w.heap.size w ((w30.setCell ⟨gb433, 0, none⟩ (.bool t429)).setCell ⟨gb433, 1, none⟩ (.slice Ao34 t430.length co34))) := ⟨belt HB⟩
       (try clear HO_6)
       (try clear HO432)
       (try clear BK422)
       (try clear BK423)
       (try clear BK433)
       (try clear HB)
       generalize ((w30.setCell ⟨gb433, 0, none⟩ (.bool t429)).setCell ⟨gb433, 1, none⟩ (.slice Ao34 t430.length co34)) = w37 at n0_ n1_ n2_ n3_ n4_ n5_ ⊢
       have HO_6 := n0_
       have HO432 := n1_
       have BK422 := n2_
       have BK423 := n3_
       have BK433 := n4_
       have HB := n5_
       clear n0_ n1_ n2_ n3_ n4_ n5_
       replace HO_6 := Aside0.mk (Kd.R_drew HO_6.out)
       replace HO432 := Aside0.mk (Kd.V_drew HO432.out)
       replace BK422 := Aside0.mk (blk_drew BK422.out)
       replace BK423 := Aside0.mk (blk_drew BK423.out)
       replace BK433 := Aside0.mk (blk_drew BK433.out)
       replace HB := Aside0.mk (below_drew1 HB.out)
       refine start_ (n := 4) (S := fun w' => w'.cell? ⟨gb433, 0, none⟩ = some (.bool t429) ∧ w'.cell? ⟨gb433, 1, none⟩ = some (.slice Ao34 t430.length co34)) (ds := [3]) #[false, false, false, false] (by kernel_rfl) rfl rfl ⟨bc BK433 0, bc BK433 1⟩ (fun hHeld => ?_)
       generalize w37.drew = w38 at HO_6 HO432 BK422 BK423 BK433 HB hHeld ⊢
       refine take_ (i := 0) (N := some 49) (v := ?_) (a' := ?_) #[true, false, false, false] rfl rfl (by kernel_rfl) (fun _ _ _ h => h) (Or.inl ⟨by rfl, ?_⟩) hHeld ?_ ?_
       rotate_left
       ·rintro w' ⟨s0, s1⟩
        go_simp
        with_reducible rfl
       rotate_left
       ·simp only [Act.put, List.setIfInBounds_toArray, List.set_cons_zero, List.set_cons_succ, i64_w, i32_w]
        rfl
       refine one_ (i := 1) (N := some 50) #[true, true, false, false] rfl rfl (by kernel_rfl) (by decide) (fun K hK => ?_)
       refine goes_ Try.func19 (by kernel_rfl) rfl #[.int .i64 1] (by rfl) rfl rfl argt ?_
       with_reducible refine (turnstoneref01_N.calls k1 1 t434 t435 _ A25.out).mono ?_
       rintro e w39 ⟨v436, rfl, ho0, hb⟩
       refine ⟨_, rfl, ?_⟩
       replace HO432 := Aside0.mk (Kd.V_elder' (vt HO432) (Kd.R_base ho0) hb)
       have HO437 := Aside0.mk (Kd.R_lower (Kd.R_new' (Kd.R_newM (M := fun k_ => (w.heap.size ≤ k_)) ho0 (below_size (belt HB)) (fun k_ h_ => h_)) (Kd.R_lt (rt HO_6))) (below_size (belt HB)))
       replace BK422 := blkb BK422 hb
       replace BK423 := blkb BK423 hb
       replace BK433 := blkb BK433 hb
       replace HO_6 := Aside0.mk (Kd.R_elder' (rt HO_6) (Kd.R_base ho0) hb)
       replace HB := belb HB hb
       (try clear hb)
       (try clear hb2)
       (try clear hk)
       (try clear hi)
       (try clear ho0)
       obtain ⟨Ao40, co40, eo40⟩ := Kd.R_slice HO437.out
       (first | subst eo40 | (injection eo40 with f1_ f2_ f3_; have f4_ := f1_.symm; have f5_ := f3_.symm; clear f1_ f2_ f3_; subst f4_; subst f5_))
       refine hK.out _ _ ⟨bc BK433 0, bc BK433 1⟩ (fun hHeld => ?_)
       clear hK K
       refine norm_ (a' := ?_) ?_ ?_
       rotate_left
       ·show Act.put _ (some 50) _ = _
        simp only [Act.put, List.setIfInBounds_toArray, List.set_cons_zero, List.set_cons_succ, i64_w, i32_w]
        rfl
       refine one_ (i := 2) (N := some 51) #[true, true, true, false] rfl rfl (by kernel_rfl) (by decide) (fun K hK => ?_)
       refine goes_ Try.func27 (by kernel_rfl) rfl #[.agg #[.bool t429, .slice Ao34 t430.length co34], .agg #[.bool t434, .slice Ao40 t435.length co40]] (by rfl) rfl rfl argt ?_
       with_reducible refine (turnstoneref01_Add.calls k1 t429 _ _ t430 t434 _ _ t435 t438 t439 _ ?side1 ?side2 ?side3 ?side4 A26.out).mono ?_
       (case side1 => repeat (first | exact (Kd.V_reads' HO432.out).2.2 | (with_reducible refine Kd.C_alloc ?_ _) | (with_reducible refine Kd.C_drewN ?_ _) | (with_reducible refine Kd.C_drew ?_)))
       (case side2 => exact (Kd.V_reads' HO432.out).2.1)
       (case side3 => repeat (first | exact (Kd.R_reads' HO437.out).2.2 | (with_reducible refine Kd.C_alloc ?_ _) | (with_reducible refine Kd.C_drewN ?_ _) | (with_reducible refine Kd.C_drew ?_)))
       (case side4 => exact (Kd.R_reads' HO437.out).2.1)
       rintro e w41 ⟨v440, rfl, ho0, hb⟩
       refine ⟨_, rfl, ?_⟩
       replace HO432 := vb HO432 hb
       have HO441 := Aside0.mk (Kd.V_lower (Kd.V_mono (ok' := fun k_ => (w.heap.size ≤ k_) ∧ some k_ ≠ (.slice Ao28 x6_1.length co28 : Value).ownBlock ∧ some k_ ≠ (.slice Ao40 t435.length co40 : Value).ownBlock ∧ k_ ≠ gb422 ∧ k_ ≠ gb423 ∧ k_ ≠ gb433) ho0 (fun k_ hk_ => ⟨(Nat.le_trans (below_size (belt HB)) hk_), (Kd.fresh' (Kd.R_lt (rt HO_6)) k_ hk_), (Kd.fresh' (Kd.R_lt (rt HO437)) k_ hk_), (Kd.freshB (blkt BK422) k_ hk_), (Kd.freshB (blkt BK423) k_ hk_), (Kd.freshB (blkt BK433) k_ hk_)⟩)) (below_size (belt HB)))
       replace HO_6 := rb HO_6 hb
       replace HO437 := rb HO437 hb
       replace BK422 := blkb BK422 hb
       replace BK423 := blkb BK423 hb
       replace BK433 := blkb BK433 hb
       replace HB := belb HB hb
       (try clear hb)
       (try clear hb2)
       (try clear hk)
       (try clear hi)
       (try clear ho0)
       obtain ⟨Ao43, co43, eo43⟩ := Kd.V_slice HO441.out
       (first | subst eo43 | (injection eo43 with f1_ f2_ f3_; have f4_ := f1_.symm; have f5_ := f3_.symm; clear f1_ f2_ f3_; subst f4_; subst f5_))
       refine hK.out _ _ ⟨bc BK433 0, bc BK433 1⟩ (fun hHeld => ?_)
       clear hK K
       refine norm_ (a' := ?_) ?_ ?_
       rotate_left
       ·show Act.put _ (some 51) _ = _
        simp only [Act.put, List.setIfInBounds_toArray, List.set_cons_zero, List.set_cons_succ, i64_w, i32_w]
        rfl
       refine last_ (i := 3) (N := none) #[true, true, true, true] rfl rfl (by kernel_rfl) (by decide) (fun K hK => ?_)
       have hs42 : w41.cell? ⟨gb433, 0, none⟩ = some (.bool t429) := bc BK433 0
       have hfs42 := blk_frozen BK433.out 0
       have hns42_0 := NB422_433.out
       have hns42_1 := NB423_433.out
       have hms42_0 := NB433_422.out
       have hms42_1 := NB433_423.out
       have hs44 : w41.cell? ⟨gb433, 1, none⟩ = some (.slice Ao34 t430.length co34) := bc BK433 1
       have hfs44 := blk_frozen BK433.out 1
       have hns44_0 := NB422_433.out
       have hns44_1 := NB423_433.out
       have hms44_0 := NB433_422.out
       have hms44_1 := NB433_423.out
       refine skip_ (w1 := ?_) (by rfl) rfl ?_ ?_
       rotate_left
       ·go_simp
        rfl
       refine hK.out _ _ ?_
       clear hK K
       refine done_ (by kernel_rfl) ?_
       have n0_ : Aside0 (Kd.R (Kd.int .i64) 3 ((w41.setCell ⟨gb433, 0, none⟩ (.bool t438)).setCell ⟨gb433, 1, none⟩ (.slice Ao43 t439.length co43)) w.heap.size (fun k_ => (w.heap.size ≤ k_) ∧ some k_ ≠ (.slice Ao40 t435.length co40 : Value).ownBlock) (.slice Ao28 x6_1.length co28) x6_1) := ⟨by (with_reducible repeat (first | apply Kd.R_alloc | apply Kd.R_drewN | apply Kd.R_drew)); exact Kd.R_mono (Kd.R_far (p := ⟨gb433, 1, none⟩) (Kd.R_far (p := ⟨gb433, 0, none⟩) (Kd.R_types HO_6.out BK433.out (by decide)) (fun _ hk => hk.2) (.bool t438)) (fun _ hk => hk.2) (.slice Ao43 t439.length co43)) (fun _ hk => ⟨hk.1.1, hk.1.2⟩)⟩
       have n1_ : Aside0 (Kd.V (Kd.int .i64) 3 ((w41.setCell ⟨gb433, 0, none⟩ (.bool t438)).setCell ⟨gb433, 1, none⟩ (.slice Ao43 t439.length co43)) w.heap.size (fun k_ => (w.heap.size ≤ k_) ∧ some k_ ≠ (.slice Ao40 t435.length co40 : Value).ownBlock ∧ k_ ≠ gb422 ∧ k_ ≠ gb423 ∧ k_ ≠ gb433) (.slice Ao34 t430.length co34) t430) := ⟨by (with_reducible repeat (first | apply Kd.V_alloc | apply Kd.V_drewN | apply Kd.V_drew)); exact Kd.V_mono (Kd.V_far (p := ⟨gb433, 1, none⟩) (Kd.V_far (p := ⟨gb433, 0, none⟩) (Kd.V_mono HO432.out (fun k_ hk => (⟨hk, hk.1.2.2.2⟩ : _ ∧ k_ ≠ gb433))) (fun _ hk => hk.2) (.bool t438)) (fun _ hk => hk.2) (.slice Ao43 t439.length co43)) (fun _ hk => ⟨hk.1.1.1, ⟨hk.1.2, ⟨hk.1.1.2.1, ⟨hk.1.1.2.2.1, hk.1.1.2.2.2⟩⟩⟩⟩)⟩
       have n2_ : Aside0 (Kd.R (Kd.int .i64) 3 ((w41.setCell ⟨gb433, 0, none⟩ (.bool t438)).setCell ⟨gb433, 1, none⟩ (.slice Ao43 t439.length co43)) w.heap.size (fun k_ => (w.heap.size ≤ k_) ∧ some k_ ≠ (.slice Ao28 x6_1.length co28 : Value).ownBlock) (.slice Ao40 t435.length co40) t435) := ⟨by (with_reducible repeat (first | apply Kd.R_alloc | apply Kd.R_drewN | apply Kd.R_drew)); exact Kd.R_mono (Kd.R_far (p := ⟨gb433, 1, none⟩) (Kd.R_far (p := ⟨gb433, 0, none⟩) (Kd.R_types HO437.out BK433.out (by decide)) (fun _ hk => hk.2) (.bool t438)) (fun _ hk => hk.2) (.slice Ao43 t439.length co43)) (fun _ hk => ⟨hk.1.1.1, hk.1.2⟩)⟩
       have n3_ : Aside0 (Kd.V (Kd.int .i64) 3 ((w41.setCell ⟨gb433, 0, none⟩ (.bool t438)).setCell ⟨gb433, 1, none⟩ (.slice Ao43 t439.length co43)) w.heap.size (fun k_ => (w.heap.size ≤ k_) ∧ some k_ ≠ (.slice Ao28 x6_1.length co28 : Value).ownBlock ∧ some k_ ≠ (.slice Ao40 t435.length co40 : Value).ownBlock ∧ k_ ≠ gb422 ∧ k_ ≠ gb423 ∧ k_ ≠ gb433) (.slice Ao43 t439.length co43) t439) := ⟨by (with_reducible repeat (first | apply Kd.V_alloc | apply Kd.V_drewN | apply Kd.V_drew)); exact Kd.V_mono (Kd.V_far (p := ⟨gb433, 1, none⟩) (Kd.V_far (p := ⟨gb433, 0, none⟩) (Kd.V_mono HO441.out (fun k_ hk => (⟨hk, hk.2.2.2.2.2⟩ : _ ∧ k_ ≠ gb433))) (fun _ hk => hk.2) (.bool t438)) (fun _ hk => hk.2) (.slice Ao43 t439.length co43)) (fun _ hk => ⟨hk.1.1, ⟨hk.1.2.1, ⟨hk.1.2.2.1, ⟨hk.1.2.2.2.1, ⟨hk.1.2.2.2.2.1, hk.1.2.2.2.2.2⟩⟩⟩⟩⟩)⟩
       have n4_ : Aside0 (((w41.setCell ⟨gb433, 0, none⟩ (.bool t438)).setCell ⟨gb433, 1, none⟩ (.slice Ao43 t439.length co43)).heap[gb422]? = some (.cells #[.bool true, .slice A0_1 l0_1.length c0_1] 28 (0, 0))) := ⟨by (with_reducible repeat (first | refine blk_drewN ?_ _ | refine blk_drew ?_ | refine blk_alloc ?_ _)); refine blk_far ?_ NB422_433.out _; (with_reducible repeat (first | refine blk_drewN ?_ _ | refine blk_drew ?_ | refine blk_alloc ?_ _)); refine blk_far ?_ NB422_433.out _; exact blkt BK422⟩
       have n5_ : Aside0 (((w41.setCell ⟨gb433, 0, none⟩ (.bool t438)).setCell ⟨gb433, 1, none⟩ (.slice Ao43 t439.length co43)).heap[gb423]? = some (.cells #[.bool false, .slice none 0 0] 28 (0, 0))) := ⟨by (with_reducible repeat (first | refine blk_drewN ?_ _ | refine blk_drew ?_ | refine blk_alloc ?_ _)); refine blk_far ?_ NB423_433.out _; (with_reducible repeat (first | refine blk_drewN ?_ _ | refine blk_drew ?_ | refine blk_alloc ?_ _)); refine blk_far ?_ NB423_433.out _; exact blkt BK423⟩
       have n6_ : Aside0 (((w41.setCell ⟨gb433, 0, none⟩ (.bool t438)).setCell ⟨gb433, 1, none⟩ (.slice Ao43 t439.length co43)).heap[gb433]? = some (.cells #[.bool t438, .slice Ao43 t439.length co43] 28 (0, 0))) := ⟨by (with_reducible repeat (first | refine blk_drewN ?_ _ | refine blk_drew ?_ | refine blk_alloc ?_ _)); refine blk_put (cs := #[.bool t438, .slice Ao34 t430.length co34]) ?_ 1 _ rfl; (with_reducible repeat (first | refine blk_drewN ?_ _ | refine blk_drew ?_ | refine blk_alloc ?_ _)); refine blk_put (cs := #[.bool t429, .slice Ao34 t430.length co34]) ?_ 0 _ rfl; exact blkt BK433⟩
       have n7_ : Aside0 (Below w.heap.size w ((w41.setCell ⟨gb433, 0, none⟩ (.bool t438)).setCell ⟨gb433, 1, none⟩ (.slice Ao43 t439.length co43))) := ⟨belt HB⟩
       (try clear HO_6)
       (try clear HO432)
       (try clear HO437)
       (try clear HO441)
       (try clear BK422)
       (try clear BK423)
       (try clear BK433)
       (try clear HB)
       generalize ((w41.setCell ⟨gb433, 0, none⟩ (.bool t438)).setCell ⟨gb433, 1, none⟩ (.slice Ao43 t439.length co43)) = w45 at n0_ n1_ n2_ n3_ n4_ n5_ n6_ n7_ ⊢
       have HO_6 := n0_
       have HO432 := n1_
       have HO437 := n2_
       have HO441 := n3_
       have BK422 := n4_
       have BK423 := n5_
       have BK433 := n6_
       have HB := n7_
       clear n0_ n1_ n2_ n3_ n4_ n5_ n6_ n7_
       have hcz46_0 : w45.cell? ⟨gb433, 0, none⟩ = some (.bool t438) := bc BK433 0
       have hcz46_1 : w45.cell? ⟨gb433, 1, none⟩ = some (.slice Ao43 t439.length co43) := bc BK433 1
       have hfz46_0 := blk_frozen BK433.out 0
       have hfz46_1 := blk_frozen BK433.out 1
       try go_wp2_with (first | ((with_reducible refine gate_callee (f := 61) rfl ?_); refine goesL_ (some 56) rfl rfl Try.func61 (by kernel_rfl) rfl #[.agg #[.bool t438, .slice Ao43 t439.length co43]] rfl argt ?_; (with_reducible refine (turnstoneref01_Neg.calls k1 t438 (fun k_ => ((w.heap.size ≤ k_) ∧ (some k_ ≠ (.slice Ao28 x6_1.length co28 : Value).ownBlock ∧ (some k_ ≠ (.slice Ao40 t435.length co40 : Value).ownBlock ∧ (k_ ≠ gb422 ∧ (k_ ≠ gb423 ∧ k_ ≠ gb433)))))) _ _ t439 t442 t443 _ ?side1 A27.out).mono ?_); (case side1 => exact HO441.out); rintro e w47 ⟨v444, rfl, ho0, hb⟩; refine ⟨_, rfl, ?_⟩; replace HO432 := vb HO432 hb; replace HO441 := vb HO441 hb; have HO445 := Aside0.mk (Kd.V_lower (Kd.V_mono (ok' := fun k_ => (w.heap.size ≤ k_) ∧ some k_ ≠ (.slice Ao28 x6_1.length co28 : Value).ownBlock ∧ some k_ ≠ (.slice Ao40 t435.length co40 : Value).ownBlock ∧ k_ ≠ gb422 ∧ k_ ≠ gb423 ∧ k_ ≠ gb433) ho0 (fun k_ hk_ => ⟨Or.elim hk_ (fun hs_ => hs_.1) (fun hn_ => (Nat.le_trans (below_size (belt HB)) hn_)), Or.elim hk_ (fun hs_ => hs_.2.1) (fun hn_ => (Kd.fresh' (Kd.R_lt (rt HO_6)) k_ hn_)), Or.elim hk_ (fun hs_ => hs_.2.2.1) (fun hn_ => (Kd.fresh' (Kd.R_lt (rt HO437)) k_ hn_)), Or.elim hk_ (fun hs_ => hs_.2.2.2.1) (fun hn_ => (Kd.freshB (blkt BK422) k_ hn_)), Or.elim hk_ (fun hs_ => hs_.2.2.2.2.1) (fun hn_ => (Kd.freshB (blkt BK423) k_ hn_)), Or.elim hk_ (fun hs_ => hs_.2.2.2.2.2) (fun hn_ => (Kd.freshB (blkt BK433) k_ hn_))⟩)) (below_size (belt HB))); replace HO_6 := rb HO_6 hb; replace HO437 := rb HO437 hb; replace BK422 := blkb BK422 hb; replace BK423 := blkb BK423 hb; replace BK433 := blkb BK433 hb; replace HB := belb HB hb; (try clear hb); (try clear hb2); (try clear hk); (try clear hi); (try clear ho0); have hcz48_0 : w47.cell? ⟨gb423, 0, none⟩ = some (.bool false) := bc BK423 0; have hcz48_1 : w47.cell? ⟨gb423, 1, none⟩ = some (.slice none 0 0) := bc BK423 1; have hfz48_0 := blk_frozen BK423.out 0; have hfz48_1 := blk_frozen BK423.out 1; obtain ⟨Ao49, co49, eo49⟩ := Kd.V_slice HO445.out; subst eo49))
       refine bodyPost_ret (results_ct rfl _ _ gb423 28 #[.bool t442, .slice Ao49 t443.length co49] (0, 0) _ rfl (by (with_reducible repeat (first | refine blk_drewN ?_ _ | refine blk_drew ?_ | refine blk_alloc ?_ _)); refine blk_put (cs := #[.bool t442, .slice none 0 0]) ?_ 1 _ rfl; (with_reducible repeat (first | refine blk_drewN ?_ _ | refine blk_drew ?_ | refine blk_alloc ?_ _)); refine blk_put (cs := #[.bool false, .slice none 0 0]) ?_ 0 _ rfl; exact blkt BK423) Try.underlying28 rfl (by kernel_rfl)) rfl ?_
       exact ⟨_, by first | rfl | (simp [errW_none, errW_some] <;> rfl) | (simp [*, errW_none, errW_some] <;> rfl), by (with_reducible repeat (first | apply Kd.V_alloc | apply Kd.V_drewN | apply Kd.V_drew)); exact Kd.V_mono (Kd.V_far (p := ⟨gb423, 1, none⟩) (Kd.V_far (p := ⟨gb423, 0, none⟩) (Kd.V_mono HO445.out (fun k_ hk => (⟨hk, hk.2.2.2.2.1⟩ : _ ∧ k_ ≠ gb423))) (fun _ hk => hk.2) (.bool t442)) (fun _ hk => hk.2) (.slice Ao49 t443.length co49)) (fun _ hk => hk.1.1), belt HB⟩
      rw [if_neg c24] at H
      have c24b0 : decide (0 < x7_1) = false := decide_eq_false c24
      clear c24
      replace H := Option.bind_eq_some_iff.mp H
      obtain ⟨⟨t446, t447⟩, A500, H⟩ := H
      replace H : (some (t446, t447, x7_1)) = some (r1, r2, r3) := H
      have A50 := Aside0.mk A500
      clear A500
      simp only [Option.some.injEq, Prod.mk.injEq] at H
      obtain ⟨rfl, rfl, rfl⟩ := H
      obtain ⟨Ao51, co51, eo51⟩ := Kd.R_slice HO_6.out
      subst eo51
      go_wp2_with (first | ((with_reducible refine gate_callee (f := 62) rfl ?_); refine goesL_ (some 41) rfl rfl Try.func62 (by kernel_rfl) rfl #[.agg #[.bool false, .slice Ao51 x6_1.length co51]] rfl argt ?_; (with_reducible refine (turnstoneref01_trim.calls k1 false (fun k_ => some k_ = (.slice Ao51 x6_1.length co51 : Value).ownBlock) _ _ x6_1 t429 t430 _ ?side1 A22.out).mono ?_); (case side1 => exact Kd.R_V (Kd.R_tight rfl (Kd.R_types (Kd.R_types (HO_6.out) BK422.out (by decide)) BK423.out (by decide)))); rintro e w52 ⟨v431, rfl, ho0, hb⟩; refine ⟨_, rfl, ?_⟩; have HO432 := Aside0.mk (Kd.V_lower (Kd.V_mono (ok' := fun k_ => (w.heap.size ≤ k_) ∧ k_ ≠ gb422 ∧ k_ ≠ gb423) ho0 (fun k_ hk_ => ⟨Or.elim hk_ (fun hs_ => ((Kd.R_types (Kd.R_types (HO_6.out) BK422.out (by decide)) BK423.out (by decide)).1 k_ hs_.symm).1.1) (fun hn_ => (Nat.le_trans (below_size (belt HB)) hn_)), Or.elim hk_ (fun hs_ => ((Kd.R_types (Kd.R_types (HO_6.out) BK422.out (by decide)) BK423.out (by decide)).1 k_ hs_.symm).1.2) (fun hn_ => (Kd.freshB (blkt BK422) k_ hn_)), Or.elim hk_ (fun hs_ => ((Kd.R_types (Kd.R_types (HO_6.out) BK422.out (by decide)) BK423.out (by decide)).1 k_ hs_.symm).2) (fun hn_ => (Kd.freshB (blkt BK423) k_ hn_))⟩)) (below_size (belt HB))); replace HO_6 := rb HO_6 hb; replace BK422 := blkb BK422 hb; replace BK423 := blkb BK423 hb; replace HB := belb HB hb; (try clear hb); (try clear hb2); (try clear hk); (try clear hi); (try clear ho0)) | ((with_reducible refine gate_dst (N := 9) rfl ?_); refine box_event ?hg (N := 9) ?hd (cs := #[.bool false, .slice none 0 0]) (t := 28) ?hr ?_; (case hd => rfl); (case hg => rfl); (case hr => first | (go_simp; done) | (go_simp; rfl)); intro gb433 hg w53 hbox hb; replace HO_6 := rb HO_6 hb; replace HO432 := Aside0.mk (Kd.V_below (Kd.V_elderB (vt HO432) gb433 (Nat.le_of_eq hg.symm)) hb); have BK433 := Aside0.mk (hbox); have GW433 := bels HB hg; have GE433 := bels HB hg; have NB422_433 := blkl BK422 hg; have NB433_422 := blkg BK422 hg; have NB423_433 := blkl BK423 hg; have NB433_423 := blkg BK423 hg; replace BK422 := blkb BK422 hb; replace BK423 := blkb BK423 hb; replace HB := belb HB hb; clear hb hbox hg; have hnb54 := NB433_422.out; have hnc54 := NB422_433.out; have hnb55 := NB433_423.out; have hnc55 := NB423_433.out; have hcz56_0 : w53.cell? ⟨gb433, 0, none⟩ = some (.bool false) := bc BK433 0; have hcz56_1 : w53.cell? ⟨gb433, 1, none⟩ = some (.slice none 0 0) := bc BK433 1; have hfz56_0 := blk_frozen BK433.out 0; have hfz56_1 := blk_frozen BK433.out 1; obtain ⟨Ao57, co57, eo57⟩ := Kd.V_slice HO432.out; subst eo57) | ((with_reducible refine gate_store (t := 28) (p := 9) rfl ?_); refine store_event (t := 28) (p := 9) (v := ?vo_w58) (w1 := ((w53.setCell ⟨gb433, 0, none⟩ (.bool t429)).setCell ⟨gb433, 1, none⟩ (.slice Ao57 t430.length co57))) ?hg ?ho ?hn ?hr ?_; (case ho => rfl); (case hg => rfl); (case hn => rfl); (case hr => first | (go_simp; done) | (go_simp; rfl)); intro w58 hw; replace HO_6 : Aside0 (Kd.R (Kd.int .i64) 3 w58 w.heap.size (fun k_ => (w.heap.size ≤ k_)) (.slice Ao51 x6_1.length co51) x6_1) := ⟨(by rw [hw]; exact (by (with_reducible repeat (first | apply Kd.R_alloc | apply Kd.R_drewN | apply Kd.R_drew)); exact Kd.R_mono (Kd.R_far (p := ⟨gb433, 1, none⟩) (Kd.R_far (p := ⟨gb433, 0, none⟩) (Kd.R_types HO_6.out BK433.out (by decide)) (fun _ hk => hk.2) (.bool t429)) (fun _ hk => hk.2) (.slice Ao57 t430.length co57)) (fun _ hk => hk.1)))⟩; replace HO432 : Aside0 (Kd.V (Kd.int .i64) 3 w58 w.heap.size (fun k_ => (w.heap.size ≤ k_) ∧ k_ ≠ gb422 ∧ k_ ≠ gb423 ∧ k_ ≠ gb433) (.slice Ao57 t430.length co57) t430) := ⟨(by rw [hw]; exact (by (with_reducible repeat (first | apply Kd.V_alloc | apply Kd.V_drewN | apply Kd.V_drew)); exact Kd.V_mono (Kd.V_far (p := ⟨gb433, 1, none⟩) (Kd.V_far (p := ⟨gb433, 0, none⟩) (Kd.V_mono HO432.out (fun k_ hk => (⟨hk, hk.2⟩ : _ ∧ k_ ≠ gb433))) (fun _ hk => hk.2) (.bool t429)) (fun _ hk => hk.2) (.slice Ao57 t430.length co57)) (fun _ hk => ⟨hk.1.1.1, ⟨hk.1.1.2.1, ⟨hk.1.1.2.2, hk.1.2⟩⟩⟩)))⟩; replace BK422 : Aside0 (w58.heap[gb422]? = some (.cells #[.bool true, .slice A0_1 l0_1.length c0_1] 28 (0, 0))) := ⟨(by rw [hw]; exact (by (with_reducible repeat (first | refine blk_drewN ?_ _ | refine blk_drew ?_ | refine blk_alloc ?_ _)); refine blk_far ?_ NB422_433.out _; (with_reducible repeat (first | refine blk_drewN ?_ _ | refine blk_drew ?_ | refine blk_alloc ?_ _)); refine blk_far ?_ NB422_433.out _; exact blkt BK422))⟩; replace BK423 : Aside0 (w58.heap[gb423]? = some (.cells #[.bool false, .slice none 0 0] 28 (0, 0))) := ⟨(by rw [hw]; exact (by (with_reducible repeat (first | refine blk_drewN ?_ _ | refine blk_drew ?_ | refine blk_alloc ?_ _)); refine blk_far ?_ NB423_433.out _; (with_reducible repeat (first | refine blk_drewN ?_ _ | refine blk_drew ?_ | refine blk_alloc ?_ _)); refine blk_far ?_ NB423_433.out _; exact blkt BK423))⟩; replace HB : Aside0 (Below w.heap.size w w58) := ⟨(by rw [hw]; exact (belt HB))⟩; replace BK433 : Aside0 (w58.heap[gb433]? = some (.cells #[.bool t429, .slice Ao57 t430.length co57] 28 (0, 0))) := ⟨(by rw [hw]; exact (by (with_reducible repeat (first | refine blk_drewN ?_ _ | refine blk_drew ?_ | refine blk_alloc ?_ _)); refine blk_put (cs := #[.bool t429, .slice none 0 0]) ?_ 1 _ rfl; (with_reducible repeat (first | refine blk_drewN ?_ _ | refine blk_drew ?_ | refine blk_alloc ?_ _)); refine blk_put (cs := #[.bool false, .slice none 0 0]) ?_ 0 _ rfl; exact blkt BK433))⟩; clear hw; have hnb59 := NB422_423.out; have hnc59 := NB423_422.out; have hcz60_0 : w58.cell? ⟨gb422, 0, none⟩ = some (.bool true) := bc BK422 0; have hcz60_1 : w58.cell? ⟨gb422, 1, none⟩ = some (.slice A0_1 l0_1.length c0_1) := bc BK422 1; have hfz60_0 := blk_frozen BK422.out 0; have hfz60_1 := blk_frozen BK422.out 1; have hcz61_0 : w58.cell? ⟨gb433, 0, none⟩ = some (.bool t429) := bc BK433 0; have hcz61_1 : w58.cell? ⟨gb433, 1, none⟩ = some (.slice Ao57 t430.length co57) := bc BK433 1; have hfz61_0 := blk_frozen BK433.out 0; have hfz61_1 := blk_frozen BK433.out 1) | ((with_reducible refine gate_callee (f := 61) rfl ?_); refine goesL_ (some 56) rfl rfl Try.func61 (by kernel_rfl) rfl #[.agg #[.bool t429, .slice Ao57 t430.length co57]] rfl argt ?_; (with_reducible refine (turnstoneref01_Neg.calls k1 t429 (fun k_ => ((w.heap.size ≤ k_) ∧ (k_ ≠ gb422 ∧ (k_ ≠ gb423 ∧ k_ ≠ gb433)))) _ _ t430 t446 t447 _ ?side1 A50.out).mono ?_); (case side1 => exact HO432.out); rintro e w62 ⟨v448, rfl, ho0, hb⟩; refine ⟨_, rfl, ?_⟩; replace HO_6 := rb HO_6 hb; replace HO432 := vb HO432 hb; have HO449 := Aside0.mk (Kd.V_lower (Kd.V_mono (ok' := fun k_ => (w.heap.size ≤ k_) ∧ k_ ≠ gb422 ∧ k_ ≠ gb423 ∧ k_ ≠ gb433) ho0 (fun k_ hk_ => ⟨Or.elim hk_ (fun hs_ => hs_.1) (fun hn_ => (Nat.le_trans (below_size (belt HB)) hn_)), Or.elim hk_ (fun hs_ => hs_.2.1) (fun hn_ => (Kd.freshB (blkt BK422) k_ hn_)), Or.elim hk_ (fun hs_ => hs_.2.2.1) (fun hn_ => (Kd.freshB (blkt BK423) k_ hn_)), Or.elim hk_ (fun hs_ => hs_.2.2.2) (fun hn_ => (Kd.freshB (blkt BK433) k_ hn_))⟩)) (below_size (belt HB))); replace BK422 := blkb BK422 hb; replace BK423 := blkb BK423 hb; replace BK433 := blkb BK433 hb; replace HB := belb HB hb; (try clear hb); (try clear hb2); (try clear hk); (try clear hi); (try clear ho0); have hcz63_0 : w62.cell? ⟨gb423, 0, none⟩ = some (.bool false) := bc BK423 0; have hcz63_1 : w62.cell? ⟨gb423, 1, none⟩ = some (.slice none 0 0) := bc BK423 1; have hfz63_0 := blk_frozen BK423.out 0; have hfz63_1 := blk_frozen BK423.out 1; obtain ⟨Ao64, co64, eo64⟩ := Kd.V_slice HO449.out; subst eo64))
      refine bodyPost_ret (results_ct rfl _ _ gb423 28 #[.bool t446, .slice Ao64 t447.length co64] (0, 0) _ rfl (by (with_reducible repeat (first | refine blk_drewN ?_ _ | refine blk_drew ?_ | refine blk_alloc ?_ _)); refine blk_put (cs := #[.bool t446, .slice none 0 0]) ?_ 1 _ rfl; (with_reducible repeat (first | refine blk_drewN ?_ _ | refine blk_drew ?_ | refine blk_alloc ?_ _)); refine blk_put (cs := #[.bool false, .slice none 0 0]) ?_ 0 _ rfl; exact blkt BK423) Try.underlying28 rfl (by kernel_rfl)) rfl ?_
      exact ⟨_, by first | rfl | (simp [errW_none, errW_some] <;> rfl) | (simp [*, errW_none, errW_some] <;> rfl), by (with_reducible repeat (first | apply Kd.V_alloc | apply Kd.V_drewN | apply Kd.V_drew)); exact Kd.V_mono (Kd.V_far (p := ⟨gb423, 1, none⟩) (Kd.V_far (p := ⟨gb423, 0, none⟩) (Kd.V_mono HO449.out (fun k_ hk => (⟨hk, hk.2.2.1⟩ : _ ∧ k_ ≠ gb423))) (fun _ hk => hk.2) (.bool t446)) (fun _ hk => hk.2) (.slice Ao64 t447.length co64)) (fun _ hk => hk.1.1), belt HB⟩
     replace c23 := Bool.eq_false_iff.mpr c23
     subst c23
     have H1 : (some (t429, t430, x7_1)) = some (r1, r2, r3) := by rw [if_neg (show ¬ (false = true) by decide)] at H; exact H
     clear H
     have H := H1
     clear H1
     simp only [Option.some.injEq, Prod.mk.injEq] at H
     obtain ⟨rfl, rfl, rfl⟩ := H
     obtain ⟨Ao65, co65, eo65⟩ := Kd.R_slice HO_6.out
     subst eo65
     go_wp2_with (first | ((with_reducible refine gate_callee (f := 62) rfl ?_); refine goesL_ (some 41) rfl rfl Try.func62 (by kernel_rfl) rfl #[.agg #[.bool false, .slice Ao65 x6_1.length co65]] rfl argt ?_; (with_reducible refine (turnstoneref01_trim.calls k1 false (fun k_ => some k_ = (.slice Ao65 x6_1.length co65 : Value).ownBlock) _ _ x6_1 t429 t430 _ ?side1 A22.out).mono ?_); (case side1 => exact Kd.R_V (Kd.R_tight rfl (Kd.R_types (Kd.R_types (HO_6.out) BK422.out (by decide)) BK423.out (by decide)))); rintro e w66 ⟨v431, rfl, ho0, hb⟩; refine ⟨_, rfl, ?_⟩; have HO432 := Aside0.mk (Kd.V_lower (Kd.V_mono (ok' := fun k_ => (w.heap.size ≤ k_) ∧ k_ ≠ gb422 ∧ k_ ≠ gb423) ho0 (fun k_ hk_ => ⟨Or.elim hk_ (fun hs_ => ((Kd.R_types (Kd.R_types (HO_6.out) BK422.out (by decide)) BK423.out (by decide)).1 k_ hs_.symm).1.1) (fun hn_ => (Nat.le_trans (below_size (belt HB)) hn_)), Or.elim hk_ (fun hs_ => ((Kd.R_types (Kd.R_types (HO_6.out) BK422.out (by decide)) BK423.out (by decide)).1 k_ hs_.symm).1.2) (fun hn_ => (Kd.freshB (blkt BK422) k_ hn_)), Or.elim hk_ (fun hs_ => ((Kd.R_types (Kd.R_types (HO_6.out) BK422.out (by decide)) BK423.out (by decide)).1 k_ hs_.symm).2) (fun hn_ => (Kd.freshB (blkt BK423) k_ hn_))⟩)) (below_size (belt HB))); replace HO_6 := rb HO_6 hb; replace BK422 := blkb BK422 hb; replace BK423 := blkb BK423 hb; replace HB := belb HB hb; (try clear hb); (try clear hb2); (try clear hk); (try clear hi); (try clear ho0)) | ((with_reducible refine gate_dst (N := 9) rfl ?_); refine box_event ?hg (N := 9) ?hd (cs := #[.bool false, .slice none 0 0]) (t := 28) ?hr ?_; (case hd => rfl); (case hg => rfl); (case hr => first | (go_simp; done) | (go_simp; rfl)); intro gb433 hg w67 hbox hb; replace HO_6 := rb HO_6 hb; replace HO432 := Aside0.mk (Kd.V_below (Kd.V_elderB (vt HO432) gb433 (Nat.le_of_eq hg.symm)) hb); have BK433 := Aside0.mk (hbox); have GW433 := bels HB hg; have GE433 := bels HB hg; have NB422_433 := blkl BK422 hg; have NB433_422 := blkg BK422 hg; have NB423_433 := blkl BK423 hg; have NB433_423 := blkg BK423 hg; replace BK422 := blkb BK422 hb; replace BK423 := blkb BK423 hb; replace HB := belb HB hb; clear hb hbox hg; have hnb68 := NB433_422.out; have hnc68 := NB422_433.out; have hnb69 := NB433_423.out; have hnc69 := NB423_433.out; have hcz70_0 : w67.cell? ⟨gb433, 0, none⟩ = some (.bool false) := bc BK433 0; have hcz70_1 : w67.cell? ⟨gb433, 1, none⟩ = some (.slice none 0 0) := bc BK433 1; have hfz70_0 := blk_frozen BK433.out 0; have hfz70_1 := blk_frozen BK433.out 1; obtain ⟨Ao71, co71, eo71⟩ := Kd.V_slice HO432.out; subst eo71; have hnb72 := NB422_423.out; have hnc72 := NB423_422.out; have hcz73_0 : w67.cell? ⟨gb422, 0, none⟩ = some (.bool false) := bc BK422 0; have hcz73_1 : w67.cell? ⟨gb422, 1, none⟩ = some (.slice A0_1 l0_1.length c0_1) := bc BK422 1; have hfz73_0 := blk_frozen BK422.out 0; have hfz73_1 := blk_frozen BK422.out 1; have hcz74_0 : w67.cell? ⟨gb423, 0, none⟩ = some (.bool false) := bc BK423 0; have hcz74_1 : w67.cell? ⟨gb423, 1, none⟩ = some (.slice none 0 0) := bc BK423 1; have hfz74_0 := blk_frozen BK423.out 0; have hfz74_1 := blk_frozen BK423.out 1))
     refine bodyPost_ret (results_ct rfl _ _ gb423 28 #[.bool t429, .slice Ao71 t430.length co71] (0, 0) _ rfl (by (with_reducible repeat (first | refine blk_drewN ?_ _ | refine blk_drew ?_ | refine blk_alloc ?_ _)); refine blk_put (cs := #[.bool t429, .slice none 0 0]) ?_ 1 _ rfl; (with_reducible repeat (first | refine blk_drewN ?_ _ | refine blk_drew ?_ | refine blk_alloc ?_ _)); refine blk_put (cs := #[.bool false, .slice none 0 0]) ?_ 0 _ rfl; (with_reducible repeat (first | refine blk_drewN ?_ _ | refine blk_drew ?_ | refine blk_alloc ?_ _)); refine blk_far ?_ NB423_433.out _; (with_reducible repeat (first | refine blk_drewN ?_ _ | refine blk_drew ?_ | refine blk_alloc ?_ _)); refine blk_far ?_ NB423_433.out _; exact blkt BK423) Try.underlying28 rfl (by kernel_rfl)) rfl ?_
     exact ⟨_, by first | rfl | (simp [errW_none, errW_some] <;> rfl) | (simp [*, errW_none, errW_some] <;> rfl), by (with_reducible repeat (first | apply Kd.V_alloc | apply Kd.V_drewN | apply Kd.V_drew)); exact Kd.V_mono (Kd.V_far (p := ⟨gb423, 1, none⟩) (Kd.V_far (p := ⟨gb423, 0, none⟩) (Kd.V_far (p := ⟨gb433, 1, none⟩) (Kd.V_far (p := ⟨gb433, 0, none⟩) (Kd.V_mono (Kd.V_mono HO432.out (fun k_ hk => (⟨hk, hk.2⟩ : _ ∧ k_ ≠ gb433))) (fun k_ hk => (⟨hk, hk.1.1.2.2⟩ : _ ∧ k_ ≠ gb423))) (fun _ hk => hk.1.2) (.bool t429)) (fun _ hk => hk.1.2) (.slice Ao71 t430.length co71)) (fun _ hk => hk.2) (.bool t429)) (fun _ hk => hk.2) (.slice Ao71 t430.length co71)) (fun _ hk => hk.1.1.1.1), belt HB⟩
  rw [if_neg c4] at H
  exact absurd H (by simp)
 rw [if_neg c3] at H
 exact absurd H (by simp)


/-! ### turnstoneref01_Small: function 78 -/
def turnstoneref01_Small.f (k : Nat) (a0_0 : Bool) (l0_1 : List Int) : Option (Bool) := (turnstoneref01_Power.f k 63).bind fun bt451 => ((turnstoneref01_Cmp.f k a0_0 l0_1 bt451.1 bt451.2).bind fun t456 => (if t456 < 0 then ((turnstoneref01_Neg.f k bt451.1 bt451.2).bind fun bt457 => ((turnstoneref01_Cmp.f k a0_0 l0_1 bt457.1 bt457.2).bind fun t461 => (some (decide (t461 ≥ 0))))) else (some false)))
theorem turnstoneref01_Small.mono : ∀ a0 a1 k, LeO (turnstoneref01_Small.f k a0 a1) (turnstoneref01_Small.f (k + 1) a0 a1) := by
 intro a0 a1 k
 unfold turnstoneref01_Small.f
 repeat' first
   | (with_reducible exact turnstoneref01_Cmp.mono _ _ _ _ _)
   | (with_reducible exact turnstoneref01_Neg.mono _ _ _)
   | (with_reducible exact turnstoneref01_Power.mono _ _)
   | (with_reducible exact LeO.refl _)
   | (with_reducible exact LeO.none _)
   | (with_reducible refine LeO.ite ?_ ?_)
   | (with_reducible refine LeO.bind ?_ (fun _ => ?_))
   | exact turnstoneref01_Cmp.mono _ _ _ _ _
   | exact turnstoneref01_Neg.mono _ _ _
   | exact turnstoneref01_Power.mono _ _
   | exact LeO.none _
   | refine LeO.ite ?_ ?_
   | refine LeO.bind ?_ (fun _ => ?_)
def turnstoneref01_Small.T2 : Bool × List (List Nat × List Nat) := (true, [([], []), ([], []), ([0, 1], [0, 1]), ([2], [2]), ([3, 2], [3]), ([4], [4]), ([4], [4]), ([6, 4, 4], [4, 6]), ([5, 7, 7, 4], [4, 5, 7]), ([8, 4], [4, 8]), ([4, 9], [4, 9]), ([10, 8, 0, 1, 2, 3, 4, 5, 6, 7, 8, 9, 10], [10])])
def turnstoneref01_Small.B2 : List Nat := [0, 0, 3, 7, 15, 31, 31, 95, 255, 511, 1023, 2047]
theorem turnstoneref01_Small.tab2 : rtab .any (opsOf Try.f78 2) = turnstoneref01_Small.T2 := by kernel_rfl
theorem turnstoneref01_Small.bits2 : waitsOk turnstoneref01_Small.T2.2 turnstoneref01_Small.B2 = true := by kernel_rfl
set_option maxHeartbeats 8000000 in
set_option maxRecDepth 100000 in
theorem turnstoneref01_Small.calls (k : Nat) (a0_0 : Bool) (A0_1 : Option Addr) (c0_1 : Nat) (l0_1 : List Int) (r : Bool) (w : World) (hr0_1 : Kd.C (Kd.int .i64) w A0_1 l0_1.length l0_1) (hc0_1 : l0_1.length ≤ c0_1) (h : turnstoneref01_Small.f k a0_0 l0_1 = some r) :
  Calls Try.prog 78 #[.agg #[.bool a0_0, .slice A0_1 l0_1.length c0_1]] w fun e w' => e = .returned (.bool r) ∧ Below w.heap.size w w' := by
 have hu28 := Try.underlying28
 have HR0_1 := Aside0.mk hr0_1
 have HC0_1 := Aside0.mk hc0_1
 clear hr0_1 hc0_1
 have HB := Aside0.mk (Below.refl w.heap.size w)
 have H : ((turnstoneref01_Power.f k 63).bind fun bt451 => ((turnstoneref01_Cmp.f k a0_0 l0_1 bt451.1 bt451.2).bind fun t456 => (if t456 < 0 then ((turnstoneref01_Neg.f k bt451.1 bt451.2).bind fun bt457 => ((turnstoneref01_Cmp.f k a0_0 l0_1 bt457.1 bt457.2).bind fun t461 => (some (decide (t461 ≥ 0))))) else (some false)))) = some r := h
 clear h
 replace H := Option.bind_eq_some_iff.mp H
 obtain ⟨⟨t451, t452⟩, A20, H⟩ := H
 replace H : ((turnstoneref01_Cmp.f k a0_0 l0_1 t451 t452).bind fun t456 => (if t456 < 0 then ((turnstoneref01_Neg.f k t451 t452).bind fun bt457 => ((turnstoneref01_Cmp.f k a0_0 l0_1 bt457.1 bt457.2).bind fun t461 => (some (decide (t461 ≥ 0))))) else (some false))) = some r := H
 have A2 := Aside0.mk A20
 clear A20
 replace H := Option.bind_eq_some_iff.mp H
 obtain ⟨t456, A30, H⟩ := H
 replace H : (if t456 < 0 then ((turnstoneref01_Neg.f k t451 t452).bind fun bt457 => ((turnstoneref01_Cmp.f k a0_0 l0_1 bt457.1 bt457.2).bind fun t461 => (some (decide (t461 ≥ 0))))) else (some false)) = some r := H
 have A3 := Aside0.mk A30
 clear A30
 by_cases c4 : t456 < 0
 ·rw [if_pos c4] at H
  have c4b0 : decide (t456 < 0) = true := decide_eq_true c4
  clear c4
  replace H := Option.bind_eq_some_iff.mp H
  obtain ⟨⟨t457, t458⟩, A50, H⟩ := H
  replace H : ((turnstoneref01_Cmp.f k a0_0 l0_1 t457 t458).bind fun t461 => (some (decide (t461 ≥ 0)))) = some r := H
  have A5 := Aside0.mk A50
  clear A50
  replace H := Option.bind_eq_some_iff.mp H
  obtain ⟨t461, A60, H⟩ := H
  replace H : (some (decide (t461 ≥ 0))) = some r := H
  have A6 := Aside0.mk A60
  clear A60
  obtain rfl := Option.some.inj H
  go_enter Try.func78, Try.ntmps78
  try go_wp2_with (first | ((with_reducible refine gate_dst (N := 1) rfl ?_); refine box_event ?hg (N := 1) ?hd (cs := #[.bool a0_0, .slice A0_1 l0_1.length c0_1]) (t := 28) ?hr ?_; (case hd => rfl); (case hg => rfl); (case hr => first | (go_simp; done) | (go_simp; rfl)); intro gb450 hg w7 hbox hb; have BK450 := Aside0.mk (hbox); have GW450 := bels HB hg; have GE450 := bels HB hg; replace HB := belb HB hb; clear hb hbox hg) | ((with_reducible refine gate_callee (f := 60) rfl ?_); refine goesL_ (some 4) rfl rfl Try.func60 (by kernel_rfl) rfl #[.int .i64 63] rfl argt ?_; (with_reducible refine (turnstoneref01_Power.calls k 63 t451 t452 _ A2.out).mono ?_); rintro e w8 ⟨v453, rfl, ho0, hb⟩; refine ⟨_, rfl, ?_⟩; have HO454 := Aside0.mk (Kd.V_lower (Kd.V_mono (ok' := fun k_ => k_ ≠ gb450) ho0 (fun k_ hk_ => (Kd.freshB (blkt BK450) k_ hk_))) (below_size (belt HB))); replace BK450 := blkb BK450 hb; replace HB := belb HB hb; (try clear hb); (try clear hb2); (try clear hk); (try clear hi); (try clear ho0)) | ((with_reducible refine gate_dst (N := 3) rfl ?_); refine box_event ?hg (N := 3) ?hd (cs := #[.bool false, .slice none 0 0]) (t := 28) ?hr ?_; (case hd => rfl); (case hg => rfl); (case hr => first | (go_simp; done) | (go_simp; rfl)); intro gb455 hg w9 hbox hb; replace HO454 := Aside0.mk (Kd.V_below (Kd.V_elderB (vt HO454) gb455 (Nat.le_of_eq hg.symm)) hb); have BK455 := Aside0.mk (hbox); have GW455 := bels HB hg; have GE455 := bels HB hg; have NB450_455 := blkl BK450 hg; have NB455_450 := blkg BK450 hg; replace BK450 := blkb BK450 hb; replace HB := belb HB hb; clear hb hbox hg; have hnb10 := NB455_450.out; have hnc10 := NB450_455.out; have hcz11_0 : w9.cell? ⟨gb455, 0, none⟩ = some (.bool false) := bc BK455 0; have hcz11_1 : w9.cell? ⟨gb455, 1, none⟩ = some (.slice none 0 0) := bc BK455 1; have hfz11_0 := blk_frozen BK455.out 0; have hfz11_1 := blk_frozen BK455.out 1; obtain ⟨Ao12, co12, eo12⟩ := Kd.V_slice HO454.out; subst eo12))
  have n0_ : Aside0 (Kd.V (Kd.int .i64) 3 ((w9.setCell ⟨gb455, 0, none⟩ (.bool t451)).setCell ⟨gb455, 1, none⟩ (.slice Ao12 t452.length co12)) w.heap.size (fun k_ => k_ ≠ gb450 ∧ k_ ≠ gb455) (.slice Ao12 t452.length co12) t452) := ⟨by (with_reducible repeat (first | apply Kd.V_alloc | apply Kd.V_drewN | apply Kd.V_drew)); exact Kd.V_mono (Kd.V_far (p := ⟨gb455, 1, none⟩) (Kd.V_far (p := ⟨gb455, 0, none⟩) (Kd.V_mono HO454.out (fun k_ hk => (⟨hk, hk.2⟩ : _ ∧ k_ ≠ gb455))) (fun _ hk => hk.2) (.bool t451)) (fun _ hk => hk.2) (.slice Ao12 t452.length co12)) (fun _ hk => ⟨hk.1.1, hk.1.2⟩)⟩
  have n1_ : Aside0 (((w9.setCell ⟨gb455, 0, none⟩ (.bool t451)).setCell ⟨gb455, 1, none⟩ (.slice Ao12 t452.length co12)).heap[gb450]? = some (.cells #[.bool a0_0, .slice A0_1 l0_1.length c0_1] 28 (0, 0))) := ⟨by (with_reducible repeat (first | refine blk_drewN ?_ _ | refine blk_drew ?_ | refine blk_alloc ?_ _)); refine blk_far ?_ NB450_455.out _; (with_reducible repeat (first | refine blk_drewN ?_ _ | refine blk_drew ?_ | refine blk_alloc ?_ _)); refine blk_far ?_ NB450_455.out _; exact blkt BK450⟩
  have n2_ : Aside0 (((w9.setCell ⟨gb455, 0, none⟩ (.bool t451)).setCell ⟨gb455, 1, none⟩ (.slice Ao12 t452.length co12)).heap[gb455]? = some (.cells #[.bool t451, .slice Ao12 t452.length co12] 28 (0, 0))) := ⟨by (with_reducible repeat (first | refine blk_drewN ?_ _ | refine blk_drew ?_ | refine blk_alloc ?_ _)); refine blk_put (cs := #[.bool t451, .slice none 0 0]) ?_ 1 _ rfl; (with_reducible repeat (first | refine blk_drewN ?_ _ | refine blk_drew ?_ | refine blk_alloc ?_ _)); refine blk_put (cs := #[.bool false, .slice none 0 0]) ?_ 0 _ rfl; exact blkt BK455⟩
  have n3_ : Aside0 (Below w.heap.size w ((w9.setCell ⟨gb455, 0, none⟩ (.bool t451)).setCell ⟨gb455, 1, none⟩ (.slice Ao12 t452.length co12))) := ⟨belt HB⟩
  (try clear HO454)
  (try clear BK450)
  (try clear BK455)
  (try clear HB)
  generalize ((w9.setCell ⟨gb455, 0, none⟩ (.bool t451)).setCell ⟨gb455, 1, none⟩ (.slice Ao12 t452.length co12)) = w13 at n0_ n1_ n2_ n3_ ⊢
  have HO454 := n0_
  have BK450 := n1_
  have BK455 := n2_
  have HB := n3_
  clear n0_ n1_ n2_ n3_
  replace HO454 := Aside0.mk (Kd.V_drew HO454.out)
  replace BK450 := Aside0.mk (blk_drew BK450.out)
  replace BK455 := Aside0.mk (blk_drew BK455.out)
  replace HB := Aside0.mk (below_drew1 HB.out)
  refine start_ (n := 12) (S := fun w' => w'.cell? ⟨gb450, 0, none⟩ = some (.bool a0_0) ∧ w'.cell? ⟨gb450, 1, none⟩ = some (.slice A0_1 l0_1.length c0_1) ∧ w'.cell? ⟨gb455, 0, none⟩ = some (.bool t451) ∧ w'.cell? ⟨gb455, 1, none⟩ = some (.slice Ao12 t452.length co12)) (ds := []) #[false, false, false, false, false, false, false, false, false, false, false, false] (by kernel_rfl) rfl rfl ⟨bc BK450 0, bc BK450 1, bc BK455 0, bc BK455 1⟩ (fun hHeld => ?_); refine with_tabW turnstoneref01_Small.tab2 turnstoneref01_Small.bits2 (fun HT_ HW_ => ?_)
  generalize w13.drew = w14 at HO454 BK450 BK455 HB hHeld ⊢
  refine take_ (i := 0) (N := some 5) (v := ?_) (a' := ?_) #[true, false, false, false, false, false, false, false, false, false, false, false] rfl rfl (take_ofW HT_.out HW_.out (by kernel_rfl)) (fun _ _ _ h => h) (Or.inl ⟨by rfl, ?_⟩) hHeld ?_ ?_
  rotate_left
  ·rintro w' ⟨s0, s1, s2, s3⟩
   go_simp
   with_reducible rfl
  rotate_left
  ·simp only [Act.put, List.setIfInBounds_toArray, List.set_cons_zero, List.set_cons_succ, i64_w, i32_w]
   rfl
  refine take_ (i := 1) (N := some 6) (v := ?_) (a' := ?_) #[true, true, false, false, false, false, false, false, false, false, false, false] rfl rfl (take_ofW HT_.out HW_.out (by kernel_rfl)) (fun _ _ _ h => h) (Or.inl ⟨by rfl, ?_⟩) hHeld ?_ ?_
  rotate_left
  ·rintro w' ⟨s0, s1, s2, s3⟩
   go_simp
   with_reducible rfl
  rotate_left
  ·simp only [Act.put, List.setIfInBounds_toArray, List.set_cons_zero, List.set_cons_succ, i64_w, i32_w]
   rfl
  refine one_ (i := 2) (N := some 7) #[true, true, true, false, false, false, false, false, false, false, false, false] rfl rfl (one_of HT_.out (by kernel_rfl)) (by decide) (fun K hK => ?_)
  refine goes_ Try.func18 (by kernel_rfl) rfl #[.agg #[.bool a0_0, .slice A0_1 l0_1.length c0_1], .agg #[.bool t451, .slice Ao12 t452.length co12]] (by rfl) rfl rfl argt ?_
  with_reducible refine (turnstoneref01_Cmp.calls k a0_0 _ _ l0_1 t451 _ _ t452 t456 _ ?side1 ?side2 ?side3 ?side4 A3.out).mono ?_
  (case side1 => exact (ct (Kd.C_below HR0_1.out HB.out)))
  (case side2 => exact HC0_1.out)
  (case side3 => repeat (first | exact (Kd.V_reads' HO454.out).2.2 | (with_reducible refine Kd.C_alloc ?_ _) | (with_reducible refine Kd.C_drewN ?_ _) | (with_reducible refine Kd.C_drew ?_)))
  (case side4 => exact (Kd.V_reads' HO454.out).2.1)
  rintro e w15 ⟨rfl, hb⟩
  refine ⟨_, rfl, ?_⟩
  replace HO454 := vb HO454 hb
  replace BK450 := blkb BK450 hb
  replace BK455 := blkb BK455 hb
  replace HB := belb HB hb
  (try clear hb)
  (try clear hb2)
  (try clear hk)
  (try clear hi)
  refine hK.out _ _ ⟨bc BK450 0, bc BK450 1, bc BK455 0, bc BK455 1⟩ (fun hHeld => ?_)
  clear hK K
  refine norm_ (a' := ?_) ?_ ?_
  rotate_left
  ·show Act.put _ (some 7) _ = _
   simp only [Act.put, List.setIfInBounds_toArray, List.set_cons_zero, List.set_cons_succ, i64_w, i32_w]
   rfl
  refine pure_ (i := 3) (N := some 8) (v := ?_) (a' := ?_) #[true, true, true, true, false, false, false, false, false, false, false, false] rfl rfl (any_of HT_.out (by kernel_rfl)) (fun _ _ _ h => h) (Or.inl ⟨by rfl, ?_⟩) ?_ ?_
  rotate_left
  ·intro w'
   go_simp
   with_reducible rfl
  rotate_left
  ·simp only [Act.put, List.setIfInBounds_toArray, List.set_cons_zero, List.set_cons_succ, i64_w, i32_w]
   rfl
  refine pure_ (i := 4) (N := some 9) (v := ?_) (a' := ?_) #[true, true, true, true, true, false, false, false, false, false, false, false] rfl rfl (any_of HT_.out (by kernel_rfl)) (fun _ _ _ h => h) (Or.inl ⟨by rfl, ?_⟩) ?_ ?_
  rotate_left
  ·intro w'
   go_simp
   with_reducible rfl
  rotate_left
  ·simp only [Act.put, List.setIfInBounds_toArray, List.set_cons_zero, List.set_cons_succ, i64_w, i32_w]
   rfl
  refine take_ (i := 5) (N := some 10) (v := ?_) (a' := ?_) #[true, true, true, true, true, true, false, false, false, false, false, false] rfl rfl (take_ofW HT_.out HW_.out (by kernel_rfl)) (fun _ _ _ h => h) (Or.inl ⟨by rfl, ?_⟩) hHeld ?_ ?_
  rotate_left
  ·rintro w' ⟨s0, s1, s2, s3⟩
   go_simp
   with_reducible rfl
  rotate_left
  ·simp only [Act.put, List.setIfInBounds_toArray, List.set_cons_zero, List.set_cons_succ, i64_w, i32_w]
   rfl
  refine take_ (i := 6) (N := some 11) (v := ?_) (a' := ?_) #[true, true, true, true, true, true, true, false, false, false, false, false] rfl rfl (take_ofW HT_.out HW_.out (by kernel_rfl)) (fun _ _ _ h => h) (Or.inl ⟨by rfl, ?_⟩) hHeld ?_ ?_
  rotate_left
  ·rintro w' ⟨s0, s1, s2, s3⟩
   go_simp
   with_reducible rfl
  rotate_left
  ·simp only [Act.put, List.setIfInBounds_toArray, List.set_cons_zero, List.set_cons_succ, i64_w, i32_w]
   rfl
  refine one_ (i := 7) (N := some 12) #[true, true, true, true, true, true, true, true, false, false, false, false] rfl rfl (one_of HT_.out (by kernel_rfl)) (by decide) (fun K hK => ?_)
  refine goes_ Try.func61 (by kernel_rfl) rfl #[.agg #[.bool t451, .slice Ao12 t452.length co12]] (by rfl) rfl rfl argt ?_
  with_reducible refine (turnstoneref01_Neg.calls k t451 (fun k_ => (k_ ≠ gb450 ∧ k_ ≠ gb455)) _ _ t452 t457 t458 _ ?side1 A5.out).mono ?_
  (case side1 => exact HO454.out)
  rintro e w16 ⟨v459, rfl, ho0, hb⟩
  refine ⟨_, rfl, ?_⟩
  replace HO454 := vb HO454 hb
  have HO460 := Aside0.mk (Kd.V_lower (Kd.V_mono (ok' := fun k_ => k_ ≠ gb450 ∧ k_ ≠ gb455) ho0 (fun k_ hk_ => ⟨Or.elim hk_ (fun hs_ => hs_.1) (fun hn_ => (Kd.freshB (blkt BK450) k_ hn_)), Or.elim hk_ (fun hs_ => hs_.2) (fun hn_ => (Kd.freshB (blkt BK455) k_ hn_))⟩)) (below_size (belt HB)))
  replace BK450 := blkb BK450 hb
  replace BK455 := blkb BK455 hb
  replace HB := belb HB hb
  (try clear hb)
  (try clear hb2)
  (try clear hk)
  (try clear hi)
  (try clear ho0)
  obtain ⟨Ao17, co17, eo17⟩ := Kd.V_slice HO460.out
  (first | subst eo17 | (injection eo17 with f1_ f2_ f3_; have f4_ := f1_.symm; have f5_ := f3_.symm; clear f1_ f2_ f3_; subst f4_; subst f5_))
  refine hK.out _ _ ⟨bc BK450 0, bc BK450 1, bc BK455 0, bc BK455 1⟩ (fun hHeld => ?_)
  clear hK K
  refine norm_ (a' := ?_) ?_ ?_
  rotate_left
  ·show Act.put _ (some 12) _ = _
   simp only [Act.put, List.setIfInBounds_toArray, List.set_cons_zero, List.set_cons_succ, i64_w, i32_w]
   rfl
  refine one_ (i := 8) (N := some 13) #[true, true, true, true, true, true, true, true, true, false, false, false] rfl rfl (one_of HT_.out (by kernel_rfl)) (by decide) (fun K hK => ?_)
  refine goes_ Try.func18 (by kernel_rfl) rfl #[.agg #[.bool a0_0, .slice A0_1 l0_1.length c0_1], .agg #[.bool t457, .slice Ao17 t458.length co17]] (by rfl) rfl rfl argt ?_
  with_reducible refine (turnstoneref01_Cmp.calls k a0_0 _ _ l0_1 t457 _ _ t458 t461 _ ?side1 ?side2 ?side3 ?side4 A6.out).mono ?_
  (case side1 => exact (ct (Kd.C_below HR0_1.out HB.out)))
  (case side2 => exact HC0_1.out)
  (case side3 => repeat (first | exact (Kd.V_reads' HO460.out).2.2 | (with_reducible refine Kd.C_alloc ?_ _) | (with_reducible refine Kd.C_drewN ?_ _) | (with_reducible refine Kd.C_drew ?_)))
  (case side4 => exact (Kd.V_reads' HO460.out).2.1)
  rintro e w18 ⟨rfl, hb⟩
  refine ⟨_, rfl, ?_⟩
  replace HO454 := vb HO454 hb
  replace HO460 := vb HO460 hb
  replace BK450 := blkb BK450 hb
  replace BK455 := blkb BK455 hb
  replace HB := belb HB hb
  (try clear hb)
  (try clear hb2)
  (try clear hk)
  (try clear hi)
  refine hK.out _ _ ⟨bc BK450 0, bc BK450 1, bc BK455 0, bc BK455 1⟩ (fun hHeld => ?_)
  clear hK K
  refine norm_ (a' := ?_) ?_ ?_
  rotate_left
  ·show Act.put _ (some 13) _ = _
   simp only [Act.put, List.setIfInBounds_toArray, List.set_cons_zero, List.set_cons_succ, i64_w, i32_w]
   rfl
  refine pure_ (i := 9) (N := some 14) (v := ?_) (a' := ?_) #[true, true, true, true, true, true, true, true, true, true, false, false] rfl rfl (any_of HT_.out (by kernel_rfl)) (fun _ _ _ h => h) (Or.inl ⟨by rfl, ?_⟩) ?_ ?_
  rotate_left
  ·intro w'
   go_simp
   with_reducible rfl
  rotate_left
  ·simp only [Act.put, List.setIfInBounds_toArray, List.set_cons_zero, List.set_cons_succ, i64_w, i32_w]
   rfl
  refine pure_ (i := 10) (N := some 15) (v := ?_) (a' := ?_) #[true, true, true, true, true, true, true, true, true, true, true, false] rfl rfl (any_of HT_.out (by kernel_rfl)) (fun _ _ _ h => h) (Or.inl ⟨by rfl, ?_⟩) ?_ ?_
  rotate_left
  ·intro w'
   go_simp
   with_reducible rfl
  rotate_left
  ·simp only [Act.put, List.setIfInBounds_toArray, List.set_cons_zero, List.set_cons_succ, i64_w, i32_w]
   rfl
  refine pure_ (i := 11) (N := some 2) (v := ?_) (a' := ?_) #[true, true, true, true, true, true, true, true, true, true, true, true] rfl rfl (any_of HT_.out (by kernel_rfl)) (fun _ _ _ h => h) (Or.inl ⟨by rfl, ?_⟩) ?_ ?_
  rotate_left
  ·intro w'
   go_simp
   with_reducible rfl
  rotate_left
  ·simp only [Act.put, List.setIfInBounds_toArray, List.set_cons_zero, List.set_cons_succ, i64_w, i32_w]
   rfl
  refine done_ (done_of HT_.out (by kernel_rfl)) ?_
  try go_wp2
  go_ret
  exact ⟨by first | rfl | (simp [errW_none, errW_some] <;> rfl) | (simp [*, errW_none, errW_some] <;> rfl), belt HB⟩
 rw [if_neg c4] at H
 have c4b0 : decide (t456 < 0) = false := decide_eq_false c4
 clear c4
 obtain rfl := Option.some.inj H
 go_enter Try.func78, Try.ntmps78
 try go_wp2_with (first | ((with_reducible refine gate_dst (N := 1) rfl ?_); refine box_event ?hg (N := 1) ?hd (cs := #[.bool a0_0, .slice A0_1 l0_1.length c0_1]) (t := 28) ?hr ?_; (case hd => rfl); (case hg => rfl); (case hr => first | (go_simp; done) | (go_simp; rfl)); intro gb450 hg w19 hbox hb; have BK450 := Aside0.mk (hbox); have GW450 := bels HB hg; have GE450 := bels HB hg; replace HB := belb HB hb; clear hb hbox hg) | ((with_reducible refine gate_callee (f := 60) rfl ?_); refine goesL_ (some 4) rfl rfl Try.func60 (by kernel_rfl) rfl #[.int .i64 63] rfl argt ?_; (with_reducible refine (turnstoneref01_Power.calls k 63 t451 t452 _ A2.out).mono ?_); rintro e w20 ⟨v453, rfl, ho0, hb⟩; refine ⟨_, rfl, ?_⟩; have HO454 := Aside0.mk (Kd.V_lower (Kd.V_mono (ok' := fun k_ => k_ ≠ gb450) ho0 (fun k_ hk_ => (Kd.freshB (blkt BK450) k_ hk_))) (below_size (belt HB))); replace BK450 := blkb BK450 hb; replace HB := belb HB hb; (try clear hb); (try clear hb2); (try clear hk); (try clear hi); (try clear ho0)) | ((with_reducible refine gate_dst (N := 3) rfl ?_); refine box_event ?hg (N := 3) ?hd (cs := #[.bool false, .slice none 0 0]) (t := 28) ?hr ?_; (case hd => rfl); (case hg => rfl); (case hr => first | (go_simp; done) | (go_simp; rfl)); intro gb455 hg w21 hbox hb; replace HO454 := Aside0.mk (Kd.V_below (Kd.V_elderB (vt HO454) gb455 (Nat.le_of_eq hg.symm)) hb); have BK455 := Aside0.mk (hbox); have GW455 := bels HB hg; have GE455 := bels HB hg; have NB450_455 := blkl BK450 hg; have NB455_450 := blkg BK450 hg; replace BK450 := blkb BK450 hb; replace HB := belb HB hb; clear hb hbox hg; have hnb22 := NB455_450.out; have hnc22 := NB450_455.out; have hcz23_0 : w21.cell? ⟨gb455, 0, none⟩ = some (.bool false) := bc BK455 0; have hcz23_1 : w21.cell? ⟨gb455, 1, none⟩ = some (.slice none 0 0) := bc BK455 1; have hfz23_0 := blk_frozen BK455.out 0; have hfz23_1 := blk_frozen BK455.out 1; obtain ⟨Ao24, co24, eo24⟩ := Kd.V_slice HO454.out; subst eo24))
 have n0_ : Aside0 (Kd.V (Kd.int .i64) 3 ((w21.setCell ⟨gb455, 0, none⟩ (.bool t451)).setCell ⟨gb455, 1, none⟩ (.slice Ao24 t452.length co24)) w.heap.size (fun k_ => k_ ≠ gb450 ∧ k_ ≠ gb455) (.slice Ao24 t452.length co24) t452) := ⟨by (with_reducible repeat (first | apply Kd.V_alloc | apply Kd.V_drewN | apply Kd.V_drew)); exact Kd.V_mono (Kd.V_far (p := ⟨gb455, 1, none⟩) (Kd.V_far (p := ⟨gb455, 0, none⟩) (Kd.V_mono HO454.out (fun k_ hk => (⟨hk, hk.2⟩ : _ ∧ k_ ≠ gb455))) (fun _ hk => hk.2) (.bool t451)) (fun _ hk => hk.2) (.slice Ao24 t452.length co24)) (fun _ hk => ⟨hk.1.1, hk.1.2⟩)⟩
 have n1_ : Aside0 (((w21.setCell ⟨gb455, 0, none⟩ (.bool t451)).setCell ⟨gb455, 1, none⟩ (.slice Ao24 t452.length co24)).heap[gb450]? = some (.cells #[.bool a0_0, .slice A0_1 l0_1.length c0_1] 28 (0, 0))) := ⟨by (with_reducible repeat (first | refine blk_drewN ?_ _ | refine blk_drew ?_ | refine blk_alloc ?_ _)); refine blk_far ?_ NB450_455.out _; (with_reducible repeat (first | refine blk_drewN ?_ _ | refine blk_drew ?_ | refine blk_alloc ?_ _)); refine blk_far ?_ NB450_455.out _; exact blkt BK450⟩
 have n2_ : Aside0 (((w21.setCell ⟨gb455, 0, none⟩ (.bool t451)).setCell ⟨gb455, 1, none⟩ (.slice Ao24 t452.length co24)).heap[gb455]? = some (.cells #[.bool t451, .slice Ao24 t452.length co24] 28 (0, 0))) := ⟨by (with_reducible repeat (first | refine blk_drewN ?_ _ | refine blk_drew ?_ | refine blk_alloc ?_ _)); refine blk_put (cs := #[.bool t451, .slice none 0 0]) ?_ 1 _ rfl; (with_reducible repeat (first | refine blk_drewN ?_ _ | refine blk_drew ?_ | refine blk_alloc ?_ _)); refine blk_put (cs := #[.bool false, .slice none 0 0]) ?_ 0 _ rfl; exact blkt BK455⟩
 have n3_ : Aside0 (Below w.heap.size w ((w21.setCell ⟨gb455, 0, none⟩ (.bool t451)).setCell ⟨gb455, 1, none⟩ (.slice Ao24 t452.length co24))) := ⟨belt HB⟩
 (try clear HO454)
 (try clear BK450)
 (try clear BK455)
 (try clear HB)
 generalize ((w21.setCell ⟨gb455, 0, none⟩ (.bool t451)).setCell ⟨gb455, 1, none⟩ (.slice Ao24 t452.length co24)) = w25 at n0_ n1_ n2_ n3_ ⊢
 have HO454 := n0_
 have BK450 := n1_
 have BK455 := n2_
 have HB := n3_
 clear n0_ n1_ n2_ n3_
 replace HO454 := Aside0.mk (Kd.V_drew HO454.out)
 replace BK450 := Aside0.mk (blk_drew BK450.out)
 replace BK455 := Aside0.mk (blk_drew BK455.out)
 replace HB := Aside0.mk (below_drew1 HB.out)
 refine start_ (n := 12) (S := fun w' => w'.cell? ⟨gb450, 0, none⟩ = some (.bool a0_0) ∧ w'.cell? ⟨gb450, 1, none⟩ = some (.slice A0_1 l0_1.length c0_1) ∧ w'.cell? ⟨gb455, 0, none⟩ = some (.bool t451) ∧ w'.cell? ⟨gb455, 1, none⟩ = some (.slice Ao24 t452.length co24)) (ds := []) #[false, false, false, false, false, false, false, false, false, false, false, false] (by kernel_rfl) rfl rfl ⟨bc BK450 0, bc BK450 1, bc BK455 0, bc BK455 1⟩ (fun hHeld => ?_); refine with_tabW turnstoneref01_Small.tab2 turnstoneref01_Small.bits2 (fun HT_ HW_ => ?_)
 generalize w25.drew = w26 at HO454 BK450 BK455 HB hHeld ⊢
 refine take_ (i := 0) (N := some 5) (v := ?_) (a' := ?_) #[true, false, false, false, false, false, false, false, false, false, false, false] rfl rfl (take_ofW HT_.out HW_.out (by kernel_rfl)) (fun _ _ _ h => h) (Or.inl ⟨by rfl, ?_⟩) hHeld ?_ ?_
 rotate_left
 ·rintro w' ⟨s0, s1, s2, s3⟩
  go_simp
  with_reducible rfl
 rotate_left
 ·simp only [Act.put, List.setIfInBounds_toArray, List.set_cons_zero, List.set_cons_succ, i64_w, i32_w]
  rfl
 refine take_ (i := 1) (N := some 6) (v := ?_) (a' := ?_) #[true, true, false, false, false, false, false, false, false, false, false, false] rfl rfl (take_ofW HT_.out HW_.out (by kernel_rfl)) (fun _ _ _ h => h) (Or.inl ⟨by rfl, ?_⟩) hHeld ?_ ?_
 rotate_left
 ·rintro w' ⟨s0, s1, s2, s3⟩
  go_simp
  with_reducible rfl
 rotate_left
 ·simp only [Act.put, List.setIfInBounds_toArray, List.set_cons_zero, List.set_cons_succ, i64_w, i32_w]
  rfl
 refine one_ (i := 2) (N := some 7) #[true, true, true, false, false, false, false, false, false, false, false, false] rfl rfl (one_of HT_.out (by kernel_rfl)) (by decide) (fun K hK => ?_)
 refine goes_ Try.func18 (by kernel_rfl) rfl #[.agg #[.bool a0_0, .slice A0_1 l0_1.length c0_1], .agg #[.bool t451, .slice Ao24 t452.length co24]] (by rfl) rfl rfl argt ?_
 with_reducible refine (turnstoneref01_Cmp.calls k a0_0 _ _ l0_1 t451 _ _ t452 t456 _ ?side1 ?side2 ?side3 ?side4 A3.out).mono ?_
 (case side1 => exact (ct (Kd.C_below HR0_1.out HB.out)))
 (case side2 => exact HC0_1.out)
 (case side3 => repeat (first | exact (Kd.V_reads' HO454.out).2.2 | (with_reducible refine Kd.C_alloc ?_ _) | (with_reducible refine Kd.C_drewN ?_ _) | (with_reducible refine Kd.C_drew ?_)))
 (case side4 => exact (Kd.V_reads' HO454.out).2.1)
 rintro e w27 ⟨rfl, hb⟩
 refine ⟨_, rfl, ?_⟩
 replace HO454 := vb HO454 hb
 replace BK450 := blkb BK450 hb
 replace BK455 := blkb BK455 hb
 replace HB := belb HB hb
 (try clear hb)
 (try clear hb2)
 (try clear hk)
 (try clear hi)
 refine hK.out _ _ ⟨bc BK450 0, bc BK450 1, bc BK455 0, bc BK455 1⟩ (fun hHeld => ?_)
 clear hK K
 refine norm_ (a' := ?_) ?_ ?_
 rotate_left
 ·show Act.put _ (some 7) _ = _
  simp only [Act.put, List.setIfInBounds_toArray, List.set_cons_zero, List.set_cons_succ, i64_w, i32_w]
  rfl
 refine pure_ (i := 3) (N := some 8) (v := ?_) (a' := ?_) #[true, true, true, true, false, false, false, false, false, false, false, false] rfl rfl (any_of HT_.out (by kernel_rfl)) (fun _ _ _ h => h) (Or.inl ⟨by rfl, ?_⟩) ?_ ?_
 rotate_left
 ·intro w'
  go_simp
  with_reducible rfl
 rotate_left
 ·simp only [Act.put, List.setIfInBounds_toArray, List.set_cons_zero, List.set_cons_succ, i64_w, i32_w]
  rfl
 refine pure_ (i := 4) (N := some 9) (v := ?_) (a' := ?_) #[true, true, true, true, true, false, false, false, false, false, false, false] rfl rfl (any_of HT_.out (by kernel_rfl)) (fun _ _ _ h => h) (Or.inl ⟨by rfl, ?_⟩) ?_ ?_
 rotate_left
 ·intro w'
  go_simp
  with_reducible rfl
 rotate_left
 ·simp only [Act.put, List.setIfInBounds_toArray, List.set_cons_zero, List.set_cons_succ, i64_w, i32_w]
  rfl
 refine pure_ (i := 5) (N := some 10) (v := undef) (a' := ?_) #[true, true, true, true, true, true, false, false, false, false, false, false] rfl rfl (any_of HT_.out (by kernel_rfl)) (fun _ _ _ h => h) (Or.inr ⟨by rfl, rfl⟩) ?_ ?_
 rotate_left
 ·simp only [Act.put, List.setIfInBounds_toArray, List.set_cons_zero, List.set_cons_succ, i64_w, i32_w]
  rfl
 refine pure_ (i := 6) (N := some 11) (v := undef) (a' := ?_) #[true, true, true, true, true, true, true, false, false, false, false, false] rfl rfl (any_of HT_.out (by kernel_rfl)) (fun _ _ _ h => h) (Or.inr ⟨by rfl, rfl⟩) ?_ ?_
 rotate_left
 ·simp only [Act.put, List.setIfInBounds_toArray, List.set_cons_zero, List.set_cons_succ, i64_w, i32_w]
  rfl
 refine pure_ (i := 7) (N := some 12) (v := undef) (a' := ?_) #[true, true, true, true, true, true, true, true, false, false, false, false] rfl rfl (any_of HT_.out (by kernel_rfl)) (fun _ _ _ h => h) (Or.inr ⟨by rfl, rfl⟩) ?_ ?_
 rotate_left
 ·simp only [Act.put, List.setIfInBounds_toArray, List.set_cons_zero, List.set_cons_succ, i64_w, i32_w]
  rfl
 refine pure_ (i := 8) (N := some 13) (v := undef) (a' := ?_) #[true, true, true, true, true, true, true, true, true, false, false, false] rfl rfl (any_of HT_.out (by kernel_rfl)) (fun _ _ _ h => h) (Or.inr ⟨by rfl, rfl⟩) ?_ ?_
 rotate_left
 ·simp only [Act.put, List.setIfInBounds_toArray, List.set_cons_zero, List.set_cons_succ, i64_w, i32_w]
  rfl
 refine pure_ (i := 9) (N := some 14) (v := undef) (a' := ?_) #[true, true, true, true, true, true, true, true, true, true, false, false] rfl rfl (any_of HT_.out (by kernel_rfl)) (fun _ _ _ h => h) (Or.inr ⟨by rfl, rfl⟩) ?_ ?_
 rotate_left
 ·simp only [Act.put, List.setIfInBounds_toArray, List.set_cons_zero, List.set_cons_succ, i64_w, i32_w]
  rfl
 refine pure_ (i := 10) (N := some 15) (v := ?_) (a' := ?_) #[true, true, true, true, true, true, true, true, true, true, true, false] rfl rfl (any_of HT_.out (by kernel_rfl)) (fun _ _ _ h => h) (Or.inl ⟨by rfl, ?_⟩) ?_ ?_
 rotate_left
 ·intro w'
  go_simp
  with_reducible rfl
 rotate_left
 ·simp only [Act.put, List.setIfInBounds_toArray, List.set_cons_zero, List.set_cons_succ, i64_w, i32_w]
  rfl
 refine pure_ (i := 11) (N := some 2) (v := ?_) (a' := ?_) #[true, true, true, true, true, true, true, true, true, true, true, true] rfl rfl (any_of HT_.out (by kernel_rfl)) (fun _ _ _ h => h) (Or.inl ⟨by rfl, ?_⟩) ?_ ?_
 rotate_left
 ·intro w'
  go_simp
  with_reducible rfl
 rotate_left
 ·simp only [Act.put, List.setIfInBounds_toArray, List.set_cons_zero, List.set_cons_succ, i64_w, i32_w]
  rfl
 refine done_ (done_of HT_.out (by kernel_rfl)) ?_
 try go_wp2
 go_ret
 exact ⟨by first | rfl | (simp [errW_none, errW_some] <;> rfl) | (simp [*, errW_none, errW_some] <;> rfl), belt HB⟩

end Go.Proofs.Ytimgiiceipjpaaa.Print
