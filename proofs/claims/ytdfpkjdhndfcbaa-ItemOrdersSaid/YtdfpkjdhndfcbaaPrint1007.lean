/- What each Go function that is named below answers, as a Lean function, and that its walk comes to just that: for whatever arguments that function gives an answer for. Written by a program of this session (wip/mkpr.py, pr.sh). -/
import Derived.Test.YtdfpkjdhndfcbaaPrint1000
import Derived.Test.YtdfpkjdhndfcbaaPrint1006
namespace Go.Proofs.Ytdfpkjdhndfcbaa.Print
open Go.RowKit Go.Proofs.YtdfpkjdhndfcbaaW.PrintWords Go.Proofs.YtdfpkjdhndfcbaaW.PrintLast Go.Proofs.YtdfpkjdhndfcbaaW.PrintMore
attribute [local go_sem] max2_int min2_int max_two min_two max_three min_three max_four min_four   -- for this text's walks alone
open Go.Proofs.Ytdfpkjdhndfcbaa.Bits Go.Proofs.Ytdfpkjdhndfcbaa.Short
attribute [local go_sem] add64_run0 sub64_run0 add64_run sub64_run
set_option linter.unusedVariables false
set_option linter.unusedSimpArgs false

/-! ### turnstonelaw05_ItemOrders: function 3 -/
mutual
def turnstonelaw05_ItemOrders.j0 : Nat → Bool → Int → Int → Int → Int → Int → Int → Int → Int → Int → Int → Int → Int → Int → Int → Int → Int → Int → Int → Int → Int → Int → Option (Bool)
 | 0, _, _, _, _, _, _, _, _, _, _, _, _, _, _, _, _, _, _, _, _, _, _ => none
 | k + 1, x47, x137000, x137001, x137002, x137003, x137004, x137005, x137006, x138000, x138001, x138002, x138003, x138004, x138005, x138006, x139000, x139001, x139002, x139003, x139004, x139005, x139006 => if x47 = true then (some true) else ((item_Item_Ahead.f k x137000 x137001 x137002 x137003 x137004 x137005 x137006 x138000 x138001 x138002 x138003 x138004 x138005 x138006).bind fun t143 => ((item_Item_Ahead.f k x138000 x138001 x138002 x138003 x138004 x138005 x138006 x137000 x137001 x137002 x137003 x137004 x137005 x137006).bind fun t144 => (if (t143 == t144) = true then (turnstonelaw05_ItemOrders.j1 k true x137000 x137001 x137002 x137003 x137004 x137005 x137006 x138000 x138001 x138002 x138003 x138004 x138005 x138006 x139000 x139001 x139002 x139003 x139004 x139005 x139006) else ((item_Item_Due.f k x137000 x137001 x137002 x137003 x137004 x137005 x137006 x138000 x138001 x138002 x138003 x138004 x138005 x138006).bind fun t145 => ((item_Item_Due.f k x138000 x138001 x138002 x138003 x138004 x138005 x138006 x137000 x137001 x137002 x137003 x137004 x137005 x137006).bind fun t146 => (if (t145 == t146) = true then (turnstonelaw05_ItemOrders.j1 k true x137000 x137001 x137002 x137003 x137004 x137005 x137006 x138000 x138001 x138002 x138003 x138004 x138005 x138006 x139000 x139001 x139002 x139003 x139004 x139005 x139006) else ((item_Item_Ahead.f k x137000 x137001 x137002 x137003 x137004 x137005 x137006 x137000 x137001 x137002 x137003 x137004 x137005 x137006).bind fun t147 => (if t147 = true then (turnstonelaw05_ItemOrders.j1 k true x137000 x137001 x137002 x137003 x137004 x137005 x137006 x138000 x138001 x138002 x138003 x138004 x138005 x138006 x139000 x139001 x139002 x139003 x139004 x139005 x139006) else ((item_Item_Due.f k x137000 x137001 x137002 x137003 x137004 x137005 x137006 x137000 x137001 x137002 x137003 x137004 x137005 x137006).bind fun t148 => (turnstonelaw05_ItemOrders.j1 k t148 x137000 x137001 x137002 x137003 x137004 x137005 x137006 x138000 x138001 x138002 x138003 x138004 x138005 x138006 x139000 x139001 x139002 x139003 x139004 x139005 x139006))))))))))
def turnstonelaw05_ItemOrders.j1 : Nat → Bool → Int → Int → Int → Int → Int → Int → Int → Int → Int → Int → Int → Int → Int → Int → Int → Int → Int → Int → Int → Int → Int → Option (Bool)
 | 0, _, _, _, _, _, _, _, _, _, _, _, _, _, _, _, _, _, _, _, _, _, _ => none
 | k + 1, x73, x137000, x137001, x137002, x137003, x137004, x137005, x137006, x138000, x138001, x138002, x138003, x138004, x138005, x138006, x139000, x139001, x139002, x139003, x139004, x139005, x139006 => if x73 = true then (none) else ((item_Item_Ahead.f k x137000 x137001 x137002 x137003 x137004 x137005 x137006 x138000 x138001 x138002 x138003 x138004 x138005 x138006).bind fun t149 => (if t149 = true then ((item_Item_Ahead.f k x138000 x138001 x138002 x138003 x138004 x138005 x138006 x139000 x139001 x139002 x139003 x139004 x139005 x139006).bind fun t150 => (if t150 = true then ((item_Item_Ahead.f k x137000 x137001 x137002 x137003 x137004 x137005 x137006 x139000 x139001 x139002 x139003 x139004 x139005 x139006).bind fun t151 => (if t151 = true then ((item_Item_Due.f k x137000 x137001 x137002 x137003 x137004 x137005 x137006 x138000 x138001 x138002 x138003 x138004 x138005 x138006).bind fun t152 => (if t152 = true then ((item_Item_Due.f k x138000 x138001 x138002 x138003 x138004 x138005 x138006 x139000 x139001 x139002 x139003 x139004 x139005 x139006).bind fun t153 => (if t153 = true then ((item_Item_Due.f k x137000 x137001 x137002 x137003 x137004 x137005 x137006 x139000 x139001 x139002 x139003 x139004 x139005 x139006).bind fun t154 => (some (!(!t154)))) else (some (!false)))) else (some (!false)))) else (none))) else ((item_Item_Due.f k x137000 x137001 x137002 x137003 x137004 x137005 x137006 x138000 x138001 x138002 x138003 x138004 x138005 x138006).bind fun t155 => (if t155 = true then ((item_Item_Due.f k x138000 x138001 x138002 x138003 x138004 x138005 x138006 x139000 x139001 x139002 x139003 x139004 x139005 x139006).bind fun t156 => (if t156 = true then ((item_Item_Due.f k x137000 x137001 x137002 x137003 x137004 x137005 x137006 x139000 x139001 x139002 x139003 x139004 x139005 x139006).bind fun t157 => (some (!(!t157)))) else (some (!false)))) else (some (!false)))))) else ((item_Item_Due.f k x137000 x137001 x137002 x137003 x137004 x137005 x137006 x138000 x138001 x138002 x138003 x138004 x138005 x138006).bind fun t158 => (if t158 = true then ((item_Item_Due.f k x138000 x138001 x138002 x138003 x138004 x138005 x138006 x139000 x139001 x139002 x139003 x139004 x139005 x139006).bind fun t159 => (if t159 = true then ((item_Item_Due.f k x137000 x137001 x137002 x137003 x137004 x137005 x137006 x139000 x139001 x139002 x139003 x139004 x139005 x139006).bind fun t160 => (some (!(!t160)))) else (some (!false)))) else (some (!false))))))
end
def turnstonelaw05_ItemOrders.f (k : Nat) (a0 : Int) (a1_0 : Int) (a1_1 : Int) (a1_2 : Int) (a1_3 : Int) (a1_4 : Int) (a1_5 : Int) (a1_6 : Int) (a2_0 : Int) (a2_1 : Int) (a2_2 : Int) (a2_3 : Int) (a2_4 : Int) (a2_5 : Int) (a2_6 : Int) (a3_0 : Int) (a3_1 : Int) (a3_2 : Int) (a3_3 : Int) (a3_4 : Int) (a3_5 : Int) (a3_6 : Int) : Option (Bool) := (turnstonelaw05_awake.f).bind fun t139 => (if t139 = true then ((turnstonelaw05_near.f k a0 a1_0 a1_1 a1_2 a1_3 a1_4 a1_5 a1_6).bind fun t140 => (if t140 = true then ((turnstonelaw05_near.f k a0 a2_0 a2_1 a2_2 a2_3 a2_4 a2_5 a2_6).bind fun t141 => (if t141 = true then ((turnstonelaw05_near.f k a0 a3_0 a3_1 a3_2 a3_3 a3_4 a3_5 a3_6).bind fun t142 => (if t142 = true then (if a1_3 = a2_3 then (turnstonelaw05_ItemOrders.j0 k true a1_0 a1_1 a1_2 a1_3 a1_4 a1_5 a1_6 a2_0 a2_1 a2_2 a2_3 a2_4 a2_5 a2_6 a3_0 a3_1 a3_2 a3_3 a3_4 a3_5 a3_6) else (if a2_3 = a3_3 then (turnstonelaw05_ItemOrders.j0 k true a1_0 a1_1 a1_2 a1_3 a1_4 a1_5 a1_6 a2_0 a2_1 a2_2 a2_3 a2_4 a2_5 a2_6 a3_0 a3_1 a3_2 a3_3 a3_4 a3_5 a3_6) else (turnstonelaw05_ItemOrders.j0 k (a1_3 == a3_3) a1_0 a1_1 a1_2 a1_3 a1_4 a1_5 a1_6 a2_0 a2_1 a2_2 a2_3 a2_4 a2_5 a2_6 a3_0 a3_1 a3_2 a3_3 a3_4 a3_5 a3_6))) else (turnstonelaw05_ItemOrders.j0 k true a1_0 a1_1 a1_2 a1_3 a1_4 a1_5 a1_6 a2_0 a2_1 a2_2 a2_3 a2_4 a2_5 a2_6 a3_0 a3_1 a3_2 a3_3 a3_4 a3_5 a3_6))) else (turnstonelaw05_ItemOrders.j0 k true a1_0 a1_1 a1_2 a1_3 a1_4 a1_5 a1_6 a2_0 a2_1 a2_2 a2_3 a2_4 a2_5 a2_6 a3_0 a3_1 a3_2 a3_3 a3_4 a3_5 a3_6))) else (turnstonelaw05_ItemOrders.j0 k true a1_0 a1_1 a1_2 a1_3 a1_4 a1_5 a1_6 a2_0 a2_1 a2_2 a2_3 a2_4 a2_5 a2_6 a3_0 a3_1 a3_2 a3_3 a3_4 a3_5 a3_6))) else (none))
theorem turnstonelaw05_ItemOrders.mono_l : ∀ k, (∀ y0 y1 y2 y3 y4 y5 y6 y7 y8 y9 y10 y11 y12 y13 y14 y15 y16 y17 y18 y19 y20 y21, LeO (turnstonelaw05_ItemOrders.j0 k y0 y1 y2 y3 y4 y5 y6 y7 y8 y9 y10 y11 y12 y13 y14 y15 y16 y17 y18 y19 y20 y21) (turnstonelaw05_ItemOrders.j0 (k + 1) y0 y1 y2 y3 y4 y5 y6 y7 y8 y9 y10 y11 y12 y13 y14 y15 y16 y17 y18 y19 y20 y21)) ∧ (∀ y0 y1 y2 y3 y4 y5 y6 y7 y8 y9 y10 y11 y12 y13 y14 y15 y16 y17 y18 y19 y20 y21, LeO (turnstonelaw05_ItemOrders.j1 k y0 y1 y2 y3 y4 y5 y6 y7 y8 y9 y10 y11 y12 y13 y14 y15 y16 y17 y18 y19 y20 y21) (turnstonelaw05_ItemOrders.j1 (k + 1) y0 y1 y2 y3 y4 y5 y6 y7 y8 y9 y10 y11 y12 y13 y14 y15 y16 y17 y18 y19 y20 y21))
 | 0 => ⟨fun _ _ _ _ _ _ _ _ _ _ _ _ _ _ _ _ _ _ _ _ _ _ r h => by simp [turnstonelaw05_ItemOrders.j0] at h, fun _ _ _ _ _ _ _ _ _ _ _ _ _ _ _ _ _ _ _ _ _ _ r h => by simp [turnstonelaw05_ItemOrders.j1] at h⟩
 | k + 1 => by
  obtain ⟨ih0, ih1⟩ := turnstonelaw05_ItemOrders.mono_l k
  refine ⟨?_, ?_⟩
  ·intro y0 y1 y2 y3 y4 y5 y6 y7 y8 y9 y10 y11 y12 y13 y14 y15 y16 y17 y18 y19 y20 y21
   unfold turnstonelaw05_ItemOrders.j0
   repeat' first
   | (with_reducible exact ih0 _ _ _ _ _ _ _ _ _ _ _ _ _ _ _ _ _ _ _ _ _ _)
   | (with_reducible exact ih1 _ _ _ _ _ _ _ _ _ _ _ _ _ _ _ _ _ _ _ _ _ _)
   | (with_reducible exact item_Item_Ahead.mono _ _ _ _ _ _ _ _ _ _ _ _ _ _ _)
   | (with_reducible exact item_Item_Due.mono _ _ _ _ _ _ _ _ _ _ _ _ _ _ _)
   | (with_reducible exact turnstonelaw05_near.mono _ _ _ _ _ _ _ _ _)
   | (with_reducible exact LeO.refl _)
   | (with_reducible exact LeO.none _)
   | (with_reducible refine LeO.ite ?_ ?_)
   | (with_reducible refine LeO.bind ?_ (fun _ => ?_))
   | exact ih0 _ _ _ _ _ _ _ _ _ _ _ _ _ _ _ _ _ _ _ _ _ _
   | exact ih1 _ _ _ _ _ _ _ _ _ _ _ _ _ _ _ _ _ _ _ _ _ _
   | exact item_Item_Ahead.mono _ _ _ _ _ _ _ _ _ _ _ _ _ _ _
   | exact item_Item_Due.mono _ _ _ _ _ _ _ _ _ _ _ _ _ _ _
   | exact turnstonelaw05_near.mono _ _ _ _ _ _ _ _ _
   | exact LeO.none _
   | refine LeO.ite ?_ ?_
   | refine LeO.bind ?_ (fun _ => ?_)
  intro y0 y1 y2 y3 y4 y5 y6 y7 y8 y9 y10 y11 y12 y13 y14 y15 y16 y17 y18 y19 y20 y21
  unfold turnstonelaw05_ItemOrders.j1
  repeat' first
  | (with_reducible exact ih0 _ _ _ _ _ _ _ _ _ _ _ _ _ _ _ _ _ _ _ _ _ _)
  | (with_reducible exact ih1 _ _ _ _ _ _ _ _ _ _ _ _ _ _ _ _ _ _ _ _ _ _)
  | (with_reducible exact item_Item_Ahead.mono _ _ _ _ _ _ _ _ _ _ _ _ _ _ _)
  | (with_reducible exact item_Item_Due.mono _ _ _ _ _ _ _ _ _ _ _ _ _ _ _)
  | (with_reducible exact turnstonelaw05_near.mono _ _ _ _ _ _ _ _ _)
  | (with_reducible exact LeO.refl _)
  | (with_reducible exact LeO.none _)
  | (with_reducible refine LeO.ite ?_ ?_)
  | (with_reducible refine LeO.bind ?_ (fun _ => ?_))
  | exact ih0 _ _ _ _ _ _ _ _ _ _ _ _ _ _ _ _ _ _ _ _ _ _
  | exact ih1 _ _ _ _ _ _ _ _ _ _ _ _ _ _ _ _ _ _ _ _ _ _
  | exact item_Item_Ahead.mono _ _ _ _ _ _ _ _ _ _ _ _ _ _ _
  | exact item_Item_Due.mono _ _ _ _ _ _ _ _ _ _ _ _ _ _ _
  | exact turnstonelaw05_near.mono _ _ _ _ _ _ _ _ _
  | exact LeO.none _
  | refine LeO.ite ?_ ?_
  | refine LeO.bind ?_ (fun _ => ?_)
theorem turnstonelaw05_ItemOrders.mono : ∀ a0 a1 a2 a3 a4 a5 a6 a7 a8 a9 a10 a11 a12 a13 a14 a15 a16 a17 a18 a19 a20 a21 k, LeO (turnstonelaw05_ItemOrders.f k a0 a1 a2 a3 a4 a5 a6 a7 a8 a9 a10 a11 a12 a13 a14 a15 a16 a17 a18 a19 a20 a21) (turnstonelaw05_ItemOrders.f (k + 1) a0 a1 a2 a3 a4 a5 a6 a7 a8 a9 a10 a11 a12 a13 a14 a15 a16 a17 a18 a19 a20 a21) := by
 intro a0 a1 a2 a3 a4 a5 a6 a7 a8 a9 a10 a11 a12 a13 a14 a15 a16 a17 a18 a19 a20 a21 k
 obtain ⟨ih0, ih1⟩ := turnstonelaw05_ItemOrders.mono_l k
 unfold turnstonelaw05_ItemOrders.f
 repeat' first
   | (with_reducible exact ih0 _ _ _ _ _ _ _ _ _ _ _ _ _ _ _ _ _ _ _ _ _ _)
   | (with_reducible exact ih1 _ _ _ _ _ _ _ _ _ _ _ _ _ _ _ _ _ _ _ _ _ _)
   | (with_reducible exact item_Item_Ahead.mono _ _ _ _ _ _ _ _ _ _ _ _ _ _ _)
   | (with_reducible exact item_Item_Due.mono _ _ _ _ _ _ _ _ _ _ _ _ _ _ _)
   | (with_reducible exact turnstonelaw05_near.mono _ _ _ _ _ _ _ _ _)
   | (with_reducible exact LeO.refl _)
   | (with_reducible exact LeO.none _)
   | (with_reducible refine LeO.ite ?_ ?_)
   | (with_reducible refine LeO.bind ?_ (fun _ => ?_))
   | exact ih0 _ _ _ _ _ _ _ _ _ _ _ _ _ _ _ _ _ _ _ _ _ _
   | exact ih1 _ _ _ _ _ _ _ _ _ _ _ _ _ _ _ _ _ _ _ _ _ _
   | exact item_Item_Ahead.mono _ _ _ _ _ _ _ _ _ _ _ _ _ _ _
   | exact item_Item_Due.mono _ _ _ _ _ _ _ _ _ _ _ _ _ _ _
   | exact turnstonelaw05_near.mono _ _ _ _ _ _ _ _ _
   | exact LeO.none _
   | refine LeO.ite ?_ ?_
   | refine LeO.bind ?_ (fun _ => ?_)
def turnstonelaw05_ItemOrders.T5 : Bool × List (List Nat × List Nat) := (true, [([], []), ([], []), ([0, 1], [0, 1]), ([], []), ([], []), ([3, 4, 2], [3, 4]), ([2, 5], [2, 5]), ([6, 5], [6]), ([7], [7]), ([7], [7]), ([8, 9, 7, 7], [7, 8, 9]), ([7], [7]), ([7], [7]), ([11, 12, 10, 7], [7, 11, 12]), ([10, 13, 7], [7, 10, 13]), ([7, 14], [7, 14]), ([15, 13], [15]), ([16], [16]), ([16], [16]), ([17, 18, 16, 16], [16, 17, 18]), ([16, 19], [16, 19]), ([20, 19], [20]), ([21], [21]), ([21], [21]), ([22, 23, 21, 21], [21, 22, 23]), ([21, 24], [21, 24])])
def turnstonelaw05_ItemOrders.B5 : List Nat := [0, 0, 3, 0, 0, 31, 63, 127, 255, 255, 1023, 255, 255, 8191, 16383, 32767, 65535, 131071, 131071, 524287, 1048575, 2097151, 4194303, 4194303, 16777215, 33554431]
theorem turnstonelaw05_ItemOrders.tab5 : rtab .any (opsOf Try.f3 5) = turnstonelaw05_ItemOrders.T5 := by kernel_rfl
theorem turnstonelaw05_ItemOrders.bits5 : waitsOk turnstonelaw05_ItemOrders.T5.2 turnstonelaw05_ItemOrders.B5 = true := by kernel_rfl
set_option maxHeartbeats 8000000 in
set_option maxRecDepth 100000 in
theorem turnstonelaw05_ItemOrders.calls (k : Nat) (a0 : Int) (a1_0 : Int) (a1_1 : Int) (a1_2 : Int) (a1_3 : Int) (a1_4 : Int) (a1_5 : Int) (a1_6 : Int) (a2_0 : Int) (a2_1 : Int) (a2_2 : Int) (a2_3 : Int) (a2_4 : Int) (a2_5 : Int) (a2_6 : Int) (a3_0 : Int) (a3_1 : Int) (a3_2 : Int) (a3_3 : Int) (a3_4 : Int) (a3_5 : Int) (a3_6 : Int) (r : Bool) (w : World) (h : turnstonelaw05_ItemOrders.f k a0 a1_0 a1_1 a1_2 a1_3 a1_4 a1_5 a1_6 a2_0 a2_1 a2_2 a2_3 a2_4 a2_5 a2_6 a3_0 a3_1 a3_2 a3_3 a3_4 a3_5 a3_6 = some r) :
  Calls Try.prog 3 #[.int .u64 a0, .agg #[.int .u64 a1_0, .int .u32 a1_1, .int .u32 a1_2, .int .i64 a1_3, .int .u64 a1_4, .int .u32 a1_5, .int .u32 a1_6], .agg #[.int .u64 a2_0, .int .u32 a2_1, .int .u32 a2_2, .int .i64 a2_3, .int .u64 a2_4, .int .u32 a2_5, .int .u32 a2_6], .agg #[.int .u64 a3_0, .int .u32 a3_1, .int .u32 a3_2, .int .i64 a3_3, .int .u64 a3_4, .int .u32 a3_5, .int .u32 a3_6]] w fun e w' => e = .returned (.bool r) ∧ Below w.heap.size w w' := by
 have hu28 := Try.underlying28
 have HB := Aside0.mk (Below.refl w.heap.size w)
 have H : ((turnstonelaw05_awake.f).bind fun t139 => (if t139 = true then ((turnstonelaw05_near.f k a0 a1_0 a1_1 a1_2 a1_3 a1_4 a1_5 a1_6).bind fun t140 => (if t140 = true then ((turnstonelaw05_near.f k a0 a2_0 a2_1 a2_2 a2_3 a2_4 a2_5 a2_6).bind fun t141 => (if t141 = true then ((turnstonelaw05_near.f k a0 a3_0 a3_1 a3_2 a3_3 a3_4 a3_5 a3_6).bind fun t142 => (if t142 = true then (if a1_3 = a2_3 then (turnstonelaw05_ItemOrders.j0 k true a1_0 a1_1 a1_2 a1_3 a1_4 a1_5 a1_6 a2_0 a2_1 a2_2 a2_3 a2_4 a2_5 a2_6 a3_0 a3_1 a3_2 a3_3 a3_4 a3_5 a3_6) else (if a2_3 = a3_3 then (turnstonelaw05_ItemOrders.j0 k true a1_0 a1_1 a1_2 a1_3 a1_4 a1_5 a1_6 a2_0 a2_1 a2_2 a2_3 a2_4 a2_5 a2_6 a3_0 a3_1 a3_2 a3_3 a3_4 a3_5 a3_6) else (turnstonelaw05_ItemOrders.j0 k (a1_3 == a3_3) a1_0 a1_1 a1_2 a1_3 a1_4 a1_5 a1_6 a2_0 a2_1 a2_2 a2_3 a2_4 a2_5 a2_6 a3_0 a3_1 a3_2 a3_3 a3_4 a3_5 a3_6))) else (turnstonelaw05_ItemOrders.j0 k true a1_0 a1_1 a1_2 a1_3 a1_4 a1_5 a1_6 a2_0 a2_1 a2_2 a2_3 a2_4 a2_5 a2_6 a3_0 a3_1 a3_2 a3_3 a3_4 a3_5 a3_6))) else (turnstonelaw05_ItemOrders.j0 k true a1_0 a1_1 a1_2 a1_3 a1_4 a1_5 a1_6 a2_0 a2_1 a2_2 a2_3 a2_4 a2_5 a2_6 a3_0 a3_1 a3_2 a3_3 a3_4 a3_5 a3_6))) else (turnstonelaw05_ItemOrders.j0 k true a1_0 a1_1 a1_2 a1_3 a1_4 a1_5 a1_6 a2_0 a2_1 a2_2 a2_3 a2_4 a2_5 a2_6 a3_0 a3_1 a3_2 a3_3 a3_4 a3_5 a3_6))) else (none))) = some r := h
 clear h
 replace H := Option.bind_eq_some_iff.mp H
 obtain ⟨t139, A50, H⟩ := H
 replace H : (if t139 = true then ((turnstonelaw05_near.f k a0 a1_0 a1_1 a1_2 a1_3 a1_4 a1_5 a1_6).bind fun t140 => (if t140 = true then ((turnstonelaw05_near.f k a0 a2_0 a2_1 a2_2 a2_3 a2_4 a2_5 a2_6).bind fun t141 => (if t141 = true then ((turnstonelaw05_near.f k a0 a3_0 a3_1 a3_2 a3_3 a3_4 a3_5 a3_6).bind fun t142 => (if t142 = true then (if a1_3 = a2_3 then (turnstonelaw05_ItemOrders.j0 k true a1_0 a1_1 a1_2 a1_3 a1_4 a1_5 a1_6 a2_0 a2_1 a2_2 a2_3 a2_4 a2_5 a2_6 a3_0 a3_1 a3_2 a3_3 a3_4 a3_5 a3_6) else (if a2_3 = a3_3 then (turnstonelaw05_ItemOrders.j0 k true a1_0 a1_1 a1_2 a1_3 a1_4 a1_5 a1_6 a2_0 a2_1 a2_2 a2_3 a2_4 a2_5 a2_6 a3_0 a3_1 a3_2 a3_3 a3_4 a3_5 a3_6) else (turnstonelaw05_ItemOrders.j0 k (a1_3 == a3_3) a1_0 a1_1 a1_2 a1_3 a1_4 a1_5 a1_6 a2_0 a2_1 a2_2 a2_3 a2_4 a2_5 a2_6 a3_0 a3_1 a3_2 a3_3 a3_4 a3_5 a3_6))) else (turnstonelaw05_ItemOrders.j0 k true a1_0 a1_1 a1_2 a1_3 a1_4 a1_5 a1_6 a2_0 a2_1 a2_2 a2_3 a2_4 a2_5 a2_6 a3_0 a3_1 a3_2 a3_3 a3_4 a3_5 a3_6))) else (turnstonelaw05_ItemOrders.j0 k true a1_0 a1_1 a1_2 a1_3 a1_4 a1_5 a1_6 a2_0 a2_1 a2_2 a2_3 a2_4 a2_5 a2_6 a3_0 a3_1 a3_2 a3_3 a3_4 a3_5 a3_6))) else (turnstonelaw05_ItemOrders.j0 k true a1_0 a1_1 a1_2 a1_3 a1_4 a1_5 a1_6 a2_0 a2_1 a2_2 a2_3 a2_4 a2_5 a2_6 a3_0 a3_1 a3_2 a3_3 a3_4 a3_5 a3_6))) else (none)) = some r := H
 have A5 := Aside0.mk A50
 clear A50
 by_cases c6 : t139 = true
 ·subst c6
  have H1 : ((turnstonelaw05_near.f k a0 a1_0 a1_1 a1_2 a1_3 a1_4 a1_5 a1_6).bind fun t140 => (if t140 = true then ((turnstonelaw05_near.f k a0 a2_0 a2_1 a2_2 a2_3 a2_4 a2_5 a2_6).bind fun t141 => (if t141 = true then ((turnstonelaw05_near.f k a0 a3_0 a3_1 a3_2 a3_3 a3_4 a3_5 a3_6).bind fun t142 => (if t142 = true then (if a1_3 = a2_3 then (turnstonelaw05_ItemOrders.j0 k true a1_0 a1_1 a1_2 a1_3 a1_4 a1_5 a1_6 a2_0 a2_1 a2_2 a2_3 a2_4 a2_5 a2_6 a3_0 a3_1 a3_2 a3_3 a3_4 a3_5 a3_6) else (if a2_3 = a3_3 then (turnstonelaw05_ItemOrders.j0 k true a1_0 a1_1 a1_2 a1_3 a1_4 a1_5 a1_6 a2_0 a2_1 a2_2 a2_3 a2_4 a2_5 a2_6 a3_0 a3_1 a3_2 a3_3 a3_4 a3_5 a3_6) else (turnstonelaw05_ItemOrders.j0 k (a1_3 == a3_3) a1_0 a1_1 a1_2 a1_3 a1_4 a1_5 a1_6 a2_0 a2_1 a2_2 a2_3 a2_4 a2_5 a2_6 a3_0 a3_1 a3_2 a3_3 a3_4 a3_5 a3_6))) else (turnstonelaw05_ItemOrders.j0 k true a1_0 a1_1 a1_2 a1_3 a1_4 a1_5 a1_6 a2_0 a2_1 a2_2 a2_3 a2_4 a2_5 a2_6 a3_0 a3_1 a3_2 a3_3 a3_4 a3_5 a3_6))) else (turnstonelaw05_ItemOrders.j0 k true a1_0 a1_1 a1_2 a1_3 a1_4 a1_5 a1_6 a2_0 a2_1 a2_2 a2_3 a2_4 a2_5 a2_6 a3_0 a3_1 a3_2 a3_3 a3_4 a3_5 a3_6))) else (turnstonelaw05_ItemOrders.j0 k true a1_0 a1_1 a1_2 a1_3 a1_4 a1_5 a1_6 a2_0 a2_1 a2_2 a2_3 a2_4 a2_5 a2_6 a3_0 a3_1 a3_2 a3_3 a3_4 a3_5 a3_6))) = some r := by rw [if_pos rfl] at H; exact H
  clear H
  have H := H1
  clear H1
  have HC7 := Aside0.mk H
  clear H
  go_enter Try.func3, Try.ntmps3
  go_upto_region 3 with (first | ((with_reducible refine gate_dst (N := 5) rfl ?_); refine box_event ?hg (N := 5) ?hd (cs := #[.int .u64 a1_0, .int .u32 a1_1, .int .u32 a1_2, .int .i64 a1_3, .int .u64 a1_4, .int .u32 a1_5, .int .u32 a1_6]) (t := 28) ?hr ?_; (case hd => rfl); (case hg => rfl); (case hr => first | (go_simp; done) | (go_simp; rfl)); intro gb136 hg w8 hbox hb; have BK136 := Aside0.mk (hbox); have GW136 := bels HB hg; have GE136 := bels HB hg; replace HB := belb HB hb; clear hb hbox hg) | ((with_reducible refine gate_dst (N := 6) rfl ?_); refine box_event ?hg (N := 6) ?hd (cs := #[.int .u64 a2_0, .int .u32 a2_1, .int .u32 a2_2, .int .i64 a2_3, .int .u64 a2_4, .int .u32 a2_5, .int .u32 a2_6]) (t := 28) ?hr ?_; (case hd => rfl); (case hg => rfl); (case hr => first | (go_simp; done) | (go_simp; rfl)); intro gb137 hg w9 hbox hb; have BK137 := Aside0.mk (hbox); have GW137 := bels HB hg; have GE137 := bels HB hg; have NB136_137 := blkl BK136 hg; have NB137_136 := blkg BK136 hg; replace BK136 := blkb BK136 hb; replace HB := belb HB hb; clear hb hbox hg) | ((with_reducible refine gate_dst (N := 7) rfl ?_); refine box_event ?hg (N := 7) ?hd (cs := #[.int .u64 a3_0, .int .u32 a3_1, .int .u32 a3_2, .int .i64 a3_3, .int .u64 a3_4, .int .u32 a3_5, .int .u32 a3_6]) (t := 28) ?hr ?_; (case hd => rfl); (case hg => rfl); (case hr => first | (go_simp; done) | (go_simp; rfl)); intro gb138 hg w10 hbox hb; have BK138 := Aside0.mk (hbox); have GW138 := bels HB hg; have GE138 := bels HB hg; have NB136_138 := blkl BK136 hg; have NB138_136 := blkg BK136 hg; have NB137_138 := blkl BK137 hg; have NB138_137 := blkg BK137 hg; replace BK136 := blkb BK136 hb; replace BK137 := blkb BK137 hb; replace HB := belb HB hb; clear hb hbox hg) | ((with_reducible refine gate_callee (f := 6) rfl ?_); refine goesL_ (some 9) rfl rfl Try.func6 (by kernel_rfl) rfl #[] rfl argt ?_; (with_reducible refine (turnstonelaw05_awake.calls  true _ A5.out).mono ?_); rintro e w11 ⟨rfl, hb⟩; refine ⟨_, rfl, ?_⟩; replace BK136 := blkb BK136 hb; replace BK137 := blkb BK137 hb; replace BK138 := blkb BK138 hb; replace HB := belb HB hb; (try clear hb); (try clear hb2); (try clear hk); (try clear hi)))
  (try simp only [Act.put, List.setIfInBounds_toArray, List.set_cons_zero, List.set_cons_succ])
  go_cut [47] (fun v47 wc => ∃ (kq : Nat) (x47_6 : Bool), v47 = .bool x47_6 ∧ Aside0 (turnstonelaw05_ItemOrders.j0 kq x47_6 a1_0 a1_1 a1_2 a1_3 a1_4 a1_5 a1_6 a2_0 a2_1 a2_2 a2_3 a2_4 a2_5 a2_6 a3_0 a3_1 a3_2 a3_3 a3_4 a3_5 a3_6 = some r) ∧ Aside0 (kq ≤ k) ∧ Aside0 (wc.heap[gb136]? = some (.cells #[.int .u64 a1_0, .int .u32 a1_1, .int .u32 a1_2, .int .i64 a1_3, .int .u64 a1_4, .int .u32 a1_5, .int .u32 a1_6] 28 (0, 0))) ∧ Aside0 (wc.heap[gb137]? = some (.cells #[.int .u64 a2_0, .int .u32 a2_1, .int .u32 a2_2, .int .i64 a2_3, .int .u64 a2_4, .int .u32 a2_5, .int .u32 a2_6] 28 (0, 0))) ∧ Aside0 (wc.heap[gb138]? = some (.cells #[.int .u64 a3_0, .int .u32 a3_1, .int .u32 a3_2, .int .i64 a3_3, .int .u64 a3_4, .int .u32 a3_5, .int .u32 a3_6] 28 (0, 0))) ∧ Aside0 (Below w.heap.size w wc))
  case first =>
   have H := HC7.out
   clear HC7
   replace H := Option.bind_eq_some_iff.mp H
   obtain ⟨t140, A120, H⟩ := H
   replace H : (if t140 = true then ((turnstonelaw05_near.f k a0 a2_0 a2_1 a2_2 a2_3 a2_4 a2_5 a2_6).bind fun t141 => (if t141 = true then ((turnstonelaw05_near.f k a0 a3_0 a3_1 a3_2 a3_3 a3_4 a3_5 a3_6).bind fun t142 => (if t142 = true then (if a1_3 = a2_3 then (turnstonelaw05_ItemOrders.j0 k true a1_0 a1_1 a1_2 a1_3 a1_4 a1_5 a1_6 a2_0 a2_1 a2_2 a2_3 a2_4 a2_5 a2_6 a3_0 a3_1 a3_2 a3_3 a3_4 a3_5 a3_6) else (if a2_3 = a3_3 then (turnstonelaw05_ItemOrders.j0 k true a1_0 a1_1 a1_2 a1_3 a1_4 a1_5 a1_6 a2_0 a2_1 a2_2 a2_3 a2_4 a2_5 a2_6 a3_0 a3_1 a3_2 a3_3 a3_4 a3_5 a3_6) else (turnstonelaw05_ItemOrders.j0 k (a1_3 == a3_3) a1_0 a1_1 a1_2 a1_3 a1_4 a1_5 a1_6 a2_0 a2_1 a2_2 a2_3 a2_4 a2_5 a2_6 a3_0 a3_1 a3_2 a3_3 a3_4 a3_5 a3_6))) else (turnstonelaw05_ItemOrders.j0 k true a1_0 a1_1 a1_2 a1_3 a1_4 a1_5 a1_6 a2_0 a2_1 a2_2 a2_3 a2_4 a2_5 a2_6 a3_0 a3_1 a3_2 a3_3 a3_4 a3_5 a3_6))) else (turnstonelaw05_ItemOrders.j0 k true a1_0 a1_1 a1_2 a1_3 a1_4 a1_5 a1_6 a2_0 a2_1 a2_2 a2_3 a2_4 a2_5 a2_6 a3_0 a3_1 a3_2 a3_3 a3_4 a3_5 a3_6))) else (turnstonelaw05_ItemOrders.j0 k true a1_0 a1_1 a1_2 a1_3 a1_4 a1_5 a1_6 a2_0 a2_1 a2_2 a2_3 a2_4 a2_5 a2_6 a3_0 a3_1 a3_2 a3_3 a3_4 a3_5 a3_6)) = some r := H
   have A12 := Aside0.mk A120
   clear A120
   by_cases c13 : t140 = true
   ·subst c13
    have H1 : ((turnstonelaw05_near.f k a0 a2_0 a2_1 a2_2 a2_3 a2_4 a2_5 a2_6).bind fun t141 => (if t141 = true then ((turnstonelaw05_near.f k a0 a3_0 a3_1 a3_2 a3_3 a3_4 a3_5 a3_6).bind fun t142 => (if t142 = true then (if a1_3 = a2_3 then (turnstonelaw05_ItemOrders.j0 k true a1_0 a1_1 a1_2 a1_3 a1_4 a1_5 a1_6 a2_0 a2_1 a2_2 a2_3 a2_4 a2_5 a2_6 a3_0 a3_1 a3_2 a3_3 a3_4 a3_5 a3_6) else (if a2_3 = a3_3 then (turnstonelaw05_ItemOrders.j0 k true a1_0 a1_1 a1_2 a1_3 a1_4 a1_5 a1_6 a2_0 a2_1 a2_2 a2_3 a2_4 a2_5 a2_6 a3_0 a3_1 a3_2 a3_3 a3_4 a3_5 a3_6) else (turnstonelaw05_ItemOrders.j0 k (a1_3 == a3_3) a1_0 a1_1 a1_2 a1_3 a1_4 a1_5 a1_6 a2_0 a2_1 a2_2 a2_3 a2_4 a2_5 a2_6 a3_0 a3_1 a3_2 a3_3 a3_4 a3_5 a3_6))) else (turnstonelaw05_ItemOrders.j0 k true a1_0 a1_1 a1_2 a1_3 a1_4 a1_5 a1_6 a2_0 a2_1 a2_2 a2_3 a2_4 a2_5 a2_6 a3_0 a3_1 a3_2 a3_3 a3_4 a3_5 a3_6))) else (turnstonelaw05_ItemOrders.j0 k true a1_0 a1_1 a1_2 a1_3 a1_4 a1_5 a1_6 a2_0 a2_1 a2_2 a2_3 a2_4 a2_5 a2_6 a3_0 a3_1 a3_2 a3_3 a3_4 a3_5 a3_6))) = some r := by rw [if_pos rfl] at H; exact H
    clear H
    have H := H1
    clear H1
    replace H := Option.bind_eq_some_iff.mp H
    obtain ⟨t141, A140, H⟩ := H
    replace H : (if t141 = true then ((turnstonelaw05_near.f k a0 a3_0 a3_1 a3_2 a3_3 a3_4 a3_5 a3_6).bind fun t142 => (if t142 = true then (if a1_3 = a2_3 then (turnstonelaw05_ItemOrders.j0 k true a1_0 a1_1 a1_2 a1_3 a1_4 a1_5 a1_6 a2_0 a2_1 a2_2 a2_3 a2_4 a2_5 a2_6 a3_0 a3_1 a3_2 a3_3 a3_4 a3_5 a3_6) else (if a2_3 = a3_3 then (turnstonelaw05_ItemOrders.j0 k true a1_0 a1_1 a1_2 a1_3 a1_4 a1_5 a1_6 a2_0 a2_1 a2_2 a2_3 a2_4 a2_5 a2_6 a3_0 a3_1 a3_2 a3_3 a3_4 a3_5 a3_6) else (turnstonelaw05_ItemOrders.j0 k (a1_3 == a3_3) a1_0 a1_1 a1_2 a1_3 a1_4 a1_5 a1_6 a2_0 a2_1 a2_2 a2_3 a2_4 a2_5 a2_6 a3_0 a3_1 a3_2 a3_3 a3_4 a3_5 a3_6))) else (turnstonelaw05_ItemOrders.j0 k true a1_0 a1_1 a1_2 a1_3 a1_4 a1_5 a1_6 a2_0 a2_1 a2_2 a2_3 a2_4 a2_5 a2_6 a3_0 a3_1 a3_2 a3_3 a3_4 a3_5 a3_6))) else (turnstonelaw05_ItemOrders.j0 k true a1_0 a1_1 a1_2 a1_3 a1_4 a1_5 a1_6 a2_0 a2_1 a2_2 a2_3 a2_4 a2_5 a2_6 a3_0 a3_1 a3_2 a3_3 a3_4 a3_5 a3_6)) = some r := H
    have A14 := Aside0.mk A140
    clear A140
    by_cases c15 : t141 = true
    ·subst c15
     have H1 : ((turnstonelaw05_near.f k a0 a3_0 a3_1 a3_2 a3_3 a3_4 a3_5 a3_6).bind fun t142 => (if t142 = true then (if a1_3 = a2_3 then (turnstonelaw05_ItemOrders.j0 k true a1_0 a1_1 a1_2 a1_3 a1_4 a1_5 a1_6 a2_0 a2_1 a2_2 a2_3 a2_4 a2_5 a2_6 a3_0 a3_1 a3_2 a3_3 a3_4 a3_5 a3_6) else (if a2_3 = a3_3 then (turnstonelaw05_ItemOrders.j0 k true a1_0 a1_1 a1_2 a1_3 a1_4 a1_5 a1_6 a2_0 a2_1 a2_2 a2_3 a2_4 a2_5 a2_6 a3_0 a3_1 a3_2 a3_3 a3_4 a3_5 a3_6) else (turnstonelaw05_ItemOrders.j0 k (a1_3 == a3_3) a1_0 a1_1 a1_2 a1_3 a1_4 a1_5 a1_6 a2_0 a2_1 a2_2 a2_3 a2_4 a2_5 a2_6 a3_0 a3_1 a3_2 a3_3 a3_4 a3_5 a3_6))) else (turnstonelaw05_ItemOrders.j0 k true a1_0 a1_1 a1_2 a1_3 a1_4 a1_5 a1_6 a2_0 a2_1 a2_2 a2_3 a2_4 a2_5 a2_6 a3_0 a3_1 a3_2 a3_3 a3_4 a3_5 a3_6))) = some r := by rw [if_pos rfl] at H; exact H
     clear H
     have H := H1
     clear H1
     replace H := Option.bind_eq_some_iff.mp H
     obtain ⟨t142, A160, H⟩ := H
     replace H : (if t142 = true then (if a1_3 = a2_3 then (turnstonelaw05_ItemOrders.j0 k true a1_0 a1_1 a1_2 a1_3 a1_4 a1_5 a1_6 a2_0 a2_1 a2_2 a2_3 a2_4 a2_5 a2_6 a3_0 a3_1 a3_2 a3_3 a3_4 a3_5 a3_6) else (if a2_3 = a3_3 then (turnstonelaw05_ItemOrders.j0 k true a1_0 a1_1 a1_2 a1_3 a1_4 a1_5 a1_6 a2_0 a2_1 a2_2 a2_3 a2_4 a2_5 a2_6 a3_0 a3_1 a3_2 a3_3 a3_4 a3_5 a3_6) else (turnstonelaw05_ItemOrders.j0 k (a1_3 == a3_3) a1_0 a1_1 a1_2 a1_3 a1_4 a1_5 a1_6 a2_0 a2_1 a2_2 a2_3 a2_4 a2_5 a2_6 a3_0 a3_1 a3_2 a3_3 a3_4 a3_5 a3_6))) else (turnstonelaw05_ItemOrders.j0 k true a1_0 a1_1 a1_2 a1_3 a1_4 a1_5 a1_6 a2_0 a2_1 a2_2 a2_3 a2_4 a2_5 a2_6 a3_0 a3_1 a3_2 a3_3 a3_4 a3_5 a3_6)) = some r := H
     have A16 := Aside0.mk A160
     clear A160
     by_cases c17 : t142 = true
     ·subst c17
      have H1 : (if a1_3 = a2_3 then (turnstonelaw05_ItemOrders.j0 k true a1_0 a1_1 a1_2 a1_3 a1_4 a1_5 a1_6 a2_0 a2_1 a2_2 a2_3 a2_4 a2_5 a2_6 a3_0 a3_1 a3_2 a3_3 a3_4 a3_5 a3_6) else (if a2_3 = a3_3 then (turnstonelaw05_ItemOrders.j0 k true a1_0 a1_1 a1_2 a1_3 a1_4 a1_5 a1_6 a2_0 a2_1 a2_2 a2_3 a2_4 a2_5 a2_6 a3_0 a3_1 a3_2 a3_3 a3_4 a3_5 a3_6) else (turnstonelaw05_ItemOrders.j0 k (a1_3 == a3_3) a1_0 a1_1 a1_2 a1_3 a1_4 a1_5 a1_6 a2_0 a2_1 a2_2 a2_3 a2_4 a2_5 a2_6 a3_0 a3_1 a3_2 a3_3 a3_4 a3_5 a3_6))) = some r := by rw [if_pos rfl] at H; exact H
      clear H
      have H := H1
      clear H1
      by_cases c18 : a1_3 = a2_3
      ·rw [if_pos c18] at H
       have c18b0 : (a1_3 == a2_3) = true := beq_iff_eq.mpr c18
       have c18b1 : (a1_3 != a2_3) = false := bne_eq_false_iff_eq.mpr c18
       clear c18
       (first | rw [c18b0] | (simp only [i64_w, i32_w]; rw [c18b0]) | skip)
       have H' := Aside0.mk H
       clear H
       have hnb19 := NB136_137.out
       have hnc19 := NB137_136.out
       have hnb20 := NB136_138.out
       have hnc20 := NB138_136.out
       have hcz21_0 : w11.cell? ⟨gb136, 0, none⟩ = some (.int .u64 a1_0) := bc BK136 0
       have hcz21_1 : w11.cell? ⟨gb136, 1, none⟩ = some (.int .u32 a1_1) := bc BK136 1
       have hcz21_2 : w11.cell? ⟨gb136, 2, none⟩ = some (.int .u32 a1_2) := bc BK136 2
       have hcz21_3 : w11.cell? ⟨gb136, 3, none⟩ = some (.int .i64 a1_3) := bc BK136 3
       have hcz21_4 : w11.cell? ⟨gb136, 4, none⟩ = some (.int .u64 a1_4) := bc BK136 4
       have hcz21_5 : w11.cell? ⟨gb136, 5, none⟩ = some (.int .u32 a1_5) := bc BK136 5
       have hcz21_6 : w11.cell? ⟨gb136, 6, none⟩ = some (.int .u32 a1_6) := bc BK136 6
       have hfz21_0 := blk_frozen BK136.out 0
       have hfz21_1 := blk_frozen BK136.out 1
       have hfz21_2 := blk_frozen BK136.out 2
       have hfz21_3 := blk_frozen BK136.out 3
       have hfz21_4 := blk_frozen BK136.out 4
       have hfz21_5 := blk_frozen BK136.out 5
       have hfz21_6 := blk_frozen BK136.out 6
       go_wp2_with (first | ((with_reducible refine gate_callee (f := 7) rfl ?_); refine goesL_ (some 13) rfl rfl Try.func7 (by kernel_rfl) rfl #[.int .u64 a0, .agg #[.int .u64 a1_0, .int .u32 a1_1, .int .u32 a1_2, .int .i64 a1_3, .int .u64 a1_4, .int .u32 a1_5, .int .u32 a1_6]] rfl argt ?_; (with_reducible refine (turnstonelaw05_near.calls k a0 a1_0 a1_1 a1_2 a1_3 a1_4 a1_5 a1_6 true _ A12.out).mono ?_); rintro e w22 ⟨rfl, hb⟩; refine ⟨_, rfl, ?_⟩; replace BK136 := blkb BK136 hb; replace BK137 := blkb BK137 hb; replace BK138 := blkb BK138 hb; replace HB := belb HB hb; (try clear hb); (try clear hb2); (try clear hk); (try clear hi); have hnb23 := NB137_138.out; have hnc23 := NB138_137.out; have hcz24_0 : w22.cell? ⟨gb137, 0, none⟩ = some (.int .u64 a2_0) := bc BK137 0; have hcz24_1 : w22.cell? ⟨gb137, 1, none⟩ = some (.int .u32 a2_1) := bc BK137 1; have hcz24_2 : w22.cell? ⟨gb137, 2, none⟩ = some (.int .u32 a2_2) := bc BK137 2; have hcz24_3 : w22.cell? ⟨gb137, 3, none⟩ = some (.int .i64 a2_3) := bc BK137 3; have hcz24_4 : w22.cell? ⟨gb137, 4, none⟩ = some (.int .u64 a2_4) := bc BK137 4; have hcz24_5 : w22.cell? ⟨gb137, 5, none⟩ = some (.int .u32 a2_5) := bc BK137 5; have hcz24_6 : w22.cell? ⟨gb137, 6, none⟩ = some (.int .u32 a2_6) := bc BK137 6; have hfz24_0 := blk_frozen BK137.out 0; have hfz24_1 := blk_frozen BK137.out 1; have hfz24_2 := blk_frozen BK137.out 2; have hfz24_3 := blk_frozen BK137.out 3; have hfz24_4 := blk_frozen BK137.out 4; have hfz24_5 := blk_frozen BK137.out 5; have hfz24_6 := blk_frozen BK137.out 6) | (go_at_call 7; (with_reducible refine (turnstonelaw05_near.calls k a0 a2_0 a2_1 a2_2 a2_3 a2_4 a2_5 a2_6 true _ A14.out).mono ?_); rintro e w25 ⟨rfl, hb⟩; replace BK136 := blkb BK136 hb; replace BK137 := blkb BK137 hb; replace BK138 := blkb BK138 hb; replace HB := belb HB hb; (try clear hb); (try clear hb2); (try clear hk); (try clear hi); have hcz26_0 : w25.cell? ⟨gb138, 0, none⟩ = some (.int .u64 a3_0) := bc BK138 0; have hcz26_1 : w25.cell? ⟨gb138, 1, none⟩ = some (.int .u32 a3_1) := bc BK138 1; have hcz26_2 : w25.cell? ⟨gb138, 2, none⟩ = some (.int .u32 a3_2) := bc BK138 2; have hcz26_3 : w25.cell? ⟨gb138, 3, none⟩ = some (.int .i64 a3_3) := bc BK138 3; have hcz26_4 : w25.cell? ⟨gb138, 4, none⟩ = some (.int .u64 a3_4) := bc BK138 4; have hcz26_5 : w25.cell? ⟨gb138, 5, none⟩ = some (.int .u32 a3_5) := bc BK138 5; have hcz26_6 : w25.cell? ⟨gb138, 6, none⟩ = some (.int .u32 a3_6) := bc BK138 6; have hfz26_0 := blk_frozen BK138.out 0; have hfz26_1 := blk_frozen BK138.out 1; have hfz26_2 := blk_frozen BK138.out 2; have hfz26_3 := blk_frozen BK138.out 3; have hfz26_4 := blk_frozen BK138.out 4; have hfz26_5 := blk_frozen BK138.out 5; have hfz26_6 := blk_frozen BK138.out 6) | (go_at_call 7; (with_reducible refine (turnstonelaw05_near.calls k a0 a3_0 a3_1 a3_2 a3_3 a3_4 a3_5 a3_6 true _ A16.out).mono ?_); rintro e w27 ⟨rfl, hb⟩; replace BK136 := blkb BK136 hb; replace BK137 := blkb BK137 hb; replace BK138 := blkb BK138 hb; replace HB := belb HB hb; (try clear hb); (try clear hb2); (try clear hk); (try clear hi); have hcz28_0 : w27.cell? ⟨gb136, 0, none⟩ = some (.int .u64 a1_0) := bc BK136 0; have hcz28_1 : w27.cell? ⟨gb136, 1, none⟩ = some (.int .u32 a1_1) := bc BK136 1; have hcz28_2 : w27.cell? ⟨gb136, 2, none⟩ = some (.int .u32 a1_2) := bc BK136 2; have hcz28_3 : w27.cell? ⟨gb136, 3, none⟩ = some (.int .i64 a1_3) := bc BK136 3; have hcz28_4 : w27.cell? ⟨gb136, 4, none⟩ = some (.int .u64 a1_4) := bc BK136 4; have hcz28_5 : w27.cell? ⟨gb136, 5, none⟩ = some (.int .u32 a1_5) := bc BK136 5; have hcz28_6 : w27.cell? ⟨gb136, 6, none⟩ = some (.int .u32 a1_6) := bc BK136 6; have hfz28_0 := blk_frozen BK136.out 0; have hfz28_1 := blk_frozen BK136.out 1; have hfz28_2 := blk_frozen BK136.out 2; have hfz28_3 := blk_frozen BK136.out 3; have hfz28_4 := blk_frozen BK136.out 4; have hfz28_5 := blk_frozen BK136.out 5; have hfz28_6 := blk_frozen BK136.out 6; have hcz29_0 : w27.cell? ⟨gb137, 0, none⟩ = some (.int .u64 a2_0) := bc BK137 0; have hcz29_1 : w27.cell? ⟨gb137, 1, none⟩ = some (.int .u32 a2_1) := bc BK137 1; have hcz29_2 : w27.cell? ⟨gb137, 2, none⟩ = some (.int .u32 a2_2) := bc BK137 2; have hcz29_3 : w27.cell? ⟨gb137, 3, none⟩ = some (.int .i64 a2_3) := bc BK137 3; have hcz29_4 : w27.cell? ⟨gb137, 4, none⟩ = some (.int .u64 a2_4) := bc BK137 4; have hcz29_5 : w27.cell? ⟨gb137, 5, none⟩ = some (.int .u32 a2_5) := bc BK137 5; have hcz29_6 : w27.cell? ⟨gb137, 6, none⟩ = some (.int .u32 a2_6) := bc BK137 6; have hfz29_0 := blk_frozen BK137.out 0; have hfz29_1 := blk_frozen BK137.out 1; have hfz29_2 := blk_frozen BK137.out 2; have hfz29_3 := blk_frozen BK137.out 3; have hfz29_4 := blk_frozen BK137.out 4; have hfz29_5 := blk_frozen BK137.out 5; have hfz29_6 := blk_frozen BK137.out 6))
       go_meet
       case rel => exact ⟨_, (true), (by first | rfl | (simp; done) | (simp [*]; done)), H', ⟨by first | omega | exact Nat.le_refl _⟩, ⟨blkt BK136⟩, ⟨blkt BK137⟩, ⟨blkt BK138⟩, ⟨belt HB⟩⟩
      rw [if_neg c18] at H
      have c18b0 : (a1_3 == a2_3) = false := beq_eq_false_iff_ne.mpr c18
      have c18b1 : (a1_3 != a2_3) = true := bne_iff_ne.mpr c18
      (first | rw [c18b0] | (simp only [i64_w, i32_w]; rw [c18b0]) | skip)
      by_cases c30 : a2_3 = a3_3
      ·rw [if_pos c30] at H
       have c30b0 : (a2_3 == a3_3) = true := beq_iff_eq.mpr c30
       have c30b1 : (a2_3 != a3_3) = false := bne_eq_false_iff_eq.mpr c30
       clear c30
       have H' := Aside0.mk H
       clear H
       have hnb31 := NB136_137.out
       have hnc31 := NB137_136.out
       have hnb32 := NB136_138.out
       have hnc32 := NB138_136.out
       have hcz33_0 : w11.cell? ⟨gb136, 0, none⟩ = some (.int .u64 a1_0) := bc BK136 0
       have hcz33_1 : w11.cell? ⟨gb136, 1, none⟩ = some (.int .u32 a1_1) := bc BK136 1
       have hcz33_2 : w11.cell? ⟨gb136, 2, none⟩ = some (.int .u32 a1_2) := bc BK136 2
       have hcz33_3 : w11.cell? ⟨gb136, 3, none⟩ = some (.int .i64 a1_3) := bc BK136 3
       have hcz33_4 : w11.cell? ⟨gb136, 4, none⟩ = some (.int .u64 a1_4) := bc BK136 4
       have hcz33_5 : w11.cell? ⟨gb136, 5, none⟩ = some (.int .u32 a1_5) := bc BK136 5
       have hcz33_6 : w11.cell? ⟨gb136, 6, none⟩ = some (.int .u32 a1_6) := bc BK136 6
       have hfz33_0 := blk_frozen BK136.out 0
       have hfz33_1 := blk_frozen BK136.out 1
       have hfz33_2 := blk_frozen BK136.out 2
       have hfz33_3 := blk_frozen BK136.out 3
       have hfz33_4 := blk_frozen BK136.out 4
       have hfz33_5 := blk_frozen BK136.out 5
       have hfz33_6 := blk_frozen BK136.out 6
       go_wp2_with (first | ((with_reducible refine gate_callee (f := 7) rfl ?_); refine goesL_ (some 13) rfl rfl Try.func7 (by kernel_rfl) rfl #[.int .u64 a0, .agg #[.int .u64 a1_0, .int .u32 a1_1, .int .u32 a1_2, .int .i64 a1_3, .int .u64 a1_4, .int .u32 a1_5, .int .u32 a1_6]] rfl argt ?_; (with_reducible refine (turnstonelaw05_near.calls k a0 a1_0 a1_1 a1_2 a1_3 a1_4 a1_5 a1_6 true _ A12.out).mono ?_); rintro e w34 ⟨rfl, hb⟩; refine ⟨_, rfl, ?_⟩; replace BK136 := blkb BK136 hb; replace BK137 := blkb BK137 hb; replace BK138 := blkb BK138 hb; replace HB := belb HB hb; (try clear hb); (try clear hb2); (try clear hk); (try clear hi); have hnb35 := NB137_138.out; have hnc35 := NB138_137.out; have hcz36_0 : w34.cell? ⟨gb137, 0, none⟩ = some (.int .u64 a2_0) := bc BK137 0; have hcz36_1 : w34.cell? ⟨gb137, 1, none⟩ = some (.int .u32 a2_1) := bc BK137 1; have hcz36_2 : w34.cell? ⟨gb137, 2, none⟩ = some (.int .u32 a2_2) := bc BK137 2; have hcz36_3 : w34.cell? ⟨gb137, 3, none⟩ = some (.int .i64 a2_3) := bc BK137 3; have hcz36_4 : w34.cell? ⟨gb137, 4, none⟩ = some (.int .u64 a2_4) := bc BK137 4; have hcz36_5 : w34.cell? ⟨gb137, 5, none⟩ = some (.int .u32 a2_5) := bc BK137 5; have hcz36_6 : w34.cell? ⟨gb137, 6, none⟩ = some (.int .u32 a2_6) := bc BK137 6; have hfz36_0 := blk_frozen BK137.out 0; have hfz36_1 := blk_frozen BK137.out 1; have hfz36_2 := blk_frozen BK137.out 2; have hfz36_3 := blk_frozen BK137.out 3; have hfz36_4 := blk_frozen BK137.out 4; have hfz36_5 := blk_frozen BK137.out 5; have hfz36_6 := blk_frozen BK137.out 6) | (go_at_call 7; (with_reducible refine (turnstonelaw05_near.calls k a0 a2_0 a2_1 a2_2 a2_3 a2_4 a2_5 a2_6 true _ A14.out).mono ?_); rintro e w37 ⟨rfl, hb⟩; replace BK136 := blkb BK136 hb; replace BK137 := blkb BK137 hb; replace BK138 := blkb BK138 hb; replace HB := belb HB hb; (try clear hb); (try clear hb2); (try clear hk); (try clear hi); have hcz38_0 : w37.cell? ⟨gb138, 0, none⟩ = some (.int .u64 a3_0) := bc BK138 0; have hcz38_1 : w37.cell? ⟨gb138, 1, none⟩ = some (.int .u32 a3_1) := bc BK138 1; have hcz38_2 : w37.cell? ⟨gb138, 2, none⟩ = some (.int .u32 a3_2) := bc BK138 2; have hcz38_3 : w37.cell? ⟨gb138, 3, none⟩ = some (.int .i64 a3_3) := bc BK138 3; have hcz38_4 : w37.cell? ⟨gb138, 4, none⟩ = some (.int .u64 a3_4) := bc BK138 4; have hcz38_5 : w37.cell? ⟨gb138, 5, none⟩ = some (.int .u32 a3_5) := bc BK138 5; have hcz38_6 : w37.cell? ⟨gb138, 6, none⟩ = some (.int .u32 a3_6) := bc BK138 6; have hfz38_0 := blk_frozen BK138.out 0; have hfz38_1 := blk_frozen BK138.out 1; have hfz38_2 := blk_frozen BK138.out 2; have hfz38_3 := blk_frozen BK138.out 3; have hfz38_4 := blk_frozen BK138.out 4; have hfz38_5 := blk_frozen BK138.out 5; have hfz38_6 := blk_frozen BK138.out 6) | (go_at_call 7; (with_reducible refine (turnstonelaw05_near.calls k a0 a3_0 a3_1 a3_2 a3_3 a3_4 a3_5 a3_6 true _ A16.out).mono ?_); rintro e w39 ⟨rfl, hb⟩; replace BK136 := blkb BK136 hb; replace BK137 := blkb BK137 hb; replace BK138 := blkb BK138 hb; replace HB := belb HB hb; (try clear hb); (try clear hb2); (try clear hk); (try clear hi); have hcz40_0 : w39.cell? ⟨gb136, 0, none⟩ = some (.int .u64 a1_0) := bc BK136 0; have hcz40_1 : w39.cell? ⟨gb136, 1, none⟩ = some (.int .u32 a1_1) := bc BK136 1; have hcz40_2 : w39.cell? ⟨gb136, 2, none⟩ = some (.int .u32 a1_2) := bc BK136 2; have hcz40_3 : w39.cell? ⟨gb136, 3, none⟩ = some (.int .i64 a1_3) := bc BK136 3; have hcz40_4 : w39.cell? ⟨gb136, 4, none⟩ = some (.int .u64 a1_4) := bc BK136 4; have hcz40_5 : w39.cell? ⟨gb136, 5, none⟩ = some (.int .u32 a1_5) := bc BK136 5; have hcz40_6 : w39.cell? ⟨gb136, 6, none⟩ = some (.int .u32 a1_6) := bc BK136 6; have hfz40_0 := blk_frozen BK136.out 0; have hfz40_1 := blk_frozen BK136.out 1; have hfz40_2 := blk_frozen BK136.out 2; have hfz40_3 := blk_frozen BK136.out 3; have hfz40_4 := blk_frozen BK136.out 4; have hfz40_5 := blk_frozen BK136.out 5; have hfz40_6 := blk_frozen BK136.out 6; have hcz41_0 : w39.cell? ⟨gb137, 0, none⟩ = some (.int .u64 a2_0) := bc BK137 0; have hcz41_1 : w39.cell? ⟨gb137, 1, none⟩ = some (.int .u32 a2_1) := bc BK137 1; have hcz41_2 : w39.cell? ⟨gb137, 2, none⟩ = some (.int .u32 a2_2) := bc BK137 2; have hcz41_3 : w39.cell? ⟨gb137, 3, none⟩ = some (.int .i64 a2_3) := bc BK137 3; have hcz41_4 : w39.cell? ⟨gb137, 4, none⟩ = some (.int .u64 a2_4) := bc BK137 4; have hcz41_5 : w39.cell? ⟨gb137, 5, none⟩ = some (.int .u32 a2_5) := bc BK137 5; have hcz41_6 : w39.cell? ⟨gb137, 6, none⟩ = some (.int .u32 a2_6) := bc BK137 6; have hfz41_0 := blk_frozen BK137.out 0; have hfz41_1 := blk_frozen BK137.out 1; have hfz41_2 := blk_frozen BK137.out 2; have hfz41_3 := blk_frozen BK137.out 3; have hfz41_4 := blk_frozen BK137.out 4; have hfz41_5 := blk_frozen BK137.out 5; have hfz41_6 := blk_frozen BK137.out 6; have hcz42_0 : w39.cell? ⟨gb138, 0, none⟩ = some (.int .u64 a3_0) := bc BK138 0; have hcz42_1 : w39.cell? ⟨gb138, 1, none⟩ = some (.int .u32 a3_1) := bc BK138 1; have hcz42_2 : w39.cell? ⟨gb138, 2, none⟩ = some (.int .u32 a3_2) := bc BK138 2; have hcz42_3 : w39.cell? ⟨gb138, 3, none⟩ = some (.int .i64 a3_3) := bc BK138 3; have hcz42_4 : w39.cell? ⟨gb138, 4, none⟩ = some (.int .u64 a3_4) := bc BK138 4; have hcz42_5 : w39.cell? ⟨gb138, 5, none⟩ = some (.int .u32 a3_5) := bc BK138 5; have hcz42_6 : w39.cell? ⟨gb138, 6, none⟩ = some (.int .u32 a3_6) := bc BK138 6; have hfz42_0 := blk_frozen BK138.out 0; have hfz42_1 := blk_frozen BK138.out 1; have hfz42_2 := blk_frozen BK138.out 2; have hfz42_3 := blk_frozen BK138.out 3; have hfz42_4 := blk_frozen BK138.out 4; have hfz42_5 := blk_frozen BK138.out 5; have hfz42_6 := blk_frozen BK138.out 6))
       go_meet
       case rel => exact ⟨_, (true), (by first | rfl | (simp; done) | (simp [*]; done)), H', ⟨by first | omega | exact Nat.le_refl _⟩, ⟨blkt BK136⟩, ⟨blkt BK137⟩, ⟨blkt BK138⟩, ⟨belt HB⟩⟩
      rw [if_neg c30] at H
      have c30b0 : (a2_3 == a3_3) = false := beq_eq_false_iff_ne.mpr c30
      have c30b1 : (a2_3 != a3_3) = true := bne_iff_ne.mpr c30
      have H' := Aside0.mk H
      clear H
      have hnb43 := NB136_137.out
      have hnc43 := NB137_136.out
      have hnb44 := NB136_138.out
      have hnc44 := NB138_136.out
      have hcz45_0 : w11.cell? ⟨gb136, 0, none⟩ = some (.int .u64 a1_0) := bc BK136 0
      have hcz45_1 : w11.cell? ⟨gb136, 1, none⟩ = some (.int .u32 a1_1) := bc BK136 1
      have hcz45_2 : w11.cell? ⟨gb136, 2, none⟩ = some (.int .u32 a1_2) := bc BK136 2
      have hcz45_3 : w11.cell? ⟨gb136, 3, none⟩ = some (.int .i64 a1_3) := bc BK136 3
      have hcz45_4 : w11.cell? ⟨gb136, 4, none⟩ = some (.int .u64 a1_4) := bc BK136 4
      have hcz45_5 : w11.cell? ⟨gb136, 5, none⟩ = some (.int .u32 a1_5) := bc BK136 5
      have hcz45_6 : w11.cell? ⟨gb136, 6, none⟩ = some (.int .u32 a1_6) := bc BK136 6
      have hfz45_0 := blk_frozen BK136.out 0
      have hfz45_1 := blk_frozen BK136.out 1
      have hfz45_2 := blk_frozen BK136.out 2
      have hfz45_3 := blk_frozen BK136.out 3
      have hfz45_4 := blk_frozen BK136.out 4
      have hfz45_5 := blk_frozen BK136.out 5
      have hfz45_6 := blk_frozen BK136.out 6
      go_wp2_with (first | ((with_reducible refine gate_callee (f := 7) rfl ?_); refine goesL_ (some 13) rfl rfl Try.func7 (by kernel_rfl) rfl #[.int .u64 a0, .agg #[.int .u64 a1_0, .int .u32 a1_1, .int .u32 a1_2, .int .i64 a1_3, .int .u64 a1_4, .int .u32 a1_5, .int .u32 a1_6]] rfl argt ?_; (with_reducible refine (turnstonelaw05_near.calls k a0 a1_0 a1_1 a1_2 a1_3 a1_4 a1_5 a1_6 true _ A12.out).mono ?_); rintro e w46 ⟨rfl, hb⟩; refine ⟨_, rfl, ?_⟩; replace BK136 := blkb BK136 hb; replace BK137 := blkb BK137 hb; replace BK138 := blkb BK138 hb; replace HB := belb HB hb; (try clear hb); (try clear hb2); (try clear hk); (try clear hi); have hnb47 := NB137_138.out; have hnc47 := NB138_137.out; have hcz48_0 : w46.cell? ⟨gb137, 0, none⟩ = some (.int .u64 a2_0) := bc BK137 0; have hcz48_1 : w46.cell? ⟨gb137, 1, none⟩ = some (.int .u32 a2_1) := bc BK137 1; have hcz48_2 : w46.cell? ⟨gb137, 2, none⟩ = some (.int .u32 a2_2) := bc BK137 2; have hcz48_3 : w46.cell? ⟨gb137, 3, none⟩ = some (.int .i64 a2_3) := bc BK137 3; have hcz48_4 : w46.cell? ⟨gb137, 4, none⟩ = some (.int .u64 a2_4) := bc BK137 4; have hcz48_5 : w46.cell? ⟨gb137, 5, none⟩ = some (.int .u32 a2_5) := bc BK137 5; have hcz48_6 : w46.cell? ⟨gb137, 6, none⟩ = some (.int .u32 a2_6) := bc BK137 6; have hfz48_0 := blk_frozen BK137.out 0; have hfz48_1 := blk_frozen BK137.out 1; have hfz48_2 := blk_frozen BK137.out 2; have hfz48_3 := blk_frozen BK137.out 3; have hfz48_4 := blk_frozen BK137.out 4; have hfz48_5 := blk_frozen BK137.out 5; have hfz48_6 := blk_frozen BK137.out 6) | (go_at_call 7; (with_reducible refine (turnstonelaw05_near.calls k a0 a2_0 a2_1 a2_2 a2_3 a2_4 a2_5 a2_6 true _ A14.out).mono ?_); rintro e w49 ⟨rfl, hb⟩; replace BK136 := blkb BK136 hb; replace BK137 := blkb BK137 hb; replace BK138 := blkb BK138 hb; replace HB := belb HB hb; (try clear hb); (try clear hb2); (try clear hk); (try clear hi); have hcz50_0 : w49.cell? ⟨gb138, 0, none⟩ = some (.int .u64 a3_0) := bc BK138 0; have hcz50_1 : w49.cell? ⟨gb138, 1, none⟩ = some (.int .u32 a3_1) := bc BK138 1; have hcz50_2 : w49.cell? ⟨gb138, 2, none⟩ = some (.int .u32 a3_2) := bc BK138 2; have hcz50_3 : w49.cell? ⟨gb138, 3, none⟩ = some (.int .i64 a3_3) := bc BK138 3; have hcz50_4 : w49.cell? ⟨gb138, 4, none⟩ = some (.int .u64 a3_4) := bc BK138 4; have hcz50_5 : w49.cell? ⟨gb138, 5, none⟩ = some (.int .u32 a3_5) := bc BK138 5; have hcz50_6 : w49.cell? ⟨gb138, 6, none⟩ = some (.int .u32 a3_6) := bc BK138 6; have hfz50_0 := blk_frozen BK138.out 0; have hfz50_1 := blk_frozen BK138.out 1; have hfz50_2 := blk_frozen BK138.out 2; have hfz50_3 := blk_frozen BK138.out 3; have hfz50_4 := blk_frozen BK138.out 4; have hfz50_5 := blk_frozen BK138.out 5; have hfz50_6 := blk_frozen BK138.out 6) | (go_at_call 7; (with_reducible refine (turnstonelaw05_near.calls k a0 a3_0 a3_1 a3_2 a3_3 a3_4 a3_5 a3_6 true _ A16.out).mono ?_); rintro e w51 ⟨rfl, hb⟩; replace BK136 := blkb BK136 hb; replace BK137 := blkb BK137 hb; replace BK138 := blkb BK138 hb; replace HB := belb HB hb; (try clear hb); (try clear hb2); (try clear hk); (try clear hi); have hcz52_0 : w51.cell? ⟨gb136, 0, none⟩ = some (.int .u64 a1_0) := bc BK136 0; have hcz52_1 : w51.cell? ⟨gb136, 1, none⟩ = some (.int .u32 a1_1) := bc BK136 1; have hcz52_2 : w51.cell? ⟨gb136, 2, none⟩ = some (.int .u32 a1_2) := bc BK136 2; have hcz52_3 : w51.cell? ⟨gb136, 3, none⟩ = some (.int .i64 a1_3) := bc BK136 3; have hcz52_4 : w51.cell? ⟨gb136, 4, none⟩ = some (.int .u64 a1_4) := bc BK136 4; have hcz52_5 : w51.cell? ⟨gb136, 5, none⟩ = some (.int .u32 a1_5) := bc BK136 5; have hcz52_6 : w51.cell? ⟨gb136, 6, none⟩ = some (.int .u32 a1_6) := bc BK136 6; have hfz52_0 := blk_frozen BK136.out 0; have hfz52_1 := blk_frozen BK136.out 1; have hfz52_2 := blk_frozen BK136.out 2; have hfz52_3 := blk_frozen BK136.out 3; have hfz52_4 := blk_frozen BK136.out 4; have hfz52_5 := blk_frozen BK136.out 5; have hfz52_6 := blk_frozen BK136.out 6; have hcz53_0 : w51.cell? ⟨gb137, 0, none⟩ = some (.int .u64 a2_0) := bc BK137 0; have hcz53_1 : w51.cell? ⟨gb137, 1, none⟩ = some (.int .u32 a2_1) := bc BK137 1; have hcz53_2 : w51.cell? ⟨gb137, 2, none⟩ = some (.int .u32 a2_2) := bc BK137 2; have hcz53_3 : w51.cell? ⟨gb137, 3, none⟩ = some (.int .i64 a2_3) := bc BK137 3; have hcz53_4 : w51.cell? ⟨gb137, 4, none⟩ = some (.int .u64 a2_4) := bc BK137 4; have hcz53_5 : w51.cell? ⟨gb137, 5, none⟩ = some (.int .u32 a2_5) := bc BK137 5; have hcz53_6 : w51.cell? ⟨gb137, 6, none⟩ = some (.int .u32 a2_6) := bc BK137 6; have hfz53_0 := blk_frozen BK137.out 0; have hfz53_1 := blk_frozen BK137.out 1; have hfz53_2 := blk_frozen BK137.out 2; have hfz53_3 := blk_frozen BK137.out 3; have hfz53_4 := blk_frozen BK137.out 4; have hfz53_5 := blk_frozen BK137.out 5; have hfz53_6 := blk_frozen BK137.out 6; have hcz54_0 : w51.cell? ⟨gb138, 0, none⟩ = some (.int .u64 a3_0) := bc BK138 0; have hcz54_1 : w51.cell? ⟨gb138, 1, none⟩ = some (.int .u32 a3_1) := bc BK138 1; have hcz54_2 : w51.cell? ⟨gb138, 2, none⟩ = some (.int .u32 a3_2) := bc BK138 2; have hcz54_3 : w51.cell? ⟨gb138, 3, none⟩ = some (.int .i64 a3_3) := bc BK138 3; have hcz54_4 : w51.cell? ⟨gb138, 4, none⟩ = some (.int .u64 a3_4) := bc BK138 4; have hcz54_5 : w51.cell? ⟨gb138, 5, none⟩ = some (.int .u32 a3_5) := bc BK138 5; have hcz54_6 : w51.cell? ⟨gb138, 6, none⟩ = some (.int .u32 a3_6) := bc BK138 6; have hfz54_0 := blk_frozen BK138.out 0; have hfz54_1 := blk_frozen BK138.out 1; have hfz54_2 := blk_frozen BK138.out 2; have hfz54_3 := blk_frozen BK138.out 3; have hfz54_4 := blk_frozen BK138.out 4; have hfz54_5 := blk_frozen BK138.out 5; have hfz54_6 := blk_frozen BK138.out 6))
      go_meet
      case rel => exact ⟨_, ((a1_3 == a3_3)), (by first | rfl | (simp; done) | (simp [*]; done)), H', ⟨by first | omega | exact Nat.le_refl _⟩, ⟨blkt BK136⟩, ⟨blkt BK137⟩, ⟨blkt BK138⟩, ⟨belt HB⟩⟩
     replace c17 := Bool.eq_false_iff.mpr c17
     subst c17
     have H1 : (turnstonelaw05_ItemOrders.j0 k true a1_0 a1_1 a1_2 a1_3 a1_4 a1_5 a1_6 a2_0 a2_1 a2_2 a2_3 a2_4 a2_5 a2_6 a3_0 a3_1 a3_2 a3_3 a3_4 a3_5 a3_6) = some r := by rw [if_neg (show ¬ (false = true) by decide)] at H; exact H
     clear H
     have H := H1
     clear H1
     have H' := Aside0.mk H
     clear H
     have hnb55 := NB136_137.out
     have hnc55 := NB137_136.out
     have hnb56 := NB136_138.out
     have hnc56 := NB138_136.out
     have hcz57_0 : w11.cell? ⟨gb136, 0, none⟩ = some (.int .u64 a1_0) := bc BK136 0
     have hcz57_1 : w11.cell? ⟨gb136, 1, none⟩ = some (.int .u32 a1_1) := bc BK136 1
     have hcz57_2 : w11.cell? ⟨gb136, 2, none⟩ = some (.int .u32 a1_2) := bc BK136 2
     have hcz57_3 : w11.cell? ⟨gb136, 3, none⟩ = some (.int .i64 a1_3) := bc BK136 3
     have hcz57_4 : w11.cell? ⟨gb136, 4, none⟩ = some (.int .u64 a1_4) := bc BK136 4
     have hcz57_5 : w11.cell? ⟨gb136, 5, none⟩ = some (.int .u32 a1_5) := bc BK136 5
     have hcz57_6 : w11.cell? ⟨gb136, 6, none⟩ = some (.int .u32 a1_6) := bc BK136 6
     have hfz57_0 := blk_frozen BK136.out 0
     have hfz57_1 := blk_frozen BK136.out 1
     have hfz57_2 := blk_frozen BK136.out 2
     have hfz57_3 := blk_frozen BK136.out 3
     have hfz57_4 := blk_frozen BK136.out 4
     have hfz57_5 := blk_frozen BK136.out 5
     have hfz57_6 := blk_frozen BK136.out 6
     go_wp2_with (first | ((with_reducible refine gate_callee (f := 7) rfl ?_); refine goesL_ (some 13) rfl rfl Try.func7 (by kernel_rfl) rfl #[.int .u64 a0, .agg #[.int .u64 a1_0, .int .u32 a1_1, .int .u32 a1_2, .int .i64 a1_3, .int .u64 a1_4, .int .u32 a1_5, .int .u32 a1_6]] rfl argt ?_; (with_reducible refine (turnstonelaw05_near.calls k a0 a1_0 a1_1 a1_2 a1_3 a1_4 a1_5 a1_6 true _ A12.out).mono ?_); rintro e w58 ⟨rfl, hb⟩; refine ⟨_, rfl, ?_⟩; replace BK136 := blkb BK136 hb; replace BK137 := blkb BK137 hb; replace BK138 := blkb BK138 hb; replace HB := belb HB hb; (try clear hb); (try clear hb2); (try clear hk); (try clear hi); have hnb59 := NB137_138.out; have hnc59 := NB138_137.out; have hcz60_0 : w58.cell? ⟨gb137, 0, none⟩ = some (.int .u64 a2_0) := bc BK137 0; have hcz60_1 : w58.cell? ⟨gb137, 1, none⟩ = some (.int .u32 a2_1) := bc BK137 1; have hcz60_2 : w58.cell? ⟨gb137, 2, none⟩ = some (.int .u32 a2_2) := bc BK137 2; have hcz60_3 : w58.cell? ⟨gb137, 3, none⟩ = some (.int .i64 a2_3) := bc BK137 3; have hcz60_4 : w58.cell? ⟨gb137, 4, none⟩ = some (.int .u64 a2_4) := bc BK137 4; have hcz60_5 : w58.cell? ⟨gb137, 5, none⟩ = some (.int .u32 a2_5) := bc BK137 5; have hcz60_6 : w58.cell? ⟨gb137, 6, none⟩ = some (.int .u32 a2_6) := bc BK137 6; have hfz60_0 := blk_frozen BK137.out 0; have hfz60_1 := blk_frozen BK137.out 1; have hfz60_2 := blk_frozen BK137.out 2; have hfz60_3 := blk_frozen BK137.out 3; have hfz60_4 := blk_frozen BK137.out 4; have hfz60_5 := blk_frozen BK137.out 5; have hfz60_6 := blk_frozen BK137.out 6) | (go_at_call 7; (with_reducible refine (turnstonelaw05_near.calls k a0 a2_0 a2_1 a2_2 a2_3 a2_4 a2_5 a2_6 true _ A14.out).mono ?_); rintro e w61 ⟨rfl, hb⟩; replace BK136 := blkb BK136 hb; replace BK137 := blkb BK137 hb; replace BK138 := blkb BK138 hb; replace HB := belb HB hb; (try clear hb); (try clear hb2); (try clear hk); (try clear hi); have hcz62_0 : w61.cell? ⟨gb138, 0, none⟩ = some (.int .u64 a3_0) := bc BK138 0; have hcz62_1 : w61.cell? ⟨gb138, 1, none⟩ = some (.int .u32 a3_1) := bc BK138 1; have hcz62_2 : w61.cell? ⟨gb138, 2, none⟩ = some (.int .u32 a3_2) := bc BK138 2; have hcz62_3 : w61.cell? ⟨gb138, 3, none⟩ = some (.int .i64 a3_3) := bc BK138 3; have hcz62_4 : w61.cell? ⟨gb138, 4, none⟩ = some (.int .u64 a3_4) := bc BK138 4; have hcz62_5 : w61.cell? ⟨gb138, 5, none⟩ = some (.int .u32 a3_5) := bc BK138 5; have hcz62_6 : w61.cell? ⟨gb138, 6, none⟩ = some (.int .u32 a3_6) := bc BK138 6; have hfz62_0 := blk_frozen BK138.out 0; have hfz62_1 := blk_frozen BK138.out 1; have hfz62_2 := blk_frozen BK138.out 2; have hfz62_3 := blk_frozen BK138.out 3; have hfz62_4 := blk_frozen BK138.out 4; have hfz62_5 := blk_frozen BK138.out 5; have hfz62_6 := blk_frozen BK138.out 6) | (go_at_call 7; (with_reducible refine (turnstonelaw05_near.calls k a0 a3_0 a3_1 a3_2 a3_3 a3_4 a3_5 a3_6 false _ A16.out).mono ?_); rintro e w63 ⟨rfl, hb⟩; replace BK136 := blkb BK136 hb; replace BK137 := blkb BK137 hb; replace BK138 := blkb BK138 hb; replace HB := belb HB hb; (try clear hb); (try clear hb2); (try clear hk); (try clear hi)))
     go_meet
     case rel => exact ⟨_, (true), (by first | rfl | (simp; done) | (simp [*]; done)), H', ⟨by first | omega | exact Nat.le_refl _⟩, ⟨blkt BK136⟩, ⟨blkt BK137⟩, ⟨blkt BK138⟩, ⟨belt HB⟩⟩
    replace c15 := Bool.eq_false_iff.mpr c15
    subst c15
    have H1 : (turnstonelaw05_ItemOrders.j0 k true a1_0 a1_1 a1_2 a1_3 a1_4 a1_5 a1_6 a2_0 a2_1 a2_2 a2_3 a2_4 a2_5 a2_6 a3_0 a3_1 a3_2 a3_3 a3_4 a3_5 a3_6) = some r := by rw [if_neg (show ¬ (false = true) by decide)] at H; exact H
    clear H
    have H := H1
    clear H1
    have H' := Aside0.mk H
    clear H
    have hnb64 := NB136_137.out
    have hnc64 := NB137_136.out
    have hnb65 := NB136_138.out
    have hnc65 := NB138_136.out
    have hcz66_0 : w11.cell? ⟨gb136, 0, none⟩ = some (.int .u64 a1_0) := bc BK136 0
    have hcz66_1 : w11.cell? ⟨gb136, 1, none⟩ = some (.int .u32 a1_1) := bc BK136 1
    have hcz66_2 : w11.cell? ⟨gb136, 2, none⟩ = some (.int .u32 a1_2) := bc BK136 2
    have hcz66_3 : w11.cell? ⟨gb136, 3, none⟩ = some (.int .i64 a1_3) := bc BK136 3
    have hcz66_4 : w11.cell? ⟨gb136, 4, none⟩ = some (.int .u64 a1_4) := bc BK136 4
    have hcz66_5 : w11.cell? ⟨gb136, 5, none⟩ = some (.int .u32 a1_5) := bc BK136 5
    have hcz66_6 : w11.cell? ⟨gb136, 6, none⟩ = some (.int .u32 a1_6) := bc BK136 6
    have hfz66_0 := blk_frozen BK136.out 0
    have hfz66_1 := blk_frozen BK136.out 1
    have hfz66_2 := blk_frozen BK136.out 2
    have hfz66_3 := blk_frozen BK136.out 3
    have hfz66_4 := blk_frozen BK136.out 4
    have hfz66_5 := blk_frozen BK136.out 5
    have hfz66_6 := blk_frozen BK136.out 6
    go_wp2_with (first | ((with_reducible refine gate_callee (f := 7) rfl ?_); refine goesL_ (some 13) rfl rfl Try.func7 (by kernel_rfl) rfl #[.int .u64 a0, .agg #[.int .u64 a1_0, .int .u32 a1_1, .int .u32 a1_2, .int .i64 a1_3, .int .u64 a1_4, .int .u32 a1_5, .int .u32 a1_6]] rfl argt ?_; (with_reducible refine (turnstonelaw05_near.calls k a0 a1_0 a1_1 a1_2 a1_3 a1_4 a1_5 a1_6 true _ A12.out).mono ?_); rintro e w67 ⟨rfl, hb⟩; refine ⟨_, rfl, ?_⟩; replace BK136 := blkb BK136 hb; replace BK137 := blkb BK137 hb; replace BK138 := blkb BK138 hb; replace HB := belb HB hb; (try clear hb); (try clear hb2); (try clear hk); (try clear hi); have hnb68 := NB137_138.out; have hnc68 := NB138_137.out; have hcz69_0 : w67.cell? ⟨gb137, 0, none⟩ = some (.int .u64 a2_0) := bc BK137 0; have hcz69_1 : w67.cell? ⟨gb137, 1, none⟩ = some (.int .u32 a2_1) := bc BK137 1; have hcz69_2 : w67.cell? ⟨gb137, 2, none⟩ = some (.int .u32 a2_2) := bc BK137 2; have hcz69_3 : w67.cell? ⟨gb137, 3, none⟩ = some (.int .i64 a2_3) := bc BK137 3; have hcz69_4 : w67.cell? ⟨gb137, 4, none⟩ = some (.int .u64 a2_4) := bc BK137 4; have hcz69_5 : w67.cell? ⟨gb137, 5, none⟩ = some (.int .u32 a2_5) := bc BK137 5; have hcz69_6 : w67.cell? ⟨gb137, 6, none⟩ = some (.int .u32 a2_6) := bc BK137 6; have hfz69_0 := blk_frozen BK137.out 0; have hfz69_1 := blk_frozen BK137.out 1; have hfz69_2 := blk_frozen BK137.out 2; have hfz69_3 := blk_frozen BK137.out 3; have hfz69_4 := blk_frozen BK137.out 4; have hfz69_5 := blk_frozen BK137.out 5; have hfz69_6 := blk_frozen BK137.out 6) | (go_at_call 7; (with_reducible refine (turnstonelaw05_near.calls k a0 a2_0 a2_1 a2_2 a2_3 a2_4 a2_5 a2_6 false _ A14.out).mono ?_); rintro e w70 ⟨rfl, hb⟩; replace BK136 := blkb BK136 hb; replace BK137 := blkb BK137 hb; replace BK138 := blkb BK138 hb; replace HB := belb HB hb; (try clear hb); (try clear hb2); (try clear hk); (try clear hi)))
    go_meet
    case rel => exact ⟨_, (true), (by first | rfl | (simp; done) | (simp [*]; done)), H', ⟨by first | omega | exact Nat.le_refl _⟩, ⟨blkt BK136⟩, ⟨blkt BK137⟩, ⟨blkt BK138⟩, ⟨belt HB⟩⟩
   replace c13 := Bool.eq_false_iff.mpr c13
   subst c13
   have H1 : (turnstonelaw05_ItemOrders.j0 k true a1_0 a1_1 a1_2 a1_3 a1_4 a1_5 a1_6 a2_0 a2_1 a2_2 a2_3 a2_4 a2_5 a2_6 a3_0 a3_1 a3_2 a3_3 a3_4 a3_5 a3_6) = some r := by rw [if_neg (show ¬ (false = true) by decide)] at H; exact H
   clear H
   have H := H1
   clear H1
   have H' := Aside0.mk H
   clear H
   have hnb71 := NB136_137.out
   have hnc71 := NB137_136.out
   have hnb72 := NB136_138.out
   have hnc72 := NB138_136.out
   have hcz73_0 : w11.cell? ⟨gb136, 0, none⟩ = some (.int .u64 a1_0) := bc BK136 0
   have hcz73_1 : w11.cell? ⟨gb136, 1, none⟩ = some (.int .u32 a1_1) := bc BK136 1
   have hcz73_2 : w11.cell? ⟨gb136, 2, none⟩ = some (.int .u32 a1_2) := bc BK136 2
   have hcz73_3 : w11.cell? ⟨gb136, 3, none⟩ = some (.int .i64 a1_3) := bc BK136 3
   have hcz73_4 : w11.cell? ⟨gb136, 4, none⟩ = some (.int .u64 a1_4) := bc BK136 4
   have hcz73_5 : w11.cell? ⟨gb136, 5, none⟩ = some (.int .u32 a1_5) := bc BK136 5
   have hcz73_6 : w11.cell? ⟨gb136, 6, none⟩ = some (.int .u32 a1_6) := bc BK136 6
   have hfz73_0 := blk_frozen BK136.out 0
   have hfz73_1 := blk_frozen BK136.out 1
   have hfz73_2 := blk_frozen BK136.out 2
   have hfz73_3 := blk_frozen BK136.out 3
   have hfz73_4 := blk_frozen BK136.out 4
   have hfz73_5 := blk_frozen BK136.out 5
   have hfz73_6 := blk_frozen BK136.out 6
   go_wp2_with (first | ((with_reducible refine gate_callee (f := 7) rfl ?_); refine goesL_ (some 13) rfl rfl Try.func7 (by kernel_rfl) rfl #[.int .u64 a0, .agg #[.int .u64 a1_0, .int .u32 a1_1, .int .u32 a1_2, .int .i64 a1_3, .int .u64 a1_4, .int .u32 a1_5, .int .u32 a1_6]] rfl argt ?_; (with_reducible refine (turnstonelaw05_near.calls k a0 a1_0 a1_1 a1_2 a1_3 a1_4 a1_5 a1_6 false _ A12.out).mono ?_); rintro e w74 ⟨rfl, hb⟩; refine ⟨_, rfl, ?_⟩; replace BK136 := blkb BK136 hb; replace BK137 := blkb BK137 hb; replace BK138 := blkb BK138 hb; replace HB := belb HB hb; (try clear hb); (try clear hb2); (try clear hk); (try clear hi)))
   go_meet
   case rel => exact ⟨_, (true), (by first | rfl | (simp; done) | (simp [*]; done)), H', ⟨by first | omega | exact Nat.le_refl _⟩, ⟨blkt BK136⟩, ⟨blkt BK137⟩, ⟨blkt BK138⟩, ⟨belt HB⟩⟩
  case rest =>
   clear HC7
   try clear c1
   try clear c2
   try clear p2
   try clear c3
   try clear c4
   try clear c5
   try clear c6
   try clear c7
   try clear c13
   try clear c15
   try clear c17
   try clear c18
   try clear c18b0
   try clear c18b1
   try clear c19
   try clear c20
   try clear c23
   try clear c30
   try clear c30b0
   try clear c30b1
   try clear c31
   try clear c32
   try clear c35
   try clear c43
   try clear c44
   try clear c47
   try clear c55
   try clear c56
   try clear c59
   try clear c64
   try clear c65
   try clear c68
   try clear c71
   try clear c72
   try clear hcz21_0
   try clear hcz21_1
   try clear hcz21_2
   try clear hcz21_3
   try clear hcz21_4
   try clear hcz21_5
   try clear hcz21_6
   try clear hcz24_0
   try clear hcz24_1
   try clear hcz24_2
   try clear hcz24_3
   try clear hcz24_4
   try clear hcz24_5
   try clear hcz24_6
   try clear hcz26_0
   try clear hcz26_1
   try clear hcz26_2
   try clear hcz26_3
   try clear hcz26_4
   try clear hcz26_5
   try clear hcz26_6
   try clear hcz28_0
   try clear hcz28_1
   try clear hcz28_2
   try clear hcz28_3
   try clear hcz28_4
   try clear hcz28_5
   try clear hcz28_6
   try clear hcz29_0
   try clear hcz29_1
   try clear hcz29_2
   try clear hcz29_3
   try clear hcz29_4
   try clear hcz29_5
   try clear hcz29_6
   try clear hcz33_0
   try clear hcz33_1
   try clear hcz33_2
   try clear hcz33_3
   try clear hcz33_4
   try clear hcz33_5
   try clear hcz33_6
   try clear hcz36_0
   try clear hcz36_1
   try clear hcz36_2
   try clear hcz36_3
   try clear hcz36_4
   try clear hcz36_5
   try clear hcz36_6
   try clear hcz38_0
   try clear hcz38_1
   try clear hcz38_2
   try clear hcz38_3
   try clear hcz38_4
   try clear hcz38_5
   try clear hcz38_6
   try clear hcz40_0
   try clear hcz40_1
   try clear hcz40_2
   try clear hcz40_3
   try clear hcz40_4
   try clear hcz40_5
   try clear hcz40_6
   try clear hcz41_0
   try clear hcz41_1
   try clear hcz41_2
   try clear hcz41_3
   try clear hcz41_4
   try clear hcz41_5
   try clear hcz41_6
   try clear hcz42_0
   try clear hcz42_1
   try clear hcz42_2
   try clear hcz42_3
   try clear hcz42_4
   try clear hcz42_5
   try clear hcz42_6
   try clear hcz45_0
   try clear hcz45_1
   try clear hcz45_2
   try clear hcz45_3
   try clear hcz45_4
   try clear hcz45_5
   try clear hcz45_6
   try clear hcz48_0
   try clear hcz48_1
   try clear hcz48_2
   try clear hcz48_3
   try clear hcz48_4
   try clear hcz48_5
   try clear hcz48_6
   try clear hcz50_0
   try clear hcz50_1
   try clear hcz50_2
   try clear hcz50_3
   try clear hcz50_4
   try clear hcz50_5
   try clear hcz50_6
   try clear hcz52_0
   try clear hcz52_1
   try clear hcz52_2
   try clear hcz52_3
   try clear hcz52_4
   try clear hcz52_5
   try clear hcz52_6
   try clear hcz53_0
   try clear hcz53_1
   try clear hcz53_2
   try clear hcz53_3
   try clear hcz53_4
   try clear hcz53_5
   try clear hcz53_6
   try clear hcz54_0
   try clear hcz54_1
   try clear hcz54_2
   try clear hcz54_3
   try clear hcz54_4
   try clear hcz54_5
   try clear hcz54_6
   try clear hcz57_0
   try clear hcz57_1
   try clear hcz57_2
   try clear hcz57_3
   try clear hcz57_4
   try clear hcz57_5
   try clear hcz57_6
   try clear hcz60_0
   try clear hcz60_1
   try clear hcz60_2
   try clear hcz60_3
   try clear hcz60_4
   try clear hcz60_5
   try clear hcz60_6
   try clear hcz62_0
   try clear hcz62_1
   try clear hcz62_2
   try clear hcz62_3
   try clear hcz62_4
   try clear hcz62_5
   try clear hcz62_6
   try clear hcz66_0
   try clear hcz66_1
   try clear hcz66_2
   try clear hcz66_3
   try clear hcz66_4
   try clear hcz66_5
   try clear hcz66_6
   try clear hcz69_0
   try clear hcz69_1
   try clear hcz69_2
   try clear hcz69_3
   try clear hcz69_4
   try clear hcz69_5
   try clear hcz69_6
   try clear hcz73_0
   try clear hcz73_1
   try clear hcz73_2
   try clear hcz73_3
   try clear hcz73_4
   try clear hcz73_5
   try clear hcz73_6
   try clear hfz21_0
   try clear hfz21_1
   try clear hfz21_2
   try clear hfz21_3
   try clear hfz21_4
   try clear hfz21_5
   try clear hfz21_6
   try clear hfz24_0
   try clear hfz24_1
   try clear hfz24_2
   try clear hfz24_3
   try clear hfz24_4
   try clear hfz24_5
   try clear hfz24_6
   try clear hfz26_0
   try clear hfz26_1
   try clear hfz26_2
   try clear hfz26_3
   try clear hfz26_4
   try clear hfz26_5
   try clear hfz26_6
   try clear hfz28_0
   try clear hfz28_1
   try clear hfz28_2
   try clear hfz28_3
   try clear hfz28_4
   try clear hfz28_5
   try clear hfz28_6
   try clear hfz29_0
   try clear hfz29_1
   try clear hfz29_2
   try clear hfz29_3
   try clear hfz29_4
   try clear hfz29_5
   try clear hfz29_6
   try clear hfz33_0
   try clear hfz33_1
   try clear hfz33_2
   try clear hfz33_3
   try clear hfz33_4
   try clear hfz33_5
   try clear hfz33_6
   try clear hfz36_0
   try clear hfz36_1
   try clear hfz36_2
   try clear hfz36_3
   try clear hfz36_4
   try clear hfz36_5
   try clear hfz36_6
   try clear hfz38_0
   try clear hfz38_1
   try clear hfz38_2
   try clear hfz38_3
   try clear hfz38_4
   try clear hfz38_5
   try clear hfz38_6
   try clear hfz40_0
   try clear hfz40_1
   try clear hfz40_2
   try clear hfz40_3
   try clear hfz40_4
   try clear hfz40_5
   try clear hfz40_6
   try clear hfz41_0
   try clear hfz41_1
   try clear hfz41_2
   try clear hfz41_3
   try clear hfz41_4
   try clear hfz41_5
   try clear hfz41_6
   try clear hfz42_0
   try clear hfz42_1
   try clear hfz42_2
   try clear hfz42_3
   try clear hfz42_4
   try clear hfz42_5
   try clear hfz42_6
   try clear hfz45_0
   try clear hfz45_1
   try clear hfz45_2
   try clear hfz45_3
   try clear hfz45_4
   try clear hfz45_5
   try clear hfz45_6
   try clear hfz48_0
   try clear hfz48_1
   try clear hfz48_2
   try clear hfz48_3
   try clear hfz48_4
   try clear hfz48_5
   try clear hfz48_6
   try clear hfz50_0
   try clear hfz50_1
   try clear hfz50_2
   try clear hfz50_3
   try clear hfz50_4
   try clear hfz50_5
   try clear hfz50_6
   try clear hfz52_0
   try clear hfz52_1
   try clear hfz52_2
   try clear hfz52_3
   try clear hfz52_4
   try clear hfz52_5
   try clear hfz52_6
   try clear hfz53_0
   try clear hfz53_1
   try clear hfz53_2
   try clear hfz53_3
   try clear hfz53_4
   try clear hfz53_5
   try clear hfz53_6
   try clear hfz54_0
   try clear hfz54_1
   try clear hfz54_2
   try clear hfz54_3
   try clear hfz54_4
   try clear hfz54_5
   try clear hfz54_6
   try clear hfz57_0
   try clear hfz57_1
   try clear hfz57_2
   try clear hfz57_3
   try clear hfz57_4
   try clear hfz57_5
   try clear hfz57_6
   try clear hfz60_0
   try clear hfz60_1
   try clear hfz60_2
   try clear hfz60_3
   try clear hfz60_4
   try clear hfz60_5
   try clear hfz60_6
   try clear hfz62_0
   try clear hfz62_1
   try clear hfz62_2
   try clear hfz62_3
   try clear hfz62_4
   try clear hfz62_5
   try clear hfz62_6
   try clear hfz66_0
   try clear hfz66_1
   try clear hfz66_2
   try clear hfz66_3
   try clear hfz66_4
   try clear hfz66_5
   try clear hfz66_6
   try clear hfz69_0
   try clear hfz69_1
   try clear hfz69_2
   try clear hfz69_3
   try clear hfz69_4
   try clear hfz69_5
   try clear hfz69_6
   try clear hfz73_0
   try clear hfz73_1
   try clear hfz73_2
   try clear hfz73_3
   try clear hfz73_4
   try clear hfz73_5
   try clear hfz73_6
   obtain ⟨kq, x47_6, rfl, HA, HJ6, BK136, BK137, BK138, HB⟩ := hcut
   cases kq with
   | zero => exact absurd HA.out (by simp [turnstonelaw05_ItemOrders.j0])
   | succ kj6 =>
    have H := HA.out
    clear HA
    simp only [turnstonelaw05_ItemOrders.j0] at H
    by_cases c75 : x47_6 = true
    ·subst c75
     have H1 : (some true) = some r := by rw [if_pos rfl] at H; exact H
     clear H
     have H := H1
     clear H1
     obtain rfl := Option.some.inj H
     go_wp2
     go_ret
     exact ⟨by first | rfl | (simp [errW_none, errW_some] <;> rfl) | (simp [*, errW_none, errW_some] <;> rfl), belt HB⟩
    replace c75 := Bool.eq_false_iff.mpr c75
    subst c75
    have H1 : ((item_Item_Ahead.f kj6 a1_0 a1_1 a1_2 a1_3 a1_4 a1_5 a1_6 a2_0 a2_1 a2_2 a2_3 a2_4 a2_5 a2_6).bind fun t143 => ((item_Item_Ahead.f kj6 a2_0 a2_1 a2_2 a2_3 a2_4 a2_5 a2_6 a1_0 a1_1 a1_2 a1_3 a1_4 a1_5 a1_6).bind fun t144 => (if (t143 == t144) = true then (turnstonelaw05_ItemOrders.j1 kj6 true a1_0 a1_1 a1_2 a1_3 a1_4 a1_5 a1_6 a2_0 a2_1 a2_2 a2_3 a2_4 a2_5 a2_6 a3_0 a3_1 a3_2 a3_3 a3_4 a3_5 a3_6) else ((item_Item_Due.f kj6 a1_0 a1_1 a1_2 a1_3 a1_4 a1_5 a1_6 a2_0 a2_1 a2_2 a2_3 a2_4 a2_5 a2_6).bind fun t145 => ((item_Item_Due.f kj6 a2_0 a2_1 a2_2 a2_3 a2_4 a2_5 a2_6 a1_0 a1_1 a1_2 a1_3 a1_4 a1_5 a1_6).bind fun t146 => (if (t145 == t146) = true then (turnstonelaw05_ItemOrders.j1 kj6 true a1_0 a1_1 a1_2 a1_3 a1_4 a1_5 a1_6 a2_0 a2_1 a2_2 a2_3 a2_4 a2_5 a2_6 a3_0 a3_1 a3_2 a3_3 a3_4 a3_5 a3_6) else ((item_Item_Ahead.f kj6 a1_0 a1_1 a1_2 a1_3 a1_4 a1_5 a1_6 a1_0 a1_1 a1_2 a1_3 a1_4 a1_5 a1_6).bind fun t147 => (if t147 = true then (turnstonelaw05_ItemOrders.j1 kj6 true a1_0 a1_1 a1_2 a1_3 a1_4 a1_5 a1_6 a2_0 a2_1 a2_2 a2_3 a2_4 a2_5 a2_6 a3_0 a3_1 a3_2 a3_3 a3_4 a3_5 a3_6) else ((item_Item_Due.f kj6 a1_0 a1_1 a1_2 a1_3 a1_4 a1_5 a1_6 a1_0 a1_1 a1_2 a1_3 a1_4 a1_5 a1_6).bind fun t148 => (turnstonelaw05_ItemOrders.j1 kj6 t148 a1_0 a1_1 a1_2 a1_3 a1_4 a1_5 a1_6 a2_0 a2_1 a2_2 a2_3 a2_4 a2_5 a2_6 a3_0 a3_1 a3_2 a3_3 a3_4 a3_5 a3_6)))))))))) = some r := by rw [if_neg (show ¬ (false = true) by decide)] at H; exact H
    clear H
    have H := H1
    clear H1
    have HC76 := Aside0.mk H
    clear H
    go_upto_region 5 with (fail)
    go_cut [73] (fun v73 wc => ∃ (kq : Nat) (x73_75 : Bool), v73 = .bool x73_75 ∧ Aside0 (turnstonelaw05_ItemOrders.j1 kq x73_75 a1_0 a1_1 a1_2 a1_3 a1_4 a1_5 a1_6 a2_0 a2_1 a2_2 a2_3 a2_4 a2_5 a2_6 a3_0 a3_1 a3_2 a3_3 a3_4 a3_5 a3_6 = some r) ∧ Aside0 (kq ≤ kj6) ∧ Aside0 (wc.heap[gb136]? = some (.cells #[.int .u64 a1_0, .int .u32 a1_1, .int .u32 a1_2, .int .i64 a1_3, .int .u64 a1_4, .int .u32 a1_5, .int .u32 a1_6] 28 (0, 0))) ∧ Aside0 (wc.heap[gb137]? = some (.cells #[.int .u64 a2_0, .int .u32 a2_1, .int .u32 a2_2, .int .i64 a2_3, .int .u64 a2_4, .int .u32 a2_5, .int .u32 a2_6] 28 (0, 0))) ∧ Aside0 (wc.heap[gb138]? = some (.cells #[.int .u64 a3_0, .int .u32 a3_1, .int .u32 a3_2, .int .i64 a3_3, .int .u64 a3_4, .int .u32 a3_5, .int .u32 a3_6] 28 (0, 0))) ∧ Aside0 (Below w.heap.size w wc))
    case first =>
     have H := HC76.out
     clear HC76
     replace H := Option.bind_eq_some_iff.mp H
     obtain ⟨t143, A770, H⟩ := H
     replace H : ((item_Item_Ahead.f kj6 a2_0 a2_1 a2_2 a2_3 a2_4 a2_5 a2_6 a1_0 a1_1 a1_2 a1_3 a1_4 a1_5 a1_6).bind fun t144 => (if (t143 == t144) = true then (turnstonelaw05_ItemOrders.j1 kj6 true a1_0 a1_1 a1_2 a1_3 a1_4 a1_5 a1_6 a2_0 a2_1 a2_2 a2_3 a2_4 a2_5 a2_6 a3_0 a3_1 a3_2 a3_3 a3_4 a3_5 a3_6) else ((item_Item_Due.f kj6 a1_0 a1_1 a1_2 a1_3 a1_4 a1_5 a1_6 a2_0 a2_1 a2_2 a2_3 a2_4 a2_5 a2_6).bind fun t145 => ((item_Item_Due.f kj6 a2_0 a2_1 a2_2 a2_3 a2_4 a2_5 a2_6 a1_0 a1_1 a1_2 a1_3 a1_4 a1_5 a1_6).bind fun t146 => (if (t145 == t146) = true then (turnstonelaw05_ItemOrders.j1 kj6 true a1_0 a1_1 a1_2 a1_3 a1_4 a1_5 a1_6 a2_0 a2_1 a2_2 a2_3 a2_4 a2_5 a2_6 a3_0 a3_1 a3_2 a3_3 a3_4 a3_5 a3_6) else ((item_Item_Ahead.f kj6 a1_0 a1_1 a1_2 a1_3 a1_4 a1_5 a1_6 a1_0 a1_1 a1_2 a1_3 a1_4 a1_5 a1_6).bind fun t147 => (if t147 = true then (turnstonelaw05_ItemOrders.j1 kj6 true a1_0 a1_1 a1_2 a1_3 a1_4 a1_5 a1_6 a2_0 a2_1 a2_2 a2_3 a2_4 a2_5 a2_6 a3_0 a3_1 a3_2 a3_3 a3_4 a3_5 a3_6) else ((item_Item_Due.f kj6 a1_0 a1_1 a1_2 a1_3 a1_4 a1_5 a1_6 a1_0 a1_1 a1_2 a1_3 a1_4 a1_5 a1_6).bind fun t148 => (turnstonelaw05_ItemOrders.j1 kj6 t148 a1_0 a1_1 a1_2 a1_3 a1_4 a1_5 a1_6 a2_0 a2_1 a2_2 a2_3 a2_4 a2_5 a2_6 a3_0 a3_1 a3_2 a3_3 a3_4 a3_5 a3_6))))))))) = some r := H
     have A77 := Aside0.mk A770
     clear A770
     replace H := Option.bind_eq_some_iff.mp H
     obtain ⟨t144, A780, H⟩ := H
     replace H : (if (t143 == t144) = true then (turnstonelaw05_ItemOrders.j1 kj6 true a1_0 a1_1 a1_2 a1_3 a1_4 a1_5 a1_6 a2_0 a2_1 a2_2 a2_3 a2_4 a2_5 a2_6 a3_0 a3_1 a3_2 a3_3 a3_4 a3_5 a3_6) else ((item_Item_Due.f kj6 a1_0 a1_1 a1_2 a1_3 a1_4 a1_5 a1_6 a2_0 a2_1 a2_2 a2_3 a2_4 a2_5 a2_6).bind fun t145 => ((item_Item_Due.f kj6 a2_0 a2_1 a2_2 a2_3 a2_4 a2_5 a2_6 a1_0 a1_1 a1_2 a1_3 a1_4 a1_5 a1_6).bind fun t146 => (if (t145 == t146) = true then (turnstonelaw05_ItemOrders.j1 kj6 true a1_0 a1_1 a1_2 a1_3 a1_4 a1_5 a1_6 a2_0 a2_1 a2_2 a2_3 a2_4 a2_5 a2_6 a3_0 a3_1 a3_2 a3_3 a3_4 a3_5 a3_6) else ((item_Item_Ahead.f kj6 a1_0 a1_1 a1_2 a1_3 a1_4 a1_5 a1_6 a1_0 a1_1 a1_2 a1_3 a1_4 a1_5 a1_6).bind fun t147 => (if t147 = true then (turnstonelaw05_ItemOrders.j1 kj6 true a1_0 a1_1 a1_2 a1_3 a1_4 a1_5 a1_6 a2_0 a2_1 a2_2 a2_3 a2_4 a2_5 a2_6 a3_0 a3_1 a3_2 a3_3 a3_4 a3_5 a3_6) else ((item_Item_Due.f kj6 a1_0 a1_1 a1_2 a1_3 a1_4 a1_5 a1_6 a1_0 a1_1 a1_2 a1_3 a1_4 a1_5 a1_6).bind fun t148 => (turnstonelaw05_ItemOrders.j1 kj6 t148 a1_0 a1_1 a1_2 a1_3 a1_4 a1_5 a1_6 a2_0 a2_1 a2_2 a2_3 a2_4 a2_5 a2_6 a3_0 a3_1 a3_2 a3_3 a3_4 a3_5 a3_6)))))))) = some r := H
     have A78 := Aside0.mk A780
     clear A780
     by_cases c79 : (t143 == t144) = true
     ·rw [if_pos c79] at H
      have c79b0 : (t143 == t144) = true := c79
      (try (have c79b1 : decide (t143 = t144) = true := by simpa using c79))
      (try (have c79b2 : (t143 == t144) = true := by simpa using c79))
      clear c79
      (first | rw [c79b0] | (simp only [i64_w, i32_w]; rw [c79b0]) | skip)
      have H' := Aside0.mk H
      clear H
      try go_wp2
      replace BK136 := Aside0.mk (blk_drew BK136.out)
      replace BK137 := Aside0.mk (blk_drew BK137.out)
      replace BK138 := Aside0.mk (blk_drew BK138.out)
      replace HB := Aside0.mk (below_drew1 HB.out)
      refine start_ (n := 26) (S := fun w' => w'.cell? ⟨gb136, 0, none⟩ = some (.int .u64 a1_0) ∧ w'.cell? ⟨gb136, 1, none⟩ = some (.int .u32 a1_1) ∧ w'.cell? ⟨gb136, 2, none⟩ = some (.int .u32 a1_2) ∧ w'.cell? ⟨gb136, 3, none⟩ = some (.int .i64 a1_3) ∧ w'.cell? ⟨gb136, 4, none⟩ = some (.int .u64 a1_4) ∧ w'.cell? ⟨gb136, 5, none⟩ = some (.int .u32 a1_5) ∧ w'.cell? ⟨gb136, 6, none⟩ = some (.int .u32 a1_6) ∧ w'.cell? ⟨gb137, 0, none⟩ = some (.int .u64 a2_0) ∧ w'.cell? ⟨gb137, 1, none⟩ = some (.int .u32 a2_1) ∧ w'.cell? ⟨gb137, 2, none⟩ = some (.int .u32 a2_2) ∧ w'.cell? ⟨gb137, 3, none⟩ = some (.int .i64 a2_3) ∧ w'.cell? ⟨gb137, 4, none⟩ = some (.int .u64 a2_4) ∧ w'.cell? ⟨gb137, 5, none⟩ = some (.int .u32 a2_5) ∧ w'.cell? ⟨gb137, 6, none⟩ = some (.int .u32 a2_6)) (ds := []) #[false, false, false, false, false, false, false, false, false, false, false, false, false, false, false, false, false, false, false, false, false, false, false, false, false, false] (by kernel_rfl) rfl rfl ⟨bc BK136 0, bc BK136 1, bc BK136 2, bc BK136 3, bc BK136 4, bc BK136 5, bc BK136 6, bc BK137 0, bc BK137 1, bc BK137 2, bc BK137 3, bc BK137 4, bc BK137 5, bc BK137 6⟩ (fun hHeld => ?_); refine with_tabW turnstonelaw05_ItemOrders.tab5 turnstonelaw05_ItemOrders.bits5 (fun HT_ HW_ => ?_)
      generalize wc.drew = w80 at BK136 BK137 BK138 HB hHeld ⊢
      refine take_ (i := 0) (N := some 48) (v := ?_) (a' := ?_) #[true, false, false, false, false, false, false, false, false, false, false, false, false, false, false, false, false, false, false, false, false, false, false, false, false, false] rfl rfl (take_ofW HT_.out HW_.out (by kernel_rfl)) (fun _ _ _ h => h) (Or.inl ⟨by rfl, ?_⟩) hHeld ?_ ?_
      rotate_left
      ·rintro w' ⟨s0, s1, s2, s3, s4, s5, s6, s7, s8, s9, s10, s11, s12, s13⟩
       go_simp
       with_reducible rfl
      rotate_left
      ·simp only [Act.put, List.setIfInBounds_toArray, List.set_cons_zero, List.set_cons_succ, i64_w, i32_w]
       rfl
      refine take_ (i := 1) (N := some 49) (v := ?_) (a' := ?_) #[true, true, false, false, false, false, false, false, false, false, false, false, false, false, false, false, false, false, false, false, false, false, false, false, false, false] rfl rfl (take_ofW HT_.out HW_.out (by kernel_rfl)) (fun _ _ _ h => h) (Or.inl ⟨by rfl, ?_⟩) hHeld ?_ ?_
      rotate_left
      ·rintro w' ⟨s0, s1, s2, s3, s4, s5, s6, s7, s8, s9, s10, s11, s12, s13⟩
       go_simp
       with_reducible rfl
      rotate_left
      ·simp only [Act.put, List.setIfInBounds_toArray, List.set_cons_zero, List.set_cons_succ, i64_w, i32_w]
       rfl
      refine take_ (i := 3) (N := some 51) (v := ?_) (a' := ?_) #[true, true, false, true, false, false, false, false, false, false, false, false, false, false, false, false, false, false, false, false, false, false, false, false, false, false] rfl rfl (take_ofW HT_.out HW_.out (by kernel_rfl)) (fun _ _ _ h => h) (Or.inl ⟨by rfl, ?_⟩) hHeld ?_ ?_
      rotate_left
      ·rintro w' ⟨s0, s1, s2, s3, s4, s5, s6, s7, s8, s9, s10, s11, s12, s13⟩
       go_simp
       with_reducible rfl
      rotate_left
      ·simp only [Act.put, List.setIfInBounds_toArray, List.set_cons_zero, List.set_cons_succ, i64_w, i32_w]
       rfl
      refine take_ (i := 4) (N := some 52) (v := ?_) (a' := ?_) #[true, true, false, true, true, false, false, false, false, false, false, false, false, false, false, false, false, false, false, false, false, false, false, false, false, false] rfl rfl (take_ofW HT_.out HW_.out (by kernel_rfl)) (fun _ _ _ h => h) (Or.inl ⟨by rfl, ?_⟩) hHeld ?_ ?_
      rotate_left
      ·rintro w' ⟨s0, s1, s2, s3, s4, s5, s6, s7, s8, s9, s10, s11, s12, s13⟩
       go_simp
       with_reducible rfl
      rotate_left
      ·simp only [Act.put, List.setIfInBounds_toArray, List.set_cons_zero, List.set_cons_succ, i64_w, i32_w]
       rfl
      refine one_ (i := 2) (N := some 50) #[true, true, true, true, true, false, false, false, false, false, false, false, false, false, false, false, false, false, false, false, false, false, false, false, false, false] rfl rfl (one_of HT_.out (by kernel_rfl)) (by decide) (fun K hK => ?_)
      refine goes_ Try.func8 (by kernel_rfl) rfl #[.agg #[.int .u64 a1_0, .int .u32 a1_1, .int .u32 a1_2, .int .i64 a1_3, .int .u64 a1_4, .int .u32 a1_5, .int .u32 a1_6], .agg #[.int .u64 a2_0, .int .u32 a2_1, .int .u32 a2_2, .int .i64 a2_3, .int .u64 a2_4, .int .u32 a2_5, .int .u32 a2_6]] (by rfl) rfl rfl argt ?_
      with_reducible refine (item_Item_Ahead.calls kj6 a1_0 a1_1 a1_2 a1_3 a1_4 a1_5 a1_6 a2_0 a2_1 a2_2 a2_3 a2_4 a2_5 a2_6 t143 _ A77.out).mono ?_
      rintro e w81 ⟨rfl, hb⟩
      refine ⟨_, rfl, ?_⟩
      replace BK136 := blkb BK136 hb
      replace BK137 := blkb BK137 hb
      replace BK138 := blkb BK138 hb
      replace HB := belb HB hb
      (try clear hb)
      (try clear hb2)
      (try clear hk)
      (try clear hi)
      refine hK.out _ _ ⟨bc BK136 0, bc BK136 1, bc BK136 2, bc BK136 3, bc BK136 4, bc BK136 5, bc BK136 6, bc BK137 0, bc BK137 1, bc BK137 2, bc BK137 3, bc BK137 4, bc BK137 5, bc BK137 6⟩ (fun hHeld => ?_)
      clear hK K
      refine norm_ (a' := ?_) ?_ ?_
      rotate_left
      ·show Act.put _ (some 50) _ = _
       simp only [Act.put, List.setIfInBounds_toArray, List.set_cons_zero, List.set_cons_succ, i64_w, i32_w]
       rfl
      refine one_ (i := 5) (N := some 53) #[true, true, true, true, true, true, false, false, false, false, false, false, false, false, false, false, false, false, false, false, false, false, false, false, false, false] rfl rfl (one_of HT_.out (by kernel_rfl)) (by decide) (fun K hK => ?_)
      refine goes_ Try.func8 (by kernel_rfl) rfl #[.agg #[.int .u64 a2_0, .int .u32 a2_1, .int .u32 a2_2, .int .i64 a2_3, .int .u64 a2_4, .int .u32 a2_5, .int .u32 a2_6], .agg #[.int .u64 a1_0, .int .u32 a1_1, .int .u32 a1_2, .int .i64 a1_3, .int .u64 a1_4, .int .u32 a1_5, .int .u32 a1_6]] (by rfl) rfl rfl argt ?_
      with_reducible refine (item_Item_Ahead.calls kj6 a2_0 a2_1 a2_2 a2_3 a2_4 a2_5 a2_6 a1_0 a1_1 a1_2 a1_3 a1_4 a1_5 a1_6 t144 _ A78.out).mono ?_
      rintro e w82 ⟨rfl, hb⟩
      refine ⟨_, rfl, ?_⟩
      replace BK136 := blkb BK136 hb
      replace BK137 := blkb BK137 hb
      replace BK138 := blkb BK138 hb
      replace HB := belb HB hb
      (try clear hb)
      (try clear hb2)
      (try clear hk)
      (try clear hi)
      refine hK.out _ _ ⟨bc BK136 0, bc BK136 1, bc BK136 2, bc BK136 3, bc BK136 4, bc BK136 5, bc BK136 6, bc BK137 0, bc BK137 1, bc BK137 2, bc BK137 3, bc BK137 4, bc BK137 5, bc BK137 6⟩ (fun hHeld => ?_)
      clear hK K
      refine norm_ (a' := ?_) ?_ ?_
      rotate_left
      ·show Act.put _ (some 53) _ = _
       simp only [Act.put, List.setIfInBounds_toArray, List.set_cons_zero, List.set_cons_succ, i64_w, i32_w]
       rfl
      refine pure_ (i := 6) (N := some 54) (v := ?_) (a' := ?_) #[true, true, true, true, true, true, true, false, false, false, false, false, false, false, false, false, false, false, false, false, false, false, false, false, false, false] rfl rfl (any_of HT_.out (by kernel_rfl)) (fun _ _ _ h => h) (Or.inl ⟨by rfl, ?_⟩) ?_ ?_
      rotate_left
      ·intro w'
       go_simp
       with_reducible rfl
      rotate_left
      ·simp only [Act.put, List.setIfInBounds_toArray, List.set_cons_zero, List.set_cons_succ, i64_w, i32_w]
       rfl
      refine pure_ (i := 7) (N := some 55) (v := ?_) (a' := ?_) #[true, true, true, true, true, true, true, true, false, false, false, false, false, false, false, false, false, false, false, false, false, false, false, false, false, false] rfl rfl (any_of HT_.out (by kernel_rfl)) (fun _ _ _ h => h) (Or.inl ⟨by rfl, ?_⟩) ?_ ?_
      rotate_left
      ·intro w'
       go_simp
       with_reducible rfl
      rotate_left
      ·simp only [Act.put, List.setIfInBounds_toArray, List.set_cons_zero, List.set_cons_succ, i64_w, i32_w]
       rfl
      refine pure_ (i := 8) (N := some 56) (v := undef) (a' := ?_) #[true, true, true, true, true, true, true, true, true, false, false, false, false, false, false, false, false, false, false, false, false, false, false, false, false, false] rfl rfl (any_of HT_.out (by kernel_rfl)) (fun _ _ _ h => h) (Or.inr ⟨by rfl, rfl⟩) ?_ ?_
      rotate_left
      ·simp only [Act.put, List.setIfInBounds_toArray, List.set_cons_zero, List.set_cons_succ, i64_w, i32_w]
       rfl
      refine pure_ (i := 9) (N := some 57) (v := undef) (a' := ?_) #[true, true, true, true, true, true, true, true, true, true, false, false, false, false, false, false, false, false, false, false, false, false, false, false, false, false] rfl rfl (any_of HT_.out (by kernel_rfl)) (fun _ _ _ h => h) (Or.inr ⟨by rfl, rfl⟩) ?_ ?_
      rotate_left
      ·simp only [Act.put, List.setIfInBounds_toArray, List.set_cons_zero, List.set_cons_succ, i64_w, i32_w]
       rfl
      refine pure_ (i := 10) (N := some 58) (v := undef) (a' := ?_) #[true, true, true, true, true, true, true, true, true, true, true, false, false, false, false, false, false, false, false, false, false, false, false, false, false, false] rfl rfl (any_of HT_.out (by kernel_rfl)) (fun _ _ _ h => h) (Or.inr ⟨by rfl, rfl⟩) ?_ ?_
      rotate_left
      ·simp only [Act.put, List.setIfInBounds_toArray, List.set_cons_zero, List.set_cons_succ, i64_w, i32_w]
       rfl
      refine pure_ (i := 11) (N := some 59) (v := undef) (a' := ?_) #[true, true, true, true, true, true, true, true, true, true, true, true, false, false, false, false, false, false, false, false, false, false, false, false, false, false] rfl rfl (any_of HT_.out (by kernel_rfl)) (fun _ _ _ h => h) (Or.inr ⟨by rfl, rfl⟩) ?_ ?_
      rotate_left
      ·simp only [Act.put, List.setIfInBounds_toArray, List.set_cons_zero, List.set_cons_succ, i64_w, i32_w]
       rfl
      refine pure_ (i := 12) (N := some 60) (v := undef) (a' := ?_) #[true, true, true, true, true, true, true, true, true, true, true, true, true, false, false, false, false, false, false, false, false, false, false, false, false, false] rfl rfl (any_of HT_.out (by kernel_rfl)) (fun _ _ _ h => h) (Or.inr ⟨by rfl, rfl⟩) ?_ ?_
      rotate_left
      ·simp only [Act.put, List.setIfInBounds_toArray, List.set_cons_zero, List.set_cons_succ, i64_w, i32_w]
       rfl
      refine pure_ (i := 13) (N := some 61) (v := undef) (a' := ?_) #[true, true, true, true, true, true, true, true, true, true, true, true, true, true, false, false, false, false, false, false, false, false, false, false, false, false] rfl rfl (any_of HT_.out (by kernel_rfl)) (fun _ _ _ h => h) (Or.inr ⟨by rfl, rfl⟩) ?_ ?_
      rotate_left
      ·simp only [Act.put, List.setIfInBounds_toArray, List.set_cons_zero, List.set_cons_succ, i64_w, i32_w]
       rfl
      refine pure_ (i := 14) (N := some 62) (v := undef) (a' := ?_) #[true, true, true, true, true, true, true, true, true, true, true, true, true, true, true, false, false, false, false, false, false, false, false, false, false, false] rfl rfl (any_of HT_.out (by kernel_rfl)) (fun _ _ _ h => h) (Or.inr ⟨by rfl, rfl⟩) ?_ ?_
      rotate_left
      ·simp only [Act.put, List.setIfInBounds_toArray, List.set_cons_zero, List.set_cons_succ, i64_w, i32_w]
       rfl
      refine pure_ (i := 15) (N := some 63) (v := ?_) (a' := ?_) #[true, true, true, true, true, true, true, true, true, true, true, true, true, true, true, true, false, false, false, false, false, false, false, false, false, false] rfl rfl (any_of HT_.out (by kernel_rfl)) (fun _ _ _ h => h) (Or.inl ⟨by rfl, ?_⟩) ?_ ?_
      rotate_left
      ·intro w'
       go_simp
       with_reducible rfl
      rotate_left
      ·simp only [Act.put, List.setIfInBounds_toArray, List.set_cons_zero, List.set_cons_succ, i64_w, i32_w]
       rfl
      refine pure_ (i := 16) (N := some 64) (v := ?_) (a' := ?_) #[true, true, true, true, true, true, true, true, true, true, true, true, true, true, true, true, true, false, false, false, false, false, false, false, false, false] rfl rfl (any_of HT_.out (by kernel_rfl)) (fun _ _ _ h => h) (Or.inl ⟨by rfl, ?_⟩) ?_ ?_
      rotate_left
      ·intro w'
       go_simp
       with_reducible rfl
      rotate_left
      ·simp only [Act.put, List.setIfInBounds_toArray, List.set_cons_zero, List.set_cons_succ, i64_w, i32_w]
       rfl
      refine pure_ (i := 17) (N := some 65) (v := undef) (a' := ?_) #[true, true, true, true, true, true, true, true, true, true, true, true, true, true, true, true, true, true, false, false, false, false, false, false, false, false] rfl rfl (any_of HT_.out (by kernel_rfl)) (fun _ _ _ h => h) (Or.inr ⟨by rfl, rfl⟩) ?_ ?_
      rotate_left
      ·simp only [Act.put, List.setIfInBounds_toArray, List.set_cons_zero, List.set_cons_succ, i64_w, i32_w]
       rfl
      refine pure_ (i := 18) (N := some 66) (v := undef) (a' := ?_) #[true, true, true, true, true, true, true, true, true, true, true, true, true, true, true, true, true, true, true, false, false, false, false, false, false, false] rfl rfl (any_of HT_.out (by kernel_rfl)) (fun _ _ _ h => h) (Or.inr ⟨by rfl, rfl⟩) ?_ ?_
      rotate_left
      ·simp only [Act.put, List.setIfInBounds_toArray, List.set_cons_zero, List.set_cons_succ, i64_w, i32_w]
       rfl
      refine pure_ (i := 19) (N := some 67) (v := undef) (a' := ?_) #[true, true, true, true, true, true, true, true, true, true, true, true, true, true, true, true, true, true, true, true, false, false, false, false, false, false] rfl rfl (any_of HT_.out (by kernel_rfl)) (fun _ _ _ h => h) (Or.inr ⟨by rfl, rfl⟩) ?_ ?_
      rotate_left
      ·simp only [Act.put, List.setIfInBounds_toArray, List.set_cons_zero, List.set_cons_succ, i64_w, i32_w]
       rfl
      refine pure_ (i := 20) (N := some 68) (v := ?_) (a' := ?_) #[true, true, true, true, true, true, true, true, true, true, true, true, true, true, true, true, true, true, true, true, true, false, false, false, false, false] rfl rfl (any_of HT_.out (by kernel_rfl)) (fun _ _ _ h => h) (Or.inl ⟨by rfl, ?_⟩) ?_ ?_
      rotate_left
      ·intro w'
       go_simp
       with_reducible rfl
      rotate_left
      ·simp only [Act.put, List.setIfInBounds_toArray, List.set_cons_zero, List.set_cons_succ, i64_w, i32_w]
       rfl
      refine pure_ (i := 21) (N := some 69) (v := ?_) (a' := ?_) #[true, true, true, true, true, true, true, true, true, true, true, true, true, true, true, true, true, true, true, true, true, true, false, false, false, false] rfl rfl (any_of HT_.out (by kernel_rfl)) (fun _ _ _ h => h) (Or.inl ⟨by rfl, ?_⟩) ?_ ?_
      rotate_left
      ·intro w'
       go_simp
       with_reducible rfl
      rotate_left
      ·simp only [Act.put, List.setIfInBounds_toArray, List.set_cons_zero, List.set_cons_succ, i64_w, i32_w]
       rfl
      refine pure_ (i := 22) (N := some 70) (v := undef) (a' := ?_) #[true, true, true, true, true, true, true, true, true, true, true, true, true, true, true, true, true, true, true, true, true, true, true, false, false, false] rfl rfl (any_of HT_.out (by kernel_rfl)) (fun _ _ _ h => h) (Or.inr ⟨by rfl, rfl⟩) ?_ ?_
      rotate_left
      ·simp only [Act.put, List.setIfInBounds_toArray, List.set_cons_zero, List.set_cons_succ, i64_w, i32_w]
       rfl
      refine pure_ (i := 23) (N := some 71) (v := undef) (a' := ?_) #[true, true, true, true, true, true, true, true, true, true, true, true, true, true, true, true, true, true, true, true, true, true, true, true, false, false] rfl rfl (any_of HT_.out (by kernel_rfl)) (fun _ _ _ h => h) (Or.inr ⟨by rfl, rfl⟩) ?_ ?_
      rotate_left
      ·simp only [Act.put, List.setIfInBounds_toArray, List.set_cons_zero, List.set_cons_succ, i64_w, i32_w]
       rfl
      refine pure_ (i := 24) (N := some 72) (v := undef) (a' := ?_) #[true, true, true, true, true, true, true, true, true, true, true, true, true, true, true, true, true, true, true, true, true, true, true, true, true, false] rfl rfl (any_of HT_.out (by kernel_rfl)) (fun _ _ _ h => h) (Or.inr ⟨by rfl, rfl⟩) ?_ ?_
      rotate_left
      ·simp only [Act.put, List.setIfInBounds_toArray, List.set_cons_zero, List.set_cons_succ, i64_w, i32_w]
       rfl
      refine pure_ (i := 25) (N := some 73) (v := ?_) (a' := ?_) #[true, true, true, true, true, true, true, true, true, true, true, true, true, true, true, true, true, true, true, true, true, true, true, true, true, true] rfl rfl (any_of HT_.out (by kernel_rfl)) (fun _ _ _ h => h) (Or.inl ⟨by rfl, ?_⟩) ?_ ?_
      rotate_left
      ·intro w'
       go_simp
       with_reducible rfl
      rotate_left
      ·simp only [Act.put, List.setIfInBounds_toArray, List.set_cons_zero, List.set_cons_succ, i64_w, i32_w]
       rfl
      refine done_ (done_of HT_.out (by kernel_rfl)) ?_
      try go_wp2
      go_meet
      case rel => exact ⟨_, (true), (by first | rfl | (simp; done) | (simp [*]; done)), H', ⟨by have := HJ6.out; first | omega | exact Nat.le_refl _⟩, ⟨blkt BK136⟩, ⟨blkt BK137⟩, ⟨blkt BK138⟩, ⟨belt HB⟩⟩
     rw [if_neg c79] at H
     have c79b0 : (t143 == t144) = false := by simpa using c79
     (try (have c79b1 : decide (t143 = t144) = false := by simpa using c79))
     (try (have c79b2 : (t143 == t144) = false := by simpa using c79))
     (try (have c79b3 : ¬ (t143 = t144) := by simpa using c79))
     clear c79
     (first | rw [c79b0] | (simp only [i64_w, i32_w]; rw [c79b0]) | skip)
     replace H := Option.bind_eq_some_iff.mp H
     obtain ⟨t145, A830, H⟩ := H
     replace H : ((item_Item_Due.f kj6 a2_0 a2_1 a2_2 a2_3 a2_4 a2_5 a2_6 a1_0 a1_1 a1_2 a1_3 a1_4 a1_5 a1_6).bind fun t146 => (if (t145 == t146) = true then (turnstonelaw05_ItemOrders.j1 kj6 true a1_0 a1_1 a1_2 a1_3 a1_4 a1_5 a1_6 a2_0 a2_1 a2_2 a2_3 a2_4 a2_5 a2_6 a3_0 a3_1 a3_2 a3_3 a3_4 a3_5 a3_6) else ((item_Item_Ahead.f kj6 a1_0 a1_1 a1_2 a1_3 a1_4 a1_5 a1_6 a1_0 a1_1 a1_2 a1_3 a1_4 a1_5 a1_6).bind fun t147 => (if t147 = true then (turnstonelaw05_ItemOrders.j1 kj6 true a1_0 a1_1 a1_2 a1_3 a1_4 a1_5 a1_6 a2_0 a2_1 a2_2 a2_3 a2_4 a2_5 a2_6 a3_0 a3_1 a3_2 a3_3 a3_4 a3_5 a3_6) else ((item_Item_Due.f kj6 a1_0 a1_1 a1_2 a1_3 a1_4 a1_5 a1_6 a1_0 a1_1 a1_2 a1_3 a1_4 a1_5 a1_6).bind fun t148 => (turnstonelaw05_ItemOrders.j1 kj6 t148 a1_0 a1_1 a1_2 a1_3 a1_4 a1_5 a1_6 a2_0 a2_1 a2_2 a2_3 a2_4 a2_5 a2_6 a3_0 a3_1 a3_2 a3_3 a3_4 a3_5 a3_6)))))) = some r := H
     have A83 := Aside0.mk A830
     clear A830
     replace H := Option.bind_eq_some_iff.mp H
     obtain ⟨t146, A840, H⟩ := H
     replace H : (if (t145 == t146) = true then (turnstonelaw05_ItemOrders.j1 kj6 true a1_0 a1_1 a1_2 a1_3 a1_4 a1_5 a1_6 a2_0 a2_1 a2_2 a2_3 a2_4 a2_5 a2_6 a3_0 a3_1 a3_2 a3_3 a3_4 a3_5 a3_6) else ((item_Item_Ahead.f kj6 a1_0 a1_1 a1_2 a1_3 a1_4 a1_5 a1_6 a1_0 a1_1 a1_2 a1_3 a1_4 a1_5 a1_6).bind fun t147 => (if t147 = true then (turnstonelaw05_ItemOrders.j1 kj6 true a1_0 a1_1 a1_2 a1_3 a1_4 a1_5 a1_6 a2_0 a2_1 a2_2 a2_3 a2_4 a2_5 a2_6 a3_0 a3_1 a3_2 a3_3 a3_4 a3_5 a3_6) else ((item_Item_Due.f kj6 a1_0 a1_1 a1_2 a1_3 a1_4 a1_5 a1_6 a1_0 a1_1 a1_2 a1_3 a1_4 a1_5 a1_6).bind fun t148 => (turnstonelaw05_ItemOrders.j1 kj6 t148 a1_0 a1_1 a1_2 a1_3 a1_4 a1_5 a1_6 a2_0 a2_1 a2_2 a2_3 a2_4 a2_5 a2_6 a3_0 a3_1 a3_2 a3_3 a3_4 a3_5 a3_6))))) = some r := H
     have A84 := Aside0.mk A840
     clear A840
     by_cases c85 : (t145 == t146) = true
     ·rw [if_pos c85] at H
      have c85b0 : (t145 == t146) = true := c85
      (try (have c85b1 : decide (t145 = t146) = true := by simpa using c85))
      (try (have c85b2 : (t145 == t146) = true := by simpa using c85))
      clear c85
      have H' := Aside0.mk H
      clear H
      try go_wp2
      replace BK136 := Aside0.mk (blk_drew BK136.out)
      replace BK137 := Aside0.mk (blk_drew BK137.out)
      replace BK138 := Aside0.mk (blk_drew BK138.out)
      replace HB := Aside0.mk (below_drew1 HB.out)
      refine start_ (n := 26) (S := fun w' => w'.cell? ⟨gb136, 0, none⟩ = some (.int .u64 a1_0) ∧ w'.cell? ⟨gb136, 1, none⟩ = some (.int .u32 a1_1) ∧ w'.cell? ⟨gb136, 2, none⟩ = some (.int .u32 a1_2) ∧ w'.cell? ⟨gb136, 3, none⟩ = some (.int .i64 a1_3) ∧ w'.cell? ⟨gb136, 4, none⟩ = some (.int .u64 a1_4) ∧ w'.cell? ⟨gb136, 5, none⟩ = some (.int .u32 a1_5) ∧ w'.cell? ⟨gb136, 6, none⟩ = some (.int .u32 a1_6) ∧ w'.cell? ⟨gb137, 0, none⟩ = some (.int .u64 a2_0) ∧ w'.cell? ⟨gb137, 1, none⟩ = some (.int .u32 a2_1) ∧ w'.cell? ⟨gb137, 2, none⟩ = some (.int .u32 a2_2) ∧ w'.cell? ⟨gb137, 3, none⟩ = some (.int .i64 a2_3) ∧ w'.cell? ⟨gb137, 4, none⟩ = some (.int .u64 a2_4) ∧ w'.cell? ⟨gb137, 5, none⟩ = some (.int .u32 a2_5) ∧ w'.cell? ⟨gb137, 6, none⟩ = some (.int .u32 a2_6)) (ds := []) #[false, false, false, false, false, false, false, false, false, false, false, false, false, false, false, false, false, false, false, false, false, false, false, false, false, false] (by kernel_rfl) rfl rfl ⟨bc BK136 0, bc BK136 1, bc BK136 2, bc BK136 3, bc BK136 4, bc BK136 5, bc BK136 6, bc BK137 0, bc BK137 1, bc BK137 2, bc BK137 3, bc BK137 4, bc BK137 5, bc BK137 6⟩ (fun hHeld => ?_); refine with_tabW turnstonelaw05_ItemOrders.tab5 turnstonelaw05_ItemOrders.bits5 (fun HT_ HW_ => ?_)
      generalize wc.drew = w86 at BK136 BK137 BK138 HB hHeld ⊢
      refine take_ (i := 0) (N := some 48) (v := ?_) (a' := ?_) #[true, false, false, false, false, false, false, false, false, false, false, false, false, false, false, false, false, false, false, false, false, false, false, false, false, false] rfl rfl (take_ofW HT_.out HW_.out (by kernel_rfl)) (fun _ _ _ h => h) (Or.inl ⟨by rfl, ?_⟩) hHeld ?_ ?_
      rotate_left
      ·rintro w' ⟨s0, s1, s2, s3, s4, s5, s6, s7, s8, s9, s10, s11, s12, s13⟩
       go_simp
       with_reducible rfl
      rotate_left
      ·simp only [Act.put, List.setIfInBounds_toArray, List.set_cons_zero, List.set_cons_succ, i64_w, i32_w]
       rfl
      refine take_ (i := 1) (N := some 49) (v := ?_) (a' := ?_) #[true, true, false, false, false, false, false, false, false, false, false, false, false, false, false, false, false, false, false, false, false, false, false, false, false, false] rfl rfl (take_ofW HT_.out HW_.out (by kernel_rfl)) (fun _ _ _ h => h) (Or.inl ⟨by rfl, ?_⟩) hHeld ?_ ?_
      rotate_left
      ·rintro w' ⟨s0, s1, s2, s3, s4, s5, s6, s7, s8, s9, s10, s11, s12, s13⟩
       go_simp
       with_reducible rfl
      rotate_left
      ·simp only [Act.put, List.setIfInBounds_toArray, List.set_cons_zero, List.set_cons_succ, i64_w, i32_w]
       rfl
      refine take_ (i := 3) (N := some 51) (v := ?_) (a' := ?_) #[true, true, false, true, false, false, false, false, false, false, false, false, false, false, false, false, false, false, false, false, false, false, false, false, false, false] rfl rfl (take_ofW HT_.out HW_.out (by kernel_rfl)) (fun _ _ _ h => h) (Or.inl ⟨by rfl, ?_⟩) hHeld ?_ ?_
      rotate_left
      ·rintro w' ⟨s0, s1, s2, s3, s4, s5, s6, s7, s8, s9, s10, s11, s12, s13⟩
       go_simp
       with_reducible rfl
      rotate_left
      ·simp only [Act.put, List.setIfInBounds_toArray, List.set_cons_zero, List.set_cons_succ, i64_w, i32_w]
       rfl
      refine take_ (i := 4) (N := some 52) (v := ?_) (a' := ?_) #[true, true, false, true, true, false, false, false, false, false, false, false, false, false, false, false, false, false, false, false, false, false, false, false, false, false] rfl rfl (take_ofW HT_.out HW_.out (by kernel_rfl)) (fun _ _ _ h => h) (Or.inl ⟨by rfl, ?_⟩) hHeld ?_ ?_
      rotate_left
      ·rintro w' ⟨s0, s1, s2, s3, s4, s5, s6, s7, s8, s9, s10, s11, s12, s13⟩
       go_simp
       with_reducible rfl
      rotate_left
      ·simp only [Act.put, List.setIfInBounds_toArray, List.set_cons_zero, List.set_cons_succ, i64_w, i32_w]
       rfl
      refine one_ (i := 2) (N := some 50) #[true, true, true, true, true, false, false, false, false, false, false, false, false, false, false, false, false, false, false, false, false, false, false, false, false, false] rfl rfl (one_of HT_.out (by kernel_rfl)) (by decide) (fun K hK => ?_)
      refine goes_ Try.func8 (by kernel_rfl) rfl #[.agg #[.int .u64 a1_0, .int .u32 a1_1, .int .u32 a1_2, .int .i64 a1_3, .int .u64 a1_4, .int .u32 a1_5, .int .u32 a1_6], .agg #[.int .u64 a2_0, .int .u32 a2_1, .int .u32 a2_2, .int .i64 a2_3, .int .u64 a2_4, .int .u32 a2_5, .int .u32 a2_6]] (by rfl) rfl rfl argt ?_
      with_reducible refine (item_Item_Ahead.calls kj6 a1_0 a1_1 a1_2 a1_3 a1_4 a1_5 a1_6 a2_0 a2_1 a2_2 a2_3 a2_4 a2_5 a2_6 t143 _ A77.out).mono ?_
      rintro e w87 ⟨rfl, hb⟩
      refine ⟨_, rfl, ?_⟩
      replace BK136 := blkb BK136 hb
      replace BK137 := blkb BK137 hb
      replace BK138 := blkb BK138 hb
      replace HB := belb HB hb
      (try clear hb)
      (try clear hb2)
      (try clear hk)
      (try clear hi)
      refine hK.out _ _ ⟨bc BK136 0, bc BK136 1, bc BK136 2, bc BK136 3, bc BK136 4, bc BK136 5, bc BK136 6, bc BK137 0, bc BK137 1, bc BK137 2, bc BK137 3, bc BK137 4, bc BK137 5, bc BK137 6⟩ (fun hHeld => ?_)
      clear hK K
      refine norm_ (a' := ?_) ?_ ?_
      rotate_left
      ·show Act.put _ (some 50) _ = _
       simp only [Act.put, List.setIfInBounds_toArray, List.set_cons_zero, List.set_cons_succ, i64_w, i32_w]
       rfl
      refine one_ (i := 5) (N := some 53) #[true, true, true, true, true, true, false, false, false, false, false, false, false, false, false, false, false, false, false, false, false, false, false, false, false, false] rfl rfl (one_of HT_.out (by kernel_rfl)) (by decide) (fun K hK => ?_)
      refine goes_ Try.func8 (by kernel_rfl) rfl #[.agg #[.int .u64 a2_0, .int .u32 a2_1, .int .u32 a2_2, .int .i64 a2_3, .int .u64 a2_4, .int .u32 a2_5, .int .u32 a2_6], .agg #[.int .u64 a1_0, .int .u32 a1_1, .int .u32 a1_2, .int .i64 a1_3, .int .u64 a1_4, .int .u32 a1_5, .int .u32 a1_6]] (by rfl) rfl rfl argt ?_
      with_reducible refine (item_Item_Ahead.calls kj6 a2_0 a2_1 a2_2 a2_3 a2_4 a2_5 a2_6 a1_0 a1_1 a1_2 a1_3 a1_4 a1_5 a1_6 t144 _ A78.out).mono ?_
      rintro e w88 ⟨rfl, hb⟩
      refine ⟨_, rfl, ?_⟩
      replace BK136 := blkb BK136 hb
      replace BK137 := blkb BK137 hb
      replace BK138 := blkb BK138 hb
      replace HB := belb HB hb
      (try clear hb)
      (try clear hb2)
      (try clear hk)
      (try clear hi)
      refine hK.out _ _ ⟨bc BK136 0, bc BK136 1, bc BK136 2, bc BK136 3, bc BK136 4, bc BK136 5, bc BK136 6, bc BK137 0, bc BK137 1, bc BK137 2, bc BK137 3, bc BK137 4, bc BK137 5, bc BK137 6⟩ (fun hHeld => ?_)
      clear hK K
      refine norm_ (a' := ?_) ?_ ?_
      rotate_left
      ·show Act.put _ (some 53) _ = _
       simp only [Act.put, List.setIfInBounds_toArray, List.set_cons_zero, List.set_cons_succ, i64_w, i32_w]
       rfl
      refine pure_ (i := 6) (N := some 54) (v := ?_) (a' := ?_) #[true, true, true, true, true, true, true, false, false, false, false, false, false, false, false, false, false, false, false, false, false, false, false, false, false, false] rfl rfl (any_of HT_.out (by kernel_rfl)) (fun _ _ _ h => h) (Or.inl ⟨by rfl, ?_⟩) ?_ ?_
      rotate_left
      ·intro w'
       go_simp
       with_reducible rfl
      rotate_left
      ·simp only [Act.put, List.setIfInBounds_toArray, List.set_cons_zero, List.set_cons_succ, i64_w, i32_w]
       rfl
      refine pure_ (i := 7) (N := some 55) (v := ?_) (a' := ?_) #[true, true, true, true, true, true, true, true, false, false, false, false, false, false, false, false, false, false, false, false, false, false, false, false, false, false] rfl rfl (any_of HT_.out (by kernel_rfl)) (fun _ _ _ h => h) (Or.inl ⟨by rfl, ?_⟩) ?_ ?_
      rotate_left
      ·intro w'
       go_simp
       with_reducible rfl
      rotate_left
      ·simp only [Act.put, List.setIfInBounds_toArray, List.set_cons_zero, List.set_cons_succ, i64_w, i32_w]
       rfl
      refine take_ (i := 8) (N := some 56) (v := ?_) (a' := ?_) #[true, true, true, true, true, true, true, true, true, false, false, false, false, false, false, false, false, false, false, false, false, false, false, false, false, false] rfl rfl (take_ofW HT_.out HW_.out (by kernel_rfl)) (fun _ _ _ h => h) (Or.inl ⟨by rfl, ?_⟩) hHeld ?_ ?_
      rotate_left
      ·rintro w' ⟨s0, s1, s2, s3, s4, s5, s6, s7, s8, s9, s10, s11, s12, s13⟩
       go_simp
       with_reducible rfl
      rotate_left
      ·simp only [Act.put, List.setIfInBounds_toArray, List.set_cons_zero, List.set_cons_succ, i64_w, i32_w]
       rfl
      refine take_ (i := 9) (N := some 57) (v := ?_) (a' := ?_) #[true, true, true, true, true, true, true, true, true, true, false, false, false, false, false, false, false, false, false, false, false, false, false, false, false, false] rfl rfl (take_ofW HT_.out HW_.out (by kernel_rfl)) (fun _ _ _ h => h) (Or.inl ⟨by rfl, ?_⟩) hHeld ?_ ?_
      rotate_left
      ·rintro w' ⟨s0, s1, s2, s3, s4, s5, s6, s7, s8, s9, s10, s11, s12, s13⟩
       go_simp
       with_reducible rfl
      rotate_left
      ·simp only [Act.put, List.setIfInBounds_toArray, List.set_cons_zero, List.set_cons_succ, i64_w, i32_w]
       rfl
      refine take_ (i := 11) (N := some 59) (v := ?_) (a' := ?_) #[true, true, true, true, true, true, true, true, true, true, false, true, false, false, false, false, false, false, false, false, false, false, false, false, false, false] rfl rfl (take_ofW HT_.out HW_.out (by kernel_rfl)) (fun _ _ _ h => h) (Or.inl ⟨by rfl, ?_⟩) hHeld ?_ ?_
      rotate_left
      ·rintro w' ⟨s0, s1, s2, s3, s4, s5, s6, s7, s8, s9, s10, s11, s12, s13⟩
       go_simp
       with_reducible rfl
      rotate_left
      ·simp only [Act.put, List.setIfInBounds_toArray, List.set_cons_zero, List.set_cons_succ, i64_w, i32_w]
       rfl
      refine take_ (i := 12) (N := some 60) (v := ?_) (a' := ?_) #[true, true, true, true, true, true, true, true, true, true, false, true, true, false, false, false, false, false, false, false, false, false, false, false, false, false] rfl rfl (take_ofW HT_.out HW_.out (by kernel_rfl)) (fun _ _ _ h => h) (Or.inl ⟨by rfl, ?_⟩) hHeld ?_ ?_
      rotate_left
      ·rintro w' ⟨s0, s1, s2, s3, s4, s5, s6, s7, s8, s9, s10, s11, s12, s13⟩
       go_simp
       with_reducible rfl
      rotate_left
      ·simp only [Act.put, List.setIfInBounds_toArray, List.set_cons_zero, List.set_cons_succ, i64_w, i32_w]
       rfl
      refine one_ (i := 10) (N := some 58) #[true, true, true, true, true, true, true, true, true, true, true, true, true, false, false, false, false, false, false, false, false, false, false, false, false, false] rfl rfl (one_of HT_.out (by kernel_rfl)) (by decide) (fun K hK => ?_)
      refine goes_ Try.func9 (by kernel_rfl) rfl #[.agg #[.int .u64 a1_0, .int .u32 a1_1, .int .u32 a1_2, .int .i64 a1_3, .int .u64 a1_4, .int .u32 a1_5, .int .u32 a1_6], .agg #[.int .u64 a2_0, .int .u32 a2_1, .int .u32 a2_2, .int .i64 a2_3, .int .u64 a2_4, .int .u32 a2_5, .int .u32 a2_6]] (by rfl) rfl rfl argt ?_
      with_reducible refine (item_Item_Due.calls kj6 a1_0 a1_1 a1_2 a1_3 a1_4 a1_5 a1_6 a2_0 a2_1 a2_2 a2_3 a2_4 a2_5 a2_6 t145 _ A83.out).mono ?_
      rintro e w89 ⟨rfl, hb⟩
      refine ⟨_, rfl, ?_⟩
      replace BK136 := blkb BK136 hb
      replace BK137 := blkb BK137 hb
      replace BK138 := blkb BK138 hb
      replace HB := belb HB hb
      (try clear hb)
      (try clear hb2)
      (try clear hk)
      (try clear hi)
      refine hK.out _ _ ⟨bc BK136 0, bc BK136 1, bc BK136 2, bc BK136 3, bc BK136 4, bc BK136 5, bc BK136 6, bc BK137 0, bc BK137 1, bc BK137 2, bc BK137 3, bc BK137 4, bc BK137 5, bc BK137 6⟩ (fun hHeld => ?_)
      clear hK K
      refine norm_ (a' := ?_) ?_ ?_
      rotate_left
      ·show Act.put _ (some 58) _ = _
       simp only [Act.put, List.setIfInBounds_toArray, List.set_cons_zero, List.set_cons_succ, i64_w, i32_w]
       rfl
      refine one_ (i := 13) (N := some 61) #[true, true, true, true, true, true, true, true, true, true, true, true, true, true, false, false, false, false, false, false, false, false, false, false, false, false] rfl rfl (one_of HT_.out (by kernel_rfl)) (by decide) (fun K hK => ?_)
      refine goes_ Try.func9 (by kernel_rfl) rfl #[.agg #[.int .u64 a2_0, .int .u32 a2_1, .int .u32 a2_2, .int .i64 a2_3, .int .u64 a2_4, .int .u32 a2_5, .int .u32 a2_6], .agg #[.int .u64 a1_0, .int .u32 a1_1, .int .u32 a1_2, .int .i64 a1_3, .int .u64 a1_4, .int .u32 a1_5, .int .u32 a1_6]] (by rfl) rfl rfl argt ?_
      with_reducible refine (item_Item_Due.calls kj6 a2_0 a2_1 a2_2 a2_3 a2_4 a2_5 a2_6 a1_0 a1_1 a1_2 a1_3 a1_4 a1_5 a1_6 t146 _ A84.out).mono ?_
      rintro e w90 ⟨rfl, hb⟩
      refine ⟨_, rfl, ?_⟩
      replace BK136 := blkb BK136 hb
      replace BK137 := blkb BK137 hb
      replace BK138 := blkb BK138 hb
      replace HB := belb HB hb
      (try clear hb)
      (try clear hb2)
      (try clear hk)
      (try clear hi)
      refine hK.out _ _ ⟨bc BK136 0, bc BK136 1, bc BK136 2, bc BK136 3, bc BK136 4, bc BK136 5, bc BK136 6, bc BK137 0, bc BK137 1, bc BK137 2, bc BK137 3, bc BK137 4, bc BK137 5, bc BK137 6⟩ (fun hHeld => ?_)
      clear hK K
      refine norm_ (a' := ?_) ?_ ?_
      rotate_left
      ·show Act.put _ (some 61) _ = _
       simp only [Act.put, List.setIfInBounds_toArray, List.set_cons_zero, List.set_cons_succ, i64_w, i32_w]
       rfl
      refine pure_ (i := 14) (N := some 62) (v := ?_) (a' := ?_) #[true, true, true, true, true, true, true, true, true, true, true, true, true, true, true, false, false, false, false, false, false, false, false, false, false, false] rfl rfl (any_of HT_.out (by kernel_rfl)) (fun _ _ _ h => h) (Or.inl ⟨by rfl, ?_⟩) ?_ ?_
      rotate_left
      ·intro w'
       go_simp
       with_reducible rfl
      rotate_left
      ·simp only [Act.put, List.setIfInBounds_toArray, List.set_cons_zero, List.set_cons_succ, i64_w, i32_w]
       rfl
      refine pure_ (i := 15) (N := some 63) (v := ?_) (a' := ?_) #[true, true, true, true, true, true, true, true, true, true, true, true, true, true, true, true, false, false, false, false, false, false, false, false, false, false] rfl rfl (any_of HT_.out (by kernel_rfl)) (fun _ _ _ h => h) (Or.inl ⟨by rfl, ?_⟩) ?_ ?_
      rotate_left
      ·intro w'
       go_simp
       with_reducible rfl
      rotate_left
      ·simp only [Act.put, List.setIfInBounds_toArray, List.set_cons_zero, List.set_cons_succ, i64_w, i32_w]
       rfl
      refine pure_ (i := 16) (N := some 64) (v := ?_) (a' := ?_) #[true, true, true, true, true, true, true, true, true, true, true, true, true, true, true, true, true, false, false, false, false, false, false, false, false, false] rfl rfl (any_of HT_.out (by kernel_rfl)) (fun _ _ _ h => h) (Or.inl ⟨by rfl, ?_⟩) ?_ ?_
      rotate_left
      ·intro w'
       go_simp
       with_reducible rfl
      rotate_left
      ·simp only [Act.put, List.setIfInBounds_toArray, List.set_cons_zero, List.set_cons_succ, i64_w, i32_w]
       rfl
      refine pure_ (i := 17) (N := some 65) (v := undef) (a' := ?_) #[true, true, true, true, true, true, true, true, true, true, true, true, true, true, true, true, true, true, false, false, false, false, false, false, false, false] rfl rfl (any_of HT_.out (by kernel_rfl)) (fun _ _ _ h => h) (Or.inr ⟨by rfl, rfl⟩) ?_ ?_
      rotate_left
      ·simp only [Act.put, List.setIfInBounds_toArray, List.set_cons_zero, List.set_cons_succ, i64_w, i32_w]
       rfl
      refine pure_ (i := 18) (N := some 66) (v := undef) (a' := ?_) #[true, true, true, true, true, true, true, true, true, true, true, true, true, true, true, true, true, true, true, false, false, false, false, false, false, false] rfl rfl (any_of HT_.out (by kernel_rfl)) (fun _ _ _ h => h) (Or.inr ⟨by rfl, rfl⟩) ?_ ?_
      rotate_left
      ·simp only [Act.put, List.setIfInBounds_toArray, List.set_cons_zero, List.set_cons_succ, i64_w, i32_w]
       rfl
      refine pure_ (i := 19) (N := some 67) (v := undef) (a' := ?_) #[true, true, true, true, true, true, true, true, true, true, true, true, true, true, true, true, true, true, true, true, false, false, false, false, false, false] rfl rfl (any_of HT_.out (by kernel_rfl)) (fun _ _ _ h => h) (Or.inr ⟨by rfl, rfl⟩) ?_ ?_
      rotate_left
      ·simp only [Act.put, List.setIfInBounds_toArray, List.set_cons_zero, List.set_cons_succ, i64_w, i32_w]
       rfl
      refine pure_ (i := 20) (N := some 68) (v := ?_) (a' := ?_) #[true, true, true, true, true, true, true, true, true, true, true, true, true, true, true, true, true, true, true, true, true, false, false, false, false, false] rfl rfl (any_of HT_.out (by kernel_rfl)) (fun _ _ _ h => h) (Or.inl ⟨by rfl, ?_⟩) ?_ ?_
      rotate_left
      ·intro w'
       go_simp
       with_reducible rfl
      rotate_left
      ·simp only [Act.put, List.setIfInBounds_toArray, List.set_cons_zero, List.set_cons_succ, i64_w, i32_w]
       rfl
      refine pure_ (i := 21) (N := some 69) (v := ?_) (a' := ?_) #[true, true, true, true, true, true, true, true, true, true, true, true, true, true, true, true, true, true, true, true, true, true, false, false, false, false] rfl rfl (any_of HT_.out (by kernel_rfl)) (fun _ _ _ h => h) (Or.inl ⟨by rfl, ?_⟩) ?_ ?_
      rotate_left
      ·intro w'
       go_simp
       with_reducible rfl
      rotate_left
      ·simp only [Act.put, List.setIfInBounds_toArray, List.set_cons_zero, List.set_cons_succ, i64_w, i32_w]
       rfl
      refine pure_ (i := 22) (N := some 70) (v := undef) (a' := ?_) #[true, true, true, true, true, true, true, true, true, true, true, true, true, true, true, true, true, true, true, true, true, true, true, false, false, false] rfl rfl (any_of HT_.out (by kernel_rfl)) (fun _ _ _ h => h) (Or.inr ⟨by rfl, rfl⟩) ?_ ?_
      rotate_left
      ·simp only [Act.put, List.setIfInBounds_toArray, List.set_cons_zero, List.set_cons_succ, i64_w, i32_w]
       rfl
      refine pure_ (i := 23) (N := some 71) (v := undef) (a' := ?_) #[true, true, true, true, true, true, true, true, true, true, true, true, true, true, true, true, true, true, true, true, true, true, true, true, false, false] rfl rfl (any_of HT_.out (by kernel_rfl)) (fun _ _ _ h => h) (Or.inr ⟨by rfl, rfl⟩) ?_ ?_
      rotate_left
      ·simp only [Act.put, List.setIfInBounds_toArray, List.set_cons_zero, List.set_cons_succ, i64_w, i32_w]
       rfl
      refine pure_ (i := 24) (N := some 72) (v := undef) (a' := ?_) #[true, true, true, true, true, true, true, true, true, true, true, true, true, true, true, true, true, true, true, true, true, true, true, true, true, false] rfl rfl (any_of HT_.out (by kernel_rfl)) (fun _ _ _ h => h) (Or.inr ⟨by rfl, rfl⟩) ?_ ?_
      rotate_left
      ·simp only [Act.put, List.setIfInBounds_toArray, List.set_cons_zero, List.set_cons_succ, i64_w, i32_w]
       rfl
      refine pure_ (i := 25) (N := some 73) (v := ?_) (a' := ?_) #[true, true, true, true, true, true, true, true, true, true, true, true, true, true, true, true, true, true, true, true, true, true, true, true, true, true] rfl rfl (any_of HT_.out (by kernel_rfl)) (fun _ _ _ h => h) (Or.inl ⟨by rfl, ?_⟩) ?_ ?_
      rotate_left
      ·intro w'
       go_simp
       with_reducible rfl
      rotate_left
      ·simp only [Act.put, List.setIfInBounds_toArray, List.set_cons_zero, List.set_cons_succ, i64_w, i32_w]
       rfl
      refine done_ (done_of HT_.out (by kernel_rfl)) ?_
      try go_wp2
      go_meet
      case rel => exact ⟨_, (true), (by first | rfl | (simp; done) | (simp [*]; done)), H', ⟨by have := HJ6.out; first | omega | exact Nat.le_refl _⟩, ⟨blkt BK136⟩, ⟨blkt BK137⟩, ⟨blkt BK138⟩, ⟨belt HB⟩⟩
     rw [if_neg c85] at H
     have c85b0 : (t145 == t146) = false := by simpa using c85
     (try (have c85b1 : decide (t145 = t146) = false := by simpa using c85))
     (try (have c85b2 : (t145 == t146) = false := by simpa using c85))
     (try (have c85b3 : ¬ (t145 = t146) := by simpa using c85))
     clear c85
     replace H := Option.bind_eq_some_iff.mp H
     obtain ⟨t147, A910, H⟩ := H
     replace H : (if t147 = true then (turnstonelaw05_ItemOrders.j1 kj6 true a1_0 a1_1 a1_2 a1_3 a1_4 a1_5 a1_6 a2_0 a2_1 a2_2 a2_3 a2_4 a2_5 a2_6 a3_0 a3_1 a3_2 a3_3 a3_4 a3_5 a3_6) else ((item_Item_Due.f kj6 a1_0 a1_1 a1_2 a1_3 a1_4 a1_5 a1_6 a1_0 a1_1 a1_2 a1_3 a1_4 a1_5 a1_6).bind fun t148 => (turnstonelaw05_ItemOrders.j1 kj6 t148 a1_0 a1_1 a1_2 a1_3 a1_4 a1_5 a1_6 a2_0 a2_1 a2_2 a2_3 a2_4 a2_5 a2_6 a3_0 a3_1 a3_2 a3_3 a3_4 a3_5 a3_6))) = some r := H
     have A91 := Aside0.mk A910
     clear A910
     by_cases c92 : t147 = true
     ·subst c92
      have H1 : (turnstonelaw05_ItemOrders.j1 kj6 true a1_0 a1_1 a1_2 a1_3 a1_4 a1_5 a1_6 a2_0 a2_1 a2_2 a2_3 a2_4 a2_5 a2_6 a3_0 a3_1 a3_2 a3_3 a3_4 a3_5 a3_6) = some r := by rw [if_pos rfl] at H; exact H
      clear H
      have H := H1
      clear H1
      have H' := Aside0.mk H
      clear H
      try go_wp2
      replace BK136 := Aside0.mk (blk_drew BK136.out)
      replace BK137 := Aside0.mk (blk_drew BK137.out)
      replace BK138 := Aside0.mk (blk_drew BK138.out)
      replace HB := Aside0.mk (below_drew1 HB.out)
      refine start_ (n := 26) (S := fun w' => w'.cell? ⟨gb136, 0, none⟩ = some (.int .u64 a1_0) ∧ w'.cell? ⟨gb136, 1, none⟩ = some (.int .u32 a1_1) ∧ w'.cell? ⟨gb136, 2, none⟩ = some (.int .u32 a1_2) ∧ w'.cell? ⟨gb136, 3, none⟩ = some (.int .i64 a1_3) ∧ w'.cell? ⟨gb136, 4, none⟩ = some (.int .u64 a1_4) ∧ w'.cell? ⟨gb136, 5, none⟩ = some (.int .u32 a1_5) ∧ w'.cell? ⟨gb136, 6, none⟩ = some (.int .u32 a1_6) ∧ w'.cell? ⟨gb137, 0, none⟩ = some (.int .u64 a2_0) ∧ w'.cell? ⟨gb137, 1, none⟩ = some (.int .u32 a2_1) ∧ w'.cell? ⟨gb137, 2, none⟩ = some (.int .u32 a2_2) ∧ w'.cell? ⟨gb137, 3, none⟩ = some (.int .i64 a2_3) ∧ w'.cell? ⟨gb137, 4, none⟩ = some (.int .u64 a2_4) ∧ w'.cell? ⟨gb137, 5, none⟩ = some (.int .u32 a2_5) ∧ w'.cell? ⟨gb137, 6, none⟩ = some (.int .u32 a2_6)) (ds := []) #[false, false, false, false, false, false, false, false, false, false, false, false, false, false, false, false, false, false, false, false, false, false, false, false, false, false] (by kernel_rfl) rfl rfl ⟨bc BK136 0, bc BK136 1, bc BK136 2, bc BK136 3, bc BK136 4, bc BK136 5, bc BK136 6, bc BK137 0, bc BK137 1, bc BK137 2, bc BK137 3, bc BK137 4, bc BK137 5, bc BK137 6⟩ (fun hHeld => ?_); refine with_tabW turnstonelaw05_ItemOrders.tab5 turnstonelaw05_ItemOrders.bits5 (fun HT_ HW_ => ?_)
      generalize wc.drew = w93 at BK136 BK137 BK138 HB hHeld ⊢
      refine take_ (i := 0) (N := some 48) (v := ?_) (a' := ?_) #[true, false, false, false, false, false, false, false, false, false, false, false, false, false, false, false, false, false, false, false, false, false, false, false, false, false] rfl rfl (take_ofW HT_.out HW_.out (by kernel_rfl)) (fun _ _ _ h => h) (Or.inl ⟨by rfl, ?_⟩) hHeld ?_ ?_
      rotate_left
      ·rintro w' ⟨s0, s1, s2, s3, s4, s5, s6, s7, s8, s9, s10, s11, s12, s13⟩
       go_simp
       with_reducible rfl
      rotate_left
      ·simp only [Act.put, List.setIfInBounds_toArray, List.set_cons_zero, List.set_cons_succ, i64_w, i32_w]
       rfl
      refine take_ (i := 1) (N := some 49) (v := ?_) (a' := ?_) #[true, true, false, false, false, false, false, false, false, false, false, false, false, false, false, false, false, false, false, false, false, false, false, false, false, false] rfl rfl (take_ofW HT_.out HW_.out (by kernel_rfl)) (fun _ _ _ h => h) (Or.inl ⟨by rfl, ?_⟩) hHeld ?_ ?_
      rotate_left
      ·rintro w' ⟨s0, s1, s2, s3, s4, s5, s6, s7, s8, s9, s10, s11, s12, s13⟩
       go_simp
       with_reducible rfl
      rotate_left
      ·simp only [Act.put, List.setIfInBounds_toArray, List.set_cons_zero, List.set_cons_succ, i64_w, i32_w]
       rfl
      refine take_ (i := 3) (N := some 51) (v := ?_) (a' := ?_) #[true, true, false, true, false, false, false, false, false, false, false, false, false, false, false, false, false, false, false, false, false, false, false, false, false, false] rfl rfl (take_ofW HT_.out HW_.out (by kernel_rfl)) (fun _ _ _ h => h) (Or.inl ⟨by rfl, ?_⟩) hHeld ?_ ?_
      rotate_left
      ·rintro w' ⟨s0, s1, s2, s3, s4, s5, s6, s7, s8, s9, s10, s11, s12, s13⟩
       go_simp
       with_reducible rfl
      rotate_left
      ·simp only [Act.put, List.setIfInBounds_toArray, List.set_cons_zero, List.set_cons_succ, i64_w, i32_w]
       rfl
      refine take_ (i := 4) (N := some 52) (v := ?_) (a' := ?_) #[true, true, false, true, true, false, false, false, false, false, false, false, false, false, false, false, false, false, false, false, false, false, false, false, false, false] rfl rfl (take_ofW HT_.out HW_.out (by kernel_rfl)) (fun _ _ _ h => h) (Or.inl ⟨by rfl, ?_⟩) hHeld ?_ ?_
      rotate_left
      ·rintro w' ⟨s0, s1, s2, s3, s4, s5, s6, s7, s8, s9, s10, s11, s12, s13⟩
       go_simp
       with_reducible rfl
      rotate_left
      ·simp only [Act.put, List.setIfInBounds_toArray, List.set_cons_zero, List.set_cons_succ, i64_w, i32_w]
       rfl
      refine one_ (i := 2) (N := some 50) #[true, true, true, true, true, false, false, false, false, false, false, false, false, false, false, false, false, false, false, false, false, false, false, false, false, false] rfl rfl (one_of HT_.out (by kernel_rfl)) (by decide) (fun K hK => ?_)
      refine goes_ Try.func8 (by kernel_rfl) rfl #[.agg #[.int .u64 a1_0, .int .u32 a1_1, .int .u32 a1_2, .int .i64 a1_3, .int .u64 a1_4, .int .u32 a1_5, .int .u32 a1_6], .agg #[.int .u64 a2_0, .int .u32 a2_1, .int .u32 a2_2, .int .i64 a2_3, .int .u64 a2_4, .int .u32 a2_5, .int .u32 a2_6]] (by rfl) rfl rfl argt ?_
      with_reducible refine (item_Item_Ahead.calls kj6 a1_0 a1_1 a1_2 a1_3 a1_4 a1_5 a1_6 a2_0 a2_1 a2_2 a2_3 a2_4 a2_5 a2_6 t143 _ A77.out).mono ?_
      rintro e w94 ⟨rfl, hb⟩
      refine ⟨_, rfl, ?_⟩
      replace BK136 := blkb BK136 hb
      replace BK137 := blkb BK137 hb
      replace BK138 := blkb BK138 hb
      replace HB := belb HB hb
      (try clear hb)
      (try clear hb2)
      (try clear hk)
      (try clear hi)
      refine hK.out _ _ ⟨bc BK136 0, bc BK136 1, bc BK136 2, bc BK136 3, bc BK136 4, bc BK136 5, bc BK136 6, bc BK137 0, bc BK137 1, bc BK137 2, bc BK137 3, bc BK137 4, bc BK137 5, bc BK137 6⟩ (fun hHeld => ?_)
      clear hK K
      refine norm_ (a' := ?_) ?_ ?_
      rotate_left
      ·show Act.put _ (some 50) _ = _
       simp only [Act.put, List.setIfInBounds_toArray, List.set_cons_zero, List.set_cons_succ, i64_w, i32_w]
       rfl
      refine one_ (i := 5) (N := some 53) #[true, true, true, true, true, true, false, false, false, false, false, false, false, false, false, false, false, false, false, false, false, false, false, false, false, false] rfl rfl (one_of HT_.out (by kernel_rfl)) (by decide) (fun K hK => ?_)
      refine goes_ Try.func8 (by kernel_rfl) rfl #[.agg #[.int .u64 a2_0, .int .u32 a2_1, .int .u32 a2_2, .int .i64 a2_3, .int .u64 a2_4, .int .u32 a2_5, .int .u32 a2_6], .agg #[.int .u64 a1_0, .int .u32 a1_1, .int .u32 a1_2, .int .i64 a1_3, .int .u64 a1_4, .int .u32 a1_5, .int .u32 a1_6]] (by rfl) rfl rfl argt ?_
      with_reducible refine (item_Item_Ahead.calls kj6 a2_0 a2_1 a2_2 a2_3 a2_4 a2_5 a2_6 a1_0 a1_1 a1_2 a1_3 a1_4 a1_5 a1_6 t144 _ A78.out).mono ?_
      rintro e w95 ⟨rfl, hb⟩
      refine ⟨_, rfl, ?_⟩
      replace BK136 := blkb BK136 hb
      replace BK137 := blkb BK137 hb
      replace BK138 := blkb BK138 hb
      replace HB := belb HB hb
      (try clear hb)
      (try clear hb2)
      (try clear hk)
      (try clear hi)
      refine hK.out _ _ ⟨bc BK136 0, bc BK136 1, bc BK136 2, bc BK136 3, bc BK136 4, bc BK136 5, bc BK136 6, bc BK137 0, bc BK137 1, bc BK137 2, bc BK137 3, bc BK137 4, bc BK137 5, bc BK137 6⟩ (fun hHeld => ?_)
      clear hK K
      refine norm_ (a' := ?_) ?_ ?_
      rotate_left
      ·show Act.put _ (some 53) _ = _
       simp only [Act.put, List.setIfInBounds_toArray, List.set_cons_zero, List.set_cons_succ, i64_w, i32_w]
       rfl
      refine pure_ (i := 6) (N := some 54) (v := ?_) (a' := ?_) #[true, true, true, true, true, true, true, false, false, false, false, false, false, false, false, false, false, false, false, false, false, false, false, false, false, false] rfl rfl (any_of HT_.out (by kernel_rfl)) (fun _ _ _ h => h) (Or.inl ⟨by rfl, ?_⟩) ?_ ?_
      rotate_left
      ·intro w'
       go_simp
       with_reducible rfl
      rotate_left
      ·simp only [Act.put, List.setIfInBounds_toArray, List.set_cons_zero, List.set_cons_succ, i64_w, i32_w]
       rfl
      refine pure_ (i := 7) (N := some 55) (v := ?_) (a' := ?_) #[true, true, true, true, true, true, true, true, false, false, false, false, false, false, false, false, false, false, false, false, false, false, false, false, false, false] rfl rfl (any_of HT_.out (by kernel_rfl)) (fun _ _ _ h => h) (Or.inl ⟨by rfl, ?_⟩) ?_ ?_
      rotate_left
      ·intro w'
       go_simp
       with_reducible rfl
      rotate_left
      ·simp only [Act.put, List.setIfInBounds_toArray, List.set_cons_zero, List.set_cons_succ, i64_w, i32_w]
       rfl
      refine take_ (i := 8) (N := some 56) (v := ?_) (a' := ?_) #[true, true, true, true, true, true, true, true, true, false, false, false, false, false, false, false, false, false, false, false, false, false, false, false, false, false] rfl rfl (take_ofW HT_.out HW_.out (by kernel_rfl)) (fun _ _ _ h => h) (Or.inl ⟨by rfl, ?_⟩) hHeld ?_ ?_
      rotate_left
      ·rintro w' ⟨s0, s1, s2, s3, s4, s5, s6, s7, s8, s9, s10, s11, s12, s13⟩
       go_simp
       with_reducible rfl
      rotate_left
      ·simp only [Act.put, List.setIfInBounds_toArray, List.set_cons_zero, List.set_cons_succ, i64_w, i32_w]
       rfl
      refine take_ (i := 9) (N := some 57) (v := ?_) (a' := ?_) #[true, true, true, true, true, true, true, true, true, true, false, false, false, false, false, false, false, false, false, false, false, false, false, false, false, false] rfl rfl (take_ofW HT_.out HW_.out (by kernel_rfl)) (fun _ _ _ h => h) (Or.inl ⟨by rfl, ?_⟩) hHeld ?_ ?_
      rotate_left
      ·rintro w' ⟨s0, s1, s2, s3, s4, s5, s6, s7, s8, s9, s10, s11, s12, s13⟩
       go_simp
       with_reducible rfl
      rotate_left
      ·simp only [Act.put, List.setIfInBounds_toArray, List.set_cons_zero, List.set_cons_succ, i64_w, i32_w]
       rfl
      refine take_ (i := 11) (N := some 59) (v := ?_) (a' := ?_) #[true, true, true, true, true, true, true, true, true, true, false, true, false, false, false, false, false, false, false, false, false, false, false, false, false, false] rfl rfl (take_ofW HT_.out HW_.out (by kernel_rfl)) (fun _ _ _ h => h) (Or.inl ⟨by rfl, ?_⟩) hHeld ?_ ?_
      rotate_left
      ·rintro w' ⟨s0, s1, s2, s3, s4, s5, s6, s7, s8, s9, s10, s11, s12, s13⟩
       go_simp
       with_reducible rfl
      rotate_left
      ·simp only [Act.put, List.setIfInBounds_toArray, List.set_cons_zero, List.set_cons_succ, i64_w, i32_w]
       rfl
      refine take_ (i := 12) (N := some 60) (v := ?_) (a' := ?_) #[true, true, true, true, true, true, true, true, true, true, false, true, true, false, false, false, false, false, false, false, false, false, false, false, false, false] rfl rfl (take_ofW HT_.out HW_.out (by kernel_rfl)) (fun _ _ _ h => h) (Or.inl ⟨by rfl, ?_⟩) hHeld ?_ ?_
      rotate_left
      ·rintro w' ⟨s0, s1, s2, s3, s4, s5, s6, s7, s8, s9, s10, s11, s12, s13⟩
       go_simp
       with_reducible rfl
      rotate_left
      ·simp only [Act.put, List.setIfInBounds_toArray, List.set_cons_zero, List.set_cons_succ, i64_w, i32_w]
       rfl
      refine one_ (i := 10) (N := some 58) #[true, true, true, true, true, true, true, true, true, true, true, true, true, false, false, false, false, false, false, false, false, false, false, false, false, false] rfl rfl (one_of HT_.out (by kernel_rfl)) (by decide) (fun K hK => ?_)
      refine goes_ Try.func9 (by kernel_rfl) rfl #[.agg #[.int .u64 a1_0, .int .u32 a1_1, .int .u32 a1_2, .int .i64 a1_3, .int .u64 a1_4, .int .u32 a1_5, .int .u32 a1_6], .agg #[.int .u64 a2_0, .int .u32 a2_1, .int .u32 a2_2, .int .i64 a2_3, .int .u64 a2_4, .int .u32 a2_5, .int .u32 a2_6]] (by rfl) rfl rfl argt ?_
      with_reducible refine (item_Item_Due.calls kj6 a1_0 a1_1 a1_2 a1_3 a1_4 a1_5 a1_6 a2_0 a2_1 a2_2 a2_3 a2_4 a2_5 a2_6 t145 _ A83.out).mono ?_
      rintro e w96 ⟨rfl, hb⟩
      refine ⟨_, rfl, ?_⟩
      replace BK136 := blkb BK136 hb
      replace BK137 := blkb BK137 hb
      replace BK138 := blkb BK138 hb
      replace HB := belb HB hb
      (try clear hb)
      (try clear hb2)
      (try clear hk)
      (try clear hi)
      refine hK.out _ _ ⟨bc BK136 0, bc BK136 1, bc BK136 2, bc BK136 3, bc BK136 4, bc BK136 5, bc BK136 6, bc BK137 0, bc BK137 1, bc BK137 2, bc BK137 3, bc BK137 4, bc BK137 5, bc BK137 6⟩ (fun hHeld => ?_)
      clear hK K
      refine norm_ (a' := ?_) ?_ ?_
      rotate_left
      ·show Act.put _ (some 58) _ = _
       simp only [Act.put, List.setIfInBounds_toArray, List.set_cons_zero, List.set_cons_succ, i64_w, i32_w]
       rfl
      refine one_ (i := 13) (N := some 61) #[true, true, true, true, true, true, true, true, true, true, true, true, true, true, false, false, false, false, false, false, false, false, false, false, false, false] rfl rfl (one_of HT_.out (by kernel_rfl)) (by decide) (fun K hK => ?_)
      refine goes_ Try.func9 (by kernel_rfl) rfl #[.agg #[.int .u64 a2_0, .int .u32 a2_1, .int .u32 a2_2, .int .i64 a2_3, .int .u64 a2_4, .int .u32 a2_5, .int .u32 a2_6], .agg #[.int .u64 a1_0, .int .u32 a1_1, .int .u32 a1_2, .int .i64 a1_3, .int .u64 a1_4, .int .u32 a1_5, .int .u32 a1_6]] (by rfl) rfl rfl argt ?_
      with_reducible refine (item_Item_Due.calls kj6 a2_0 a2_1 a2_2 a2_3 a2_4 a2_5 a2_6 a1_0 a1_1 a1_2 a1_3 a1_4 a1_5 a1_6 t146 _ A84.out).mono ?_
      rintro e w97 ⟨rfl, hb⟩
      refine ⟨_, rfl, ?_⟩
      replace BK136 := blkb BK136 hb
      replace BK137 := blkb BK137 hb
      replace BK138 := blkb BK138 hb
      replace HB := belb HB hb
      (try clear hb)
      (try clear hb2)
      (try clear hk)
      (try clear hi)
      refine hK.out _ _ ⟨bc BK136 0, bc BK136 1, bc BK136 2, bc BK136 3, bc BK136 4, bc BK136 5, bc BK136 6, bc BK137 0, bc BK137 1, bc BK137 2, bc BK137 3, bc BK137 4, bc BK137 5, bc BK137 6⟩ (fun hHeld => ?_)
      clear hK K
      refine norm_ (a' := ?_) ?_ ?_
      rotate_left
      ·show Act.put _ (some 61) _ = _
       simp only [Act.put, List.setIfInBounds_toArray, List.set_cons_zero, List.set_cons_succ, i64_w, i32_w]
       rfl
      refine pure_ (i := 14) (N := some 62) (v := ?_) (a' := ?_) #[true, true, true, true, true, true, true, true, true, true, true, true, true, true, true, false, false, false, false, false, false, false, false, false, false, false] rfl rfl (any_of HT_.out (by kernel_rfl)) (fun _ _ _ h => h) (Or.inl ⟨by rfl, ?_⟩) ?_ ?_
      rotate_left
      ·intro w'
       go_simp
       with_reducible rfl
      rotate_left
      ·simp only [Act.put, List.setIfInBounds_toArray, List.set_cons_zero, List.set_cons_succ, i64_w, i32_w]
       rfl
      refine pure_ (i := 15) (N := some 63) (v := ?_) (a' := ?_) #[true, true, true, true, true, true, true, true, true, true, true, true, true, true, true, true, false, false, false, false, false, false, false, false, false, false] rfl rfl (any_of HT_.out (by kernel_rfl)) (fun _ _ _ h => h) (Or.inl ⟨by rfl, ?_⟩) ?_ ?_
      rotate_left
      ·intro w'
       go_simp
       with_reducible rfl
      rotate_left
      ·simp only [Act.put, List.setIfInBounds_toArray, List.set_cons_zero, List.set_cons_succ, i64_w, i32_w]
       rfl
      refine pure_ (i := 16) (N := some 64) (v := ?_) (a' := ?_) #[true, true, true, true, true, true, true, true, true, true, true, true, true, true, true, true, true, false, false, false, false, false, false, false, false, false] rfl rfl (any_of HT_.out (by kernel_rfl)) (fun _ _ _ h => h) (Or.inl ⟨by rfl, ?_⟩) ?_ ?_
      rotate_left
      ·intro w'
       go_simp
       with_reducible rfl
      rotate_left
      ·simp only [Act.put, List.setIfInBounds_toArray, List.set_cons_zero, List.set_cons_succ, i64_w, i32_w]
       rfl
      refine take_ (i := 17) (N := some 65) (v := ?_) (a' := ?_) #[true, true, true, true, true, true, true, true, true, true, true, true, true, true, true, true, true, true, false, false, false, false, false, false, false, false] rfl rfl (take_ofW HT_.out HW_.out (by kernel_rfl)) (fun _ _ _ h => h) (Or.inl ⟨by rfl, ?_⟩) hHeld ?_ ?_
      rotate_left
      ·rintro w' ⟨s0, s1, s2, s3, s4, s5, s6, s7, s8, s9, s10, s11, s12, s13⟩
       go_simp
       with_reducible rfl
      rotate_left
      ·simp only [Act.put, List.setIfInBounds_toArray, List.set_cons_zero, List.set_cons_succ, i64_w, i32_w]
       rfl
      refine take_ (i := 18) (N := some 66) (v := ?_) (a' := ?_) #[true, true, true, true, true, true, true, true, true, true, true, true, true, true, true, true, true, true, true, false, false, false, false, false, false, false] rfl rfl (take_ofW HT_.out HW_.out (by kernel_rfl)) (fun _ _ _ h => h) (Or.inl ⟨by rfl, ?_⟩) hHeld ?_ ?_
      rotate_left
      ·rintro w' ⟨s0, s1, s2, s3, s4, s5, s6, s7, s8, s9, s10, s11, s12, s13⟩
       go_simp
       with_reducible rfl
      rotate_left
      ·simp only [Act.put, List.setIfInBounds_toArray, List.set_cons_zero, List.set_cons_succ, i64_w, i32_w]
       rfl
      refine one_ (i := 19) (N := some 67) #[true, true, true, true, true, true, true, true, true, true, true, true, true, true, true, true, true, true, true, true, false, false, false, false, false, false] rfl rfl (one_of HT_.out (by kernel_rfl)) (by decide) (fun K hK => ?_)
      refine goes_ Try.func8 (by kernel_rfl) rfl #[.agg #[.int .u64 a1_0, .int .u32 a1_1, .int .u32 a1_2, .int .i64 a1_3, .int .u64 a1_4, .int .u32 a1_5, .int .u32 a1_6], .agg #[.int .u64 a1_0, .int .u32 a1_1, .int .u32 a1_2, .int .i64 a1_3, .int .u64 a1_4, .int .u32 a1_5, .int .u32 a1_6]] (by rfl) rfl rfl argt ?_
      with_reducible refine (item_Item_Ahead.calls kj6 a1_0 a1_1 a1_2 a1_3 a1_4 a1_5 a1_6 a1_0 a1_1 a1_2 a1_3 a1_4 a1_5 a1_6 true _ A91.out).mono ?_
      rintro e w98 ⟨rfl, hb⟩
      refine ⟨_, rfl, ?_⟩
      replace BK136 := blkb BK136 hb
      replace BK137 := blkb BK137 hb
      replace BK138 := blkb BK138 hb
      replace HB := belb HB hb
      (try clear hb)
      (try clear hb2)
      (try clear hk)
      (try clear hi)
      refine hK.out _ _ ⟨bc BK136 0, bc BK136 1, bc BK136 2, bc BK136 3, bc BK136 4, bc BK136 5, bc BK136 6, bc BK137 0, bc BK137 1, bc BK137 2, bc BK137 3, bc BK137 4, bc BK137 5, bc BK137 6⟩ (fun hHeld => ?_)
      clear hK K
      refine norm_ (a' := ?_) ?_ ?_
      rotate_left
      ·show Act.put _ (some 67) _ = _
       simp only [Act.put, List.setIfInBounds_toArray, List.set_cons_zero, List.set_cons_succ, i64_w, i32_w]
       rfl
      refine pure_ (i := 20) (N := some 68) (v := ?_) (a' := ?_) #[true, true, true, true, true, true, true, true, true, true, true, true, true, true, true, true, true, true, true, true, true, false, false, false, false, false] rfl rfl (any_of HT_.out (by kernel_rfl)) (fun _ _ _ h => h) (Or.inl ⟨by rfl, ?_⟩) ?_ ?_
      rotate_left
      ·intro w'
       go_simp
       with_reducible rfl
      rotate_left
      ·simp only [Act.put, List.setIfInBounds_toArray, List.set_cons_zero, List.set_cons_succ, i64_w, i32_w]
       rfl
      refine pure_ (i := 21) (N := some 69) (v := ?_) (a' := ?_) #[true, true, true, true, true, true, true, true, true, true, true, true, true, true, true, true, true, true, true, true, true, true, false, false, false, false] rfl rfl (any_of HT_.out (by kernel_rfl)) (fun _ _ _ h => h) (Or.inl ⟨by rfl, ?_⟩) ?_ ?_
      rotate_left
      ·intro w'
       go_simp
       with_reducible rfl
      rotate_left
      ·simp only [Act.put, List.setIfInBounds_toArray, List.set_cons_zero, List.set_cons_succ, i64_w, i32_w]
       rfl
      refine pure_ (i := 22) (N := some 70) (v := undef) (a' := ?_) #[true, true, true, true, true, true, true, true, true, true, true, true, true, true, true, true, true, true, true, true, true, true, true, false, false, false] rfl rfl (any_of HT_.out (by kernel_rfl)) (fun _ _ _ h => h) (Or.inr ⟨by rfl, rfl⟩) ?_ ?_
      rotate_left
      ·simp only [Act.put, List.setIfInBounds_toArray, List.set_cons_zero, List.set_cons_succ, i64_w, i32_w]
       rfl
      refine pure_ (i := 23) (N := some 71) (v := undef) (a' := ?_) #[true, true, true, true, true, true, true, true, true, true, true, true, true, true, true, true, true, true, true, true, true, true, true, true, false, false] rfl rfl (any_of HT_.out (by kernel_rfl)) (fun _ _ _ h => h) (Or.inr ⟨by rfl, rfl⟩) ?_ ?_
      rotate_left
      ·simp only [Act.put, List.setIfInBounds_toArray, List.set_cons_zero, List.set_cons_succ, i64_w, i32_w]
       rfl
      refine pure_ (i := 24) (N := some 72) (v := undef) (a' := ?_) #[true, true, true, true, true, true, true, true, true, true, true, true, true, true, true, true, true, true, true, true, true, true, true, true, true, false] rfl rfl (any_of HT_.out (by kernel_rfl)) (fun _ _ _ h => h) (Or.inr ⟨by rfl, rfl⟩) ?_ ?_
      rotate_left
      ·simp only [Act.put, List.setIfInBounds_toArray, List.set_cons_zero, List.set_cons_succ, i64_w, i32_w]
       rfl
      refine pure_ (i := 25) (N := some 73) (v := ?_) (a' := ?_) #[true, true, true, true, true, true, true, true, true, true, true, true, true, true, true, true, true, true, true, true, true, true, true, true, true, true] rfl rfl (any_of HT_.out (by kernel_rfl)) (fun _ _ _ h => h) (Or.inl ⟨by rfl, ?_⟩) ?_ ?_
      rotate_left
      ·intro w'
       go_simp
       with_reducible rfl
      rotate_left
      ·simp only [Act.put, List.setIfInBounds_toArray, List.set_cons_zero, List.set_cons_succ, i64_w, i32_w]
       rfl
      refine done_ (done_of HT_.out (by kernel_rfl)) ?_
      try go_wp2
      go_meet
      case rel => exact ⟨_, (true), (by first | rfl | (simp; done) | (simp [*]; done)), H', ⟨by have := HJ6.out; first | omega | exact Nat.le_refl _⟩, ⟨blkt BK136⟩, ⟨blkt BK137⟩, ⟨blkt BK138⟩, ⟨belt HB⟩⟩
     replace c92 := Bool.eq_false_iff.mpr c92
     subst c92
     have H1 : ((item_Item_Due.f kj6 a1_0 a1_1 a1_2 a1_3 a1_4 a1_5 a1_6 a1_0 a1_1 a1_2 a1_3 a1_4 a1_5 a1_6).bind fun t148 => (turnstonelaw05_ItemOrders.j1 kj6 t148 a1_0 a1_1 a1_2 a1_3 a1_4 a1_5 a1_6 a2_0 a2_1 a2_2 a2_3 a2_4 a2_5 a2_6 a3_0 a3_1 a3_2 a3_3 a3_4 a3_5 a3_6)) = some r := by rw [if_neg (show ¬ (false = true) by decide)] at H; exact H
     clear H
     have H := H1
     clear H1
     replace H := Option.bind_eq_some_iff.mp H
     obtain ⟨t148, A990, H⟩ := H
     replace H : (turnstonelaw05_ItemOrders.j1 kj6 t148 a1_0 a1_1 a1_2 a1_3 a1_4 a1_5 a1_6 a2_0 a2_1 a2_2 a2_3 a2_4 a2_5 a2_6 a3_0 a3_1 a3_2 a3_3 a3_4 a3_5 a3_6) = some r := H
     have A99 := Aside0.mk A990
     clear A990
     have H' := Aside0.mk H
     clear H
     try go_wp2
     replace BK136 := Aside0.mk (blk_drew BK136.out)
     replace BK137 := Aside0.mk (blk_drew BK137.out)
     replace BK138 := Aside0.mk (blk_drew BK138.out)
     replace HB := Aside0.mk (below_drew1 HB.out)
     refine start_ (n := 26) (S := fun w' => w'.cell? ⟨gb136, 0, none⟩ = some (.int .u64 a1_0) ∧ w'.cell? ⟨gb136, 1, none⟩ = some (.int .u32 a1_1) ∧ w'.cell? ⟨gb136, 2, none⟩ = some (.int .u32 a1_2) ∧ w'.cell? ⟨gb136, 3, none⟩ = some (.int .i64 a1_3) ∧ w'.cell? ⟨gb136, 4, none⟩ = some (.int .u64 a1_4) ∧ w'.cell? ⟨gb136, 5, none⟩ = some (.int .u32 a1_5) ∧ w'.cell? ⟨gb136, 6, none⟩ = some (.int .u32 a1_6) ∧ w'.cell? ⟨gb137, 0, none⟩ = some (.int .u64 a2_0) ∧ w'.cell? ⟨gb137, 1, none⟩ = some (.int .u32 a2_1) ∧ w'.cell? ⟨gb137, 2, none⟩ = some (.int .u32 a2_2) ∧ w'.cell? ⟨gb137, 3, none⟩ = some (.int .i64 a2_3) ∧ w'.cell? ⟨gb137, 4, none⟩ = some (.int .u64 a2_4) ∧ w'.cell? ⟨gb137, 5, none⟩ = some (.int .u32 a2_5) ∧ w'.cell? ⟨gb137, 6, none⟩ = some (.int .u32 a2_6)) (ds := []) #[false, false, false, false, false, false, false, false, false, false, false, false, false, false, false, false, false, false, false, false, false, false, false, false, false, false] (by kernel_rfl) rfl rfl ⟨bc BK136 0, bc BK136 1, bc BK136 2, bc BK136 3, bc BK136 4, bc BK136 5, bc BK136 6, bc BK137 0, bc BK137 1, bc BK137 2, bc BK137 3, bc BK137 4, bc BK137 5, bc BK137 6⟩ (fun hHeld => ?_); refine with_tabW turnstonelaw05_ItemOrders.tab5 turnstonelaw05_ItemOrders.bits5 (fun HT_ HW_ => ?_)
     generalize wc.drew = w100 at BK136 BK137 BK138 HB hHeld ⊢
     refine take_ (i := 0) (N := some 48) (v := ?_) (a' := ?_) #[true, false, false, false, false, false, false, false, false, false, false, false, false, false, false, false, false, false, false, false, false, false, false, false, false, false] rfl rfl (take_ofW HT_.out HW_.out (by kernel_rfl)) (fun _ _ _ h => h) (Or.inl ⟨by rfl, ?_⟩) hHeld ?_ ?_
     rotate_left
     ·rintro w' ⟨s0, s1, s2, s3, s4, s5, s6, s7, s8, s9, s10, s11, s12, s13⟩
      go_simp
      with_reducible rfl
     rotate_left
     ·simp only [Act.put, List.setIfInBounds_toArray, List.set_cons_zero, List.set_cons_succ, i64_w, i32_w]
      rfl
     refine take_ (i := 1) (N := some 49) (v := ?_) (a' := ?_) #[true, true, false, false, false, false, false, false, false, false, false, false, false, false, false, false, false, false, false, false, false, false, false, false, false, false] rfl rfl (take_ofW HT_.out HW_.out (by kernel_rfl)) (fun _ _ _ h => h) (Or.inl ⟨by rfl, ?_⟩) hHeld ?_ ?_
     rotate_left
     ·rintro w' ⟨s0, s1, s2, s3, s4, s5, s6, s7, s8, s9, s10, s11, s12, s13⟩
      go_simp
      with_reducible rfl
     rotate_left
     ·simp only [Act.put, List.setIfInBounds_toArray, List.set_cons_zero, List.set_cons_succ, i64_w, i32_w]
      rfl
     refine take_ (i := 3) (N := some 51) (v := ?_) (a' := ?_) #[true, true, false, true, false, false, false, false, false, false, false, false, false, false, false, false, false, false, false, false, false, false, false, false, false, false] rfl rfl (take_ofW HT_.out HW_.out (by kernel_rfl)) (fun _ _ _ h => h) (Or.inl ⟨by rfl, ?_⟩) hHeld ?_ ?_
     rotate_left
     ·rintro w' ⟨s0, s1, s2, s3, s4, s5, s6, s7, s8, s9, s10, s11, s12, s13⟩
      go_simp
      with_reducible rfl
     rotate_left
     ·simp only [Act.put, List.setIfInBounds_toArray, List.set_cons_zero, List.set_cons_succ, i64_w, i32_w]
      rfl
     refine take_ (i := 4) (N := some 52) (v := ?_) (a' := ?_) #[true, true, false, true, true, false, false, false, false, false, false, false, false, false, false, false, false, false, false, false, false, false, false, false, false, false] rfl rfl (take_ofW HT_.out HW_.out (by kernel_rfl)) (fun _ _ _ h => h) (Or.inl ⟨by rfl, ?_⟩) hHeld ?_ ?_
     rotate_left
     ·rintro w' ⟨s0, s1, s2, s3, s4, s5, s6, s7, s8, s9, s10, s11, s12, s13⟩
      go_simp
      with_reducible rfl
     rotate_left
     ·simp only [Act.put, List.setIfInBounds_toArray, List.set_cons_zero, List.set_cons_succ, i64_w, i32_w]
      rfl
     refine one_ (i := 2) (N := some 50) #[true, true, true, true, true, false, false, false, false, false, false, false, false, false, false, false, false, false, false, false, false, false, false, false, false, false] rfl rfl (one_of HT_.out (by kernel_rfl)) (by decide) (fun K hK => ?_)
     refine goes_ Try.func8 (by kernel_rfl) rfl #[.agg #[.int .u64 a1_0, .int .u32 a1_1, .int .u32 a1_2, .int .i64 a1_3, .int .u64 a1_4, .int .u32 a1_5, .int .u32 a1_6], .agg #[.int .u64 a2_0, .int .u32 a2_1, .int .u32 a2_2, .int .i64 a2_3, .int .u64 a2_4, .int .u32 a2_5, .int .u32 a2_6]] (by rfl) rfl rfl argt ?_
     with_reducible refine (item_Item_Ahead.calls kj6 a1_0 a1_1 a1_2 a1_3 a1_4 a1_5 a1_6 a2_0 a2_1 a2_2 a2_3 a2_4 a2_5 a2_6 t143 _ A77.out).mono ?_
     rintro e w101 ⟨rfl, hb⟩
     refine ⟨_, rfl, ?_⟩
     replace BK136 := blkb BK136 hb
     replace BK137 := blkb BK137 hb
     replace BK138 := blkb BK138 hb
     replace HB := belb HB hb
     (try clear hb)
     (try clear hb2)
     (try clear hk)
     (try clear hi)
     refine hK.out _ _ ⟨bc BK136 0, bc BK136 1, bc BK136 2, bc BK136 3, bc BK136 4, bc BK136 5, bc BK136 6, bc BK137 0, bc BK137 1, bc BK137 2, bc BK137 3, bc BK137 4, bc BK137 5, bc BK137 6⟩ (fun hHeld => ?_)
     clear hK K
     refine norm_ (a' := ?_) ?_ ?_
     rotate_left
     ·show Act.put _ (some 50) _ = _
      simp only [Act.put, List.setIfInBounds_toArray, List.set_cons_zero, List.set_cons_succ, i64_w, i32_w]
      rfl
     refine one_ (i := 5) (N := some 53) #[true, true, true, true, true, true, false, false, false, false, false, false, false, false, false, false, false, false, false, false, false, false, false, false, false, false] rfl rfl (one_of HT_.out (by kernel_rfl)) (by decide) (fun K hK => ?_)
     refine goes_ Try.func8 (by kernel_rfl) rfl #[.agg #[.int .u64 a2_0, .int .u32 a2_1, .int .u32 a2_2, .int .i64 a2_3, .int .u64 a2_4, .int .u32 a2_5, .int .u32 a2_6], .agg #[.int .u64 a1_0, .int .u32 a1_1, .int .u32 a1_2, .int .i64 a1_3, .int .u64 a1_4, .int .u32 a1_5, .int .u32 a1_6]] (by rfl) rfl rfl argt ?_
     with_reducible refine (item_Item_Ahead.calls kj6 a2_0 a2_1 a2_2 a2_3 a2_4 a2_5 a2_6 a1_0 a1_1 a1_2 a1_3 a1_4 a1_5 a1_6 t144 _ A78.out).mono ?_
     rintro e w102 ⟨rfl, hb⟩
     refine ⟨_, rfl, ?_⟩
     replace BK136 := blkb BK136 hb
     replace BK137 := blkb BK137 hb
     replace BK138 := blkb BK138 hb
     replace HB := belb HB hb
     (try clear hb)
     (try clear hb2)
     (try clear hk)
     (try clear hi)
     refine hK.out _ _ ⟨bc BK136 0, bc BK136 1, bc BK136 2, bc BK136 3, bc BK136 4, bc BK136 5, bc BK136 6, bc BK137 0, bc BK137 1, bc BK137 2, bc BK137 3, bc BK137 4, bc BK137 5, bc BK137 6⟩ (fun hHeld => ?_)
     clear hK K
     refine norm_ (a' := ?_) ?_ ?_
     rotate_left
     ·show Act.put _ (some 53) _ = _
      simp only [Act.put, List.setIfInBounds_toArray, List.set_cons_zero, List.set_cons_succ, i64_w, i32_w]
      rfl
     refine pure_ (i := 6) (N := some 54) (v := ?_) (a' := ?_) #[true, true, true, true, true, true, true, false, false, false, false, false, false, false, false, false, false, false, false, false, false, false, false, false, false, false] rfl rfl (any_of HT_.out (by kernel_rfl)) (fun _ _ _ h => h) (Or.inl ⟨by rfl, ?_⟩) ?_ ?_
     rotate_left
     ·intro w'
      go_simp
      with_reducible rfl
     rotate_left
     ·simp only [Act.put, List.setIfInBounds_toArray, List.set_cons_zero, List.set_cons_succ, i64_w, i32_w]
      rfl
     refine pure_ (i := 7) (N := some 55) (v := ?_) (a' := ?_) #[true, true, true, true, true, true, true, true, false, false, false, false, false, false, false, false, false, false, false, false, false, false, false, false, false, false] rfl rfl (any_of HT_.out (by kernel_rfl)) (fun _ _ _ h => h) (Or.inl ⟨by rfl, ?_⟩) ?_ ?_
     rotate_left
     ·intro w'
      go_simp
      with_reducible rfl
     rotate_left
     ·simp only [Act.put, List.setIfInBounds_toArray, List.set_cons_zero, List.set_cons_succ, i64_w, i32_w]
      rfl
     refine take_ (i := 8) (N := some 56) (v := ?_) (a' := ?_) #[true, true, true, true, true, true, true, true, true, false, false, false, false, false, false, false, false, false, false, false, false, false, false, false, false, false] rfl rfl (take_ofW HT_.out HW_.out (by kernel_rfl)) (fun _ _ _ h => h) (Or.inl ⟨by rfl, ?_⟩) hHeld ?_ ?_
     rotate_left
     ·rintro w' ⟨s0, s1, s2, s3, s4, s5, s6, s7, s8, s9, s10, s11, s12, s13⟩
      go_simp
      with_reducible rfl
     rotate_left
     ·simp only [Act.put, List.setIfInBounds_toArray, List.set_cons_zero, List.set_cons_succ, i64_w, i32_w]
      rfl
     refine take_ (i := 9) (N := some 57) (v := ?_) (a' := ?_) #[true, true, true, true, true, true, true, true, true, true, false, false, false, false, false, false, false, false, false, false, false, false, false, false, false, false] rfl rfl (take_ofW HT_.out HW_.out (by kernel_rfl)) (fun _ _ _ h => h) (Or.inl ⟨by rfl, ?_⟩) hHeld ?_ ?_
     rotate_left
     ·rintro w' ⟨s0, s1, s2, s3, s4, s5, s6, s7, s8, s9, s10, s11, s12, s13⟩
      go_simp
      with_reducible rfl
     rotate_left
     ·simp only [Act.put, List.setIfInBounds_toArray, List.set_cons_zero, List.set_cons_succ, i64_w, i32_w]
      rfl
     refine take_ (i := 11) (N := some 59) (v := ?_) (a' := ?_) #[true, true, true, true, true, true, true, true, true, true, false, true, false, false, false, false, false, false, false, false, false, false, false, false, false, false] rfl rfl (take_ofW HT_.out HW_.out (by kernel_rfl)) (fun _ _ _ h => h) (Or.inl ⟨by rfl, ?_⟩) hHeld ?_ ?_
     rotate_left
     ·rintro w' ⟨s0, s1, s2, s3, s4, s5, s6, s7, s8, s9, s10, s11, s12, s13⟩
      go_simp
      with_reducible rfl
     rotate_left
     ·simp only [Act.put, List.setIfInBounds_toArray, List.set_cons_zero, List.set_cons_succ, i64_w, i32_w]
      rfl
     refine take_ (i := 12) (N := some 60) (v := ?_) (a' := ?_) #[true, true, true, true, true, true, true, true, true, true, false, true, true, false, false, false, false, false, false, false, false, false, false, false, false, false] rfl rfl (take_ofW HT_.out HW_.out (by kernel_rfl)) (fun _ _ _ h => h) (Or.inl ⟨by rfl, ?_⟩) hHeld ?_ ?_
     rotate_left
     ·rintro w' ⟨s0, s1, s2, s3, s4, s5, s6, s7, s8, s9, s10, s11, s12, s13⟩
      go_simp
      with_reducible rfl
     rotate_left
     ·simp only [Act.put, List.setIfInBounds_toArray, List.set_cons_zero, List.set_cons_succ, i64_w, i32_w]
      rfl
     refine one_ (i := 10) (N := some 58) #[true, true, true, true, true, true, true, true, true, true, true, true, true, false, false, false, false, false, false, false, false, false, false, false, false, false] rfl rfl (one_of HT_.out (by kernel_rfl)) (by decide) (fun K hK => ?_)
     refine goes_ Try.func9 (by kernel_rfl) rfl #[.agg #[.int .u64 a1_0, .int .u32 a1_1, .int .u32 a1_2, .int .i64 a1_3, .int .u64 a1_4, .int .u32 a1_5, .int .u32 a1_6], .agg #[.int .u64 a2_0, .int .u32 a2_1, .int .u32 a2_2, .int .i64 a2_3, .int .u64 a2_4, .int .u32 a2_5, .int .u32 a2_6]] (by rfl) rfl rfl argt ?_
     with_reducible refine (item_Item_Due.calls kj6 a1_0 a1_1 a1_2 a1_3 a1_4 a1_5 a1_6 a2_0 a2_1 a2_2 a2_3 a2_4 a2_5 a2_6 t145 _ A83.out).mono ?_
     rintro e w103 ⟨rfl, hb⟩
     refine ⟨_, rfl, ?_⟩
     replace BK136 := blkb BK136 hb
     replace BK137 := blkb BK137 hb
     replace BK138 := blkb BK138 hb
     replace HB := belb HB hb
     (try clear hb)
     (try clear hb2)
     (try clear hk)
     (try clear hi)
     refine hK.out _ _ ⟨bc BK136 0, bc BK136 1, bc BK136 2, bc BK136 3, bc BK136 4, bc BK136 5, bc BK136 6, bc BK137 0, bc BK137 1, bc BK137 2, bc BK137 3, bc BK137 4, bc BK137 5, bc BK137 6⟩ (fun hHeld => ?_)
     clear hK K
     refine norm_ (a' := ?_) ?_ ?_
     rotate_left
     ·show Act.put _ (some 58) _ = _
      simp only [Act.put, List.setIfInBounds_toArray, List.set_cons_zero, List.set_cons_succ, i64_w, i32_w]
      rfl
     refine one_ (i := 13) (N := some 61) #[true, true, true, true, true, true, true, true, true, true, true, true, true, true, false, false, false, false, false, false, false, false, false, false, false, false] rfl rfl (one_of HT_.out (by kernel_rfl)) (by decide) (fun K hK => ?_)
     refine goes_ Try.func9 (by kernel_rfl) rfl #[.agg #[.int .u64 a2_0, .int .u32 a2_1, .int .u32 a2_2, .int .i64 a2_3, .int .u64 a2_4, .int .u32 a2_5, .int .u32 a2_6], .agg #[.int .u64 a1_0, .int .u32 a1_1, .int .u32 a1_2, .int .i64 a1_3, .int .u64 a1_4, .int .u32 a1_5, .int .u32 a1_6]] (by rfl) rfl rfl argt ?_
     with_reducible refine (item_Item_Due.calls kj6 a2_0 a2_1 a2_2 a2_3 a2_4 a2_5 a2_6 a1_0 a1_1 a1_2 a1_3 a1_4 a1_5 a1_6 t146 _ A84.out).mono ?_
     rintro e w104 ⟨rfl, hb⟩
     refine ⟨_, rfl, ?_⟩
     replace BK136 := blkb BK136 hb
     replace BK137 := blkb BK137 hb
     replace BK138 := blkb BK138 hb
     replace HB := belb HB hb
     (try clear hb)
     (try clear hb2)
     (try clear hk)
     (try clear hi)
     refine hK.out _ _ ⟨bc BK136 0, bc BK136 1, bc BK136 2, bc BK136 3, bc BK136 4, bc BK136 5, bc BK136 6, bc BK137 0, bc BK137 1, bc BK137 2, bc BK137 3, bc BK137 4, bc BK137 5, bc BK137 6⟩ (fun hHeld => ?_)
     clear hK K
     refine norm_ (a' := ?_) ?_ ?_
     rotate_left
     ·show Act.put _ (some 61) _ = _
      simp only [Act.put, List.setIfInBounds_toArray, List.set_cons_zero, List.set_cons_succ, i64_w, i32_w]
      rfl
     refine pure_ (i := 14) (N := some 62) (v := ?_) (a' := ?_) #[true, true, true, true, true, true, true, true, true, true, true, true, true, true, true, false, false, false, false, false, false, false, false, false, false, false] rfl rfl (any_of HT_.out (by kernel_rfl)) (fun _ _ _ h => h) (Or.inl ⟨by rfl, ?_⟩) ?_ ?_
     rotate_left
     ·intro w'
      go_simp
      with_reducible rfl
     rotate_left
     ·simp only [Act.put, List.setIfInBounds_toArray, List.set_cons_zero, List.set_cons_succ, i64_w, i32_w]
      rfl
     refine pure_ (i := 15) (N := some 63) (v := ?_) (a' := ?_) #[true, true, true, true, true, true, true, true, true, true, true, true, true, true, true, true, false, false, false, false, false, false, false, false, false, false] rfl rfl (any_of HT_.out (by kernel_rfl)) (fun _ _ _ h => h) (Or.inl ⟨by rfl, ?_⟩) ?_ ?_
     rotate_left
     ·intro w'
      go_simp
      with_reducible rfl
     rotate_left
     ·simp only [Act.put, List.setIfInBounds_toArray, List.set_cons_zero, List.set_cons_succ, i64_w, i32_w]
      rfl
     refine pure_ (i := 16) (N := some 64) (v := ?_) (a' := ?_) #[true, true, true, true, true, true, true, true, true, true, true, true, true, true, true, true, true, false, false, false, false, false, false, false, false, false] rfl rfl (any_of HT_.out (by kernel_rfl)) (fun _ _ _ h => h) (Or.inl ⟨by rfl, ?_⟩) ?_ ?_
     rotate_left
     ·intro w'
      go_simp
      with_reducible rfl
     rotate_left
     ·simp only [Act.put, List.setIfInBounds_toArray, List.set_cons_zero, List.set_cons_succ, i64_w, i32_w]
      rfl
     refine take_ (i := 17) (N := some 65) (v := ?_) (a' := ?_) #[true, true, true, true, true, true, true, true, true, true, true, true, true, true, true, true, true, true, false, false, false, false, false, false, false, false] rfl rfl (take_ofW HT_.out HW_.out (by kernel_rfl)) (fun _ _ _ h => h) (Or.inl ⟨by rfl, ?_⟩) hHeld ?_ ?_
     rotate_left
     ·rintro w' ⟨s0, s1, s2, s3, s4, s5, s6, s7, s8, s9, s10, s11, s12, s13⟩
      go_simp
      with_reducible rfl
     rotate_left
     ·simp only [Act.put, List.setIfInBounds_toArray, List.set_cons_zero, List.set_cons_succ, i64_w, i32_w]
      rfl
     refine take_ (i := 18) (N := some 66) (v := ?_) (a' := ?_) #[true, true, true, true, true, true, true, true, true, true, true, true, true, true, true, true, true, true, true, false, false, false, false, false, false, false] rfl rfl (take_ofW HT_.out HW_.out (by kernel_rfl)) (fun _ _ _ h => h) (Or.inl ⟨by rfl, ?_⟩) hHeld ?_ ?_
     rotate_left
     ·rintro w' ⟨s0, s1, s2, s3, s4, s5, s6, s7, s8, s9, s10, s11, s12, s13⟩
      go_simp
      with_reducible rfl
     rotate_left
     ·simp only [Act.put, List.setIfInBounds_toArray, List.set_cons_zero, List.set_cons_succ, i64_w, i32_w]
      rfl
     refine one_ (i := 19) (N := some 67) #[true, true, true, true, true, true, true, true, true, true, true, true, true, true, true, true, true, true, true, true, false, false, false, false, false, false] rfl rfl (one_of HT_.out (by kernel_rfl)) (by decide) (fun K hK => ?_)
     refine goes_ Try.func8 (by kernel_rfl) rfl #[.agg #[.int .u64 a1_0, .int .u32 a1_1, .int .u32 a1_2, .int .i64 a1_3, .int .u64 a1_4, .int .u32 a1_5, .int .u32 a1_6], .agg #[.int .u64 a1_0, .int .u32 a1_1, .int .u32 a1_2, .int .i64 a1_3, .int .u64 a1_4, .int .u32 a1_5, .int .u32 a1_6]] (by rfl) rfl rfl argt ?_
     with_reducible refine (item_Item_Ahead.calls kj6 a1_0 a1_1 a1_2 a1_3 a1_4 a1_5 a1_6 a1_0 a1_1 a1_2 a1_3 a1_4 a1_5 a1_6 false _ A91.out).mono ?_
     rintro e w105 ⟨rfl, hb⟩
     refine ⟨_, rfl, ?_⟩
     replace BK136 := blkb BK136 hb
     replace BK137 := blkb BK137 hb
     replace BK138 := blkb BK138 hb
     replace HB := belb HB hb
     (try clear hb)
     (try clear hb2)
     (try clear hk)
     (try clear hi)
     refine hK.out _ _ ⟨bc BK136 0, bc BK136 1, bc BK136 2, bc BK136 3, bc BK136 4, bc BK136 5, bc BK136 6, bc BK137 0, bc BK137 1, bc BK137 2, bc BK137 3, bc BK137 4, bc BK137 5, bc BK137 6⟩ (fun hHeld => ?_)
     clear hK K
     refine norm_ (a' := ?_) ?_ ?_
     rotate_left
     ·show Act.put _ (some 67) _ = _
      simp only [Act.put, List.setIfInBounds_toArray, List.set_cons_zero, List.set_cons_succ, i64_w, i32_w]
      rfl
     refine pure_ (i := 20) (N := some 68) (v := ?_) (a' := ?_) #[true, true, true, true, true, true, true, true, true, true, true, true, true, true, true, true, true, true, true, true, true, false, false, false, false, false] rfl rfl (any_of HT_.out (by kernel_rfl)) (fun _ _ _ h => h) (Or.inl ⟨by rfl, ?_⟩) ?_ ?_
     rotate_left
     ·intro w'
      go_simp
      with_reducible rfl
     rotate_left
     ·simp only [Act.put, List.setIfInBounds_toArray, List.set_cons_zero, List.set_cons_succ, i64_w, i32_w]
      rfl
     refine pure_ (i := 21) (N := some 69) (v := ?_) (a' := ?_) #[true, true, true, true, true, true, true, true, true, true, true, true, true, true, true, true, true, true, true, true, true, true, false, false, false, false] rfl rfl (any_of HT_.out (by kernel_rfl)) (fun _ _ _ h => h) (Or.inl ⟨by rfl, ?_⟩) ?_ ?_
     rotate_left
     ·intro w'
      go_simp
      with_reducible rfl
     rotate_left
     ·simp only [Act.put, List.setIfInBounds_toArray, List.set_cons_zero, List.set_cons_succ, i64_w, i32_w]
      rfl
     refine take_ (i := 22) (N := some 70) (v := ?_) (a' := ?_) #[true, true, true, true, true, true, true, true, true, true, true, true, true, true, true, true, true, true, true, true, true, true, true, false, false, false] rfl rfl (take_ofW HT_.out HW_.out (by kernel_rfl)) (fun _ _ _ h => h) (Or.inl ⟨by rfl, ?_⟩) hHeld ?_ ?_
     rotate_left
     ·rintro w' ⟨s0, s1, s2, s3, s4, s5, s6, s7, s8, s9, s10, s11, s12, s13⟩
      go_simp
      with_reducible rfl
     rotate_left
     ·simp only [Act.put, List.setIfInBounds_toArray, List.set_cons_zero, List.set_cons_succ, i64_w, i32_w]
      rfl
     refine take_ (i := 23) (N := some 71) (v := ?_) (a' := ?_) #[true, true, true, true, true, true, true, true, true, true, true, true, true, true, true, true, true, true, true, true, true, true, true, true, false, false] rfl rfl (take_ofW HT_.out HW_.out (by kernel_rfl)) (fun _ _ _ h => h) (Or.inl ⟨by rfl, ?_⟩) hHeld ?_ ?_
     rotate_left
     ·rintro w' ⟨s0, s1, s2, s3, s4, s5, s6, s7, s8, s9, s10, s11, s12, s13⟩
      go_simp
      with_reducible rfl
     rotate_left
     ·simp only [Act.put, List.setIfInBounds_toArray, List.set_cons_zero, List.set_cons_succ, i64_w, i32_w]
      rfl
     refine one_ (i := 24) (N := some 72) #[true, true, true, true, true, true, true, true, true, true, true, true, true, true, true, true, true, true, true, true, true, true, true, true, true, false] rfl rfl (one_of HT_.out (by kernel_rfl)) (by decide) (fun K hK => ?_)
     refine goes_ Try.func9 (by kernel_rfl) rfl #[.agg #[.int .u64 a1_0, .int .u32 a1_1, .int .u32 a1_2, .int .i64 a1_3, .int .u64 a1_4, .int .u32 a1_5, .int .u32 a1_6], .agg #[.int .u64 a1_0, .int .u32 a1_1, .int .u32 a1_2, .int .i64 a1_3, .int .u64 a1_4, .int .u32 a1_5, .int .u32 a1_6]] (by rfl) rfl rfl argt ?_
     with_reducible refine (item_Item_Due.calls kj6 a1_0 a1_1 a1_2 a1_3 a1_4 a1_5 a1_6 a1_0 a1_1 a1_2 a1_3 a1_4 a1_5 a1_6 t148 _ A99.out).mono ?_
     rintro e w106 ⟨rfl, hb⟩
     refine ⟨_, rfl, ?_⟩
     replace BK136 := blkb BK136 hb
     replace BK137 := blkb BK137 hb
     replace BK138 := blkb BK138 hb
     replace HB := belb HB hb
     (try clear hb)
     (try clear hb2)
     (try clear hk)
     (try clear hi)
     refine hK.out _ _ ⟨bc BK136 0, bc BK136 1, bc BK136 2, bc BK136 3, bc BK136 4, bc BK136 5, bc BK136 6, bc BK137 0, bc BK137 1, bc BK137 2, bc BK137 3, bc BK137 4, bc BK137 5, bc BK137 6⟩ (fun hHeld => ?_)
     clear hK K
     refine norm_ (a' := ?_) ?_ ?_
     rotate_left
     ·show Act.put _ (some 72) _ = _
      simp only [Act.put, List.setIfInBounds_toArray, List.set_cons_zero, List.set_cons_succ, i64_w, i32_w]
      rfl
     refine pure_ (i := 25) (N := some 73) (v := ?_) (a' := ?_) #[true, true, true, true, true, true, true, true, true, true, true, true, true, true, true, true, true, true, true, true, true, true, true, true, true, true] rfl rfl (any_of HT_.out (by kernel_rfl)) (fun _ _ _ h => h) (Or.inl ⟨by rfl, ?_⟩) ?_ ?_
     rotate_left
     ·intro w'
      go_simp
      with_reducible rfl
     rotate_left
     ·simp only [Act.put, List.setIfInBounds_toArray, List.set_cons_zero, List.set_cons_succ, i64_w, i32_w]
      rfl
     refine done_ (done_of HT_.out (by kernel_rfl)) ?_
     try go_wp2
     go_meet
     case rel => exact ⟨_, (t148), (by first | rfl | (simp; done) | (simp [*]; done)), H', ⟨by have := HJ6.out; first | omega | exact Nat.le_refl _⟩, ⟨blkt BK136⟩, ⟨blkt BK137⟩, ⟨blkt BK138⟩, ⟨belt HB⟩⟩
    case rest =>
     clear HC76
     try clear p2
     try clear c8
     try clear c9
     try clear c92
     obtain ⟨kq, x73_75, rfl, HA, HJ75, BK136, BK137, BK138, HB⟩ := hcut
     cases kq with
     | zero => exact absurd HA.out (by simp [turnstonelaw05_ItemOrders.j1])
     | succ kj75 =>
      have H := HA.out
      clear HA
      simp only [turnstonelaw05_ItemOrders.j1] at H
      by_cases c107 : x73_75 = true
      ·subst c107
       have H1 : (none) = some r := by rw [if_pos rfl] at H; exact H
       clear H
       have H := H1
       clear H1
       exact absurd H (by simp)
      replace c107 := Bool.eq_false_iff.mpr c107
      subst c107
      have H1 : ((item_Item_Ahead.f kj75 a1_0 a1_1 a1_2 a1_3 a1_4 a1_5 a1_6 a2_0 a2_1 a2_2 a2_3 a2_4 a2_5 a2_6).bind fun t149 => (if t149 = true then ((item_Item_Ahead.f kj75 a2_0 a2_1 a2_2 a2_3 a2_4 a2_5 a2_6 a3_0 a3_1 a3_2 a3_3 a3_4 a3_5 a3_6).bind fun t150 => (if t150 = true then ((item_Item_Ahead.f kj75 a1_0 a1_1 a1_2 a1_3 a1_4 a1_5 a1_6 a3_0 a3_1 a3_2 a3_3 a3_4 a3_5 a3_6).bind fun t151 => (if t151 = true then ((item_Item_Due.f kj75 a1_0 a1_1 a1_2 a1_3 a1_4 a1_5 a1_6 a2_0 a2_1 a2_2 a2_3 a2_4 a2_5 a2_6).bind fun t152 => (if t152 = true then ((item_Item_Due.f kj75 a2_0 a2_1 a2_2 a2_3 a2_4 a2_5 a2_6 a3_0 a3_1 a3_2 a3_3 a3_4 a3_5 a3_6).bind fun t153 => (if t153 = true then ((item_Item_Due.f kj75 a1_0 a1_1 a1_2 a1_3 a1_4 a1_5 a1_6 a3_0 a3_1 a3_2 a3_3 a3_4 a3_5 a3_6).bind fun t154 => (some (!(!t154)))) else (some (!false)))) else (some (!false)))) else (none))) else ((item_Item_Due.f kj75 a1_0 a1_1 a1_2 a1_3 a1_4 a1_5 a1_6 a2_0 a2_1 a2_2 a2_3 a2_4 a2_5 a2_6).bind fun t155 => (if t155 = true then ((item_Item_Due.f kj75 a2_0 a2_1 a2_2 a2_3 a2_4 a2_5 a2_6 a3_0 a3_1 a3_2 a3_3 a3_4 a3_5 a3_6).bind fun t156 => (if t156 = true then ((item_Item_Due.f kj75 a1_0 a1_1 a1_2 a1_3 a1_4 a1_5 a1_6 a3_0 a3_1 a3_2 a3_3 a3_4 a3_5 a3_6).bind fun t157 => (some (!(!t157)))) else (some (!false)))) else (some (!false)))))) else ((item_Item_Due.f kj75 a1_0 a1_1 a1_2 a1_3 a1_4 a1_5 a1_6 a2_0 a2_1 a2_2 a2_3 a2_4 a2_5 a2_6).bind fun t158 => (if t158 = true then ((item_Item_Due.f kj75 a2_0 a2_1 a2_2 a2_3 a2_4 a2_5 a2_6 a3_0 a3_1 a3_2 a3_3 a3_4 a3_5 a3_6).bind fun t159 => (if t159 = true then ((item_Item_Due.f kj75 a1_0 a1_1 a1_2 a1_3 a1_4 a1_5 a1_6 a3_0 a3_1 a3_2 a3_3 a3_4 a3_5 a3_6).bind fun t160 => (some (!(!t160)))) else (some (!false)))) else (some (!false)))))) = some r := by rw [if_neg (show ¬ (false = true) by decide)] at H; exact H
      clear H
      have H := H1
      clear H1
      replace H := Option.bind_eq_some_iff.mp H
      obtain ⟨t149, A1080, H⟩ := H
      replace H : (if t149 = true then ((item_Item_Ahead.f kj75 a2_0 a2_1 a2_2 a2_3 a2_4 a2_5 a2_6 a3_0 a3_1 a3_2 a3_3 a3_4 a3_5 a3_6).bind fun t150 => (if t150 = true then ((item_Item_Ahead.f kj75 a1_0 a1_1 a1_2 a1_3 a1_4 a1_5 a1_6 a3_0 a3_1 a3_2 a3_3 a3_4 a3_5 a3_6).bind fun t151 => (if t151 = true then ((item_Item_Due.f kj75 a1_0 a1_1 a1_2 a1_3 a1_4 a1_5 a1_6 a2_0 a2_1 a2_2 a2_3 a2_4 a2_5 a2_6).bind fun t152 => (if t152 = true then ((item_Item_Due.f kj75 a2_0 a2_1 a2_2 a2_3 a2_4 a2_5 a2_6 a3_0 a3_1 a3_2 a3_3 a3_4 a3_5 a3_6).bind fun t153 => (if t153 = true then ((item_Item_Due.f kj75 a1_0 a1_1 a1_2 a1_3 a1_4 a1_5 a1_6 a3_0 a3_1 a3_2 a3_3 a3_4 a3_5 a3_6).bind fun t154 => (some (!(!t154)))) else (some (!false)))) else (some (!false)))) else (none))) else ((item_Item_Due.f kj75 a1_0 a1_1 a1_2 a1_3 a1_4 a1_5 a1_6 a2_0 a2_1 a2_2 a2_3 a2_4 a2_5 a2_6).bind fun t155 => (if t155 = true then ((item_Item_Due.f kj75 a2_0 a2_1 a2_2 a2_3 a2_4 a2_5 a2_6 a3_0 a3_1 a3_2 a3_3 a3_4 a3_5 a3_6).bind fun t156 => (if t156 = true then ((item_Item_Due.f kj75 a1_0 a1_1 a1_2 a1_3 a1_4 a1_5 a1_6 a3_0 a3_1 a3_2 a3_3 a3_4 a3_5 a3_6).bind fun t157 => (some (!(!t157)))) else (some (!false)))) else (some (!false)))))) else ((item_Item_Due.f kj75 a1_0 a1_1 a1_2 a1_3 a1_4 a1_5 a1_6 a2_0 a2_1 a2_2 a2_3 a2_4 a2_5 a2_6).bind fun t158 => (if t158 = true then ((item_Item_Due.f kj75 a2_0 a2_1 a2_2 a2_3 a2_4 a2_5 a2_6 a3_0 a3_1 a3_2 a3_3 a3_4 a3_5 a3_6).bind fun t159 => (if t159 = true then ((item_Item_Due.f kj75 a1_0 a1_1 a1_2 a1_3 a1_4 a1_5 a1_6 a3_0 a3_1 a3_2 a3_3 a3_4 a3_5 a3_6).bind fun t160 => (some (!(!t160)))) else (some (!false)))) else (some (!false))))) = some r := H
      have A108 := Aside0.mk A1080
      clear A1080
      by_cases c109 : t149 = true
      ·subst c109
       have H1 : ((item_Item_Ahead.f kj75 a2_0 a2_1 a2_2 a2_3 a2_4 a2_5 a2_6 a3_0 a3_1 a3_2 a3_3 a3_4 a3_5 a3_6).bind fun t150 => (if t150 = true then ((item_Item_Ahead.f kj75 a1_0 a1_1 a1_2 a1_3 a1_4 a1_5 a1_6 a3_0 a3_1 a3_2 a3_3 a3_4 a3_5 a3_6).bind fun t151 => (if t151 = true then ((item_Item_Due.f kj75 a1_0 a1_1 a1_2 a1_3 a1_4 a1_5 a1_6 a2_0 a2_1 a2_2 a2_3 a2_4 a2_5 a2_6).bind fun t152 => (if t152 = true then ((item_Item_Due.f kj75 a2_0 a2_1 a2_2 a2_3 a2_4 a2_5 a2_6 a3_0 a3_1 a3_2 a3_3 a3_4 a3_5 a3_6).bind fun t153 => (if t153 = true then ((item_Item_Due.f kj75 a1_0 a1_1 a1_2 a1_3 a1_4 a1_5 a1_6 a3_0 a3_1 a3_2 a3_3 a3_4 a3_5 a3_6).bind fun t154 => (some (!(!t154)))) else (some (!false)))) else (some (!false)))) else (none))) else ((item_Item_Due.f kj75 a1_0 a1_1 a1_2 a1_3 a1_4 a1_5 a1_6 a2_0 a2_1 a2_2 a2_3 a2_4 a2_5 a2_6).bind fun t155 => (if t155 = true then ((item_Item_Due.f kj75 a2_0 a2_1 a2_2 a2_3 a2_4 a2_5 a2_6 a3_0 a3_1 a3_2 a3_3 a3_4 a3_5 a3_6).bind fun t156 => (if t156 = true then ((item_Item_Due.f kj75 a1_0 a1_1 a1_2 a1_3 a1_4 a1_5 a1_6 a3_0 a3_1 a3_2 a3_3 a3_4 a3_5 a3_6).bind fun t157 => (some (!(!t157)))) else (some (!false)))) else (some (!false)))))) = some r := by rw [if_pos rfl] at H; exact H
       clear H
       have H := H1
       clear H1
       replace H := Option.bind_eq_some_iff.mp H
       obtain ⟨t150, A1100, H⟩ := H
       replace H : (if t150 = true then ((item_Item_Ahead.f kj75 a1_0 a1_1 a1_2 a1_3 a1_4 a1_5 a1_6 a3_0 a3_1 a3_2 a3_3 a3_4 a3_5 a3_6).bind fun t151 => (if t151 = true then ((item_Item_Due.f kj75 a1_0 a1_1 a1_2 a1_3 a1_4 a1_5 a1_6 a2_0 a2_1 a2_2 a2_3 a2_4 a2_5 a2_6).bind fun t152 => (if t152 = true then ((item_Item_Due.f kj75 a2_0 a2_1 a2_2 a2_3 a2_4 a2_5 a2_6 a3_0 a3_1 a3_2 a3_3 a3_4 a3_5 a3_6).bind fun t153 => (if t153 = true then ((item_Item_Due.f kj75 a1_0 a1_1 a1_2 a1_3 a1_4 a1_5 a1_6 a3_0 a3_1 a3_2 a3_3 a3_4 a3_5 a3_6).bind fun t154 => (some (!(!t154)))) else (some (!false)))) else (some (!false)))) else (none))) else ((item_Item_Due.f kj75 a1_0 a1_1 a1_2 a1_3 a1_4 a1_5 a1_6 a2_0 a2_1 a2_2 a2_3 a2_4 a2_5 a2_6).bind fun t155 => (if t155 = true then ((item_Item_Due.f kj75 a2_0 a2_1 a2_2 a2_3 a2_4 a2_5 a2_6 a3_0 a3_1 a3_2 a3_3 a3_4 a3_5 a3_6).bind fun t156 => (if t156 = true then ((item_Item_Due.f kj75 a1_0 a1_1 a1_2 a1_3 a1_4 a1_5 a1_6 a3_0 a3_1 a3_2 a3_3 a3_4 a3_5 a3_6).bind fun t157 => (some (!(!t157)))) else (some (!false)))) else (some (!false))))) = some r := H
       have A110 := Aside0.mk A1100
       clear A1100
       by_cases c111 : t150 = true
       ·subst c111
        have H1 : ((item_Item_Ahead.f kj75 a1_0 a1_1 a1_2 a1_3 a1_4 a1_5 a1_6 a3_0 a3_1 a3_2 a3_3 a3_4 a3_5 a3_6).bind fun t151 => (if t151 = true then ((item_Item_Due.f kj75 a1_0 a1_1 a1_2 a1_3 a1_4 a1_5 a1_6 a2_0 a2_1 a2_2 a2_3 a2_4 a2_5 a2_6).bind fun t152 => (if t152 = true then ((item_Item_Due.f kj75 a2_0 a2_1 a2_2 a2_3 a2_4 a2_5 a2_6 a3_0 a3_1 a3_2 a3_3 a3_4 a3_5 a3_6).bind fun t153 => (if t153 = true then ((item_Item_Due.f kj75 a1_0 a1_1 a1_2 a1_3 a1_4 a1_5 a1_6 a3_0 a3_1 a3_2 a3_3 a3_4 a3_5 a3_6).bind fun t154 => (some (!(!t154)))) else (some (!false)))) else (some (!false)))) else (none))) = some r := by rw [if_pos rfl] at H; exact H
        clear H
        have H := H1
        clear H1
        replace H := Option.bind_eq_some_iff.mp H
        obtain ⟨t151, A1120, H⟩ := H
        replace H : (if t151 = true then ((item_Item_Due.f kj75 a1_0 a1_1 a1_2 a1_3 a1_4 a1_5 a1_6 a2_0 a2_1 a2_2 a2_3 a2_4 a2_5 a2_6).bind fun t152 => (if t152 = true then ((item_Item_Due.f kj75 a2_0 a2_1 a2_2 a2_3 a2_4 a2_5 a2_6 a3_0 a3_1 a3_2 a3_3 a3_4 a3_5 a3_6).bind fun t153 => (if t153 = true then ((item_Item_Due.f kj75 a1_0 a1_1 a1_2 a1_3 a1_4 a1_5 a1_6 a3_0 a3_1 a3_2 a3_3 a3_4 a3_5 a3_6).bind fun t154 => (some (!(!t154)))) else (some (!false)))) else (some (!false)))) else (none)) = some r := H
        have A112 := Aside0.mk A1120
        clear A1120
        by_cases c113 : t151 = true
        ·subst c113
         have H1 : ((item_Item_Due.f kj75 a1_0 a1_1 a1_2 a1_3 a1_4 a1_5 a1_6 a2_0 a2_1 a2_2 a2_3 a2_4 a2_5 a2_6).bind fun t152 => (if t152 = true then ((item_Item_Due.f kj75 a2_0 a2_1 a2_2 a2_3 a2_4 a2_5 a2_6 a3_0 a3_1 a3_2 a3_3 a3_4 a3_5 a3_6).bind fun t153 => (if t153 = true then ((item_Item_Due.f kj75 a1_0 a1_1 a1_2 a1_3 a1_4 a1_5 a1_6 a3_0 a3_1 a3_2 a3_3 a3_4 a3_5 a3_6).bind fun t154 => (some (!(!t154)))) else (some (!false)))) else (some (!false)))) = some r := by rw [if_pos rfl] at H; exact H
         clear H
         have H := H1
         clear H1
         replace H := Option.bind_eq_some_iff.mp H
         obtain ⟨t152, A1140, H⟩ := H
         replace H : (if t152 = true then ((item_Item_Due.f kj75 a2_0 a2_1 a2_2 a2_3 a2_4 a2_5 a2_6 a3_0 a3_1 a3_2 a3_3 a3_4 a3_5 a3_6).bind fun t153 => (if t153 = true then ((item_Item_Due.f kj75 a1_0 a1_1 a1_2 a1_3 a1_4 a1_5 a1_6 a3_0 a3_1 a3_2 a3_3 a3_4 a3_5 a3_6).bind fun t154 => (some (!(!t154)))) else (some (!false)))) else (some (!false))) = some r := H
         have A114 := Aside0.mk A1140
         clear A1140
         by_cases c115 : t152 = true
         ·subst c115
          have H1 : ((item_Item_Due.f kj75 a2_0 a2_1 a2_2 a2_3 a2_4 a2_5 a2_6 a3_0 a3_1 a3_2 a3_3 a3_4 a3_5 a3_6).bind fun t153 => (if t153 = true then ((item_Item_Due.f kj75 a1_0 a1_1 a1_2 a1_3 a1_4 a1_5 a1_6 a3_0 a3_1 a3_2 a3_3 a3_4 a3_5 a3_6).bind fun t154 => (some (!(!t154)))) else (some (!false)))) = some r := by rw [if_pos rfl] at H; exact H
          clear H
          have H := H1
          clear H1
          replace H := Option.bind_eq_some_iff.mp H
          obtain ⟨t153, A1160, H⟩ := H
          replace H : (if t153 = true then ((item_Item_Due.f kj75 a1_0 a1_1 a1_2 a1_3 a1_4 a1_5 a1_6 a3_0 a3_1 a3_2 a3_3 a3_4 a3_5 a3_6).bind fun t154 => (some (!(!t154)))) else (some (!false))) = some r := H
          have A116 := Aside0.mk A1160
          clear A1160
          by_cases c117 : t153 = true
          ·subst c117
           have H1 : ((item_Item_Due.f kj75 a1_0 a1_1 a1_2 a1_3 a1_4 a1_5 a1_6 a3_0 a3_1 a3_2 a3_3 a3_4 a3_5 a3_6).bind fun t154 => (some (!(!t154)))) = some r := by rw [if_pos rfl] at H; exact H
           clear H
           have H := H1
           clear H1
           replace H := Option.bind_eq_some_iff.mp H
           obtain ⟨t154, A1180, H⟩ := H
           replace H : (some (!(!t154))) = some r := H
           have A118 := Aside0.mk A1180
           clear A1180
           obtain rfl := Option.some.inj H
           have hnb119 := NB136_137.out
           have hnc119 := NB137_136.out
           have hnb120 := NB136_138.out
           have hnc120 := NB138_136.out
           have hcz121_0 : wc.cell? ⟨gb136, 0, none⟩ = some (.int .u64 a1_0) := bc BK136 0
           have hcz121_1 : wc.cell? ⟨gb136, 1, none⟩ = some (.int .u32 a1_1) := bc BK136 1
           have hcz121_2 : wc.cell? ⟨gb136, 2, none⟩ = some (.int .u32 a1_2) := bc BK136 2
           have hcz121_3 : wc.cell? ⟨gb136, 3, none⟩ = some (.int .i64 a1_3) := bc BK136 3
           have hcz121_4 : wc.cell? ⟨gb136, 4, none⟩ = some (.int .u64 a1_4) := bc BK136 4
           have hcz121_5 : wc.cell? ⟨gb136, 5, none⟩ = some (.int .u32 a1_5) := bc BK136 5
           have hcz121_6 : wc.cell? ⟨gb136, 6, none⟩ = some (.int .u32 a1_6) := bc BK136 6
           have hfz121_0 := blk_frozen BK136.out 0
           have hfz121_1 := blk_frozen BK136.out 1
           have hfz121_2 := blk_frozen BK136.out 2
           have hfz121_3 := blk_frozen BK136.out 3
           have hfz121_4 := blk_frozen BK136.out 4
           have hfz121_5 := blk_frozen BK136.out 5
           have hfz121_6 := blk_frozen BK136.out 6
           have hnb122 := NB137_138.out
           have hnc122 := NB138_137.out
           have hcz123_0 : wc.cell? ⟨gb137, 0, none⟩ = some (.int .u64 a2_0) := bc BK137 0
           have hcz123_1 : wc.cell? ⟨gb137, 1, none⟩ = some (.int .u32 a2_1) := bc BK137 1
           have hcz123_2 : wc.cell? ⟨gb137, 2, none⟩ = some (.int .u32 a2_2) := bc BK137 2
           have hcz123_3 : wc.cell? ⟨gb137, 3, none⟩ = some (.int .i64 a2_3) := bc BK137 3
           have hcz123_4 : wc.cell? ⟨gb137, 4, none⟩ = some (.int .u64 a2_4) := bc BK137 4
           have hcz123_5 : wc.cell? ⟨gb137, 5, none⟩ = some (.int .u32 a2_5) := bc BK137 5
           have hcz123_6 : wc.cell? ⟨gb137, 6, none⟩ = some (.int .u32 a2_6) := bc BK137 6
           have hfz123_0 := blk_frozen BK137.out 0
           have hfz123_1 := blk_frozen BK137.out 1
           have hfz123_2 := blk_frozen BK137.out 2
           have hfz123_3 := blk_frozen BK137.out 3
           have hfz123_4 := blk_frozen BK137.out 4
           have hfz123_5 := blk_frozen BK137.out 5
           have hfz123_6 := blk_frozen BK137.out 6
           go_wp2_with (first | ((with_reducible refine gate_callee (f := 8) rfl ?_); refine goesL_ (some 76) rfl rfl Try.func8 (by kernel_rfl) rfl #[.agg #[.int .u64 a1_0, .int .u32 a1_1, .int .u32 a1_2, .int .i64 a1_3, .int .u64 a1_4, .int .u32 a1_5, .int .u32 a1_6], .agg #[.int .u64 a2_0, .int .u32 a2_1, .int .u32 a2_2, .int .i64 a2_3, .int .u64 a2_4, .int .u32 a2_5, .int .u32 a2_6]] rfl argt ?_; (with_reducible refine (item_Item_Ahead.calls kj75 a1_0 a1_1 a1_2 a1_3 a1_4 a1_5 a1_6 a2_0 a2_1 a2_2 a2_3 a2_4 a2_5 a2_6 true _ A108.out).mono ?_); rintro e w124 ⟨rfl, hb⟩; refine ⟨_, rfl, ?_⟩; replace BK136 := blkb BK136 hb; replace BK137 := blkb BK137 hb; replace BK138 := blkb BK138 hb; replace HB := belb HB hb; (try clear hb); (try clear hb2); (try clear hk); (try clear hi); have hcz125_0 : w124.cell? ⟨gb137, 0, none⟩ = some (.int .u64 a2_0) := bc BK137 0; have hcz125_1 : w124.cell? ⟨gb137, 1, none⟩ = some (.int .u32 a2_1) := bc BK137 1; have hcz125_2 : w124.cell? ⟨gb137, 2, none⟩ = some (.int .u32 a2_2) := bc BK137 2; have hcz125_3 : w124.cell? ⟨gb137, 3, none⟩ = some (.int .i64 a2_3) := bc BK137 3; have hcz125_4 : w124.cell? ⟨gb137, 4, none⟩ = some (.int .u64 a2_4) := bc BK137 4; have hcz125_5 : w124.cell? ⟨gb137, 5, none⟩ = some (.int .u32 a2_5) := bc BK137 5; have hcz125_6 : w124.cell? ⟨gb137, 6, none⟩ = some (.int .u32 a2_6) := bc BK137 6; have hfz125_0 := blk_frozen BK137.out 0; have hfz125_1 := blk_frozen BK137.out 1; have hfz125_2 := blk_frozen BK137.out 2; have hfz125_3 := blk_frozen BK137.out 3; have hfz125_4 := blk_frozen BK137.out 4; have hfz125_5 := blk_frozen BK137.out 5; have hfz125_6 := blk_frozen BK137.out 6; have hcz126_0 : w124.cell? ⟨gb138, 0, none⟩ = some (.int .u64 a3_0) := bc BK138 0; have hcz126_1 : w124.cell? ⟨gb138, 1, none⟩ = some (.int .u32 a3_1) := bc BK138 1; have hcz126_2 : w124.cell? ⟨gb138, 2, none⟩ = some (.int .u32 a3_2) := bc BK138 2; have hcz126_3 : w124.cell? ⟨gb138, 3, none⟩ = some (.int .i64 a3_3) := bc BK138 3; have hcz126_4 : w124.cell? ⟨gb138, 4, none⟩ = some (.int .u64 a3_4) := bc BK138 4; have hcz126_5 : w124.cell? ⟨gb138, 5, none⟩ = some (.int .u32 a3_5) := bc BK138 5; have hcz126_6 : w124.cell? ⟨gb138, 6, none⟩ = some (.int .u32 a3_6) := bc BK138 6; have hfz126_0 := blk_frozen BK138.out 0; have hfz126_1 := blk_frozen BK138.out 1; have hfz126_2 := blk_frozen BK138.out 2; have hfz126_3 := blk_frozen BK138.out 3; have hfz126_4 := blk_frozen BK138.out 4; have hfz126_5 := blk_frozen BK138.out 5; have hfz126_6 := blk_frozen BK138.out 6) | (go_at_call 8; (with_reducible refine (item_Item_Ahead.calls kj75 a2_0 a2_1 a2_2 a2_3 a2_4 a2_5 a2_6 a3_0 a3_1 a3_2 a3_3 a3_4 a3_5 a3_6 true _ A110.out).mono ?_); rintro e w127 ⟨rfl, hb⟩; replace BK136 := blkb BK136 hb; replace BK137 := blkb BK137 hb; replace BK138 := blkb BK138 hb; replace HB := belb HB hb; (try clear hb); (try clear hb2); (try clear hk); (try clear hi); have hcz128_0 : w127.cell? ⟨gb136, 0, none⟩ = some (.int .u64 a1_0) := bc BK136 0; have hcz128_1 : w127.cell? ⟨gb136, 1, none⟩ = some (.int .u32 a1_1) := bc BK136 1; have hcz128_2 : w127.cell? ⟨gb136, 2, none⟩ = some (.int .u32 a1_2) := bc BK136 2; have hcz128_3 : w127.cell? ⟨gb136, 3, none⟩ = some (.int .i64 a1_3) := bc BK136 3; have hcz128_4 : w127.cell? ⟨gb136, 4, none⟩ = some (.int .u64 a1_4) := bc BK136 4; have hcz128_5 : w127.cell? ⟨gb136, 5, none⟩ = some (.int .u32 a1_5) := bc BK136 5; have hcz128_6 : w127.cell? ⟨gb136, 6, none⟩ = some (.int .u32 a1_6) := bc BK136 6; have hfz128_0 := blk_frozen BK136.out 0; have hfz128_1 := blk_frozen BK136.out 1; have hfz128_2 := blk_frozen BK136.out 2; have hfz128_3 := blk_frozen BK136.out 3; have hfz128_4 := blk_frozen BK136.out 4; have hfz128_5 := blk_frozen BK136.out 5; have hfz128_6 := blk_frozen BK136.out 6; have hcz129_0 : w127.cell? ⟨gb138, 0, none⟩ = some (.int .u64 a3_0) := bc BK138 0; have hcz129_1 : w127.cell? ⟨gb138, 1, none⟩ = some (.int .u32 a3_1) := bc BK138 1; have hcz129_2 : w127.cell? ⟨gb138, 2, none⟩ = some (.int .u32 a3_2) := bc BK138 2; have hcz129_3 : w127.cell? ⟨gb138, 3, none⟩ = some (.int .i64 a3_3) := bc BK138 3; have hcz129_4 : w127.cell? ⟨gb138, 4, none⟩ = some (.int .u64 a3_4) := bc BK138 4; have hcz129_5 : w127.cell? ⟨gb138, 5, none⟩ = some (.int .u32 a3_5) := bc BK138 5; have hcz129_6 : w127.cell? ⟨gb138, 6, none⟩ = some (.int .u32 a3_6) := bc BK138 6; have hfz129_0 := blk_frozen BK138.out 0; have hfz129_1 := blk_frozen BK138.out 1; have hfz129_2 := blk_frozen BK138.out 2; have hfz129_3 := blk_frozen BK138.out 3; have hfz129_4 := blk_frozen BK138.out 4; have hfz129_5 := blk_frozen BK138.out 5; have hfz129_6 := blk_frozen BK138.out 6) | (go_at_call 8; (with_reducible refine (item_Item_Ahead.calls kj75 a1_0 a1_1 a1_2 a1_3 a1_4 a1_5 a1_6 a3_0 a3_1 a3_2 a3_3 a3_4 a3_5 a3_6 true _ A112.out).mono ?_); rintro e w130 ⟨rfl, hb⟩; replace BK136 := blkb BK136 hb; replace BK137 := blkb BK137 hb; replace BK138 := blkb BK138 hb; replace HB := belb HB hb; (try clear hb); (try clear hb2); (try clear hk); (try clear hi); have hcz131_0 : w130.cell? ⟨gb136, 0, none⟩ = some (.int .u64 a1_0) := bc BK136 0; have hcz131_1 : w130.cell? ⟨gb136, 1, none⟩ = some (.int .u32 a1_1) := bc BK136 1; have hcz131_2 : w130.cell? ⟨gb136, 2, none⟩ = some (.int .u32 a1_2) := bc BK136 2; have hcz131_3 : w130.cell? ⟨gb136, 3, none⟩ = some (.int .i64 a1_3) := bc BK136 3; have hcz131_4 : w130.cell? ⟨gb136, 4, none⟩ = some (.int .u64 a1_4) := bc BK136 4; have hcz131_5 : w130.cell? ⟨gb136, 5, none⟩ = some (.int .u32 a1_5) := bc BK136 5; have hcz131_6 : w130.cell? ⟨gb136, 6, none⟩ = some (.int .u32 a1_6) := bc BK136 6; have hfz131_0 := blk_frozen BK136.out 0; have hfz131_1 := blk_frozen BK136.out 1; have hfz131_2 := blk_frozen BK136.out 2; have hfz131_3 := blk_frozen BK136.out 3; have hfz131_4 := blk_frozen BK136.out 4; have hfz131_5 := blk_frozen BK136.out 5; have hfz131_6 := blk_frozen BK136.out 6; have hcz132_0 : w130.cell? ⟨gb137, 0, none⟩ = some (.int .u64 a2_0) := bc BK137 0; have hcz132_1 : w130.cell? ⟨gb137, 1, none⟩ = some (.int .u32 a2_1) := bc BK137 1; have hcz132_2 : w130.cell? ⟨gb137, 2, none⟩ = some (.int .u32 a2_2) := bc BK137 2; have hcz132_3 : w130.cell? ⟨gb137, 3, none⟩ = some (.int .i64 a2_3) := bc BK137 3; have hcz132_4 : w130.cell? ⟨gb137, 4, none⟩ = some (.int .u64 a2_4) := bc BK137 4; have hcz132_5 : w130.cell? ⟨gb137, 5, none⟩ = some (.int .u32 a2_5) := bc BK137 5; have hcz132_6 : w130.cell? ⟨gb137, 6, none⟩ = some (.int .u32 a2_6) := bc BK137 6; have hfz132_0 := blk_frozen BK137.out 0; have hfz132_1 := blk_frozen BK137.out 1; have hfz132_2 := blk_frozen BK137.out 2; have hfz132_3 := blk_frozen BK137.out 3; have hfz132_4 := blk_frozen BK137.out 4; have hfz132_5 := blk_frozen BK137.out 5; have hfz132_6 := blk_frozen BK137.out 6) | (go_at_call 9; (with_reducible refine (item_Item_Due.calls kj75 a1_0 a1_1 a1_2 a1_3 a1_4 a1_5 a1_6 a2_0 a2_1 a2_2 a2_3 a2_4 a2_5 a2_6 true _ A114.out).mono ?_); rintro e w133 ⟨rfl, hb⟩; replace BK136 := blkb BK136 hb; replace BK137 := blkb BK137 hb; replace BK138 := blkb BK138 hb; replace HB := belb HB hb; (try clear hb); (try clear hb2); (try clear hk); (try clear hi); have hcz134_0 : w133.cell? ⟨gb137, 0, none⟩ = some (.int .u64 a2_0) := bc BK137 0; have hcz134_1 : w133.cell? ⟨gb137, 1, none⟩ = some (.int .u32 a2_1) := bc BK137 1; have hcz134_2 : w133.cell? ⟨gb137, 2, none⟩ = some (.int .u32 a2_2) := bc BK137 2; have hcz134_3 : w133.cell? ⟨gb137, 3, none⟩ = some (.int .i64 a2_3) := bc BK137 3; have hcz134_4 : w133.cell? ⟨gb137, 4, none⟩ = some (.int .u64 a2_4) := bc BK137 4; have hcz134_5 : w133.cell? ⟨gb137, 5, none⟩ = some (.int .u32 a2_5) := bc BK137 5; have hcz134_6 : w133.cell? ⟨gb137, 6, none⟩ = some (.int .u32 a2_6) := bc BK137 6; have hfz134_0 := blk_frozen BK137.out 0; have hfz134_1 := blk_frozen BK137.out 1; have hfz134_2 := blk_frozen BK137.out 2; have hfz134_3 := blk_frozen BK137.out 3; have hfz134_4 := blk_frozen BK137.out 4; have hfz134_5 := blk_frozen BK137.out 5; have hfz134_6 := blk_frozen BK137.out 6; have hcz135_0 : w133.cell? ⟨gb138, 0, none⟩ = some (.int .u64 a3_0) := bc BK138 0; have hcz135_1 : w133.cell? ⟨gb138, 1, none⟩ = some (.int .u32 a3_1) := bc BK138 1; have hcz135_2 : w133.cell? ⟨gb138, 2, none⟩ = some (.int .u32 a3_2) := bc BK138 2; have hcz135_3 : w133.cell? ⟨gb138, 3, none⟩ = some (.int .i64 a3_3) := bc BK138 3; have hcz135_4 : w133.cell? ⟨gb138, 4, none⟩ = some (.int .u64 a3_4) := bc BK138 4; have hcz135_5 : w133.cell? ⟨gb138, 5, none⟩ = some (.int .u32 a3_5) := bc BK138 5; have hcz135_6 : w133.cell? ⟨gb138, 6, none⟩ = some (.int .u32 a3_6) := bc BK138 6; have hfz135_0 := blk_frozen BK138.out 0; have hfz135_1 := blk_frozen BK138.out 1; have hfz135_2 := blk_frozen BK138.out 2; have hfz135_3 := blk_frozen BK138.out 3; have hfz135_4 := blk_frozen BK138.out 4; have hfz135_5 := blk_frozen BK138.out 5; have hfz135_6 := blk_frozen BK138.out 6) | (go_at_call 9; (with_reducible refine (item_Item_Due.calls kj75 a2_0 a2_1 a2_2 a2_3 a2_4 a2_5 a2_6 a3_0 a3_1 a3_2 a3_3 a3_4 a3_5 a3_6 true _ A116.out).mono ?_); rintro e w136 ⟨rfl, hb⟩; replace BK136 := blkb BK136 hb; replace BK137 := blkb BK137 hb; replace BK138 := blkb BK138 hb; replace HB := belb HB hb; (try clear hb); (try clear hb2); (try clear hk); (try clear hi); have hcz137_0 : w136.cell? ⟨gb136, 0, none⟩ = some (.int .u64 a1_0) := bc BK136 0; have hcz137_1 : w136.cell? ⟨gb136, 1, none⟩ = some (.int .u32 a1_1) := bc BK136 1; have hcz137_2 : w136.cell? ⟨gb136, 2, none⟩ = some (.int .u32 a1_2) := bc BK136 2; have hcz137_3 : w136.cell? ⟨gb136, 3, none⟩ = some (.int .i64 a1_3) := bc BK136 3; have hcz137_4 : w136.cell? ⟨gb136, 4, none⟩ = some (.int .u64 a1_4) := bc BK136 4; have hcz137_5 : w136.cell? ⟨gb136, 5, none⟩ = some (.int .u32 a1_5) := bc BK136 5; have hcz137_6 : w136.cell? ⟨gb136, 6, none⟩ = some (.int .u32 a1_6) := bc BK136 6; have hfz137_0 := blk_frozen BK136.out 0; have hfz137_1 := blk_frozen BK136.out 1; have hfz137_2 := blk_frozen BK136.out 2; have hfz137_3 := blk_frozen BK136.out 3; have hfz137_4 := blk_frozen BK136.out 4; have hfz137_5 := blk_frozen BK136.out 5; have hfz137_6 := blk_frozen BK136.out 6; have hcz138_0 : w136.cell? ⟨gb138, 0, none⟩ = some (.int .u64 a3_0) := bc BK138 0; have hcz138_1 : w136.cell? ⟨gb138, 1, none⟩ = some (.int .u32 a3_1) := bc BK138 1; have hcz138_2 : w136.cell? ⟨gb138, 2, none⟩ = some (.int .u32 a3_2) := bc BK138 2; have hcz138_3 : w136.cell? ⟨gb138, 3, none⟩ = some (.int .i64 a3_3) := bc BK138 3; have hcz138_4 : w136.cell? ⟨gb138, 4, none⟩ = some (.int .u64 a3_4) := bc BK138 4; have hcz138_5 : w136.cell? ⟨gb138, 5, none⟩ = some (.int .u32 a3_5) := bc BK138 5; have hcz138_6 : w136.cell? ⟨gb138, 6, none⟩ = some (.int .u32 a3_6) := bc BK138 6; have hfz138_0 := blk_frozen BK138.out 0; have hfz138_1 := blk_frozen BK138.out 1; have hfz138_2 := blk_frozen BK138.out 2; have hfz138_3 := blk_frozen BK138.out 3; have hfz138_4 := blk_frozen BK138.out 4; have hfz138_5 := blk_frozen BK138.out 5; have hfz138_6 := blk_frozen BK138.out 6) | (go_at_call 9; (with_reducible refine (item_Item_Due.calls kj75 a1_0 a1_1 a1_2 a1_3 a1_4 a1_5 a1_6 a3_0 a3_1 a3_2 a3_3 a3_4 a3_5 a3_6 t154 _ A118.out).mono ?_); rintro e w139 ⟨rfl, hb⟩; replace BK136 := blkb BK136 hb; replace BK137 := blkb BK137 hb; replace BK138 := blkb BK138 hb; replace HB := belb HB hb; (try clear hb); (try clear hb2); (try clear hk); (try clear hi)))
           go_ret
           exact ⟨by first | rfl | (simp [errW_none, errW_some] <;> rfl) | (simp [*, errW_none, errW_some] <;> rfl), belt HB⟩
          replace c117 := Bool.eq_false_iff.mpr c117
          subst c117
          have H1 : (some (!false)) = some r := by rw [if_neg (show ¬ (false = true) by decide)] at H; exact H
          clear H
          have H := H1
          clear H1
          obtain rfl := Option.some.inj H
          have hnb140 := NB136_137.out
          have hnc140 := NB137_136.out
          have hnb141 := NB136_138.out
          have hnc141 := NB138_136.out
          have hcz142_0 : wc.cell? ⟨gb136, 0, none⟩ = some (.int .u64 a1_0) := bc BK136 0
          have hcz142_1 : wc.cell? ⟨gb136, 1, none⟩ = some (.int .u32 a1_1) := bc BK136 1
          have hcz142_2 : wc.cell? ⟨gb136, 2, none⟩ = some (.int .u32 a1_2) := bc BK136 2
          have hcz142_3 : wc.cell? ⟨gb136, 3, none⟩ = some (.int .i64 a1_3) := bc BK136 3
          have hcz142_4 : wc.cell? ⟨gb136, 4, none⟩ = some (.int .u64 a1_4) := bc BK136 4
          have hcz142_5 : wc.cell? ⟨gb136, 5, none⟩ = some (.int .u32 a1_5) := bc BK136 5
          have hcz142_6 : wc.cell? ⟨gb136, 6, none⟩ = some (.int .u32 a1_6) := bc BK136 6
          have hfz142_0 := blk_frozen BK136.out 0
          have hfz142_1 := blk_frozen BK136.out 1
          have hfz142_2 := blk_frozen BK136.out 2
          have hfz142_3 := blk_frozen BK136.out 3
          have hfz142_4 := blk_frozen BK136.out 4
          have hfz142_5 := blk_frozen BK136.out 5
          have hfz142_6 := blk_frozen BK136.out 6
          have hnb143 := NB137_138.out
          have hnc143 := NB138_137.out
          have hcz144_0 : wc.cell? ⟨gb137, 0, none⟩ = some (.int .u64 a2_0) := bc BK137 0
          have hcz144_1 : wc.cell? ⟨gb137, 1, none⟩ = some (.int .u32 a2_1) := bc BK137 1
          have hcz144_2 : wc.cell? ⟨gb137, 2, none⟩ = some (.int .u32 a2_2) := bc BK137 2
          have hcz144_3 : wc.cell? ⟨gb137, 3, none⟩ = some (.int .i64 a2_3) := bc BK137 3
          have hcz144_4 : wc.cell? ⟨gb137, 4, none⟩ = some (.int .u64 a2_4) := bc BK137 4
          have hcz144_5 : wc.cell? ⟨gb137, 5, none⟩ = some (.int .u32 a2_5) := bc BK137 5
          have hcz144_6 : wc.cell? ⟨gb137, 6, none⟩ = some (.int .u32 a2_6) := bc BK137 6
          have hfz144_0 := blk_frozen BK137.out 0
          have hfz144_1 := blk_frozen BK137.out 1
          have hfz144_2 := blk_frozen BK137.out 2
          have hfz144_3 := blk_frozen BK137.out 3
          have hfz144_4 := blk_frozen BK137.out 4
          have hfz144_5 := blk_frozen BK137.out 5
          have hfz144_6 := blk_frozen BK137.out 6
          go_wp2_with (first | ((with_reducible refine gate_callee (f := 8) rfl ?_); refine goesL_ (some 76) rfl rfl Try.func8 (by kernel_rfl) rfl #[.agg #[.int .u64 a1_0, .int .u32 a1_1, .int .u32 a1_2, .int .i64 a1_3, .int .u64 a1_4, .int .u32 a1_5, .int .u32 a1_6], .agg #[.int .u64 a2_0, .int .u32 a2_1, .int .u32 a2_2, .int .i64 a2_3, .int .u64 a2_4, .int .u32 a2_5, .int .u32 a2_6]] rfl argt ?_; (with_reducible refine (item_Item_Ahead.calls kj75 a1_0 a1_1 a1_2 a1_3 a1_4 a1_5 a1_6 a2_0 a2_1 a2_2 a2_3 a2_4 a2_5 a2_6 true _ A108.out).mono ?_); rintro e w145 ⟨rfl, hb⟩; refine ⟨_, rfl, ?_⟩; replace BK136 := blkb BK136 hb; replace BK137 := blkb BK137 hb; replace BK138 := blkb BK138 hb; replace HB := belb HB hb; (try clear hb); (try clear hb2); (try clear hk); (try clear hi); have hcz146_0 : w145.cell? ⟨gb137, 0, none⟩ = some (.int .u64 a2_0) := bc BK137 0; have hcz146_1 : w145.cell? ⟨gb137, 1, none⟩ = some (.int .u32 a2_1) := bc BK137 1; have hcz146_2 : w145.cell? ⟨gb137, 2, none⟩ = some (.int .u32 a2_2) := bc BK137 2; have hcz146_3 : w145.cell? ⟨gb137, 3, none⟩ = some (.int .i64 a2_3) := bc BK137 3; have hcz146_4 : w145.cell? ⟨gb137, 4, none⟩ = some (.int .u64 a2_4) := bc BK137 4; have hcz146_5 : w145.cell? ⟨gb137, 5, none⟩ = some (.int .u32 a2_5) := bc BK137 5; have hcz146_6 : w145.cell? ⟨gb137, 6, none⟩ = some (.int .u32 a2_6) := bc BK137 6; have hfz146_0 := blk_frozen BK137.out 0; have hfz146_1 := blk_frozen BK137.out 1; have hfz146_2 := blk_frozen BK137.out 2; have hfz146_3 := blk_frozen BK137.out 3; have hfz146_4 := blk_frozen BK137.out 4; have hfz146_5 := blk_frozen BK137.out 5; have hfz146_6 := blk_frozen BK137.out 6; have hcz147_0 : w145.cell? ⟨gb138, 0, none⟩ = some (.int .u64 a3_0) := bc BK138 0; have hcz147_1 : w145.cell? ⟨gb138, 1, none⟩ = some (.int .u32 a3_1) := bc BK138 1; have hcz147_2 : w145.cell? ⟨gb138, 2, none⟩ = some (.int .u32 a3_2) := bc BK138 2; have hcz147_3 : w145.cell? ⟨gb138, 3, none⟩ = some (.int .i64 a3_3) := bc BK138 3; have hcz147_4 : w145.cell? ⟨gb138, 4, none⟩ = some (.int .u64 a3_4) := bc BK138 4; have hcz147_5 : w145.cell? ⟨gb138, 5, none⟩ = some (.int .u32 a3_5) := bc BK138 5; have hcz147_6 : w145.cell? ⟨gb138, 6, none⟩ = some (.int .u32 a3_6) := bc BK138 6; have hfz147_0 := blk_frozen BK138.out 0; have hfz147_1 := blk_frozen BK138.out 1; have hfz147_2 := blk_frozen BK138.out 2; have hfz147_3 := blk_frozen BK138.out 3; have hfz147_4 := blk_frozen BK138.out 4; have hfz147_5 := blk_frozen BK138.out 5; have hfz147_6 := blk_frozen BK138.out 6) | (go_at_call 8; (with_reducible refine (item_Item_Ahead.calls kj75 a2_0 a2_1 a2_2 a2_3 a2_4 a2_5 a2_6 a3_0 a3_1 a3_2 a3_3 a3_4 a3_5 a3_6 true _ A110.out).mono ?_); rintro e w148 ⟨rfl, hb⟩; replace BK136 := blkb BK136 hb; replace BK137 := blkb BK137 hb; replace BK138 := blkb BK138 hb; replace HB := belb HB hb; (try clear hb); (try clear hb2); (try clear hk); (try clear hi); have hcz149_0 : w148.cell? ⟨gb136, 0, none⟩ = some (.int .u64 a1_0) := bc BK136 0; have hcz149_1 : w148.cell? ⟨gb136, 1, none⟩ = some (.int .u32 a1_1) := bc BK136 1; have hcz149_2 : w148.cell? ⟨gb136, 2, none⟩ = some (.int .u32 a1_2) := bc BK136 2; have hcz149_3 : w148.cell? ⟨gb136, 3, none⟩ = some (.int .i64 a1_3) := bc BK136 3; have hcz149_4 : w148.cell? ⟨gb136, 4, none⟩ = some (.int .u64 a1_4) := bc BK136 4; have hcz149_5 : w148.cell? ⟨gb136, 5, none⟩ = some (.int .u32 a1_5) := bc BK136 5; have hcz149_6 : w148.cell? ⟨gb136, 6, none⟩ = some (.int .u32 a1_6) := bc BK136 6; have hfz149_0 := blk_frozen BK136.out 0; have hfz149_1 := blk_frozen BK136.out 1; have hfz149_2 := blk_frozen BK136.out 2; have hfz149_3 := blk_frozen BK136.out 3; have hfz149_4 := blk_frozen BK136.out 4; have hfz149_5 := blk_frozen BK136.out 5; have hfz149_6 := blk_frozen BK136.out 6; have hcz150_0 : w148.cell? ⟨gb138, 0, none⟩ = some (.int .u64 a3_0) := bc BK138 0; have hcz150_1 : w148.cell? ⟨gb138, 1, none⟩ = some (.int .u32 a3_1) := bc BK138 1; have hcz150_2 : w148.cell? ⟨gb138, 2, none⟩ = some (.int .u32 a3_2) := bc BK138 2; have hcz150_3 : w148.cell? ⟨gb138, 3, none⟩ = some (.int .i64 a3_3) := bc BK138 3; have hcz150_4 : w148.cell? ⟨gb138, 4, none⟩ = some (.int .u64 a3_4) := bc BK138 4; have hcz150_5 : w148.cell? ⟨gb138, 5, none⟩ = some (.int .u32 a3_5) := bc BK138 5; have hcz150_6 : w148.cell? ⟨gb138, 6, none⟩ = some (.int .u32 a3_6) := bc BK138 6; have hfz150_0 := blk_frozen BK138.out 0; have hfz150_1 := blk_frozen BK138.out 1; have hfz150_2 := blk_frozen BK138.out 2; have hfz150_3 := blk_frozen BK138.out 3; have hfz150_4 := blk_frozen BK138.out 4; have hfz150_5 := blk_frozen BK138.out 5; have hfz150_6 := blk_frozen BK138.out 6) | (go_at_call 8; (with_reducible refine (item_Item_Ahead.calls kj75 a1_0 a1_1 a1_2 a1_3 a1_4 a1_5 a1_6 a3_0 a3_1 a3_2 a3_3 a3_4 a3_5 a3_6 true _ A112.out).mono ?_); rintro e w151 ⟨rfl, hb⟩; replace BK136 := blkb BK136 hb; replace BK137 := blkb BK137 hb; replace BK138 := blkb BK138 hb; replace HB := belb HB hb; (try clear hb); (try clear hb2); (try clear hk); (try clear hi); have hcz152_0 : w151.cell? ⟨gb136, 0, none⟩ = some (.int .u64 a1_0) := bc BK136 0; have hcz152_1 : w151.cell? ⟨gb136, 1, none⟩ = some (.int .u32 a1_1) := bc BK136 1; have hcz152_2 : w151.cell? ⟨gb136, 2, none⟩ = some (.int .u32 a1_2) := bc BK136 2; have hcz152_3 : w151.cell? ⟨gb136, 3, none⟩ = some (.int .i64 a1_3) := bc BK136 3; have hcz152_4 : w151.cell? ⟨gb136, 4, none⟩ = some (.int .u64 a1_4) := bc BK136 4; have hcz152_5 : w151.cell? ⟨gb136, 5, none⟩ = some (.int .u32 a1_5) := bc BK136 5; have hcz152_6 : w151.cell? ⟨gb136, 6, none⟩ = some (.int .u32 a1_6) := bc BK136 6; have hfz152_0 := blk_frozen BK136.out 0; have hfz152_1 := blk_frozen BK136.out 1; have hfz152_2 := blk_frozen BK136.out 2; have hfz152_3 := blk_frozen BK136.out 3; have hfz152_4 := blk_frozen BK136.out 4; have hfz152_5 := blk_frozen BK136.out 5; have hfz152_6 := blk_frozen BK136.out 6; have hcz153_0 : w151.cell? ⟨gb137, 0, none⟩ = some (.int .u64 a2_0) := bc BK137 0; have hcz153_1 : w151.cell? ⟨gb137, 1, none⟩ = some (.int .u32 a2_1) := bc BK137 1; have hcz153_2 : w151.cell? ⟨gb137, 2, none⟩ = some (.int .u32 a2_2) := bc BK137 2; have hcz153_3 : w151.cell? ⟨gb137, 3, none⟩ = some (.int .i64 a2_3) := bc BK137 3; have hcz153_4 : w151.cell? ⟨gb137, 4, none⟩ = some (.int .u64 a2_4) := bc BK137 4; have hcz153_5 : w151.cell? ⟨gb137, 5, none⟩ = some (.int .u32 a2_5) := bc BK137 5; have hcz153_6 : w151.cell? ⟨gb137, 6, none⟩ = some (.int .u32 a2_6) := bc BK137 6; have hfz153_0 := blk_frozen BK137.out 0; have hfz153_1 := blk_frozen BK137.out 1; have hfz153_2 := blk_frozen BK137.out 2; have hfz153_3 := blk_frozen BK137.out 3; have hfz153_4 := blk_frozen BK137.out 4; have hfz153_5 := blk_frozen BK137.out 5; have hfz153_6 := blk_frozen BK137.out 6) | (go_at_call 9; (with_reducible refine (item_Item_Due.calls kj75 a1_0 a1_1 a1_2 a1_3 a1_4 a1_5 a1_6 a2_0 a2_1 a2_2 a2_3 a2_4 a2_5 a2_6 true _ A114.out).mono ?_); rintro e w154 ⟨rfl, hb⟩; replace BK136 := blkb BK136 hb; replace BK137 := blkb BK137 hb; replace BK138 := blkb BK138 hb; replace HB := belb HB hb; (try clear hb); (try clear hb2); (try clear hk); (try clear hi); have hcz155_0 : w154.cell? ⟨gb137, 0, none⟩ = some (.int .u64 a2_0) := bc BK137 0; have hcz155_1 : w154.cell? ⟨gb137, 1, none⟩ = some (.int .u32 a2_1) := bc BK137 1; have hcz155_2 : w154.cell? ⟨gb137, 2, none⟩ = some (.int .u32 a2_2) := bc BK137 2; have hcz155_3 : w154.cell? ⟨gb137, 3, none⟩ = some (.int .i64 a2_3) := bc BK137 3; have hcz155_4 : w154.cell? ⟨gb137, 4, none⟩ = some (.int .u64 a2_4) := bc BK137 4; have hcz155_5 : w154.cell? ⟨gb137, 5, none⟩ = some (.int .u32 a2_5) := bc BK137 5; have hcz155_6 : w154.cell? ⟨gb137, 6, none⟩ = some (.int .u32 a2_6) := bc BK137 6; have hfz155_0 := blk_frozen BK137.out 0; have hfz155_1 := blk_frozen BK137.out 1; have hfz155_2 := blk_frozen BK137.out 2; have hfz155_3 := blk_frozen BK137.out 3; have hfz155_4 := blk_frozen BK137.out 4; have hfz155_5 := blk_frozen BK137.out 5; have hfz155_6 := blk_frozen BK137.out 6; have hcz156_0 : w154.cell? ⟨gb138, 0, none⟩ = some (.int .u64 a3_0) := bc BK138 0; have hcz156_1 : w154.cell? ⟨gb138, 1, none⟩ = some (.int .u32 a3_1) := bc BK138 1; have hcz156_2 : w154.cell? ⟨gb138, 2, none⟩ = some (.int .u32 a3_2) := bc BK138 2; have hcz156_3 : w154.cell? ⟨gb138, 3, none⟩ = some (.int .i64 a3_3) := bc BK138 3; have hcz156_4 : w154.cell? ⟨gb138, 4, none⟩ = some (.int .u64 a3_4) := bc BK138 4; have hcz156_5 : w154.cell? ⟨gb138, 5, none⟩ = some (.int .u32 a3_5) := bc BK138 5; have hcz156_6 : w154.cell? ⟨gb138, 6, none⟩ = some (.int .u32 a3_6) := bc BK138 6; have hfz156_0 := blk_frozen BK138.out 0; have hfz156_1 := blk_frozen BK138.out 1; have hfz156_2 := blk_frozen BK138.out 2; have hfz156_3 := blk_frozen BK138.out 3; have hfz156_4 := blk_frozen BK138.out 4; have hfz156_5 := blk_frozen BK138.out 5; have hfz156_6 := blk_frozen BK138.out 6) | (go_at_call 9; (with_reducible refine (item_Item_Due.calls kj75 a2_0 a2_1 a2_2 a2_3 a2_4 a2_5 a2_6 a3_0 a3_1 a3_2 a3_3 a3_4 a3_5 a3_6 false _ A116.out).mono ?_); rintro e w157 ⟨rfl, hb⟩; replace BK136 := blkb BK136 hb; replace BK137 := blkb BK137 hb; replace BK138 := blkb BK138 hb; replace HB := belb HB hb; (try clear hb); (try clear hb2); (try clear hk); (try clear hi)))
          go_ret
          exact ⟨by first | rfl | (simp [errW_none, errW_some] <;> rfl) | (simp [*, errW_none, errW_some] <;> rfl), belt HB⟩
         replace c115 := Bool.eq_false_iff.mpr c115
         subst c115
         have H1 : (some (!false)) = some r := by rw [if_neg (show ¬ (false = true) by decide)] at H; exact H
         clear H
         have H := H1
         clear H1
         obtain rfl := Option.some.inj H
         have hnb158 := NB136_137.out
         have hnc158 := NB137_136.out
         have hnb159 := NB136_138.out
         have hnc159 := NB138_136.out
         have hcz160_0 : wc.cell? ⟨gb136, 0, none⟩ = some (.int .u64 a1_0) := bc BK136 0
         have hcz160_1 : wc.cell? ⟨gb136, 1, none⟩ = some (.int .u32 a1_1) := bc BK136 1
         have hcz160_2 : wc.cell? ⟨gb136, 2, none⟩ = some (.int .u32 a1_2) := bc BK136 2
         have hcz160_3 : wc.cell? ⟨gb136, 3, none⟩ = some (.int .i64 a1_3) := bc BK136 3
         have hcz160_4 : wc.cell? ⟨gb136, 4, none⟩ = some (.int .u64 a1_4) := bc BK136 4
         have hcz160_5 : wc.cell? ⟨gb136, 5, none⟩ = some (.int .u32 a1_5) := bc BK136 5
         have hcz160_6 : wc.cell? ⟨gb136, 6, none⟩ = some (.int .u32 a1_6) := bc BK136 6
         have hfz160_0 := blk_frozen BK136.out 0
         have hfz160_1 := blk_frozen BK136.out 1
         have hfz160_2 := blk_frozen BK136.out 2
         have hfz160_3 := blk_frozen BK136.out 3
         have hfz160_4 := blk_frozen BK136.out 4
         have hfz160_5 := blk_frozen BK136.out 5
         have hfz160_6 := blk_frozen BK136.out 6
         have hnb161 := NB137_138.out
         have hnc161 := NB138_137.out
         have hcz162_0 : wc.cell? ⟨gb137, 0, none⟩ = some (.int .u64 a2_0) := bc BK137 0
         have hcz162_1 : wc.cell? ⟨gb137, 1, none⟩ = some (.int .u32 a2_1) := bc BK137 1
         have hcz162_2 : wc.cell? ⟨gb137, 2, none⟩ = some (.int .u32 a2_2) := bc BK137 2
         have hcz162_3 : wc.cell? ⟨gb137, 3, none⟩ = some (.int .i64 a2_3) := bc BK137 3
         have hcz162_4 : wc.cell? ⟨gb137, 4, none⟩ = some (.int .u64 a2_4) := bc BK137 4
         have hcz162_5 : wc.cell? ⟨gb137, 5, none⟩ = some (.int .u32 a2_5) := bc BK137 5
         have hcz162_6 : wc.cell? ⟨gb137, 6, none⟩ = some (.int .u32 a2_6) := bc BK137 6
         have hfz162_0 := blk_frozen BK137.out 0
         have hfz162_1 := blk_frozen BK137.out 1
         have hfz162_2 := blk_frozen BK137.out 2
         have hfz162_3 := blk_frozen BK137.out 3
         have hfz162_4 := blk_frozen BK137.out 4
         have hfz162_5 := blk_frozen BK137.out 5
         have hfz162_6 := blk_frozen BK137.out 6
         go_wp2_with (first | ((with_reducible refine gate_callee (f := 8) rfl ?_); refine goesL_ (some 76) rfl rfl Try.func8 (by kernel_rfl) rfl #[.agg #[.int .u64 a1_0, .int .u32 a1_1, .int .u32 a1_2, .int .i64 a1_3, .int .u64 a1_4, .int .u32 a1_5, .int .u32 a1_6], .agg #[.int .u64 a2_0, .int .u32 a2_1, .int .u32 a2_2, .int .i64 a2_3, .int .u64 a2_4, .int .u32 a2_5, .int .u32 a2_6]] rfl argt ?_; (with_reducible refine (item_Item_Ahead.calls kj75 a1_0 a1_1 a1_2 a1_3 a1_4 a1_5 a1_6 a2_0 a2_1 a2_2 a2_3 a2_4 a2_5 a2_6 true _ A108.out).mono ?_); rintro e w163 ⟨rfl, hb⟩; refine ⟨_, rfl, ?_⟩; replace BK136 := blkb BK136 hb; replace BK137 := blkb BK137 hb; replace BK138 := blkb BK138 hb; replace HB := belb HB hb; (try clear hb); (try clear hb2); (try clear hk); (try clear hi); have hcz164_0 : w163.cell? ⟨gb137, 0, none⟩ = some (.int .u64 a2_0) := bc BK137 0; have hcz164_1 : w163.cell? ⟨gb137, 1, none⟩ = some (.int .u32 a2_1) := bc BK137 1; have hcz164_2 : w163.cell? ⟨gb137, 2, none⟩ = some (.int .u32 a2_2) := bc BK137 2; have hcz164_3 : w163.cell? ⟨gb137, 3, none⟩ = some (.int .i64 a2_3) := bc BK137 3; have hcz164_4 : w163.cell? ⟨gb137, 4, none⟩ = some (.int .u64 a2_4) := bc BK137 4; have hcz164_5 : w163.cell? ⟨gb137, 5, none⟩ = some (.int .u32 a2_5) := bc BK137 5; have hcz164_6 : w163.cell? ⟨gb137, 6, none⟩ = some (.int .u32 a2_6) := bc BK137 6; have hfz164_0 := blk_frozen BK137.out 0; have hfz164_1 := blk_frozen BK137.out 1; have hfz164_2 := blk_frozen BK137.out 2; have hfz164_3 := blk_frozen BK137.out 3; have hfz164_4 := blk_frozen BK137.out 4; have hfz164_5 := blk_frozen BK137.out 5; have hfz164_6 := blk_frozen BK137.out 6; have hcz165_0 : w163.cell? ⟨gb138, 0, none⟩ = some (.int .u64 a3_0) := bc BK138 0; have hcz165_1 : w163.cell? ⟨gb138, 1, none⟩ = some (.int .u32 a3_1) := bc BK138 1; have hcz165_2 : w163.cell? ⟨gb138, 2, none⟩ = some (.int .u32 a3_2) := bc BK138 2; have hcz165_3 : w163.cell? ⟨gb138, 3, none⟩ = some (.int .i64 a3_3) := bc BK138 3; have hcz165_4 : w163.cell? ⟨gb138, 4, none⟩ = some (.int .u64 a3_4) := bc BK138 4; have hcz165_5 : w163.cell? ⟨gb138, 5, none⟩ = some (.int .u32 a3_5) := bc BK138 5; have hcz165_6 : w163.cell? ⟨gb138, 6, none⟩ = some (.int .u32 a3_6) := bc BK138 6; have hfz165_0 := blk_frozen BK138.out 0; have hfz165_1 := blk_frozen BK138.out 1; have hfz165_2 := blk_frozen BK138.out 2; have hfz165_3 := blk_frozen BK138.out 3; have hfz165_4 := blk_frozen BK138.out 4; have hfz165_5 := blk_frozen BK138.out 5; have hfz165_6 := blk_frozen BK138.out 6) | (go_at_call 8; (with_reducible refine (item_Item_Ahead.calls kj75 a2_0 a2_1 a2_2 a2_3 a2_4 a2_5 a2_6 a3_0 a3_1 a3_2 a3_3 a3_4 a3_5 a3_6 true _ A110.out).mono ?_); rintro e w166 ⟨rfl, hb⟩; replace BK136 := blkb BK136 hb; replace BK137 := blkb BK137 hb; replace BK138 := blkb BK138 hb; replace HB := belb HB hb; (try clear hb); (try clear hb2); (try clear hk); (try clear hi); have hcz167_0 : w166.cell? ⟨gb136, 0, none⟩ = some (.int .u64 a1_0) := bc BK136 0; have hcz167_1 : w166.cell? ⟨gb136, 1, none⟩ = some (.int .u32 a1_1) := bc BK136 1; have hcz167_2 : w166.cell? ⟨gb136, 2, none⟩ = some (.int .u32 a1_2) := bc BK136 2; have hcz167_3 : w166.cell? ⟨gb136, 3, none⟩ = some (.int .i64 a1_3) := bc BK136 3; have hcz167_4 : w166.cell? ⟨gb136, 4, none⟩ = some (.int .u64 a1_4) := bc BK136 4; have hcz167_5 : w166.cell? ⟨gb136, 5, none⟩ = some (.int .u32 a1_5) := bc BK136 5; have hcz167_6 : w166.cell? ⟨gb136, 6, none⟩ = some (.int .u32 a1_6) := bc BK136 6; have hfz167_0 := blk_frozen BK136.out 0; have hfz167_1 := blk_frozen BK136.out 1; have hfz167_2 := blk_frozen BK136.out 2; have hfz167_3 := blk_frozen BK136.out 3; have hfz167_4 := blk_frozen BK136.out 4; have hfz167_5 := blk_frozen BK136.out 5; have hfz167_6 := blk_frozen BK136.out 6; have hcz168_0 : w166.cell? ⟨gb138, 0, none⟩ = some (.int .u64 a3_0) := bc BK138 0; have hcz168_1 : w166.cell? ⟨gb138, 1, none⟩ = some (.int .u32 a3_1) := bc BK138 1; have hcz168_2 : w166.cell? ⟨gb138, 2, none⟩ = some (.int .u32 a3_2) := bc BK138 2; have hcz168_3 : w166.cell? ⟨gb138, 3, none⟩ = some (.int .i64 a3_3) := bc BK138 3; have hcz168_4 : w166.cell? ⟨gb138, 4, none⟩ = some (.int .u64 a3_4) := bc BK138 4; have hcz168_5 : w166.cell? ⟨gb138, 5, none⟩ = some (.int .u32 a3_5) := bc BK138 5; have hcz168_6 : w166.cell? ⟨gb138, 6, none⟩ = some (.int .u32 a3_6) := bc BK138 6; have hfz168_0 := blk_frozen BK138.out 0; have hfz168_1 := blk_frozen BK138.out 1; have hfz168_2 := blk_frozen BK138.out 2; have hfz168_3 := blk_frozen BK138.out 3; have hfz168_4 := blk_frozen BK138.out 4; have hfz168_5 := blk_frozen BK138.out 5; have hfz168_6 := blk_frozen BK138.out 6) | (go_at_call 8; (with_reducible refine (item_Item_Ahead.calls kj75 a1_0 a1_1 a1_2 a1_3 a1_4 a1_5 a1_6 a3_0 a3_1 a3_2 a3_3 a3_4 a3_5 a3_6 true _ A112.out).mono ?_); rintro e w169 ⟨rfl, hb⟩; replace BK136 := blkb BK136 hb; replace BK137 := blkb BK137 hb; replace BK138 := blkb BK138 hb; replace HB := belb HB hb; (try clear hb); (try clear hb2); (try clear hk); (try clear hi); have hcz170_0 : w169.cell? ⟨gb136, 0, none⟩ = some (.int .u64 a1_0) := bc BK136 0; have hcz170_1 : w169.cell? ⟨gb136, 1, none⟩ = some (.int .u32 a1_1) := bc BK136 1; have hcz170_2 : w169.cell? ⟨gb136, 2, none⟩ = some (.int .u32 a1_2) := bc BK136 2; have hcz170_3 : w169.cell? ⟨gb136, 3, none⟩ = some (.int .i64 a1_3) := bc BK136 3; have hcz170_4 : w169.cell? ⟨gb136, 4, none⟩ = some (.int .u64 a1_4) := bc BK136 4; have hcz170_5 : w169.cell? ⟨gb136, 5, none⟩ = some (.int .u32 a1_5) := bc BK136 5; have hcz170_6 : w169.cell? ⟨gb136, 6, none⟩ = some (.int .u32 a1_6) := bc BK136 6; have hfz170_0 := blk_frozen BK136.out 0; have hfz170_1 := blk_frozen BK136.out 1; have hfz170_2 := blk_frozen BK136.out 2; have hfz170_3 := blk_frozen BK136.out 3; have hfz170_4 := blk_frozen BK136.out 4; have hfz170_5 := blk_frozen BK136.out 5; have hfz170_6 := blk_frozen BK136.out 6; have hcz171_0 : w169.cell? ⟨gb137, 0, none⟩ = some (.int .u64 a2_0) := bc BK137 0; have hcz171_1 : w169.cell? ⟨gb137, 1, none⟩ = some (.int .u32 a2_1) := bc BK137 1; have hcz171_2 : w169.cell? ⟨gb137, 2, none⟩ = some (.int .u32 a2_2) := bc BK137 2; have hcz171_3 : w169.cell? ⟨gb137, 3, none⟩ = some (.int .i64 a2_3) := bc BK137 3; have hcz171_4 : w169.cell? ⟨gb137, 4, none⟩ = some (.int .u64 a2_4) := bc BK137 4; have hcz171_5 : w169.cell? ⟨gb137, 5, none⟩ = some (.int .u32 a2_5) := bc BK137 5; have hcz171_6 : w169.cell? ⟨gb137, 6, none⟩ = some (.int .u32 a2_6) := bc BK137 6; have hfz171_0 := blk_frozen BK137.out 0; have hfz171_1 := blk_frozen BK137.out 1; have hfz171_2 := blk_frozen BK137.out 2; have hfz171_3 := blk_frozen BK137.out 3; have hfz171_4 := blk_frozen BK137.out 4; have hfz171_5 := blk_frozen BK137.out 5; have hfz171_6 := blk_frozen BK137.out 6) | (go_at_call 9; (with_reducible refine (item_Item_Due.calls kj75 a1_0 a1_1 a1_2 a1_3 a1_4 a1_5 a1_6 a2_0 a2_1 a2_2 a2_3 a2_4 a2_5 a2_6 false _ A114.out).mono ?_); rintro e w172 ⟨rfl, hb⟩; replace BK136 := blkb BK136 hb; replace BK137 := blkb BK137 hb; replace BK138 := blkb BK138 hb; replace HB := belb HB hb; (try clear hb); (try clear hb2); (try clear hk); (try clear hi)))
         go_ret
         exact ⟨by first | rfl | (simp [errW_none, errW_some] <;> rfl) | (simp [*, errW_none, errW_some] <;> rfl), belt HB⟩
        replace c113 := Bool.eq_false_iff.mpr c113
        subst c113
        have H1 : (none) = some r := by rw [if_neg (show ¬ (false = true) by decide)] at H; exact H
        clear H
        have H := H1
        clear H1
        exact absurd H (by simp)
       replace c111 := Bool.eq_false_iff.mpr c111
       subst c111
       have H1 : ((item_Item_Due.f kj75 a1_0 a1_1 a1_2 a1_3 a1_4 a1_5 a1_6 a2_0 a2_1 a2_2 a2_3 a2_4 a2_5 a2_6).bind fun t155 => (if t155 = true then ((item_Item_Due.f kj75 a2_0 a2_1 a2_2 a2_3 a2_4 a2_5 a2_6 a3_0 a3_1 a3_2 a3_3 a3_4 a3_5 a3_6).bind fun t156 => (if t156 = true then ((item_Item_Due.f kj75 a1_0 a1_1 a1_2 a1_3 a1_4 a1_5 a1_6 a3_0 a3_1 a3_2 a3_3 a3_4 a3_5 a3_6).bind fun t157 => (some (!(!t157)))) else (some (!false)))) else (some (!false)))) = some r := by rw [if_neg (show ¬ (false = true) by decide)] at H; exact H
       clear H
       have H := H1
       clear H1
       replace H := Option.bind_eq_some_iff.mp H
       obtain ⟨t155, A1730, H⟩ := H
       replace H : (if t155 = true then ((item_Item_Due.f kj75 a2_0 a2_1 a2_2 a2_3 a2_4 a2_5 a2_6 a3_0 a3_1 a3_2 a3_3 a3_4 a3_5 a3_6).bind fun t156 => (if t156 = true then ((item_Item_Due.f kj75 a1_0 a1_1 a1_2 a1_3 a1_4 a1_5 a1_6 a3_0 a3_1 a3_2 a3_3 a3_4 a3_5 a3_6).bind fun t157 => (some (!(!t157)))) else (some (!false)))) else (some (!false))) = some r := H
       have A173 := Aside0.mk A1730
       clear A1730
       by_cases c174 : t155 = true
       ·subst c174
        have H1 : ((item_Item_Due.f kj75 a2_0 a2_1 a2_2 a2_3 a2_4 a2_5 a2_6 a3_0 a3_1 a3_2 a3_3 a3_4 a3_5 a3_6).bind fun t156 => (if t156 = true then ((item_Item_Due.f kj75 a1_0 a1_1 a1_2 a1_3 a1_4 a1_5 a1_6 a3_0 a3_1 a3_2 a3_3 a3_4 a3_5 a3_6).bind fun t157 => (some (!(!t157)))) else (some (!false)))) = some r := by rw [if_pos rfl] at H; exact H
        clear H
        have H := H1
        clear H1
        replace H := Option.bind_eq_some_iff.mp H
        obtain ⟨t156, A1750, H⟩ := H
        replace H : (if t156 = true then ((item_Item_Due.f kj75 a1_0 a1_1 a1_2 a1_3 a1_4 a1_5 a1_6 a3_0 a3_1 a3_2 a3_3 a3_4 a3_5 a3_6).bind fun t157 => (some (!(!t157)))) else (some (!false))) = some r := H
        have A175 := Aside0.mk A1750
        clear A1750
        by_cases c176 : t156 = true
        ·subst c176
         have H1 : ((item_Item_Due.f kj75 a1_0 a1_1 a1_2 a1_3 a1_4 a1_5 a1_6 a3_0 a3_1 a3_2 a3_3 a3_4 a3_5 a3_6).bind fun t157 => (some (!(!t157)))) = some r := by rw [if_pos rfl] at H; exact H
         clear H
         have H := H1
         clear H1
         replace H := Option.bind_eq_some_iff.mp H
         obtain ⟨t157, A1770, H⟩ := H
         replace H : (some (!(!t157))) = some r := H
         have A177 := Aside0.mk A1770
         clear A1770
         obtain rfl := Option.some.inj H
         have hnb178 := NB136_137.out
         have hnc178 := NB137_136.out
         have hnb179 := NB136_138.out
         have hnc179 := NB138_136.out
         have hcz180_0 : wc.cell? ⟨gb136, 0, none⟩ = some (.int .u64 a1_0) := bc BK136 0
         have hcz180_1 : wc.cell? ⟨gb136, 1, none⟩ = some (.int .u32 a1_1) := bc BK136 1
         have hcz180_2 : wc.cell? ⟨gb136, 2, none⟩ = some (.int .u32 a1_2) := bc BK136 2
         have hcz180_3 : wc.cell? ⟨gb136, 3, none⟩ = some (.int .i64 a1_3) := bc BK136 3
         have hcz180_4 : wc.cell? ⟨gb136, 4, none⟩ = some (.int .u64 a1_4) := bc BK136 4
         have hcz180_5 : wc.cell? ⟨gb136, 5, none⟩ = some (.int .u32 a1_5) := bc BK136 5
         have hcz180_6 : wc.cell? ⟨gb136, 6, none⟩ = some (.int .u32 a1_6) := bc BK136 6
         have hfz180_0 := blk_frozen BK136.out 0
         have hfz180_1 := blk_frozen BK136.out 1
         have hfz180_2 := blk_frozen BK136.out 2
         have hfz180_3 := blk_frozen BK136.out 3
         have hfz180_4 := blk_frozen BK136.out 4
         have hfz180_5 := blk_frozen BK136.out 5
         have hfz180_6 := blk_frozen BK136.out 6
         have hnb181 := NB137_138.out
         have hnc181 := NB138_137.out
         have hcz182_0 : wc.cell? ⟨gb137, 0, none⟩ = some (.int .u64 a2_0) := bc BK137 0
         have hcz182_1 : wc.cell? ⟨gb137, 1, none⟩ = some (.int .u32 a2_1) := bc BK137 1
         have hcz182_2 : wc.cell? ⟨gb137, 2, none⟩ = some (.int .u32 a2_2) := bc BK137 2
         have hcz182_3 : wc.cell? ⟨gb137, 3, none⟩ = some (.int .i64 a2_3) := bc BK137 3
         have hcz182_4 : wc.cell? ⟨gb137, 4, none⟩ = some (.int .u64 a2_4) := bc BK137 4
         have hcz182_5 : wc.cell? ⟨gb137, 5, none⟩ = some (.int .u32 a2_5) := bc BK137 5
         have hcz182_6 : wc.cell? ⟨gb137, 6, none⟩ = some (.int .u32 a2_6) := bc BK137 6
         have hfz182_0 := blk_frozen BK137.out 0
         have hfz182_1 := blk_frozen BK137.out 1
         have hfz182_2 := blk_frozen BK137.out 2
         have hfz182_3 := blk_frozen BK137.out 3
         have hfz182_4 := blk_frozen BK137.out 4
         have hfz182_5 := blk_frozen BK137.out 5
         have hfz182_6 := blk_frozen BK137.out 6
         go_wp2_with (first | ((with_reducible refine gate_callee (f := 8) rfl ?_); refine goesL_ (some 76) rfl rfl Try.func8 (by kernel_rfl) rfl #[.agg #[.int .u64 a1_0, .int .u32 a1_1, .int .u32 a1_2, .int .i64 a1_3, .int .u64 a1_4, .int .u32 a1_5, .int .u32 a1_6], .agg #[.int .u64 a2_0, .int .u32 a2_1, .int .u32 a2_2, .int .i64 a2_3, .int .u64 a2_4, .int .u32 a2_5, .int .u32 a2_6]] rfl argt ?_; (with_reducible refine (item_Item_Ahead.calls kj75 a1_0 a1_1 a1_2 a1_3 a1_4 a1_5 a1_6 a2_0 a2_1 a2_2 a2_3 a2_4 a2_5 a2_6 true _ A108.out).mono ?_); rintro e w183 ⟨rfl, hb⟩; refine ⟨_, rfl, ?_⟩; replace BK136 := blkb BK136 hb; replace BK137 := blkb BK137 hb; replace BK138 := blkb BK138 hb; replace HB := belb HB hb; (try clear hb); (try clear hb2); (try clear hk); (try clear hi); have hcz184_0 : w183.cell? ⟨gb137, 0, none⟩ = some (.int .u64 a2_0) := bc BK137 0; have hcz184_1 : w183.cell? ⟨gb137, 1, none⟩ = some (.int .u32 a2_1) := bc BK137 1; have hcz184_2 : w183.cell? ⟨gb137, 2, none⟩ = some (.int .u32 a2_2) := bc BK137 2; have hcz184_3 : w183.cell? ⟨gb137, 3, none⟩ = some (.int .i64 a2_3) := bc BK137 3; have hcz184_4 : w183.cell? ⟨gb137, 4, none⟩ = some (.int .u64 a2_4) := bc BK137 4; have hcz184_5 : w183.cell? ⟨gb137, 5, none⟩ = some (.int .u32 a2_5) := bc BK137 5; have hcz184_6 : w183.cell? ⟨gb137, 6, none⟩ = some (.int .u32 a2_6) := bc BK137 6; have hfz184_0 := blk_frozen BK137.out 0; have hfz184_1 := blk_frozen BK137.out 1; have hfz184_2 := blk_frozen BK137.out 2; have hfz184_3 := blk_frozen BK137.out 3; have hfz184_4 := blk_frozen BK137.out 4; have hfz184_5 := blk_frozen BK137.out 5; have hfz184_6 := blk_frozen BK137.out 6; have hcz185_0 : w183.cell? ⟨gb138, 0, none⟩ = some (.int .u64 a3_0) := bc BK138 0; have hcz185_1 : w183.cell? ⟨gb138, 1, none⟩ = some (.int .u32 a3_1) := bc BK138 1; have hcz185_2 : w183.cell? ⟨gb138, 2, none⟩ = some (.int .u32 a3_2) := bc BK138 2; have hcz185_3 : w183.cell? ⟨gb138, 3, none⟩ = some (.int .i64 a3_3) := bc BK138 3; have hcz185_4 : w183.cell? ⟨gb138, 4, none⟩ = some (.int .u64 a3_4) := bc BK138 4; have hcz185_5 : w183.cell? ⟨gb138, 5, none⟩ = some (.int .u32 a3_5) := bc BK138 5; have hcz185_6 : w183.cell? ⟨gb138, 6, none⟩ = some (.int .u32 a3_6) := bc BK138 6; have hfz185_0 := blk_frozen BK138.out 0; have hfz185_1 := blk_frozen BK138.out 1; have hfz185_2 := blk_frozen BK138.out 2; have hfz185_3 := blk_frozen BK138.out 3; have hfz185_4 := blk_frozen BK138.out 4; have hfz185_5 := blk_frozen BK138.out 5; have hfz185_6 := blk_frozen BK138.out 6) | (go_at_call 8; (with_reducible refine (item_Item_Ahead.calls kj75 a2_0 a2_1 a2_2 a2_3 a2_4 a2_5 a2_6 a3_0 a3_1 a3_2 a3_3 a3_4 a3_5 a3_6 false _ A110.out).mono ?_); rintro e w186 ⟨rfl, hb⟩; replace BK136 := blkb BK136 hb; replace BK137 := blkb BK137 hb; replace BK138 := blkb BK138 hb; replace HB := belb HB hb; (try clear hb); (try clear hb2); (try clear hk); (try clear hi); have hcz187_0 : w186.cell? ⟨gb136, 0, none⟩ = some (.int .u64 a1_0) := bc BK136 0; have hcz187_1 : w186.cell? ⟨gb136, 1, none⟩ = some (.int .u32 a1_1) := bc BK136 1; have hcz187_2 : w186.cell? ⟨gb136, 2, none⟩ = some (.int .u32 a1_2) := bc BK136 2; have hcz187_3 : w186.cell? ⟨gb136, 3, none⟩ = some (.int .i64 a1_3) := bc BK136 3; have hcz187_4 : w186.cell? ⟨gb136, 4, none⟩ = some (.int .u64 a1_4) := bc BK136 4; have hcz187_5 : w186.cell? ⟨gb136, 5, none⟩ = some (.int .u32 a1_5) := bc BK136 5; have hcz187_6 : w186.cell? ⟨gb136, 6, none⟩ = some (.int .u32 a1_6) := bc BK136 6; have hfz187_0 := blk_frozen BK136.out 0; have hfz187_1 := blk_frozen BK136.out 1; have hfz187_2 := blk_frozen BK136.out 2; have hfz187_3 := blk_frozen BK136.out 3; have hfz187_4 := blk_frozen BK136.out 4; have hfz187_5 := blk_frozen BK136.out 5; have hfz187_6 := blk_frozen BK136.out 6; have hcz188_0 : w186.cell? ⟨gb137, 0, none⟩ = some (.int .u64 a2_0) := bc BK137 0; have hcz188_1 : w186.cell? ⟨gb137, 1, none⟩ = some (.int .u32 a2_1) := bc BK137 1; have hcz188_2 : w186.cell? ⟨gb137, 2, none⟩ = some (.int .u32 a2_2) := bc BK137 2; have hcz188_3 : w186.cell? ⟨gb137, 3, none⟩ = some (.int .i64 a2_3) := bc BK137 3; have hcz188_4 : w186.cell? ⟨gb137, 4, none⟩ = some (.int .u64 a2_4) := bc BK137 4; have hcz188_5 : w186.cell? ⟨gb137, 5, none⟩ = some (.int .u32 a2_5) := bc BK137 5; have hcz188_6 : w186.cell? ⟨gb137, 6, none⟩ = some (.int .u32 a2_6) := bc BK137 6; have hfz188_0 := blk_frozen BK137.out 0; have hfz188_1 := blk_frozen BK137.out 1; have hfz188_2 := blk_frozen BK137.out 2; have hfz188_3 := blk_frozen BK137.out 3; have hfz188_4 := blk_frozen BK137.out 4; have hfz188_5 := blk_frozen BK137.out 5; have hfz188_6 := blk_frozen BK137.out 6) | (go_at_call 9; (with_reducible refine (item_Item_Due.calls kj75 a1_0 a1_1 a1_2 a1_3 a1_4 a1_5 a1_6 a2_0 a2_1 a2_2 a2_3 a2_4 a2_5 a2_6 true _ A173.out).mono ?_); rintro e w189 ⟨rfl, hb⟩; replace BK136 := blkb BK136 hb; replace BK137 := blkb BK137 hb; replace BK138 := blkb BK138 hb; replace HB := belb HB hb; (try clear hb); (try clear hb2); (try clear hk); (try clear hi); have hcz190_0 : w189.cell? ⟨gb137, 0, none⟩ = some (.int .u64 a2_0) := bc BK137 0; have hcz190_1 : w189.cell? ⟨gb137, 1, none⟩ = some (.int .u32 a2_1) := bc BK137 1; have hcz190_2 : w189.cell? ⟨gb137, 2, none⟩ = some (.int .u32 a2_2) := bc BK137 2; have hcz190_3 : w189.cell? ⟨gb137, 3, none⟩ = some (.int .i64 a2_3) := bc BK137 3; have hcz190_4 : w189.cell? ⟨gb137, 4, none⟩ = some (.int .u64 a2_4) := bc BK137 4; have hcz190_5 : w189.cell? ⟨gb137, 5, none⟩ = some (.int .u32 a2_5) := bc BK137 5; have hcz190_6 : w189.cell? ⟨gb137, 6, none⟩ = some (.int .u32 a2_6) := bc BK137 6; have hfz190_0 := blk_frozen BK137.out 0; have hfz190_1 := blk_frozen BK137.out 1; have hfz190_2 := blk_frozen BK137.out 2; have hfz190_3 := blk_frozen BK137.out 3; have hfz190_4 := blk_frozen BK137.out 4; have hfz190_5 := blk_frozen BK137.out 5; have hfz190_6 := blk_frozen BK137.out 6; have hcz191_0 : w189.cell? ⟨gb138, 0, none⟩ = some (.int .u64 a3_0) := bc BK138 0; have hcz191_1 : w189.cell? ⟨gb138, 1, none⟩ = some (.int .u32 a3_1) := bc BK138 1; have hcz191_2 : w189.cell? ⟨gb138, 2, none⟩ = some (.int .u32 a3_2) := bc BK138 2; have hcz191_3 : w189.cell? ⟨gb138, 3, none⟩ = some (.int .i64 a3_3) := bc BK138 3; have hcz191_4 : w189.cell? ⟨gb138, 4, none⟩ = some (.int .u64 a3_4) := bc BK138 4; have hcz191_5 : w189.cell? ⟨gb138, 5, none⟩ = some (.int .u32 a3_5) := bc BK138 5; have hcz191_6 : w189.cell? ⟨gb138, 6, none⟩ = some (.int .u32 a3_6) := bc BK138 6; have hfz191_0 := blk_frozen BK138.out 0; have hfz191_1 := blk_frozen BK138.out 1; have hfz191_2 := blk_frozen BK138.out 2; have hfz191_3 := blk_frozen BK138.out 3; have hfz191_4 := blk_frozen BK138.out 4; have hfz191_5 := blk_frozen BK138.out 5; have hfz191_6 := blk_frozen BK138.out 6) | (go_at_call 9; (with_reducible refine (item_Item_Due.calls kj75 a2_0 a2_1 a2_2 a2_3 a2_4 a2_5 a2_6 a3_0 a3_1 a3_2 a3_3 a3_4 a3_5 a3_6 true _ A175.out).mono ?_); rintro e w192 ⟨rfl, hb⟩; replace BK136 := blkb BK136 hb; replace BK137 := blkb BK137 hb; replace BK138 := blkb BK138 hb; replace HB := belb HB hb; (try clear hb); (try clear hb2); (try clear hk); (try clear hi); have hcz193_0 : w192.cell? ⟨gb136, 0, none⟩ = some (.int .u64 a1_0) := bc BK136 0; have hcz193_1 : w192.cell? ⟨gb136, 1, none⟩ = some (.int .u32 a1_1) := bc BK136 1; have hcz193_2 : w192.cell? ⟨gb136, 2, none⟩ = some (.int .u32 a1_2) := bc BK136 2; have hcz193_3 : w192.cell? ⟨gb136, 3, none⟩ = some (.int .i64 a1_3) := bc BK136 3; have hcz193_4 : w192.cell? ⟨gb136, 4, none⟩ = some (.int .u64 a1_4) := bc BK136 4; have hcz193_5 : w192.cell? ⟨gb136, 5, none⟩ = some (.int .u32 a1_5) := bc BK136 5; have hcz193_6 : w192.cell? ⟨gb136, 6, none⟩ = some (.int .u32 a1_6) := bc BK136 6; have hfz193_0 := blk_frozen BK136.out 0; have hfz193_1 := blk_frozen BK136.out 1; have hfz193_2 := blk_frozen BK136.out 2; have hfz193_3 := blk_frozen BK136.out 3; have hfz193_4 := blk_frozen BK136.out 4; have hfz193_5 := blk_frozen BK136.out 5; have hfz193_6 := blk_frozen BK136.out 6; have hcz194_0 : w192.cell? ⟨gb138, 0, none⟩ = some (.int .u64 a3_0) := bc BK138 0; have hcz194_1 : w192.cell? ⟨gb138, 1, none⟩ = some (.int .u32 a3_1) := bc BK138 1; have hcz194_2 : w192.cell? ⟨gb138, 2, none⟩ = some (.int .u32 a3_2) := bc BK138 2; have hcz194_3 : w192.cell? ⟨gb138, 3, none⟩ = some (.int .i64 a3_3) := bc BK138 3; have hcz194_4 : w192.cell? ⟨gb138, 4, none⟩ = some (.int .u64 a3_4) := bc BK138 4; have hcz194_5 : w192.cell? ⟨gb138, 5, none⟩ = some (.int .u32 a3_5) := bc BK138 5; have hcz194_6 : w192.cell? ⟨gb138, 6, none⟩ = some (.int .u32 a3_6) := bc BK138 6; have hfz194_0 := blk_frozen BK138.out 0; have hfz194_1 := blk_frozen BK138.out 1; have hfz194_2 := blk_frozen BK138.out 2; have hfz194_3 := blk_frozen BK138.out 3; have hfz194_4 := blk_frozen BK138.out 4; have hfz194_5 := blk_frozen BK138.out 5; have hfz194_6 := blk_frozen BK138.out 6) | (go_at_call 9; (with_reducible refine (item_Item_Due.calls kj75 a1_0 a1_1 a1_2 a1_3 a1_4 a1_5 a1_6 a3_0 a3_1 a3_2 a3_3 a3_4 a3_5 a3_6 t157 _ A177.out).mono ?_); rintro e w195 ⟨rfl, hb⟩; replace BK136 := blkb BK136 hb; replace BK137 := blkb BK137 hb; replace BK138 := blkb BK138 hb; replace HB := belb HB hb; (try clear hb); (try clear hb2); (try clear hk); (try clear hi)))
         go_ret
         exact ⟨by first | rfl | (simp [errW_none, errW_some] <;> rfl) | (simp [*, errW_none, errW_some] <;> rfl), belt HB⟩
        replace c176 := Bool.eq_false_iff.mpr c176
        subst c176
        have H1 : (some (!false)) = some r := by rw [if_neg (show ¬ (false = true) by decide)] at H; exact H
        clear H
        have H := H1
        clear H1
        obtain rfl := Option.some.inj H
        have hnb196 := NB136_137.out
        have hnc196 := NB137_136.out
        have hnb197 := NB136_138.out
        have hnc197 := NB138_136.out
        have hcz198_0 : wc.cell? ⟨gb136, 0, none⟩ = some (.int .u64 a1_0) := bc BK136 0
        have hcz198_1 : wc.cell? ⟨gb136, 1, none⟩ = some (.int .u32 a1_1) := bc BK136 1
        have hcz198_2 : wc.cell? ⟨gb136, 2, none⟩ = some (.int .u32 a1_2) := bc BK136 2
        have hcz198_3 : wc.cell? ⟨gb136, 3, none⟩ = some (.int .i64 a1_3) := bc BK136 3
        have hcz198_4 : wc.cell? ⟨gb136, 4, none⟩ = some (.int .u64 a1_4) := bc BK136 4
        have hcz198_5 : wc.cell? ⟨gb136, 5, none⟩ = some (.int .u32 a1_5) := bc BK136 5
        have hcz198_6 : wc.cell? ⟨gb136, 6, none⟩ = some (.int .u32 a1_6) := bc BK136 6
        have hfz198_0 := blk_frozen BK136.out 0
        have hfz198_1 := blk_frozen BK136.out 1
        have hfz198_2 := blk_frozen BK136.out 2
        have hfz198_3 := blk_frozen BK136.out 3
        have hfz198_4 := blk_frozen BK136.out 4
        have hfz198_5 := blk_frozen BK136.out 5
        have hfz198_6 := blk_frozen BK136.out 6
        have hnb199 := NB137_138.out
        have hnc199 := NB138_137.out
        have hcz200_0 : wc.cell? ⟨gb137, 0, none⟩ = some (.int .u64 a2_0) := bc BK137 0
        have hcz200_1 : wc.cell? ⟨gb137, 1, none⟩ = some (.int .u32 a2_1) := bc BK137 1
        have hcz200_2 : wc.cell? ⟨gb137, 2, none⟩ = some (.int .u32 a2_2) := bc BK137 2
        have hcz200_3 : wc.cell? ⟨gb137, 3, none⟩ = some (.int .i64 a2_3) := bc BK137 3
        have hcz200_4 : wc.cell? ⟨gb137, 4, none⟩ = some (.int .u64 a2_4) := bc BK137 4
        have hcz200_5 : wc.cell? ⟨gb137, 5, none⟩ = some (.int .u32 a2_5) := bc BK137 5
        have hcz200_6 : wc.cell? ⟨gb137, 6, none⟩ = some (.int .u32 a2_6) := bc BK137 6
        have hfz200_0 := blk_frozen BK137.out 0
        have hfz200_1 := blk_frozen BK137.out 1
        have hfz200_2 := blk_frozen BK137.out 2
        have hfz200_3 := blk_frozen BK137.out 3
        have hfz200_4 := blk_frozen BK137.out 4
        have hfz200_5 := blk_frozen BK137.out 5
        have hfz200_6 := blk_frozen BK137.out 6
        go_wp2_with (first | ((with_reducible refine gate_callee (f := 8) rfl ?_); refine goesL_ (some 76) rfl rfl Try.func8 (by kernel_rfl) rfl #[.agg #[.int .u64 a1_0, .int .u32 a1_1, .int .u32 a1_2, .int .i64 a1_3, .int .u64 a1_4, .int .u32 a1_5, .int .u32 a1_6], .agg #[.int .u64 a2_0, .int .u32 a2_1, .int .u32 a2_2, .int .i64 a2_3, .int .u64 a2_4, .int .u32 a2_5, .int .u32 a2_6]] rfl argt ?_; (with_reducible refine (item_Item_Ahead.calls kj75 a1_0 a1_1 a1_2 a1_3 a1_4 a1_5 a1_6 a2_0 a2_1 a2_2 a2_3 a2_4 a2_5 a2_6 true _ A108.out).mono ?_); rintro e w201 ⟨rfl, hb⟩; refine ⟨_, rfl, ?_⟩; replace BK136 := blkb BK136 hb; replace BK137 := blkb BK137 hb; replace BK138 := blkb BK138 hb; replace HB := belb HB hb; (try clear hb); (try clear hb2); (try clear hk); (try clear hi); have hcz202_0 : w201.cell? ⟨gb137, 0, none⟩ = some (.int .u64 a2_0) := bc BK137 0; have hcz202_1 : w201.cell? ⟨gb137, 1, none⟩ = some (.int .u32 a2_1) := bc BK137 1; have hcz202_2 : w201.cell? ⟨gb137, 2, none⟩ = some (.int .u32 a2_2) := bc BK137 2; have hcz202_3 : w201.cell? ⟨gb137, 3, none⟩ = some (.int .i64 a2_3) := bc BK137 3; have hcz202_4 : w201.cell? ⟨gb137, 4, none⟩ = some (.int .u64 a2_4) := bc BK137 4; have hcz202_5 : w201.cell? ⟨gb137, 5, none⟩ = some (.int .u32 a2_5) := bc BK137 5; have hcz202_6 : w201.cell? ⟨gb137, 6, none⟩ = some (.int .u32 a2_6) := bc BK137 6; have hfz202_0 := blk_frozen BK137.out 0; have hfz202_1 := blk_frozen BK137.out 1; have hfz202_2 := blk_frozen BK137.out 2; have hfz202_3 := blk_frozen BK137.out 3; have hfz202_4 := blk_frozen BK137.out 4; have hfz202_5 := blk_frozen BK137.out 5; have hfz202_6 := blk_frozen BK137.out 6; have hcz203_0 : w201.cell? ⟨gb138, 0, none⟩ = some (.int .u64 a3_0) := bc BK138 0; have hcz203_1 : w201.cell? ⟨gb138, 1, none⟩ = some (.int .u32 a3_1) := bc BK138 1; have hcz203_2 : w201.cell? ⟨gb138, 2, none⟩ = some (.int .u32 a3_2) := bc BK138 2; have hcz203_3 : w201.cell? ⟨gb138, 3, none⟩ = some (.int .i64 a3_3) := bc BK138 3; have hcz203_4 : w201.cell? ⟨gb138, 4, none⟩ = some (.int .u64 a3_4) := bc BK138 4; have hcz203_5 : w201.cell? ⟨gb138, 5, none⟩ = some (.int .u32 a3_5) := bc BK138 5; have hcz203_6 : w201.cell? ⟨gb138, 6, none⟩ = some (.int .u32 a3_6) := bc BK138 6; have hfz203_0 := blk_frozen BK138.out 0; have hfz203_1 := blk_frozen BK138.out 1; have hfz203_2 := blk_frozen BK138.out 2; have hfz203_3 := blk_frozen BK138.out 3; have hfz203_4 := blk_frozen BK138.out 4; have hfz203_5 := blk_frozen BK138.out 5; have hfz203_6 := blk_frozen BK138.out 6) | (go_at_call 8; (with_reducible refine (item_Item_Ahead.calls kj75 a2_0 a2_1 a2_2 a2_3 a2_4 a2_5 a2_6 a3_0 a3_1 a3_2 a3_3 a3_4 a3_5 a3_6 false _ A110.out).mono ?_); rintro e w204 ⟨rfl, hb⟩; replace BK136 := blkb BK136 hb; replace BK137 := blkb BK137 hb; replace BK138 := blkb BK138 hb; replace HB := belb HB hb; (try clear hb); (try clear hb2); (try clear hk); (try clear hi); have hcz205_0 : w204.cell? ⟨gb136, 0, none⟩ = some (.int .u64 a1_0) := bc BK136 0; have hcz205_1 : w204.cell? ⟨gb136, 1, none⟩ = some (.int .u32 a1_1) := bc BK136 1; have hcz205_2 : w204.cell? ⟨gb136, 2, none⟩ = some (.int .u32 a1_2) := bc BK136 2; have hcz205_3 : w204.cell? ⟨gb136, 3, none⟩ = some (.int .i64 a1_3) := bc BK136 3; have hcz205_4 : w204.cell? ⟨gb136, 4, none⟩ = some (.int .u64 a1_4) := bc BK136 4; have hcz205_5 : w204.cell? ⟨gb136, 5, none⟩ = some (.int .u32 a1_5) := bc BK136 5; have hcz205_6 : w204.cell? ⟨gb136, 6, none⟩ = some (.int .u32 a1_6) := bc BK136 6; have hfz205_0 := blk_frozen BK136.out 0; have hfz205_1 := blk_frozen BK136.out 1; have hfz205_2 := blk_frozen BK136.out 2; have hfz205_3 := blk_frozen BK136.out 3; have hfz205_4 := blk_frozen BK136.out 4; have hfz205_5 := blk_frozen BK136.out 5; have hfz205_6 := blk_frozen BK136.out 6; have hcz206_0 : w204.cell? ⟨gb137, 0, none⟩ = some (.int .u64 a2_0) := bc BK137 0; have hcz206_1 : w204.cell? ⟨gb137, 1, none⟩ = some (.int .u32 a2_1) := bc BK137 1; have hcz206_2 : w204.cell? ⟨gb137, 2, none⟩ = some (.int .u32 a2_2) := bc BK137 2; have hcz206_3 : w204.cell? ⟨gb137, 3, none⟩ = some (.int .i64 a2_3) := bc BK137 3; have hcz206_4 : w204.cell? ⟨gb137, 4, none⟩ = some (.int .u64 a2_4) := bc BK137 4; have hcz206_5 : w204.cell? ⟨gb137, 5, none⟩ = some (.int .u32 a2_5) := bc BK137 5; have hcz206_6 : w204.cell? ⟨gb137, 6, none⟩ = some (.int .u32 a2_6) := bc BK137 6; have hfz206_0 := blk_frozen BK137.out 0; have hfz206_1 := blk_frozen BK137.out 1; have hfz206_2 := blk_frozen BK137.out 2; have hfz206_3 := blk_frozen BK137.out 3; have hfz206_4 := blk_frozen BK137.out 4; have hfz206_5 := blk_frozen BK137.out 5; have hfz206_6 := blk_frozen BK137.out 6) | (go_at_call 9; (with_reducible refine (item_Item_Due.calls kj75 a1_0 a1_1 a1_2 a1_3 a1_4 a1_5 a1_6 a2_0 a2_1 a2_2 a2_3 a2_4 a2_5 a2_6 true _ A173.out).mono ?_); rintro e w207 ⟨rfl, hb⟩; replace BK136 := blkb BK136 hb; replace BK137 := blkb BK137 hb; replace BK138 := blkb BK138 hb; replace HB := belb HB hb; (try clear hb); (try clear hb2); (try clear hk); (try clear hi); have hcz208_0 : w207.cell? ⟨gb137, 0, none⟩ = some (.int .u64 a2_0) := bc BK137 0; have hcz208_1 : w207.cell? ⟨gb137, 1, none⟩ = some (.int .u32 a2_1) := bc BK137 1; have hcz208_2 : w207.cell? ⟨gb137, 2, none⟩ = some (.int .u32 a2_2) := bc BK137 2; have hcz208_3 : w207.cell? ⟨gb137, 3, none⟩ = some (.int .i64 a2_3) := bc BK137 3; have hcz208_4 : w207.cell? ⟨gb137, 4, none⟩ = some (.int .u64 a2_4) := bc BK137 4; have hcz208_5 : w207.cell? ⟨gb137, 5, none⟩ = some (.int .u32 a2_5) := bc BK137 5; have hcz208_6 : w207.cell? ⟨gb137, 6, none⟩ = some (.int .u32 a2_6) := bc BK137 6; have hfz208_0 := blk_frozen BK137.out 0; have hfz208_1 := blk_frozen BK137.out 1; have hfz208_2 := blk_frozen BK137.out 2; have hfz208_3 := blk_frozen BK137.out 3; have hfz208_4 := blk_frozen BK137.out 4; have hfz208_5 := blk_frozen BK137.out 5; have hfz208_6 := blk_frozen BK137.out 6; have hcz209_0 : w207.cell? ⟨gb138, 0, none⟩ = some (.int .u64 a3_0) := bc BK138 0; have hcz209_1 : w207.cell? ⟨gb138, 1, none⟩ = some (.int .u32 a3_1) := bc BK138 1; have hcz209_2 : w207.cell? ⟨gb138, 2, none⟩ = some (.int .u32 a3_2) := bc BK138 2; have hcz209_3 : w207.cell? ⟨gb138, 3, none⟩ = some (.int .i64 a3_3) := bc BK138 3; have hcz209_4 : w207.cell? ⟨gb138, 4, none⟩ = some (.int .u64 a3_4) := bc BK138 4; have hcz209_5 : w207.cell? ⟨gb138, 5, none⟩ = some (.int .u32 a3_5) := bc BK138 5; have hcz209_6 : w207.cell? ⟨gb138, 6, none⟩ = some (.int .u32 a3_6) := bc BK138 6; have hfz209_0 := blk_frozen BK138.out 0; have hfz209_1 := blk_frozen BK138.out 1; have hfz209_2 := blk_frozen BK138.out 2; have hfz209_3 := blk_frozen BK138.out 3; have hfz209_4 := blk_frozen BK138.out 4; have hfz209_5 := blk_frozen BK138.out 5; have hfz209_6 := blk_frozen BK138.out 6) | (go_at_call 9; (with_reducible refine (item_Item_Due.calls kj75 a2_0 a2_1 a2_2 a2_3 a2_4 a2_5 a2_6 a3_0 a3_1 a3_2 a3_3 a3_4 a3_5 a3_6 false _ A175.out).mono ?_); rintro e w210 ⟨rfl, hb⟩; replace BK136 := blkb BK136 hb; replace BK137 := blkb BK137 hb; replace BK138 := blkb BK138 hb; replace HB := belb HB hb; (try clear hb); (try clear hb2); (try clear hk); (try clear hi)))
        go_ret
        exact ⟨by first | rfl | (simp [errW_none, errW_some] <;> rfl) | (simp [*, errW_none, errW_some] <;> rfl), belt HB⟩
       replace c174 := Bool.eq_false_iff.mpr c174
       subst c174
       have H1 : (some (!false)) = some r := by rw [if_neg (show ¬ (false = true) by decide)] at H; exact H
       clear H
       have H := H1
       clear H1
       obtain rfl := Option.some.inj H
       have hnb211 := NB136_137.out
       have hnc211 := NB137_136.out
       have hnb212 := NB136_138.out
       have hnc212 := NB138_136.out
       have hcz213_0 : wc.cell? ⟨gb136, 0, none⟩ = some (.int .u64 a1_0) := bc BK136 0
       have hcz213_1 : wc.cell? ⟨gb136, 1, none⟩ = some (.int .u32 a1_1) := bc BK136 1
       have hcz213_2 : wc.cell? ⟨gb136, 2, none⟩ = some (.int .u32 a1_2) := bc BK136 2
       have hcz213_3 : wc.cell? ⟨gb136, 3, none⟩ = some (.int .i64 a1_3) := bc BK136 3
       have hcz213_4 : wc.cell? ⟨gb136, 4, none⟩ = some (.int .u64 a1_4) := bc BK136 4
       have hcz213_5 : wc.cell? ⟨gb136, 5, none⟩ = some (.int .u32 a1_5) := bc BK136 5
       have hcz213_6 : wc.cell? ⟨gb136, 6, none⟩ = some (.int .u32 a1_6) := bc BK136 6
       have hfz213_0 := blk_frozen BK136.out 0
       have hfz213_1 := blk_frozen BK136.out 1
       have hfz213_2 := blk_frozen BK136.out 2
       have hfz213_3 := blk_frozen BK136.out 3
       have hfz213_4 := blk_frozen BK136.out 4
       have hfz213_5 := blk_frozen BK136.out 5
       have hfz213_6 := blk_frozen BK136.out 6
       have hnb214 := NB137_138.out
       have hnc214 := NB138_137.out
       have hcz215_0 : wc.cell? ⟨gb137, 0, none⟩ = some (.int .u64 a2_0) := bc BK137 0
       have hcz215_1 : wc.cell? ⟨gb137, 1, none⟩ = some (.int .u32 a2_1) := bc BK137 1
       have hcz215_2 : wc.cell? ⟨gb137, 2, none⟩ = some (.int .u32 a2_2) := bc BK137 2
       have hcz215_3 : wc.cell? ⟨gb137, 3, none⟩ = some (.int .i64 a2_3) := bc BK137 3
       have hcz215_4 : wc.cell? ⟨gb137, 4, none⟩ = some (.int .u64 a2_4) := bc BK137 4
       have hcz215_5 : wc.cell? ⟨gb137, 5, none⟩ = some (.int .u32 a2_5) := bc BK137 5
       have hcz215_6 : wc.cell? ⟨gb137, 6, none⟩ = some (.int .u32 a2_6) := bc BK137 6
       have hfz215_0 := blk_frozen BK137.out 0
       have hfz215_1 := blk_frozen BK137.out 1
       have hfz215_2 := blk_frozen BK137.out 2
       have hfz215_3 := blk_frozen BK137.out 3
       have hfz215_4 := blk_frozen BK137.out 4
       have hfz215_5 := blk_frozen BK137.out 5
       have hfz215_6 := blk_frozen BK137.out 6
       go_wp2_with (first | ((with_reducible refine gate_callee (f := 8) rfl ?_); refine goesL_ (some 76) rfl rfl Try.func8 (by kernel_rfl) rfl #[.agg #[.int .u64 a1_0, .int .u32 a1_1, .int .u32 a1_2, .int .i64 a1_3, .int .u64 a1_4, .int .u32 a1_5, .int .u32 a1_6], .agg #[.int .u64 a2_0, .int .u32 a2_1, .int .u32 a2_2, .int .i64 a2_3, .int .u64 a2_4, .int .u32 a2_5, .int .u32 a2_6]] rfl argt ?_; (with_reducible refine (item_Item_Ahead.calls kj75 a1_0 a1_1 a1_2 a1_3 a1_4 a1_5 a1_6 a2_0 a2_1 a2_2 a2_3 a2_4 a2_5 a2_6 true _ A108.out).mono ?_); rintro e w216 ⟨rfl, hb⟩; refine ⟨_, rfl, ?_⟩; replace BK136 := blkb BK136 hb; replace BK137 := blkb BK137 hb; replace BK138 := blkb BK138 hb; replace HB := belb HB hb; (try clear hb); (try clear hb2); (try clear hk); (try clear hi); have hcz217_0 : w216.cell? ⟨gb137, 0, none⟩ = some (.int .u64 a2_0) := bc BK137 0; have hcz217_1 : w216.cell? ⟨gb137, 1, none⟩ = some (.int .u32 a2_1) := bc BK137 1; have hcz217_2 : w216.cell? ⟨gb137, 2, none⟩ = some (.int .u32 a2_2) := bc BK137 2; have hcz217_3 : w216.cell? ⟨gb137, 3, none⟩ = some (.int .i64 a2_3) := bc BK137 3; have hcz217_4 : w216.cell? ⟨gb137, 4, none⟩ = some (.int .u64 a2_4) := bc BK137 4; have hcz217_5 : w216.cell? ⟨gb137, 5, none⟩ = some (.int .u32 a2_5) := bc BK137 5; have hcz217_6 : w216.cell? ⟨gb137, 6, none⟩ = some (.int .u32 a2_6) := bc BK137 6; have hfz217_0 := blk_frozen BK137.out 0; have hfz217_1 := blk_frozen BK137.out 1; have hfz217_2 := blk_frozen BK137.out 2; have hfz217_3 := blk_frozen BK137.out 3; have hfz217_4 := blk_frozen BK137.out 4; have hfz217_5 := blk_frozen BK137.out 5; have hfz217_6 := blk_frozen BK137.out 6; have hcz218_0 : w216.cell? ⟨gb138, 0, none⟩ = some (.int .u64 a3_0) := bc BK138 0; have hcz218_1 : w216.cell? ⟨gb138, 1, none⟩ = some (.int .u32 a3_1) := bc BK138 1; have hcz218_2 : w216.cell? ⟨gb138, 2, none⟩ = some (.int .u32 a3_2) := bc BK138 2; have hcz218_3 : w216.cell? ⟨gb138, 3, none⟩ = some (.int .i64 a3_3) := bc BK138 3; have hcz218_4 : w216.cell? ⟨gb138, 4, none⟩ = some (.int .u64 a3_4) := bc BK138 4; have hcz218_5 : w216.cell? ⟨gb138, 5, none⟩ = some (.int .u32 a3_5) := bc BK138 5; have hcz218_6 : w216.cell? ⟨gb138, 6, none⟩ = some (.int .u32 a3_6) := bc BK138 6; have hfz218_0 := blk_frozen BK138.out 0; have hfz218_1 := blk_frozen BK138.out 1; have hfz218_2 := blk_frozen BK138.out 2; have hfz218_3 := blk_frozen BK138.out 3; have hfz218_4 := blk_frozen BK138.out 4; have hfz218_5 := blk_frozen BK138.out 5; have hfz218_6 := blk_frozen BK138.out 6) | (go_at_call 8; (with_reducible refine (item_Item_Ahead.calls kj75 a2_0 a2_1 a2_2 a2_3 a2_4 a2_5 a2_6 a3_0 a3_1 a3_2 a3_3 a3_4 a3_5 a3_6 false _ A110.out).mono ?_); rintro e w219 ⟨rfl, hb⟩; replace BK136 := blkb BK136 hb; replace BK137 := blkb BK137 hb; replace BK138 := blkb BK138 hb; replace HB := belb HB hb; (try clear hb); (try clear hb2); (try clear hk); (try clear hi); have hcz220_0 : w219.cell? ⟨gb136, 0, none⟩ = some (.int .u64 a1_0) := bc BK136 0; have hcz220_1 : w219.cell? ⟨gb136, 1, none⟩ = some (.int .u32 a1_1) := bc BK136 1; have hcz220_2 : w219.cell? ⟨gb136, 2, none⟩ = some (.int .u32 a1_2) := bc BK136 2; have hcz220_3 : w219.cell? ⟨gb136, 3, none⟩ = some (.int .i64 a1_3) := bc BK136 3; have hcz220_4 : w219.cell? ⟨gb136, 4, none⟩ = some (.int .u64 a1_4) := bc BK136 4; have hcz220_5 : w219.cell? ⟨gb136, 5, none⟩ = some (.int .u32 a1_5) := bc BK136 5; have hcz220_6 : w219.cell? ⟨gb136, 6, none⟩ = some (.int .u32 a1_6) := bc BK136 6; have hfz220_0 := blk_frozen BK136.out 0; have hfz220_1 := blk_frozen BK136.out 1; have hfz220_2 := blk_frozen BK136.out 2; have hfz220_3 := blk_frozen BK136.out 3; have hfz220_4 := blk_frozen BK136.out 4; have hfz220_5 := blk_frozen BK136.out 5; have hfz220_6 := blk_frozen BK136.out 6; have hcz221_0 : w219.cell? ⟨gb137, 0, none⟩ = some (.int .u64 a2_0) := bc BK137 0; have hcz221_1 : w219.cell? ⟨gb137, 1, none⟩ = some (.int .u32 a2_1) := bc BK137 1; have hcz221_2 : w219.cell? ⟨gb137, 2, none⟩ = some (.int .u32 a2_2) := bc BK137 2; have hcz221_3 : w219.cell? ⟨gb137, 3, none⟩ = some (.int .i64 a2_3) := bc BK137 3; have hcz221_4 : w219.cell? ⟨gb137, 4, none⟩ = some (.int .u64 a2_4) := bc BK137 4; have hcz221_5 : w219.cell? ⟨gb137, 5, none⟩ = some (.int .u32 a2_5) := bc BK137 5; have hcz221_6 : w219.cell? ⟨gb137, 6, none⟩ = some (.int .u32 a2_6) := bc BK137 6; have hfz221_0 := blk_frozen BK137.out 0; have hfz221_1 := blk_frozen BK137.out 1; have hfz221_2 := blk_frozen BK137.out 2; have hfz221_3 := blk_frozen BK137.out 3; have hfz221_4 := blk_frozen BK137.out 4; have hfz221_5 := blk_frozen BK137.out 5; have hfz221_6 := blk_frozen BK137.out 6) | (go_at_call 9; (with_reducible refine (item_Item_Due.calls kj75 a1_0 a1_1 a1_2 a1_3 a1_4 a1_5 a1_6 a2_0 a2_1 a2_2 a2_3 a2_4 a2_5 a2_6 false _ A173.out).mono ?_); rintro e w222 ⟨rfl, hb⟩; replace BK136 := blkb BK136 hb; replace BK137 := blkb BK137 hb; replace BK138 := blkb BK138 hb; replace HB := belb HB hb; (try clear hb); (try clear hb2); (try clear hk); (try clear hi)))
       go_ret
       exact ⟨by first | rfl | (simp [errW_none, errW_some] <;> rfl) | (simp [*, errW_none, errW_some] <;> rfl), belt HB⟩
      replace c109 := Bool.eq_false_iff.mpr c109
      subst c109
      have H1 : ((item_Item_Due.f kj75 a1_0 a1_1 a1_2 a1_3 a1_4 a1_5 a1_6 a2_0 a2_1 a2_2 a2_3 a2_4 a2_5 a2_6).bind fun t158 => (if t158 = true then ((item_Item_Due.f kj75 a2_0 a2_1 a2_2 a2_3 a2_4 a2_5 a2_6 a3_0 a3_1 a3_2 a3_3 a3_4 a3_5 a3_6).bind fun t159 => (if t159 = true then ((item_Item_Due.f kj75 a1_0 a1_1 a1_2 a1_3 a1_4 a1_5 a1_6 a3_0 a3_1 a3_2 a3_3 a3_4 a3_5 a3_6).bind fun t160 => (some (!(!t160)))) else (some (!false)))) else (some (!false)))) = some r := by rw [if_neg (show ¬ (false = true) by decide)] at H; exact H
      clear H
      have H := H1
      clear H1
      replace H := Option.bind_eq_some_iff.mp H
      obtain ⟨t158, A2230, H⟩ := H
      replace H : (if t158 = true then ((item_Item_Due.f kj75 a2_0 a2_1 a2_2 a2_3 a2_4 a2_5 a2_6 a3_0 a3_1 a3_2 a3_3 a3_4 a3_5 a3_6).bind fun t159 => (if t159 = true then ((item_Item_Due.f kj75 a1_0 a1_1 a1_2 a1_3 a1_4 a1_5 a1_6 a3_0 a3_1 a3_2 a3_3 a3_4 a3_5 a3_6).bind fun t160 => (some (!(!t160)))) else (some (!false)))) else (some (!false))) = some r := H
      have A223 := Aside0.mk A2230
      clear A2230
      by_cases c224 : t158 = true
      ·subst c224
       have H1 : ((item_Item_Due.f kj75 a2_0 a2_1 a2_2 a2_3 a2_4 a2_5 a2_6 a3_0 a3_1 a3_2 a3_3 a3_4 a3_5 a3_6).bind fun t159 => (if t159 = true then ((item_Item_Due.f kj75 a1_0 a1_1 a1_2 a1_3 a1_4 a1_5 a1_6 a3_0 a3_1 a3_2 a3_3 a3_4 a3_5 a3_6).bind fun t160 => (some (!(!t160)))) else (some (!false)))) = some r := by rw [if_pos rfl] at H; exact H
       clear H
       have H := H1
       clear H1
       replace H := Option.bind_eq_some_iff.mp H
       obtain ⟨t159, A2250, H⟩ := H
       replace H : (if t159 = true then ((item_Item_Due.f kj75 a1_0 a1_1 a1_2 a1_3 a1_4 a1_5 a1_6 a3_0 a3_1 a3_2 a3_3 a3_4 a3_5 a3_6).bind fun t160 => (some (!(!t160)))) else (some (!false))) = some r := H
       have A225 := Aside0.mk A2250
       clear A2250
       by_cases c226 : t159 = true
       ·subst c226
        have H1 : ((item_Item_Due.f kj75 a1_0 a1_1 a1_2 a1_3 a1_4 a1_5 a1_6 a3_0 a3_1 a3_2 a3_3 a3_4 a3_5 a3_6).bind fun t160 => (some (!(!t160)))) = some r := by rw [if_pos rfl] at H; exact H
        clear H
        have H := H1
        clear H1
        replace H := Option.bind_eq_some_iff.mp H
        obtain ⟨t160, A2270, H⟩ := H
        replace H : (some (!(!t160))) = some r := H
        have A227 := Aside0.mk A2270
        clear A2270
        obtain rfl := Option.some.inj H
        have hnb228 := NB136_137.out
        have hnc228 := NB137_136.out
        have hnb229 := NB136_138.out
        have hnc229 := NB138_136.out
        have hcz230_0 : wc.cell? ⟨gb136, 0, none⟩ = some (.int .u64 a1_0) := bc BK136 0
        have hcz230_1 : wc.cell? ⟨gb136, 1, none⟩ = some (.int .u32 a1_1) := bc BK136 1
        have hcz230_2 : wc.cell? ⟨gb136, 2, none⟩ = some (.int .u32 a1_2) := bc BK136 2
        have hcz230_3 : wc.cell? ⟨gb136, 3, none⟩ = some (.int .i64 a1_3) := bc BK136 3
        have hcz230_4 : wc.cell? ⟨gb136, 4, none⟩ = some (.int .u64 a1_4) := bc BK136 4
        have hcz230_5 : wc.cell? ⟨gb136, 5, none⟩ = some (.int .u32 a1_5) := bc BK136 5
        have hcz230_6 : wc.cell? ⟨gb136, 6, none⟩ = some (.int .u32 a1_6) := bc BK136 6
        have hfz230_0 := blk_frozen BK136.out 0
        have hfz230_1 := blk_frozen BK136.out 1
        have hfz230_2 := blk_frozen BK136.out 2
        have hfz230_3 := blk_frozen BK136.out 3
        have hfz230_4 := blk_frozen BK136.out 4
        have hfz230_5 := blk_frozen BK136.out 5
        have hfz230_6 := blk_frozen BK136.out 6
        have hnb231 := NB137_138.out
        have hnc231 := NB138_137.out
        have hcz232_0 : wc.cell? ⟨gb137, 0, none⟩ = some (.int .u64 a2_0) := bc BK137 0
        have hcz232_1 : wc.cell? ⟨gb137, 1, none⟩ = some (.int .u32 a2_1) := bc BK137 1
        have hcz232_2 : wc.cell? ⟨gb137, 2, none⟩ = some (.int .u32 a2_2) := bc BK137 2
        have hcz232_3 : wc.cell? ⟨gb137, 3, none⟩ = some (.int .i64 a2_3) := bc BK137 3
        have hcz232_4 : wc.cell? ⟨gb137, 4, none⟩ = some (.int .u64 a2_4) := bc BK137 4
        have hcz232_5 : wc.cell? ⟨gb137, 5, none⟩ = some (.int .u32 a2_5) := bc BK137 5
        have hcz232_6 : wc.cell? ⟨gb137, 6, none⟩ = some (.int .u32 a2_6) := bc BK137 6
        have hfz232_0 := blk_frozen BK137.out 0
        have hfz232_1 := blk_frozen BK137.out 1
        have hfz232_2 := blk_frozen BK137.out 2
        have hfz232_3 := blk_frozen BK137.out 3
        have hfz232_4 := blk_frozen BK137.out 4
        have hfz232_5 := blk_frozen BK137.out 5
        have hfz232_6 := blk_frozen BK137.out 6
        go_wp2_with (first | ((with_reducible refine gate_callee (f := 8) rfl ?_); refine goesL_ (some 76) rfl rfl Try.func8 (by kernel_rfl) rfl #[.agg #[.int .u64 a1_0, .int .u32 a1_1, .int .u32 a1_2, .int .i64 a1_3, .int .u64 a1_4, .int .u32 a1_5, .int .u32 a1_6], .agg #[.int .u64 a2_0, .int .u32 a2_1, .int .u32 a2_2, .int .i64 a2_3, .int .u64 a2_4, .int .u32 a2_5, .int .u32 a2_6]] rfl argt ?_; (with_reducible refine (item_Item_Ahead.calls kj75 a1_0 a1_1 a1_2 a1_3 a1_4 a1_5 a1_6 a2_0 a2_1 a2_2 a2_3 a2_4 a2_5 a2_6 false _ A108.out).mono ?_); rintro e w233 ⟨rfl, hb⟩; refine ⟨_, rfl, ?_⟩; replace BK136 := blkb BK136 hb; replace BK137 := blkb BK137 hb; replace BK138 := blkb BK138 hb; replace HB := belb HB hb; (try clear hb); (try clear hb2); (try clear hk); (try clear hi); have hcz234_0 : w233.cell? ⟨gb136, 0, none⟩ = some (.int .u64 a1_0) := bc BK136 0; have hcz234_1 : w233.cell? ⟨gb136, 1, none⟩ = some (.int .u32 a1_1) := bc BK136 1; have hcz234_2 : w233.cell? ⟨gb136, 2, none⟩ = some (.int .u32 a1_2) := bc BK136 2; have hcz234_3 : w233.cell? ⟨gb136, 3, none⟩ = some (.int .i64 a1_3) := bc BK136 3; have hcz234_4 : w233.cell? ⟨gb136, 4, none⟩ = some (.int .u64 a1_4) := bc BK136 4; have hcz234_5 : w233.cell? ⟨gb136, 5, none⟩ = some (.int .u32 a1_5) := bc BK136 5; have hcz234_6 : w233.cell? ⟨gb136, 6, none⟩ = some (.int .u32 a1_6) := bc BK136 6; have hfz234_0 := blk_frozen BK136.out 0; have hfz234_1 := blk_frozen BK136.out 1; have hfz234_2 := blk_frozen BK136.out 2; have hfz234_3 := blk_frozen BK136.out 3; have hfz234_4 := blk_frozen BK136.out 4; have hfz234_5 := blk_frozen BK136.out 5; have hfz234_6 := blk_frozen BK136.out 6; have hcz235_0 : w233.cell? ⟨gb137, 0, none⟩ = some (.int .u64 a2_0) := bc BK137 0; have hcz235_1 : w233.cell? ⟨gb137, 1, none⟩ = some (.int .u32 a2_1) := bc BK137 1; have hcz235_2 : w233.cell? ⟨gb137, 2, none⟩ = some (.int .u32 a2_2) := bc BK137 2; have hcz235_3 : w233.cell? ⟨gb137, 3, none⟩ = some (.int .i64 a2_3) := bc BK137 3; have hcz235_4 : w233.cell? ⟨gb137, 4, none⟩ = some (.int .u64 a2_4) := bc BK137 4; have hcz235_5 : w233.cell? ⟨gb137, 5, none⟩ = some (.int .u32 a2_5) := bc BK137 5; have hcz235_6 : w233.cell? ⟨gb137, 6, none⟩ = some (.int .u32 a2_6) := bc BK137 6; have hfz235_0 := blk_frozen BK137.out 0; have hfz235_1 := blk_frozen BK137.out 1; have hfz235_2 := blk_frozen BK137.out 2; have hfz235_3 := blk_frozen BK137.out 3; have hfz235_4 := blk_frozen BK137.out 4; have hfz235_5 := blk_frozen BK137.out 5; have hfz235_6 := blk_frozen BK137.out 6) | (go_at_call 9; (with_reducible refine (item_Item_Due.calls kj75 a1_0 a1_1 a1_2 a1_3 a1_4 a1_5 a1_6 a2_0 a2_1 a2_2 a2_3 a2_4 a2_5 a2_6 true _ A223.out).mono ?_); rintro e w236 ⟨rfl, hb⟩; replace BK136 := blkb BK136 hb; replace BK137 := blkb BK137 hb; replace BK138 := blkb BK138 hb; replace HB := belb HB hb; (try clear hb); (try clear hb2); (try clear hk); (try clear hi); have hcz237_0 : w236.cell? ⟨gb137, 0, none⟩ = some (.int .u64 a2_0) := bc BK137 0; have hcz237_1 : w236.cell? ⟨gb137, 1, none⟩ = some (.int .u32 a2_1) := bc BK137 1; have hcz237_2 : w236.cell? ⟨gb137, 2, none⟩ = some (.int .u32 a2_2) := bc BK137 2; have hcz237_3 : w236.cell? ⟨gb137, 3, none⟩ = some (.int .i64 a2_3) := bc BK137 3; have hcz237_4 : w236.cell? ⟨gb137, 4, none⟩ = some (.int .u64 a2_4) := bc BK137 4; have hcz237_5 : w236.cell? ⟨gb137, 5, none⟩ = some (.int .u32 a2_5) := bc BK137 5; have hcz237_6 : w236.cell? ⟨gb137, 6, none⟩ = some (.int .u32 a2_6) := bc BK137 6; have hfz237_0 := blk_frozen BK137.out 0; have hfz237_1 := blk_frozen BK137.out 1; have hfz237_2 := blk_frozen BK137.out 2; have hfz237_3 := blk_frozen BK137.out 3; have hfz237_4 := blk_frozen BK137.out 4; have hfz237_5 := blk_frozen BK137.out 5; have hfz237_6 := blk_frozen BK137.out 6; have hcz238_0 : w236.cell? ⟨gb138, 0, none⟩ = some (.int .u64 a3_0) := bc BK138 0; have hcz238_1 : w236.cell? ⟨gb138, 1, none⟩ = some (.int .u32 a3_1) := bc BK138 1; have hcz238_2 : w236.cell? ⟨gb138, 2, none⟩ = some (.int .u32 a3_2) := bc BK138 2; have hcz238_3 : w236.cell? ⟨gb138, 3, none⟩ = some (.int .i64 a3_3) := bc BK138 3; have hcz238_4 : w236.cell? ⟨gb138, 4, none⟩ = some (.int .u64 a3_4) := bc BK138 4; have hcz238_5 : w236.cell? ⟨gb138, 5, none⟩ = some (.int .u32 a3_5) := bc BK138 5; have hcz238_6 : w236.cell? ⟨gb138, 6, none⟩ = some (.int .u32 a3_6) := bc BK138 6; have hfz238_0 := blk_frozen BK138.out 0; have hfz238_1 := blk_frozen BK138.out 1; have hfz238_2 := blk_frozen BK138.out 2; have hfz238_3 := blk_frozen BK138.out 3; have hfz238_4 := blk_frozen BK138.out 4; have hfz238_5 := blk_frozen BK138.out 5; have hfz238_6 := blk_frozen BK138.out 6) | (go_at_call 9; (with_reducible refine (item_Item_Due.calls kj75 a2_0 a2_1 a2_2 a2_3 a2_4 a2_5 a2_6 a3_0 a3_1 a3_2 a3_3 a3_4 a3_5 a3_6 true _ A225.out).mono ?_); rintro e w239 ⟨rfl, hb⟩; replace BK136 := blkb BK136 hb; replace BK137 := blkb BK137 hb; replace BK138 := blkb BK138 hb; replace HB := belb HB hb; (try clear hb); (try clear hb2); (try clear hk); (try clear hi); have hcz240_0 : w239.cell? ⟨gb136, 0, none⟩ = some (.int .u64 a1_0) := bc BK136 0; have hcz240_1 : w239.cell? ⟨gb136, 1, none⟩ = some (.int .u32 a1_1) := bc BK136 1; have hcz240_2 : w239.cell? ⟨gb136, 2, none⟩ = some (.int .u32 a1_2) := bc BK136 2; have hcz240_3 : w239.cell? ⟨gb136, 3, none⟩ = some (.int .i64 a1_3) := bc BK136 3; have hcz240_4 : w239.cell? ⟨gb136, 4, none⟩ = some (.int .u64 a1_4) := bc BK136 4; have hcz240_5 : w239.cell? ⟨gb136, 5, none⟩ = some (.int .u32 a1_5) := bc BK136 5; have hcz240_6 : w239.cell? ⟨gb136, 6, none⟩ = some (.int .u32 a1_6) := bc BK136 6; have hfz240_0 := blk_frozen BK136.out 0; have hfz240_1 := blk_frozen BK136.out 1; have hfz240_2 := blk_frozen BK136.out 2; have hfz240_3 := blk_frozen BK136.out 3; have hfz240_4 := blk_frozen BK136.out 4; have hfz240_5 := blk_frozen BK136.out 5; have hfz240_6 := blk_frozen BK136.out 6; have hcz241_0 : w239.cell? ⟨gb138, 0, none⟩ = some (.int .u64 a3_0) := bc BK138 0; have hcz241_1 : w239.cell? ⟨gb138, 1, none⟩ = some (.int .u32 a3_1) := bc BK138 1; have hcz241_2 : w239.cell? ⟨gb138, 2, none⟩ = some (.int .u32 a3_2) := bc BK138 2; have hcz241_3 : w239.cell? ⟨gb138, 3, none⟩ = some (.int .i64 a3_3) := bc BK138 3; have hcz241_4 : w239.cell? ⟨gb138, 4, none⟩ = some (.int .u64 a3_4) := bc BK138 4; have hcz241_5 : w239.cell? ⟨gb138, 5, none⟩ = some (.int .u32 a3_5) := bc BK138 5; have hcz241_6 : w239.cell? ⟨gb138, 6, none⟩ = some (.int .u32 a3_6) := bc BK138 6; have hfz241_0 := blk_frozen BK138.out 0; have hfz241_1 := blk_frozen BK138.out 1; have hfz241_2 := blk_frozen BK138.out 2; have hfz241_3 := blk_frozen BK138.out 3; have hfz241_4 := blk_frozen BK138.out 4; have hfz241_5 := blk_frozen BK138.out 5; have hfz241_6 := blk_frozen BK138.out 6) | (go_at_call 9; (with_reducible refine (item_Item_Due.calls kj75 a1_0 a1_1 a1_2 a1_3 a1_4 a1_5 a1_6 a3_0 a3_1 a3_2 a3_3 a3_4 a3_5 a3_6 t160 _ A227.out).mono ?_); rintro e w242 ⟨rfl, hb⟩; replace BK136 := blkb BK136 hb; replace BK137 := blkb BK137 hb; replace BK138 := blkb BK138 hb; replace HB := belb HB hb; (try clear hb); (try clear hb2); (try clear hk); (try clear hi)))
        go_ret
        exact ⟨by first | rfl | (simp [errW_none, errW_some] <;> rfl) | (simp [*, errW_none, errW_some] <;> rfl), belt HB⟩
       replace c226 := Bool.eq_false_iff.mpr c226
       subst c226
       have H1 : (some (!false)) = some r := by rw [if_neg (show ¬ (false = true) by decide)] at H; exact H
       clear H
       have H := H1
       clear H1
       obtain rfl := Option.some.inj H
       have hnb243 := NB136_137.out
       have hnc243 := NB137_136.out
       have hnb244 := NB136_138.out
       have hnc244 := NB138_136.out
       have hcz245_0 : wc.cell? ⟨gb136, 0, none⟩ = some (.int .u64 a1_0) := bc BK136 0
       have hcz245_1 : wc.cell? ⟨gb136, 1, none⟩ = some (.int .u32 a1_1) := bc BK136 1
       have hcz245_2 : wc.cell? ⟨gb136, 2, none⟩ = some (.int .u32 a1_2) := bc BK136 2
       have hcz245_3 : wc.cell? ⟨gb136, 3, none⟩ = some (.int .i64 a1_3) := bc BK136 3
       have hcz245_4 : wc.cell? ⟨gb136, 4, none⟩ = some (.int .u64 a1_4) := bc BK136 4
       have hcz245_5 : wc.cell? ⟨gb136, 5, none⟩ = some (.int .u32 a1_5) := bc BK136 5
       have hcz245_6 : wc.cell? ⟨gb136, 6, none⟩ = some (.int .u32 a1_6) := bc BK136 6
       have hfz245_0 := blk_frozen BK136.out 0
       have hfz245_1 := blk_frozen BK136.out 1
       have hfz245_2 := blk_frozen BK136.out 2
       have hfz245_3 := blk_frozen BK136.out 3
       have hfz245_4 := blk_frozen BK136.out 4
       have hfz245_5 := blk_frozen BK136.out 5
       have hfz245_6 := blk_frozen BK136.out 6
       have hnb246 := NB137_138.out
       have hnc246 := NB138_137.out
       have hcz247_0 : wc.cell? ⟨gb137, 0, none⟩ = some (.int .u64 a2_0) := bc BK137 0
       have hcz247_1 : wc.cell? ⟨gb137, 1, none⟩ = some (.int .u32 a2_1) := bc BK137 1
       have hcz247_2 : wc.cell? ⟨gb137, 2, none⟩ = some (.int .u32 a2_2) := bc BK137 2
       have hcz247_3 : wc.cell? ⟨gb137, 3, none⟩ = some (.int .i64 a2_3) := bc BK137 3
       have hcz247_4 : wc.cell? ⟨gb137, 4, none⟩ = some (.int .u64 a2_4) := bc BK137 4
       have hcz247_5 : wc.cell? ⟨gb137, 5, none⟩ = some (.int .u32 a2_5) := bc BK137 5
       have hcz247_6 : wc.cell? ⟨gb137, 6, none⟩ = some (.int .u32 a2_6) := bc BK137 6
       have hfz247_0 := blk_frozen BK137.out 0
       have hfz247_1 := blk_frozen BK137.out 1
       have hfz247_2 := blk_frozen BK137.out 2
       have hfz247_3 := blk_frozen BK137.out 3
       have hfz247_4 := blk_frozen BK137.out 4
       have hfz247_5 := blk_frozen BK137.out 5
       have hfz247_6 := blk_frozen BK137.out 6
       go_wp2_with (first | ((with_reducible refine gate_callee (f := 8) rfl ?_); refine goesL_ (some 76) rfl rfl Try.func8 (by kernel_rfl) rfl #[.agg #[.int .u64 a1_0, .int .u32 a1_1, .int .u32 a1_2, .int .i64 a1_3, .int .u64 a1_4, .int .u32 a1_5, .int .u32 a1_6], .agg #[.int .u64 a2_0, .int .u32 a2_1, .int .u32 a2_2, .int .i64 a2_3, .int .u64 a2_4, .int .u32 a2_5, .int .u32 a2_6]] rfl argt ?_; (with_reducible refine (item_Item_Ahead.calls kj75 a1_0 a1_1 a1_2 a1_3 a1_4 a1_5 a1_6 a2_0 a2_1 a2_2 a2_3 a2_4 a2_5 a2_6 false _ A108.out).mono ?_); rintro e w248 ⟨rfl, hb⟩; refine ⟨_, rfl, ?_⟩; replace BK136 := blkb BK136 hb; replace BK137 := blkb BK137 hb; replace BK138 := blkb BK138 hb; replace HB := belb HB hb; (try clear hb); (try clear hb2); (try clear hk); (try clear hi); have hcz249_0 : w248.cell? ⟨gb136, 0, none⟩ = some (.int .u64 a1_0) := bc BK136 0; have hcz249_1 : w248.cell? ⟨gb136, 1, none⟩ = some (.int .u32 a1_1) := bc BK136 1; have hcz249_2 : w248.cell? ⟨gb136, 2, none⟩ = some (.int .u32 a1_2) := bc BK136 2; have hcz249_3 : w248.cell? ⟨gb136, 3, none⟩ = some (.int .i64 a1_3) := bc BK136 3; have hcz249_4 : w248.cell? ⟨gb136, 4, none⟩ = some (.int .u64 a1_4) := bc BK136 4; have hcz249_5 : w248.cell? ⟨gb136, 5, none⟩ = some (.int .u32 a1_5) := bc BK136 5; have hcz249_6 : w248.cell? ⟨gb136, 6, none⟩ = some (.int .u32 a1_6) := bc BK136 6; have hfz249_0 := blk_frozen BK136.out 0; have hfz249_1 := blk_frozen BK136.out 1; have hfz249_2 := blk_frozen BK136.out 2; have hfz249_3 := blk_frozen BK136.out 3; have hfz249_4 := blk_frozen BK136.out 4; have hfz249_5 := blk_frozen BK136.out 5; have hfz249_6 := blk_frozen BK136.out 6; have hcz250_0 : w248.cell? ⟨gb137, 0, none⟩ = some (.int .u64 a2_0) := bc BK137 0; have hcz250_1 : w248.cell? ⟨gb137, 1, none⟩ = some (.int .u32 a2_1) := bc BK137 1; have hcz250_2 : w248.cell? ⟨gb137, 2, none⟩ = some (.int .u32 a2_2) := bc BK137 2; have hcz250_3 : w248.cell? ⟨gb137, 3, none⟩ = some (.int .i64 a2_3) := bc BK137 3; have hcz250_4 : w248.cell? ⟨gb137, 4, none⟩ = some (.int .u64 a2_4) := bc BK137 4; have hcz250_5 : w248.cell? ⟨gb137, 5, none⟩ = some (.int .u32 a2_5) := bc BK137 5; have hcz250_6 : w248.cell? ⟨gb137, 6, none⟩ = some (.int .u32 a2_6) := bc BK137 6; have hfz250_0 := blk_frozen BK137.out 0; have hfz250_1 := blk_frozen BK137.out 1; have hfz250_2 := blk_frozen BK137.out 2; have hfz250_3 := blk_frozen BK137.out 3; have hfz250_4 := blk_frozen BK137.out 4; have hfz250_5 := blk_frozen BK137.out 5; have hfz250_6 := blk_frozen BK137.out 6) | (go_at_call 9; (with_reducible refine (item_Item_Due.calls kj75 a1_0 a1_1 a1_2 a1_3 a1_4 a1_5 a1_6 a2_0 a2_1 a2_2 a2_3 a2_4 a2_5 a2_6 true _ A223.out).mono ?_); rintro e w251 ⟨rfl, hb⟩; replace BK136 := blkb BK136 hb; replace BK137 := blkb BK137 hb; replace BK138 := blkb BK138 hb; replace HB := belb HB hb; (try clear hb); (try clear hb2); (try clear hk); (try clear hi); have hcz252_0 : w251.cell? ⟨gb137, 0, none⟩ = some (.int .u64 a2_0) := bc BK137 0; have hcz252_1 : w251.cell? ⟨gb137, 1, none⟩ = some (.int .u32 a2_1) := bc BK137 1; have hcz252_2 : w251.cell? ⟨gb137, 2, none⟩ = some (.int .u32 a2_2) := bc BK137 2; have hcz252_3 : w251.cell? ⟨gb137, 3, none⟩ = some (.int .i64 a2_3) := bc BK137 3; have hcz252_4 : w251.cell? ⟨gb137, 4, none⟩ = some (.int .u64 a2_4) := bc BK137 4; have hcz252_5 : w251.cell? ⟨gb137, 5, none⟩ = some (.int .u32 a2_5) := bc BK137 5; have hcz252_6 : w251.cell? ⟨gb137, 6, none⟩ = some (.int .u32 a2_6) := bc BK137 6; have hfz252_0 := blk_frozen BK137.out 0; have hfz252_1 := blk_frozen BK137.out 1; have hfz252_2 := blk_frozen BK137.out 2; have hfz252_3 := blk_frozen BK137.out 3; have hfz252_4 := blk_frozen BK137.out 4; have hfz252_5 := blk_frozen BK137.out 5; have hfz252_6 := blk_frozen BK137.out 6; have hcz253_0 : w251.cell? ⟨gb138, 0, none⟩ = some (.int .u64 a3_0) := bc BK138 0; have hcz253_1 : w251.cell? ⟨gb138, 1, none⟩ = some (.int .u32 a3_1) := bc BK138 1; have hcz253_2 : w251.cell? ⟨gb138, 2, none⟩ = some (.int .u32 a3_2) := bc BK138 2; have hcz253_3 : w251.cell? ⟨gb138, 3, none⟩ = some (.int .i64 a3_3) := bc BK138 3; have hcz253_4 : w251.cell? ⟨gb138, 4, none⟩ = some (.int .u64 a3_4) := bc BK138 4; have hcz253_5 : w251.cell? ⟨gb138, 5, none⟩ = some (.int .u32 a3_5) := bc BK138 5; have hcz253_6 : w251.cell? ⟨gb138, 6, none⟩ = some (.int .u32 a3_6) := bc BK138 6; have hfz253_0 := blk_frozen BK138.out 0; have hfz253_1 := blk_frozen BK138.out 1; have hfz253_2 := blk_frozen BK138.out 2; have hfz253_3 := blk_frozen BK138.out 3; have hfz253_4 := blk_frozen BK138.out 4; have hfz253_5 := blk_frozen BK138.out 5; have hfz253_6 := blk_frozen BK138.out 6) | (go_at_call 9; (with_reducible refine (item_Item_Due.calls kj75 a2_0 a2_1 a2_2 a2_3 a2_4 a2_5 a2_6 a3_0 a3_1 a3_2 a3_3 a3_4 a3_5 a3_6 false _ A225.out).mono ?_); rintro e w254 ⟨rfl, hb⟩; replace BK136 := blkb BK136 hb; replace BK137 := blkb BK137 hb; replace BK138 := blkb BK138 hb; replace HB := belb HB hb; (try clear hb); (try clear hb2); (try clear hk); (try clear hi)))
       go_ret
       exact ⟨by first | rfl | (simp [errW_none, errW_some] <;> rfl) | (simp [*, errW_none, errW_some] <;> rfl), belt HB⟩
      replace c224 := Bool.eq_false_iff.mpr c224
      subst c224
      have H1 : (some (!false)) = some r := by rw [if_neg (show ¬ (false = true) by decide)] at H; exact H
      clear H
      have H := H1
      clear H1
      obtain rfl := Option.some.inj H
      have hnb255 := NB136_137.out
      have hnc255 := NB137_136.out
      have hnb256 := NB136_138.out
      have hnc256 := NB138_136.out
      have hcz257_0 : wc.cell? ⟨gb136, 0, none⟩ = some (.int .u64 a1_0) := bc BK136 0
      have hcz257_1 : wc.cell? ⟨gb136, 1, none⟩ = some (.int .u32 a1_1) := bc BK136 1
      have hcz257_2 : wc.cell? ⟨gb136, 2, none⟩ = some (.int .u32 a1_2) := bc BK136 2
      have hcz257_3 : wc.cell? ⟨gb136, 3, none⟩ = some (.int .i64 a1_3) := bc BK136 3
      have hcz257_4 : wc.cell? ⟨gb136, 4, none⟩ = some (.int .u64 a1_4) := bc BK136 4
      have hcz257_5 : wc.cell? ⟨gb136, 5, none⟩ = some (.int .u32 a1_5) := bc BK136 5
      have hcz257_6 : wc.cell? ⟨gb136, 6, none⟩ = some (.int .u32 a1_6) := bc BK136 6
      have hfz257_0 := blk_frozen BK136.out 0
      have hfz257_1 := blk_frozen BK136.out 1
      have hfz257_2 := blk_frozen BK136.out 2
      have hfz257_3 := blk_frozen BK136.out 3
      have hfz257_4 := blk_frozen BK136.out 4
      have hfz257_5 := blk_frozen BK136.out 5
      have hfz257_6 := blk_frozen BK136.out 6
      have hnb258 := NB137_138.out
      have hnc258 := NB138_137.out
      have hcz259_0 : wc.cell? ⟨gb137, 0, none⟩ = some (.int .u64 a2_0) := bc BK137 0
      have hcz259_1 : wc.cell? ⟨gb137, 1, none⟩ = some (.int .u32 a2_1) := bc BK137 1
      have hcz259_2 : wc.cell? ⟨gb137, 2, none⟩ = some (.int .u32 a2_2) := bc BK137 2
      have hcz259_3 : wc.cell? ⟨gb137, 3, none⟩ = some (.int .i64 a2_3) := bc BK137 3
      have hcz259_4 : wc.cell? ⟨gb137, 4, none⟩ = some (.int .u64 a2_4) := bc BK137 4
      have hcz259_5 : wc.cell? ⟨gb137, 5, none⟩ = some (.int .u32 a2_5) := bc BK137 5
      have hcz259_6 : wc.cell? ⟨gb137, 6, none⟩ = some (.int .u32 a2_6) := bc BK137 6
      have hfz259_0 := blk_frozen BK137.out 0
      have hfz259_1 := blk_frozen BK137.out 1
      have hfz259_2 := blk_frozen BK137.out 2
      have hfz259_3 := blk_frozen BK137.out 3
      have hfz259_4 := blk_frozen BK137.out 4
      have hfz259_5 := blk_frozen BK137.out 5
      have hfz259_6 := blk_frozen BK137.out 6
      go_wp2_with (first | ((with_reducible refine gate_callee (f := 8) rfl ?_); refine goesL_ (some 76) rfl rfl Try.func8 (by kernel_rfl) rfl #[.agg #[.int .u64 a1_0, .int .u32 a1_1, .int .u32 a1_2, .int .i64 a1_3, .int .u64 a1_4, .int .u32 a1_5, .int .u32 a1_6], .agg #[.int .u64 a2_0, .int .u32 a2_1, .int .u32 a2_2, .int .i64 a2_3, .int .u64 a2_4, .int .u32 a2_5, .int .u32 a2_6]] rfl argt ?_; (with_reducible refine (item_Item_Ahead.calls kj75 a1_0 a1_1 a1_2 a1_3 a1_4 a1_5 a1_6 a2_0 a2_1 a2_2 a2_3 a2_4 a2_5 a2_6 false _ A108.out).mono ?_); rintro e w260 ⟨rfl, hb⟩; refine ⟨_, rfl, ?_⟩; replace BK136 := blkb BK136 hb; replace BK137 := blkb BK137 hb; replace BK138 := blkb BK138 hb; replace HB := belb HB hb; (try clear hb); (try clear hb2); (try clear hk); (try clear hi); have hcz261_0 : w260.cell? ⟨gb136, 0, none⟩ = some (.int .u64 a1_0) := bc BK136 0; have hcz261_1 : w260.cell? ⟨gb136, 1, none⟩ = some (.int .u32 a1_1) := bc BK136 1; have hcz261_2 : w260.cell? ⟨gb136, 2, none⟩ = some (.int .u32 a1_2) := bc BK136 2; have hcz261_3 : w260.cell? ⟨gb136, 3, none⟩ = some (.int .i64 a1_3) := bc BK136 3; have hcz261_4 : w260.cell? ⟨gb136, 4, none⟩ = some (.int .u64 a1_4) := bc BK136 4; have hcz261_5 : w260.cell? ⟨gb136, 5, none⟩ = some (.int .u32 a1_5) := bc BK136 5; have hcz261_6 : w260.cell? ⟨gb136, 6, none⟩ = some (.int .u32 a1_6) := bc BK136 6; have hfz261_0 := blk_frozen BK136.out 0; have hfz261_1 := blk_frozen BK136.out 1; have hfz261_2 := blk_frozen BK136.out 2; have hfz261_3 := blk_frozen BK136.out 3; have hfz261_4 := blk_frozen BK136.out 4; have hfz261_5 := blk_frozen BK136.out 5; have hfz261_6 := blk_frozen BK136.out 6; have hcz262_0 : w260.cell? ⟨gb137, 0, none⟩ = some (.int .u64 a2_0) := bc BK137 0; have hcz262_1 : w260.cell? ⟨gb137, 1, none⟩ = some (.int .u32 a2_1) := bc BK137 1; have hcz262_2 : w260.cell? ⟨gb137, 2, none⟩ = some (.int .u32 a2_2) := bc BK137 2; have hcz262_3 : w260.cell? ⟨gb137, 3, none⟩ = some (.int .i64 a2_3) := bc BK137 3; have hcz262_4 : w260.cell? ⟨gb137, 4, none⟩ = some (.int .u64 a2_4) := bc BK137 4; have hcz262_5 : w260.cell? ⟨gb137, 5, none⟩ = some (.int .u32 a2_5) := bc BK137 5; have hcz262_6 : w260.cell? ⟨gb137, 6, none⟩ = some (.int .u32 a2_6) := bc BK137 6; have hfz262_0 := blk_frozen BK137.out 0; have hfz262_1 := blk_frozen BK137.out 1; have hfz262_2 := blk_frozen BK137.out 2; have hfz262_3 := blk_frozen BK137.out 3; have hfz262_4 := blk_frozen BK137.out 4; have hfz262_5 := blk_frozen BK137.out 5; have hfz262_6 := blk_frozen BK137.out 6) | (go_at_call 9; (with_reducible refine (item_Item_Due.calls kj75 a1_0 a1_1 a1_2 a1_3 a1_4 a1_5 a1_6 a2_0 a2_1 a2_2 a2_3 a2_4 a2_5 a2_6 false _ A223.out).mono ?_); rintro e w263 ⟨rfl, hb⟩; replace BK136 := blkb BK136 hb; replace BK137 := blkb BK137 hb; replace BK138 := blkb BK138 hb; replace HB := belb HB hb; (try clear hb); (try clear hb2); (try clear hk); (try clear hi)))
      go_ret
      exact ⟨by first | rfl | (simp [errW_none, errW_some] <;> rfl) | (simp [*, errW_none, errW_some] <;> rfl), belt HB⟩
 replace c6 := Bool.eq_false_iff.mpr c6
 subst c6
 have H1 : (none) = some r := by rw [if_neg (show ¬ (false = true) by decide)] at H; exact H
 clear H
 have H := H1
 clear H1
 exact absurd H (by simp)

/-- THE ONE PURE STATEMENT of turnstonelaw05_ItemOrders. -/
def turnstonelaw05_ItemOrders.Pure : Prop := ∀ (a0 : Int) (a1_0 : Int) (a1_1 : Int) (a1_2 : Int) (a1_3 : Int) (a1_4 : Int) (a1_5 : Int) (a1_6 : Int) (a2_0 : Int) (a2_1 : Int) (a2_2 : Int) (a2_3 : Int) (a2_4 : Int) (a2_5 : Int) (a2_6 : Int) (a3_0 : Int) (a3_1 : Int) (a3_2 : Int) (a3_3 : Int) (a3_4 : Int) (a3_5 : Int) (a3_6 : Int), (Lit.int .u64 a0).wf = true → (Lit.int .u64 a1_0).wf = true → (Lit.int .u32 a1_1).wf = true → (Lit.int .u32 a1_2).wf = true → (Lit.int .i64 a1_3).wf = true → (Lit.int .u64 a1_4).wf = true → (Lit.int .u32 a1_5).wf = true → (Lit.int .u32 a1_6).wf = true → (Lit.int .u64 a2_0).wf = true → (Lit.int .u32 a2_1).wf = true → (Lit.int .u32 a2_2).wf = true → (Lit.int .i64 a2_3).wf = true → (Lit.int .u64 a2_4).wf = true → (Lit.int .u32 a2_5).wf = true → (Lit.int .u32 a2_6).wf = true → (Lit.int .u64 a3_0).wf = true → (Lit.int .u32 a3_1).wf = true → (Lit.int .u32 a3_2).wf = true → (Lit.int .i64 a3_3).wf = true → (Lit.int .u64 a3_4).wf = true → (Lit.int .u32 a3_5).wf = true → (Lit.int .u32 a3_6).wf = true → ∃ k, turnstonelaw05_ItemOrders.f k a0 a1_0 a1_1 a1_2 a1_3 a1_4 a1_5 a1_6 a2_0 a2_1 a2_2 a2_3 a2_4 a2_5 a2_6 a3_0 a3_1 a3_2 a3_3 a3_4 a3_5 a3_6 = some true
theorem turnstonelaw05_ItemOrders.walk (P : turnstonelaw05_ItemOrders.Pure) (a0 : Int) (a1_0 : Int) (a1_1 : Int) (a1_2 : Int) (a1_3 : Int) (a1_4 : Int) (a1_5 : Int) (a1_6 : Int) (a2_0 : Int) (a2_1 : Int) (a2_2 : Int) (a2_3 : Int) (a2_4 : Int) (a2_5 : Int) (a2_6 : Int) (a3_0 : Int) (a3_1 : Int) (a3_2 : Int) (a3_3 : Int) (a3_4 : Int) (a3_5 : Int) (a3_6 : Int) (w : World) (w0 : (Lit.int .u64 a0).wf = true) (w1_0 : (Lit.int .u64 a1_0).wf = true) (w1_1 : (Lit.int .u32 a1_1).wf = true) (w1_2 : (Lit.int .u32 a1_2).wf = true) (w1_3 : (Lit.int .i64 a1_3).wf = true) (w1_4 : (Lit.int .u64 a1_4).wf = true) (w1_5 : (Lit.int .u32 a1_5).wf = true) (w1_6 : (Lit.int .u32 a1_6).wf = true) (w2_0 : (Lit.int .u64 a2_0).wf = true) (w2_1 : (Lit.int .u32 a2_1).wf = true) (w2_2 : (Lit.int .u32 a2_2).wf = true) (w2_3 : (Lit.int .i64 a2_3).wf = true) (w2_4 : (Lit.int .u64 a2_4).wf = true) (w2_5 : (Lit.int .u32 a2_5).wf = true) (w2_6 : (Lit.int .u32 a2_6).wf = true) (w3_0 : (Lit.int .u64 a3_0).wf = true) (w3_1 : (Lit.int .u32 a3_1).wf = true) (w3_2 : (Lit.int .u32 a3_2).wf = true) (w3_3 : (Lit.int .i64 a3_3).wf = true) (w3_4 : (Lit.int .u64 a3_4).wf = true) (w3_5 : (Lit.int .u32 a3_5).wf = true) (w3_6 : (Lit.int .u32 a3_6).wf = true) :
  Calls Try.prog 3 #[.int .u64 a0, .agg #[.int .u64 a1_0, .int .u32 a1_1, .int .u32 a1_2, .int .i64 a1_3, .int .u64 a1_4, .int .u32 a1_5, .int .u32 a1_6], .agg #[.int .u64 a2_0, .int .u32 a2_1, .int .u32 a2_2, .int .i64 a2_3, .int .u64 a2_4, .int .u32 a2_5, .int .u32 a2_6], .agg #[.int .u64 a3_0, .int .u32 a3_1, .int .u32 a3_2, .int .i64 a3_3, .int .u64 a3_4, .int .u32 a3_5, .int .u32 a3_6]] w fun e w' => e = .returned (.bool true) ∧ Below w.heap.size w w' := by
 obtain ⟨k, h⟩ := P a0 a1_0 a1_1 a1_2 a1_3 a1_4 a1_5 a1_6 a2_0 a2_1 a2_2 a2_3 a2_4 a2_5 a2_6 a3_0 a3_1 a3_2 a3_3 a3_4 a3_5 a3_6 w0 w1_0 w1_1 w1_2 w1_3 w1_4 w1_5 w1_6 w2_0 w2_1 w2_2 w2_3 w2_4 w2_5 w2_6 w3_0 w3_1 w3_2 w3_3 w3_4 w3_5 w3_6
 refine (turnstonelaw05_ItemOrders.calls k a0 a1_0 a1_1 a1_2 a1_3 a1_4 a1_5 a1_6 a2_0 a2_1 a2_2 a2_3 a2_4 a2_5 a2_6 a3_0 a3_1 a3_2 a3_3 a3_4 a3_5 a3_6 true w h).mono ?_
 rintro e w' ⟨rfl, hd⟩
 exact ⟨rfl, hd⟩

end Go.Proofs.Ytdfpkjdhndfcbaa.Print
