/- What each Go function that is named below answers, as a Lean function, and that its walk comes to just that: for whatever arguments that function gives an answer for. Written by a program of this session (wip/mkpr.py, pr.sh). -/
import Derived.Test.YtimgiiceipjpaaaPrint1000
import Derived.Test.YtimgiiceipjpaaaPrint1005
import Derived.Test.YtimgiiceipjpaaaPrint1003
namespace Go.Proofs.Ytimgiiceipjpaaa.Print
open Go.RowKit Go.Proofs.YtimgiiceipjpaaaW.PrintWords Go.Proofs.YtimgiiceipjpaaaW.PrintLast Go.Proofs.YtimgiiceipjpaaaW.PrintMore
attribute [local go_sem] max2_int min2_int max_two min_two max_three min_three max_four min_four   -- for this text's walks alone
open Go.Proofs.Ytimgiiceipjpaaa.Bits Go.Proofs.Ytimgiiceipjpaaa.Short
attribute [local go_sem] add64_run0 sub64_run0 add64_run sub64_run
set_option linter.unusedVariables false
set_option linter.unusedSimpArgs false

/-! ### bits_Mul64: function 66 -/
def bits_Mul64.f (a0 : Int) (a1 : Int) : Option (Int × Int) := some (IntKind.u64.wrap ((IntKind.u64.wrap ((IntKind.u64.wrap ((a0 / 4294967296) * (a1 / 4294967296))) + ((IntKind.u64.wrap ((IntKind.u64.wrap ((a0 / 4294967296) * (Go.bits .and .u64 a1 4294967295))) + ((IntKind.u64.wrap ((Go.bits .and .u64 a0 4294967295) * (Go.bits .and .u64 a1 4294967295))) / 4294967296))) / 4294967296))) + ((IntKind.u64.wrap ((Go.bits .and .u64 (IntKind.u64.wrap ((IntKind.u64.wrap ((a0 / 4294967296) * (Go.bits .and .u64 a1 4294967295))) + ((IntKind.u64.wrap ((Go.bits .and .u64 a0 4294967295) * (Go.bits .and .u64 a1 4294967295))) / 4294967296))) 4294967295) + (IntKind.u64.wrap ((Go.bits .and .u64 a0 4294967295) * (a1 / 4294967296))))) / 4294967296)), IntKind.u64.wrap (a0 * a1))
set_option maxHeartbeats 8000000 in
set_option maxRecDepth 100000 in
theorem bits_Mul64.calls (a0 : Int) (a1 : Int) (r1 : Int) (r2 : Int) (w : World) (h : bits_Mul64.f a0 a1 = some (r1, r2)) :
  Calls Try.prog 66 #[.int .u64 a0, .int .u64 a1] w fun e w' => e = .returned (.tuple #[.int .u64 r1, .int .u64 r2]) ∧ Drawn0 w w' := by
 have H : (some (IntKind.u64.wrap ((IntKind.u64.wrap ((IntKind.u64.wrap ((a0 / 4294967296) * (a1 / 4294967296))) + ((IntKind.u64.wrap ((IntKind.u64.wrap ((a0 / 4294967296) * (Go.bits .and .u64 a1 4294967295))) + ((IntKind.u64.wrap ((Go.bits .and .u64 a0 4294967295) * (Go.bits .and .u64 a1 4294967295))) / 4294967296))) / 4294967296))) + ((IntKind.u64.wrap ((Go.bits .and .u64 (IntKind.u64.wrap ((IntKind.u64.wrap ((a0 / 4294967296) * (Go.bits .and .u64 a1 4294967295))) + ((IntKind.u64.wrap ((Go.bits .and .u64 a0 4294967295) * (Go.bits .and .u64 a1 4294967295))) / 4294967296))) 4294967295) + (IntKind.u64.wrap ((Go.bits .and .u64 a0 4294967295) * (a1 / 4294967296))))) / 4294967296)), IntKind.u64.wrap (a0 * a1))) = some (r1, r2) := h
 clear h
 simp only [Option.some.injEq, Prod.mk.injEq] at H
 obtain ⟨rfl, rfl⟩ := H
 go_enter Try.func66, Try.ntmps66
 go_wp2
 go_ret2
 exact ⟨by first | rfl | (simp; done) | (simp [*]; done), by repeat (first | exact Drawn0.refl _ | apply Drawn0.step)⟩


/-! ### wide_signed: function 89 -/
def wide_signed.j0 : Nat → Int → Bool → Bool → Int → Int → Option (Int × Int × Bool)
 | 0, _, _, _, _, _ => none
 | k + 1, x0, x2, x13, x307000, x307001 => if x13 = true then ((wide_Int_flip.f x307000 x307001).bind fun bt307 => (some (bt307.1, bt307.2, true))) else (if x2 = true then (some (0, 0, false)) else (if x0 < 9223372036854775808 then (some (x307000, x307001, true)) else (some (0, 0, false))))
def wide_signed.f (k : Nat) (a0 : Int) (a1 : Int) (a2 : Bool) : Option (Int × Int × Bool) := if a2 = true then (if a0 < 9223372036854775808 then (wide_signed.j0 k a0 a2 true (wrap64 (a0)) a1) else (if a0 = 9223372036854775808 then (wide_signed.j0 k a0 a2 (a1 == 0) (wrap64 (a0)) a1) else (wide_signed.j0 k a0 a2 false (wrap64 (a0)) a1))) else (wide_signed.j0 k a0 a2 false (wrap64 (a0)) a1)
theorem wide_signed.mono_l : ∀ k, (∀ y0 y1 y2 y3 y4, LeO (wide_signed.j0 k y0 y1 y2 y3 y4) (wide_signed.j0 (k + 1) y0 y1 y2 y3 y4))
 | 0 => fun _ _ _ _ _ r h => by simp [wide_signed.j0] at h
 | k + 1 => by
  have ih0 := wide_signed.mono_l k
  ·intro y0 y1 y2 y3 y4
   unfold wide_signed.j0
   repeat' first
   | (with_reducible exact ih0 _ _ _ _ _)
   | (with_reducible exact LeO.refl _)
   | (with_reducible exact LeO.none _)
   | (with_reducible refine LeO.ite ?_ ?_)
   | (with_reducible refine LeO.bind ?_ (fun _ => ?_))
   | exact ih0 _ _ _ _ _
   | exact LeO.none _
   | refine LeO.ite ?_ ?_
   | refine LeO.bind ?_ (fun _ => ?_)
theorem wide_signed.mono : ∀ a0 a1 a2 k, LeO (wide_signed.f k a0 a1 a2) (wide_signed.f (k + 1) a0 a1 a2) := by
 intro a0 a1 a2 k
 have ih0 := wide_signed.mono_l k
 unfold wide_signed.f
 repeat' first
   | (with_reducible exact ih0 _ _ _ _ _)
   | (with_reducible exact LeO.refl _)
   | (with_reducible exact LeO.none _)
   | (with_reducible refine LeO.ite ?_ ?_)
   | (with_reducible refine LeO.bind ?_ (fun _ => ?_))
   | exact ih0 _ _ _ _ _
   | exact LeO.none _
   | refine LeO.ite ?_ ?_
   | refine LeO.bind ?_ (fun _ => ?_)
set_option maxHeartbeats 8000000 in
set_option maxRecDepth 100000 in
theorem wide_signed.calls (k : Nat) (a0 : Int) (a1 : Int) (a2 : Bool) (r1 : Int) (r2 : Int) (r3 : Bool) (w : World) (h : wide_signed.f k a0 a1 a2 = some (r1, r2, r3)) :
  Calls Try.prog 89 #[.int .u64 a0, .int .u64 a1, .bool a2] w fun e w' => e = .returned (.tuple #[.agg #[.int .i64 r1, .int .u64 r2], .bool r3]) ∧ Below w.heap.size w w' := by
 have hu59 := Try.underlying59
 have HB := Aside0.mk (Below.refl w.heap.size w)
 have H : (if a2 = true then (if a0 < 9223372036854775808 then (wide_signed.j0 k a0 a2 true (wrap64 (a0)) a1) else (if a0 = 9223372036854775808 then (wide_signed.j0 k a0 a2 (a1 == 0) (wrap64 (a0)) a1) else (wide_signed.j0 k a0 a2 false (wrap64 (a0)) a1))) else (wide_signed.j0 k a0 a2 false (wrap64 (a0)) a1)) = some (r1, r2, r3) := h
 clear h
 have HC4 := Aside0.mk H
 clear H
 go_enter Try.func89, Try.ntmps89
 go_upto_region 2 with (first | ((with_reducible refine gate_dst (N := 6) rfl ?_); refine box_event ?hg (N := 6) ?hd (cs := #[.int .i64 0, .int .u64 0]) (t := 59) ?hr ?_; (case hd => rfl); (case hg => rfl); (case hr => first | (go_simp; done) | (go_simp; rfl)); intro gb305 hg w5 hbox hb; have BK305 := Aside0.mk (hbox); have GW305 := bels HB hg; have GE305 := bels HB hg; replace HB := belb HB hb; clear hb hbox hg) | ((with_reducible refine gate_dst (N := 8) rfl ?_); refine box_event ?hg (N := 8) ?hd (cs := #[.int .i64 0, .int .u64 0]) (t := 59) ?hr ?_; (case hd => rfl); (case hg => rfl); (case hr => first | (go_simp; done) | (go_simp; rfl)); intro gb306 hg w6 hbox hb; have BK306 := Aside0.mk (hbox); have GW306 := bels HB hg; have GE306 := bels HB hg; have NB305_306 := blkl BK305 hg; have NB306_305 := blkg BK305 hg; replace BK305 := blkb BK305 hb; replace HB := belb HB hb; clear hb hbox hg; have hnb7 := NB306_305.out; have hnc7 := NB305_306.out; have hcz8_0 : w6.cell? ⟨gb306, 0, none⟩ = some (.int .i64 0) := bc BK306 0; have hcz8_1 : w6.cell? ⟨gb306, 1, none⟩ = some (.int .u64 0) := bc BK306 1; have hfz8_0 := blk_frozen BK306.out 0; have hfz8_1 := blk_frozen BK306.out 1))
 (try simp only [Act.put, List.setIfInBounds_toArray, List.set_cons_zero, List.set_cons_succ])
 go_cut [13] (fun v13 wc => ∃ (kq : Nat) (x13_3 : Bool), v13 = .bool x13_3 ∧ Aside0 (wide_signed.j0 kq a0 a2 x13_3 (wrap64 (a0)) a1 = some (r1, r2, r3)) ∧ Aside0 (kq ≤ k) ∧ Aside0 (wc.heap[gb305]? = some (.cells #[.int .i64 0, .int .u64 0] 59 (0, 0))) ∧ Aside0 (wc.heap[gb306]? = some (.cells #[.int .i64 (wrap64 (a0)), .int .u64 a1] 59 (0, 0))) ∧ Aside0 (Below w.heap.size w wc))
 case first =>
  have H := HC4.out
  clear HC4
  by_cases c9 : a2 = true
  ·subst c9
   have H1 : (if a0 < 9223372036854775808 then (wide_signed.j0 k a0 true true (wrap64 (a0)) a1) else (if a0 = 9223372036854775808 then (wide_signed.j0 k a0 true (a1 == 0) (wrap64 (a0)) a1) else (wide_signed.j0 k a0 true false (wrap64 (a0)) a1))) = some (r1, r2, r3) := by rw [if_pos rfl] at H; exact H
   clear H
   have H := H1
   clear H1
   by_cases c10 : a0 < 9223372036854775808
   ·rw [if_pos c10] at H
    have c10b0 : decide (a0 < 9223372036854775808) = true := decide_eq_true c10
    clear c10
    (first | rw [c10b0] | (simp only [i64_w, i32_w]; rw [c10b0]) | skip)
    have H' := Aside0.mk H
    clear H
    go_wp2
    go_meet
    case rel => exact ⟨_, (true), (by first | rfl | (simp; done) | (simp [*]; done)), H', ⟨by first | omega | exact Nat.le_refl _⟩, ⟨by (with_reducible repeat (first | refine blk_drewN ?_ _ | refine blk_drew ?_ | refine blk_alloc ?_ _)); refine blk_far ?_ NB305_306.out _; (with_reducible repeat (first | refine blk_drewN ?_ _ | refine blk_drew ?_ | refine blk_alloc ?_ _)); refine blk_far ?_ NB305_306.out _; exact blkt BK305⟩, ⟨by (with_reducible repeat (first | refine blk_drewN ?_ _ | refine blk_drew ?_ | refine blk_alloc ?_ _)); refine blk_put (cs := #[.int .i64 (wrap64 (a0)), .int .u64 0]) ?_ 1 _ rfl; (with_reducible repeat (first | refine blk_drewN ?_ _ | refine blk_drew ?_ | refine blk_alloc ?_ _)); refine blk_put (cs := #[.int .i64 0, .int .u64 0]) ?_ 0 _ rfl; exact blkt BK306⟩, ⟨belt HB⟩⟩
   rw [if_neg c10] at H
   have c10b0 : decide (a0 < 9223372036854775808) = false := decide_eq_false c10
   clear c10
   (first | rw [c10b0] | (simp only [i64_w, i32_w]; rw [c10b0]) | skip)
   by_cases c11 : a0 = 9223372036854775808
   ·rw [if_pos c11] at H
    have c11b0 : (a0 == 9223372036854775808) = true := beq_iff_eq.mpr c11
    have c11b1 : (a0 != 9223372036854775808) = false := bne_eq_false_iff_eq.mpr c11
    clear c11
    have H' := Aside0.mk H
    clear H
    go_wp2
    go_meet
    case rel => exact ⟨_, ((a1 == 0)), (by first | rfl | (simp; done) | (simp [*]; done)), H', ⟨by first | omega | exact Nat.le_refl _⟩, ⟨by (with_reducible repeat (first | refine blk_drewN ?_ _ | refine blk_drew ?_ | refine blk_alloc ?_ _)); refine blk_far ?_ NB305_306.out _; (with_reducible repeat (first | refine blk_drewN ?_ _ | refine blk_drew ?_ | refine blk_alloc ?_ _)); refine blk_far ?_ NB305_306.out _; exact blkt BK305⟩, ⟨by (with_reducible repeat (first | refine blk_drewN ?_ _ | refine blk_drew ?_ | refine blk_alloc ?_ _)); refine blk_put (cs := #[.int .i64 (wrap64 (a0)), .int .u64 0]) ?_ 1 _ rfl; (with_reducible repeat (first | refine blk_drewN ?_ _ | refine blk_drew ?_ | refine blk_alloc ?_ _)); refine blk_put (cs := #[.int .i64 0, .int .u64 0]) ?_ 0 _ rfl; exact blkt BK306⟩, ⟨belt HB⟩⟩
   rw [if_neg c11] at H
   have c11b0 : (a0 == 9223372036854775808) = false := beq_eq_false_iff_ne.mpr c11
   have c11b1 : (a0 != 9223372036854775808) = true := bne_iff_ne.mpr c11
   have H' := Aside0.mk H
   clear H
   go_wp2
   go_meet
   case rel => exact ⟨_, (false), (by first | rfl | (simp; done) | (simp [*]; done)), H', ⟨by first | omega | exact Nat.le_refl _⟩, ⟨by (with_reducible repeat (first | refine blk_drewN ?_ _ | refine blk_drew ?_ | refine blk_alloc ?_ _)); refine blk_far ?_ NB305_306.out _; (with_reducible repeat (first | refine blk_drewN ?_ _ | refine blk_drew ?_ | refine blk_alloc ?_ _)); refine blk_far ?_ NB305_306.out _; exact blkt BK305⟩, ⟨by (with_reducible repeat (first | refine blk_drewN ?_ _ | refine blk_drew ?_ | refine blk_alloc ?_ _)); refine blk_put (cs := #[.int .i64 (wrap64 (a0)), .int .u64 0]) ?_ 1 _ rfl; (with_reducible repeat (first | refine blk_drewN ?_ _ | refine blk_drew ?_ | refine blk_alloc ?_ _)); refine blk_put (cs := #[.int .i64 0, .int .u64 0]) ?_ 0 _ rfl; exact blkt BK306⟩, ⟨belt HB⟩⟩
  replace c9 := Bool.eq_false_iff.mpr c9
  subst c9
  have H1 : (wide_signed.j0 k a0 false false (wrap64 (a0)) a1) = some (r1, r2, r3) := by rw [if_neg (show ¬ (false = true) by decide)] at H; exact H
  clear H
  have H := H1
  clear H1
  have H' := Aside0.mk H
  clear H
  go_wp2
  go_meet
  case rel => exact ⟨_, (false), (by first | rfl | (simp; done) | (simp [*]; done)), H', ⟨by first | omega | exact Nat.le_refl _⟩, ⟨by (with_reducible repeat (first | refine blk_drewN ?_ _ | refine blk_drew ?_ | refine blk_alloc ?_ _)); refine blk_far ?_ NB305_306.out _; (with_reducible repeat (first | refine blk_drewN ?_ _ | refine blk_drew ?_ | refine blk_alloc ?_ _)); refine blk_far ?_ NB305_306.out _; exact blkt BK305⟩, ⟨by (with_reducible repeat (first | refine blk_drewN ?_ _ | refine blk_drew ?_ | refine blk_alloc ?_ _)); refine blk_put (cs := #[.int .i64 (wrap64 (a0)), .int .u64 0]) ?_ 1 _ rfl; (with_reducible repeat (first | refine blk_drewN ?_ _ | refine blk_drew ?_ | refine blk_alloc ?_ _)); refine blk_put (cs := #[.int .i64 0, .int .u64 0]) ?_ 0 _ rfl; exact blkt BK306⟩, ⟨belt HB⟩⟩
 case rest =>
  clear HC4
  try clear c1
  try clear p2
  try clear p6
  try clear c7
  try clear c8
  try clear c9
  try clear c10
  try clear c10b0
  try clear c11
  try clear c11b0
  try clear c11b1
  try clear hcz8_0
  try clear hcz8_1
  try clear hfz8_0
  try clear hfz8_1
  obtain ⟨kq, x13_3, rfl, HA, HJ3, BK305, BK306, HB⟩ := hcut
  cases kq with
  | zero => exact absurd HA.out (by simp [wide_signed.j0])
  | succ kj3 =>
   have H := HA.out
   clear HA
   simp only [wide_signed.j0] at H
   by_cases c12 : x13_3 = true
   ·subst c12
    have H1 : ((wide_Int_flip.f (wrap64 (a0)) a1).bind fun bt307 => (some (bt307.1, bt307.2, true))) = some (r1, r2, r3) := by rw [if_pos rfl] at H; exact H
    clear H
    have H := H1
    clear H1
    replace H := Option.bind_eq_some_iff.mp H
    obtain ⟨⟨t307, t308⟩, A130, H⟩ := H
    replace H : (some (t307, t308, true)) = some (r1, r2, r3) := H
    have A13 := Aside0.mk A130
    clear A130
    simp only [Option.some.injEq, Prod.mk.injEq] at H
    obtain ⟨rfl, rfl, rfl⟩ := H
    have hnb14 := NB306_305.out
    have hnc14 := NB305_306.out
    have hcz15_0 : wc.cell? ⟨gb306, 0, none⟩ = some (.int .i64 (wrap64 (a0))) := bc BK306 0
    have hcz15_1 : wc.cell? ⟨gb306, 1, none⟩ = some (.int .u64 a1) := bc BK306 1
    have hfz15_0 := blk_frozen BK306.out 0
    have hfz15_1 := blk_frozen BK306.out 1
    go_wp2_with (first | ((with_reducible refine gate_callee (f := 90) rfl ?_); refine goesL_ (some 28) rfl rfl Try.func90 (by kernel_rfl) rfl #[.agg #[.int .i64 (wrap64 (a0)), .int .u64 a1]] rfl argt ?_; (with_reducible refine (wide_Int_flip.calls (wrap64 (a0)) a1 t307 t308 _ A13.out).mono ?_); rintro e w16 ⟨rfl, hb⟩; refine ⟨_, rfl, ?_⟩; replace BK305 := blkb BK305 hb; replace BK306 := blkb BK306 hb; replace HB := belb HB hb; (try clear hb); (try clear hb2); (try clear hk); (try clear hi); have hcz17_0 : w16.cell? ⟨gb305, 0, none⟩ = some (.int .i64 0) := bc BK305 0; have hcz17_1 : w16.cell? ⟨gb305, 1, none⟩ = some (.int .u64 0) := bc BK305 1; have hfz17_0 := blk_frozen BK305.out 0; have hfz17_1 := blk_frozen BK305.out 1))
    refine bodyPost_ret (results_ct rfl _ _ gb305 59 #[.int .i64 t307, .int .u64 t308] (0, 0) _ rfl (by (with_reducible repeat (first | refine blk_drewN ?_ _ | refine blk_drew ?_ | refine blk_alloc ?_ _)); refine blk_put (cs := #[.int .i64 t307, .int .u64 0]) ?_ 1 _ rfl; (with_reducible repeat (first | refine blk_drewN ?_ _ | refine blk_drew ?_ | refine blk_alloc ?_ _)); refine blk_put (cs := #[.int .i64 0, .int .u64 0]) ?_ 0 _ rfl; exact blkt BK305) Try.underlying59 rfl (by kernel_rfl)) rfl ?_
    exact ⟨by first | rfl | (simp [errW_none, errW_some] <;> rfl) | (simp [*, errW_none, errW_some] <;> rfl), belt HB⟩
   replace c12 := Bool.eq_false_iff.mpr c12
   subst c12
   have H1 : (if a2 = true then (some (0, 0, false)) else (if a0 < 9223372036854775808 then (some ((wrap64 (a0)), a1, true)) else (some (0, 0, false)))) = some (r1, r2, r3) := by rw [if_neg (show ¬ (false = true) by decide)] at H; exact H
   clear H
   have H := H1
   clear H1
   by_cases c18 : a2 = true
   ·subst c18
    have H1 : (some (0, 0, false)) = some (r1, r2, r3) := by rw [if_pos rfl] at H; exact H
    clear H
    have H := H1
    clear H1
    simp only [Option.some.injEq, Prod.mk.injEq] at H
    obtain ⟨rfl, rfl, rfl⟩ := H
    have hnb19 := NB305_306.out
    have hnc19 := NB306_305.out
    have hcz20_0 : wc.cell? ⟨gb305, 0, none⟩ = some (.int .i64 0) := bc BK305 0
    have hcz20_1 : wc.cell? ⟨gb305, 1, none⟩ = some (.int .u64 0) := bc BK305 1
    have hfz20_0 := blk_frozen BK305.out 0
    have hfz20_1 := blk_frozen BK305.out 1
    go_wp2
    refine bodyPost_ret (results_ct rfl _ _ gb305 59 #[.int .i64 0, .int .u64 0] (0, 0) _ rfl (by (with_reducible repeat (first | refine blk_drewN ?_ _ | refine blk_drew ?_ | refine blk_alloc ?_ _)); refine blk_put (cs := #[.int .i64 0, .int .u64 0]) ?_ 1 _ rfl; (with_reducible repeat (first | refine blk_drewN ?_ _ | refine blk_drew ?_ | refine blk_alloc ?_ _)); refine blk_put (cs := #[.int .i64 0, .int .u64 0]) ?_ 0 _ rfl; exact blkt BK305) Try.underlying59 rfl (by kernel_rfl)) rfl ?_
    exact ⟨by first | rfl | (simp [errW_none, errW_some] <;> rfl) | (simp [*, errW_none, errW_some] <;> rfl), belt HB⟩
   replace c18 := Bool.eq_false_iff.mpr c18
   subst c18
   have H1 : (if a0 < 9223372036854775808 then (some ((wrap64 (a0)), a1, true)) else (some (0, 0, false))) = some (r1, r2, r3) := by rw [if_neg (show ¬ (false = true) by decide)] at H; exact H
   clear H
   have H := H1
   clear H1
   by_cases c21 : a0 < 9223372036854775808
   ·rw [if_pos c21] at H
    have c21b0 : decide (a0 < 9223372036854775808) = true := decide_eq_true c21
    clear c21
    simp only [Option.some.injEq, Prod.mk.injEq] at H
    obtain ⟨rfl, rfl, rfl⟩ := H
    have hnb22 := NB306_305.out
    have hnc22 := NB305_306.out
    have hcz23_0 : wc.cell? ⟨gb306, 0, none⟩ = some (.int .i64 (wrap64 (a0))) := bc BK306 0
    have hcz23_1 : wc.cell? ⟨gb306, 1, none⟩ = some (.int .u64 a1) := bc BK306 1
    have hfz23_0 := blk_frozen BK306.out 0
    have hfz23_1 := blk_frozen BK306.out 1
    have hcz24_0 : wc.cell? ⟨gb305, 0, none⟩ = some (.int .i64 0) := bc BK305 0
    have hcz24_1 : wc.cell? ⟨gb305, 1, none⟩ = some (.int .u64 0) := bc BK305 1
    have hfz24_0 := blk_frozen BK305.out 0
    have hfz24_1 := blk_frozen BK305.out 1
    go_wp2
    refine bodyPost_ret (results_ct rfl _ _ gb305 59 #[.int .i64 (wrap64 (a0)), .int .u64 a1] (0, 0) _ rfl (by (with_reducible repeat (first | refine blk_drewN ?_ _ | refine blk_drew ?_ | refine blk_alloc ?_ _)); refine blk_put (cs := #[.int .i64 (wrap64 (a0)), .int .u64 0]) ?_ 1 _ rfl; (with_reducible repeat (first | refine blk_drewN ?_ _ | refine blk_drew ?_ | refine blk_alloc ?_ _)); refine blk_put (cs := #[.int .i64 0, .int .u64 0]) ?_ 0 _ rfl; exact blkt BK305) Try.underlying59 rfl (by kernel_rfl)) rfl ?_
    exact ⟨by first | rfl | (simp [errW_none, errW_some] <;> rfl) | (simp [*, errW_none, errW_some] <;> rfl), belt HB⟩
   rw [if_neg c21] at H
   have c21b0 : decide (a0 < 9223372036854775808) = false := decide_eq_false c21
   clear c21
   simp only [Option.some.injEq, Prod.mk.injEq] at H
   obtain ⟨rfl, rfl, rfl⟩ := H
   have hnb25 := NB305_306.out
   have hnc25 := NB306_305.out
   have hcz26_0 : wc.cell? ⟨gb305, 0, none⟩ = some (.int .i64 0) := bc BK305 0
   have hcz26_1 : wc.cell? ⟨gb305, 1, none⟩ = some (.int .u64 0) := bc BK305 1
   have hfz26_0 := blk_frozen BK305.out 0
   have hfz26_1 := blk_frozen BK305.out 1
   go_wp2
   refine bodyPost_ret (results_ct rfl _ _ gb305 59 #[.int .i64 0, .int .u64 0] (0, 0) _ rfl (by (with_reducible repeat (first | refine blk_drewN ?_ _ | refine blk_drew ?_ | refine blk_alloc ?_ _)); refine blk_put (cs := #[.int .i64 0, .int .u64 0]) ?_ 1 _ rfl; (with_reducible repeat (first | refine blk_drewN ?_ _ | refine blk_drew ?_ | refine blk_alloc ?_ _)); refine blk_put (cs := #[.int .i64 0, .int .u64 0]) ?_ 0 _ rfl; exact blkt BK305) Try.underlying59 rfl (by kernel_rfl)) rfl ?_
   exact ⟨by first | rfl | (simp [errW_none, errW_some] <;> rfl) | (simp [*, errW_none, errW_some] <;> rfl), belt HB⟩


/-! ### wide_Int_Mul: function 69 -/
def wide_Int_Mul.f (k : Nat) (a0_0 : Int) (a0_1 : Int) (a1 : Int) : Option (Int × Int × Bool) := (wide_Int_size.f a0_0 a0_1).bind fun bt311 => ((wide_Of.f a1).bind fun bt313 => ((wide_Int_size.f bt313.1 bt313.2).bind fun bt315 => ((bits_Mul64.f bt311.1 bt315.2).bind fun bt317 => ((bits_Mul64.f bt311.2 bt315.2).bind fun bt319 => (if bt317.1 = 0 then (if (addHi bt317.2 bt319.1 0) = 0 then ((wide_signed.f k (addLo bt317.2 bt319.1 0) bt319.2 ((decide (a0_0 < 0)) != (decide (a1 < 0)))).bind fun bt321 => (some (bt321.1, bt321.2.1, bt321.2.2))) else (some (0, 0, false))) else (some (0, 0, false)))))))
theorem wide_Int_Mul.mono : ∀ a0 a1 a2 k, LeO (wide_Int_Mul.f k a0 a1 a2) (wide_Int_Mul.f (k + 1) a0 a1 a2) := by
 intro a0 a1 a2 k
 unfold wide_Int_Mul.f
 repeat' first
   | (with_reducible exact wide_signed.mono _ _ _ _)
   | (with_reducible exact LeO.refl _)
   | (with_reducible exact LeO.none _)
   | (with_reducible refine LeO.ite ?_ ?_)
   | (with_reducible refine LeO.bind ?_ (fun _ => ?_))
   | exact wide_signed.mono _ _ _ _
   | exact LeO.none _
   | refine LeO.ite ?_ ?_
   | refine LeO.bind ?_ (fun _ => ?_)
set_option maxHeartbeats 8000000 in
set_option maxRecDepth 100000 in
theorem wide_Int_Mul.calls (k : Nat) (a0_0 : Int) (a0_1 : Int) (a1 : Int) (r1 : Int) (r2 : Int) (r3 : Bool) (w : World) (h : wide_Int_Mul.f k a0_0 a0_1 a1 = some (r1, r2, r3)) :
  Calls Try.prog 69 #[.agg #[.int .i64 a0_0, .int .u64 a0_1], .int .i64 a1] w fun e w' => e = .returned (.tuple #[.agg #[.int .i64 r1, .int .u64 r2], .bool r3]) ∧ Below w.heap.size w w' := by
 have hu59 := Try.underlying59
 have HB := Aside0.mk (Below.refl w.heap.size w)
 have H : ((wide_Int_size.f a0_0 a0_1).bind fun bt311 => ((wide_Of.f a1).bind fun bt313 => ((wide_Int_size.f bt313.1 bt313.2).bind fun bt315 => ((bits_Mul64.f bt311.1 bt315.2).bind fun bt317 => ((bits_Mul64.f bt311.2 bt315.2).bind fun bt319 => (if bt317.1 = 0 then (if (addHi bt317.2 bt319.1 0) = 0 then ((wide_signed.f k (addLo bt317.2 bt319.1 0) bt319.2 ((decide (a0_0 < 0)) != (decide (a1 < 0)))).bind fun bt321 => (some (bt321.1, bt321.2.1, bt321.2.2))) else (some (0, 0, false))) else (some (0, 0, false)))))))) = some (r1, r2, r3) := h
 clear h
 replace H := Option.bind_eq_some_iff.mp H
 obtain ⟨⟨t311, t312⟩, A30, H⟩ := H
 replace H : ((wide_Of.f a1).bind fun bt313 => ((wide_Int_size.f bt313.1 bt313.2).bind fun bt315 => ((bits_Mul64.f t311 bt315.2).bind fun bt317 => ((bits_Mul64.f t312 bt315.2).bind fun bt319 => (if bt317.1 = 0 then (if (addHi bt317.2 bt319.1 0) = 0 then ((wide_signed.f k (addLo bt317.2 bt319.1 0) bt319.2 ((decide (a0_0 < 0)) != (decide (a1 < 0)))).bind fun bt321 => (some (bt321.1, bt321.2.1, bt321.2.2))) else (some (0, 0, false))) else (some (0, 0, false))))))) = some (r1, r2, r3) := H
 have A3 := Aside0.mk A30
 clear A30
 replace H := Option.bind_eq_some_iff.mp H
 obtain ⟨⟨t313, t314⟩, A40, H⟩ := H
 replace H : ((wide_Int_size.f t313 t314).bind fun bt315 => ((bits_Mul64.f t311 bt315.2).bind fun bt317 => ((bits_Mul64.f t312 bt315.2).bind fun bt319 => (if bt317.1 = 0 then (if (addHi bt317.2 bt319.1 0) = 0 then ((wide_signed.f k (addLo bt317.2 bt319.1 0) bt319.2 ((decide (a0_0 < 0)) != (decide (a1 < 0)))).bind fun bt321 => (some (bt321.1, bt321.2.1, bt321.2.2))) else (some (0, 0, false))) else (some (0, 0, false)))))) = some (r1, r2, r3) := H
 have A4 := Aside0.mk A40
 clear A40
 replace H := Option.bind_eq_some_iff.mp H
 obtain ⟨⟨t315, t316⟩, A50, H⟩ := H
 replace H : ((bits_Mul64.f t311 t316).bind fun bt317 => ((bits_Mul64.f t312 t316).bind fun bt319 => (if bt317.1 = 0 then (if (addHi bt317.2 bt319.1 0) = 0 then ((wide_signed.f k (addLo bt317.2 bt319.1 0) bt319.2 ((decide (a0_0 < 0)) != (decide (a1 < 0)))).bind fun bt321 => (some (bt321.1, bt321.2.1, bt321.2.2))) else (some (0, 0, false))) else (some (0, 0, false))))) = some (r1, r2, r3) := H
 have A5 := Aside0.mk A50
 clear A50
 replace H := Option.bind_eq_some_iff.mp H
 obtain ⟨⟨t317, t318⟩, A60, H⟩ := H
 replace H : ((bits_Mul64.f t312 t316).bind fun bt319 => (if t317 = 0 then (if (addHi t318 bt319.1 0) = 0 then ((wide_signed.f k (addLo t318 bt319.1 0) bt319.2 ((decide (a0_0 < 0)) != (decide (a1 < 0)))).bind fun bt321 => (some (bt321.1, bt321.2.1, bt321.2.2))) else (some (0, 0, false))) else (some (0, 0, false)))) = some (r1, r2, r3) := H
 have A6 := Aside0.mk A60
 clear A60
 replace H := Option.bind_eq_some_iff.mp H
 obtain ⟨⟨t319, t320⟩, A70, H⟩ := H
 replace H : (if t317 = 0 then (if (addHi t318 t319 0) = 0 then ((wide_signed.f k (addLo t318 t319 0) t320 ((decide (a0_0 < 0)) != (decide (a1 < 0)))).bind fun bt321 => (some (bt321.1, bt321.2.1, bt321.2.2))) else (some (0, 0, false))) else (some (0, 0, false))) = some (r1, r2, r3) := H
 have A7 := Aside0.mk A70
 clear A70
 by_cases c8 : t317 = 0
 ·rw [if_pos c8] at H
  have c8b0 : (t317 == 0) = true := beq_iff_eq.mpr c8
  have c8b1 : (t317 != 0) = false := bne_eq_false_iff_eq.mpr c8
  clear c8
  by_cases c9 : (addHi t318 t319 0) = 0
  ·rw [if_pos c9] at H
   have c9b0 : ((addHi t318 t319 0) == 0) = true := beq_iff_eq.mpr c9
   have c9b1 : ((addHi t318 t319 0) != 0) = false := bne_eq_false_iff_eq.mpr c9
   clear c9
   replace H := Option.bind_eq_some_iff.mp H
   obtain ⟨⟨t321, t322, t323⟩, A100, H⟩ := H
   replace H : (some (t321, t322, t323)) = some (r1, r2, r3) := H
   have A10 := Aside0.mk A100
   clear A100
   simp only [Option.some.injEq, Prod.mk.injEq] at H
   obtain ⟨rfl, rfl, rfl⟩ := H
   go_enter Try.func69, Try.ntmps69
   go_wp2_with (first | ((with_reducible refine gate_dst (N := 2) rfl ?_); refine box_event ?hg (N := 2) ?hd (cs := #[.int .i64 a0_0, .int .u64 a0_1]) (t := 59) ?hr ?_; (case hd => rfl); (case hg => rfl); (case hr => first | (go_simp; done) | (go_simp; rfl)); intro gb309 hg w11 hbox hb; have BK309 := Aside0.mk (hbox); have GW309 := bels HB hg; have GE309 := bels HB hg; replace HB := belb HB hb; clear hb hbox hg) | ((with_reducible refine gate_dst (N := 4) rfl ?_); refine box_event ?hg (N := 4) ?hd (cs := #[.int .i64 0, .int .u64 0]) (t := 59) ?hr ?_; (case hd => rfl); (case hg => rfl); (case hr => first | (go_simp; done) | (go_simp; rfl)); intro gb310 hg w12 hbox hb; have BK310 := Aside0.mk (hbox); have GW310 := bels HB hg; have GE310 := bels HB hg; have NB309_310 := blkl BK309 hg; have NB310_309 := blkg BK309 hg; replace BK309 := blkb BK309 hb; replace HB := belb HB hb; clear hb hbox hg; have hnb13 := NB309_310.out; have hnc13 := NB310_309.out; have hcz14_0 : w12.cell? ⟨gb309, 0, none⟩ = some (.int .i64 a0_0) := bc BK309 0; have hcz14_1 : w12.cell? ⟨gb309, 1, none⟩ = some (.int .u64 a0_1) := bc BK309 1; have hfz14_0 := blk_frozen BK309.out 0; have hfz14_1 := blk_frozen BK309.out 1) | ((with_reducible refine gate_callee (f := 87) rfl ?_); refine goesL_ (some 17) rfl rfl Try.func87 (by kernel_rfl) rfl #[.agg #[.int .i64 a0_0, .int .u64 a0_1]] rfl argt ?_; (with_reducible refine (wide_Int_size.calls a0_0 a0_1 t311 t312 _ A3.out).mono ?_); rintro e w15 ⟨rfl, hb⟩; refine ⟨_, rfl, ?_⟩; replace BK309 := blkb BK309 hb; replace BK310 := blkb BK310 hb; replace HB := belb HB hb; (try clear hb); (try clear hb2); (try clear hk); (try clear hi)) | ((with_reducible refine gate_callee (f := 88) rfl ?_); refine goesL_ (some 22) rfl rfl Try.func88 (by kernel_rfl) rfl #[.int .i64 a1] rfl argt ?_; (with_reducible refine (wide_Of.calls a1 t313 t314 _ A4.out).mono ?_); rintro e w16 ⟨rfl, hb⟩; refine ⟨_, rfl, ?_⟩; replace BK309 := blkb BK309 hb; replace BK310 := blkb BK310 hb; replace HB := belb HB hb; (try clear hb); (try clear hb2); (try clear hk); (try clear hi)) | ((with_reducible refine gate_callee (f := 87) rfl ?_); refine goesL_ (some 23) rfl rfl Try.func87 (by kernel_rfl) rfl #[.agg #[.int .i64 t313, .int .u64 t314]] rfl argt ?_; (with_reducible refine (wide_Int_size.calls t313 t314 t315 t316 _ A5.out).mono ?_); rintro e w17 ⟨rfl, hb⟩; refine ⟨_, rfl, ?_⟩; replace BK309 := blkb BK309 hb; replace BK310 := blkb BK310 hb; replace HB := belb HB hb; (try clear hb); (try clear hb2); (try clear hk); (try clear hi)) | ((with_reducible refine gate_callee (f := 66) rfl ?_); refine goesL_ (some 29) rfl rfl Try.func66 (by kernel_rfl) rfl #[.int .u64 t311, .int .u64 t316] rfl argt ?_; (with_reducible refine (bits_Mul64.calls t311 t316 t317 t318 _ A6.out).mono ?_); rintro e w' ⟨rfl, ⟨nd, rfl⟩⟩; refine ⟨_, rfl, ?_⟩; (try (rw [drewN_self w17]; generalize hq_ : World.drewN w17 _ = w17; replace BK309 : Aside0 (w17.heap[gb309]? = some (.cells #[.int .i64 a0_0, .int .u64 a0_1] 59 (0, 0))) := ⟨by rw [← hq_]; exact (blkt BK309)⟩; replace BK310 : Aside0 (w17.heap[gb310]? = some (.cells #[.int .i64 0, .int .u64 0] 59 (0, 0))) := ⟨by rw [← hq_]; exact (blkt BK310)⟩; replace HB : Aside0 (Below w.heap.size w w17) := ⟨by rw [← hq_]; exact (belt HB)⟩; clear hq_))) | ((with_reducible refine gate_callee (f := 66) rfl ?_); refine goesL_ (some 35) rfl rfl Try.func66 (by kernel_rfl) rfl #[.int .u64 t312, .int .u64 t316] rfl argt ?_; (with_reducible refine (bits_Mul64.calls t312 t316 t319 t320 _ A7.out).mono ?_); rintro e w' ⟨rfl, ⟨nd, rfl⟩⟩; refine ⟨_, rfl, ?_⟩; (try (rw [drewN_self w17]; generalize hq_ : World.drewN w17 _ = w17; replace BK309 : Aside0 (w17.heap[gb309]? = some (.cells #[.int .i64 a0_0, .int .u64 a0_1] 59 (0, 0))) := ⟨by rw [← hq_]; exact (blkt BK309)⟩; replace BK310 : Aside0 (w17.heap[gb310]? = some (.cells #[.int .i64 0, .int .u64 0] 59 (0, 0))) := ⟨by rw [← hq_]; exact (blkt BK310)⟩; replace HB : Aside0 (Below w.heap.size w w17) := ⟨by rw [← hq_]; exact (belt HB)⟩; clear hq_)); have hcz18_0 : w17.cell? ⟨gb309, 0, none⟩ = some (.int .i64 a0_0) := bc BK309 0; have hcz18_1 : w17.cell? ⟨gb309, 1, none⟩ = some (.int .u64 a0_1) := bc BK309 1; have hfz18_0 := blk_frozen BK309.out 0; have hfz18_1 := blk_frozen BK309.out 1) | ((with_reducible refine gate_callee (f := 89) rfl ?_); refine goesL_ (some 59) rfl rfl Try.func89 (by kernel_rfl) rfl #[.int .u64 (addLo t318 t319 0), .int .u64 t320, .bool ((decide (a0_0 < 0)) != (decide (a1 < 0)))] rfl argt ?_; (with_reducible refine (wide_signed.calls k (addLo t318 t319 0) t320 ((decide (a0_0 < 0)) != (decide (a1 < 0))) t321 t322 t323 _ A10.out).mono ?_); rintro e w19 ⟨rfl, hb⟩; refine ⟨_, rfl, ?_⟩; replace BK309 := blkb BK309 hb; replace BK310 := blkb BK310 hb; replace HB := belb HB hb; (try clear hb); (try clear hb2); (try clear hk); (try clear hi); have hcz20_0 : w19.cell? ⟨gb310, 0, none⟩ = some (.int .i64 0) := bc BK310 0; have hcz20_1 : w19.cell? ⟨gb310, 1, none⟩ = some (.int .u64 0) := bc BK310 1; have hfz20_0 := blk_frozen BK310.out 0; have hfz20_1 := blk_frozen BK310.out 1))
   refine bodyPost_ret (results_ct rfl _ _ gb310 59 #[.int .i64 t321, .int .u64 t322] (0, 0) _ rfl (by (with_reducible repeat (first | refine blk_drewN ?_ _ | refine blk_drew ?_ | refine blk_alloc ?_ _)); refine blk_put (cs := #[.int .i64 t321, .int .u64 0]) ?_ 1 _ rfl; (with_reducible repeat (first | refine blk_drewN ?_ _ | refine blk_drew ?_ | refine blk_alloc ?_ _)); refine blk_put (cs := #[.int .i64 0, .int .u64 0]) ?_ 0 _ rfl; exact blkt BK310) Try.underlying59 rfl (by kernel_rfl)) rfl ?_
   exact ⟨by first | rfl | (simp [errW_none, errW_some] <;> rfl) | (simp [*, errW_none, errW_some] <;> rfl), belt HB⟩
  rw [if_neg c9] at H
  have c9b0 : ((addHi t318 t319 0) == 0) = false := beq_eq_false_iff_ne.mpr c9
  have c9b1 : ((addHi t318 t319 0) != 0) = true := bne_iff_ne.mpr c9
  simp only [Option.some.injEq, Prod.mk.injEq] at H
  obtain ⟨rfl, rfl, rfl⟩ := H
  go_enter Try.func69, Try.ntmps69
  go_wp2_with (first | ((with_reducible refine gate_dst (N := 2) rfl ?_); refine box_event ?hg (N := 2) ?hd (cs := #[.int .i64 a0_0, .int .u64 a0_1]) (t := 59) ?hr ?_; (case hd => rfl); (case hg => rfl); (case hr => first | (go_simp; done) | (go_simp; rfl)); intro gb309 hg w21 hbox hb; have BK309 := Aside0.mk (hbox); have GW309 := bels HB hg; have GE309 := bels HB hg; replace HB := belb HB hb; clear hb hbox hg) | ((with_reducible refine gate_dst (N := 4) rfl ?_); refine box_event ?hg (N := 4) ?hd (cs := #[.int .i64 0, .int .u64 0]) (t := 59) ?hr ?_; (case hd => rfl); (case hg => rfl); (case hr => first | (go_simp; done) | (go_simp; rfl)); intro gb310 hg w22 hbox hb; have BK310 := Aside0.mk (hbox); have GW310 := bels HB hg; have GE310 := bels HB hg; have NB309_310 := blkl BK309 hg; have NB310_309 := blkg BK309 hg; replace BK309 := blkb BK309 hb; replace HB := belb HB hb; clear hb hbox hg; have hnb23 := NB309_310.out; have hnc23 := NB310_309.out; have hcz24_0 : w22.cell? ⟨gb309, 0, none⟩ = some (.int .i64 a0_0) := bc BK309 0; have hcz24_1 : w22.cell? ⟨gb309, 1, none⟩ = some (.int .u64 a0_1) := bc BK309 1; have hfz24_0 := blk_frozen BK309.out 0; have hfz24_1 := blk_frozen BK309.out 1) | ((with_reducible refine gate_callee (f := 87) rfl ?_); refine goesL_ (some 17) rfl rfl Try.func87 (by kernel_rfl) rfl #[.agg #[.int .i64 a0_0, .int .u64 a0_1]] rfl argt ?_; (with_reducible refine (wide_Int_size.calls a0_0 a0_1 t311 t312 _ A3.out).mono ?_); rintro e w25 ⟨rfl, hb⟩; refine ⟨_, rfl, ?_⟩; replace BK309 := blkb BK309 hb; replace BK310 := blkb BK310 hb; replace HB := belb HB hb; (try clear hb); (try clear hb2); (try clear hk); (try clear hi)) | ((with_reducible refine gate_callee (f := 88) rfl ?_); refine goesL_ (some 22) rfl rfl Try.func88 (by kernel_rfl) rfl #[.int .i64 a1] rfl argt ?_; (with_reducible refine (wide_Of.calls a1 t313 t314 _ A4.out).mono ?_); rintro e w26 ⟨rfl, hb⟩; refine ⟨_, rfl, ?_⟩; replace BK309 := blkb BK309 hb; replace BK310 := blkb BK310 hb; replace HB := belb HB hb; (try clear hb); (try clear hb2); (try clear hk); (try clear hi)) | ((with_reducible refine gate_callee (f := 87) rfl ?_); refine goesL_ (some 23) rfl rfl Try.func87 (by kernel_rfl) rfl #[.agg #[.int .i64 t313, .int .u64 t314]] rfl argt ?_; (with_reducible refine (wide_Int_size.calls t313 t314 t315 t316 _ A5.out).mono ?_); rintro e w27 ⟨rfl, hb⟩; refine ⟨_, rfl, ?_⟩; replace BK309 := blkb BK309 hb; replace BK310 := blkb BK310 hb; replace HB := belb HB hb; (try clear hb); (try clear hb2); (try clear hk); (try clear hi)) | ((with_reducible refine gate_callee (f := 66) rfl ?_); refine goesL_ (some 29) rfl rfl Try.func66 (by kernel_rfl) rfl #[.int .u64 t311, .int .u64 t316] rfl argt ?_; (with_reducible refine (bits_Mul64.calls t311 t316 t317 t318 _ A6.out).mono ?_); rintro e w' ⟨rfl, ⟨nd, rfl⟩⟩; refine ⟨_, rfl, ?_⟩; (try (rw [drewN_self w27]; generalize hq_ : World.drewN w27 _ = w27; replace BK309 : Aside0 (w27.heap[gb309]? = some (.cells #[.int .i64 a0_0, .int .u64 a0_1] 59 (0, 0))) := ⟨by rw [← hq_]; exact (blkt BK309)⟩; replace BK310 : Aside0 (w27.heap[gb310]? = some (.cells #[.int .i64 0, .int .u64 0] 59 (0, 0))) := ⟨by rw [← hq_]; exact (blkt BK310)⟩; replace HB : Aside0 (Below w.heap.size w w27) := ⟨by rw [← hq_]; exact (belt HB)⟩; clear hq_))) | ((with_reducible refine gate_callee (f := 66) rfl ?_); refine goesL_ (some 35) rfl rfl Try.func66 (by kernel_rfl) rfl #[.int .u64 t312, .int .u64 t316] rfl argt ?_; (with_reducible refine (bits_Mul64.calls t312 t316 t319 t320 _ A7.out).mono ?_); rintro e w' ⟨rfl, ⟨nd, rfl⟩⟩; refine ⟨_, rfl, ?_⟩; (try (rw [drewN_self w27]; generalize hq_ : World.drewN w27 _ = w27; replace BK309 : Aside0 (w27.heap[gb309]? = some (.cells #[.int .i64 a0_0, .int .u64 a0_1] 59 (0, 0))) := ⟨by rw [← hq_]; exact (blkt BK309)⟩; replace BK310 : Aside0 (w27.heap[gb310]? = some (.cells #[.int .i64 0, .int .u64 0] 59 (0, 0))) := ⟨by rw [← hq_]; exact (blkt BK310)⟩; replace HB : Aside0 (Below w.heap.size w w27) := ⟨by rw [← hq_]; exact (belt HB)⟩; clear hq_)); have hcz28_0 : w27.cell? ⟨gb310, 0, none⟩ = some (.int .i64 0) := bc BK310 0; have hcz28_1 : w27.cell? ⟨gb310, 1, none⟩ = some (.int .u64 0) := bc BK310 1; have hfz28_0 := blk_frozen BK310.out 0; have hfz28_1 := blk_frozen BK310.out 1))
  refine bodyPost_ret (results_ct rfl _ _ gb310 59 #[.int .i64 0, .int .u64 0] (0, 0) _ rfl (by (with_reducible repeat (first | refine blk_drewN ?_ _ | refine blk_drew ?_ | refine blk_alloc ?_ _)); refine blk_put (cs := #[.int .i64 0, .int .u64 0]) ?_ 1 _ rfl; (with_reducible repeat (first | refine blk_drewN ?_ _ | refine blk_drew ?_ | refine blk_alloc ?_ _)); refine blk_put (cs := #[.int .i64 0, .int .u64 0]) ?_ 0 _ rfl; exact blkt BK310) Try.underlying59 rfl (by kernel_rfl)) rfl ?_
  exact ⟨by first | rfl | (simp [errW_none, errW_some] <;> rfl) | (simp [*, errW_none, errW_some] <;> rfl), belt HB⟩
 rw [if_neg c8] at H
 have c8b0 : (t317 == 0) = false := beq_eq_false_iff_ne.mpr c8
 have c8b1 : (t317 != 0) = true := bne_iff_ne.mpr c8
 simp only [Option.some.injEq, Prod.mk.injEq] at H
 obtain ⟨rfl, rfl, rfl⟩ := H
 go_enter Try.func69, Try.ntmps69
 go_wp2_with (first | ((with_reducible refine gate_dst (N := 2) rfl ?_); refine box_event ?hg (N := 2) ?hd (cs := #[.int .i64 a0_0, .int .u64 a0_1]) (t := 59) ?hr ?_; (case hd => rfl); (case hg => rfl); (case hr => first | (go_simp; done) | (go_simp; rfl)); intro gb309 hg w29 hbox hb; have BK309 := Aside0.mk (hbox); have GW309 := bels HB hg; have GE309 := bels HB hg; replace HB := belb HB hb; clear hb hbox hg) | ((with_reducible refine gate_dst (N := 4) rfl ?_); refine box_event ?hg (N := 4) ?hd (cs := #[.int .i64 0, .int .u64 0]) (t := 59) ?hr ?_; (case hd => rfl); (case hg => rfl); (case hr => first | (go_simp; done) | (go_simp; rfl)); intro gb310 hg w30 hbox hb; have BK310 := Aside0.mk (hbox); have GW310 := bels HB hg; have GE310 := bels HB hg; have NB309_310 := blkl BK309 hg; have NB310_309 := blkg BK309 hg; replace BK309 := blkb BK309 hb; replace HB := belb HB hb; clear hb hbox hg; have hnb31 := NB309_310.out; have hnc31 := NB310_309.out; have hcz32_0 : w30.cell? ⟨gb309, 0, none⟩ = some (.int .i64 a0_0) := bc BK309 0; have hcz32_1 : w30.cell? ⟨gb309, 1, none⟩ = some (.int .u64 a0_1) := bc BK309 1; have hfz32_0 := blk_frozen BK309.out 0; have hfz32_1 := blk_frozen BK309.out 1) | ((with_reducible refine gate_callee (f := 87) rfl ?_); refine goesL_ (some 17) rfl rfl Try.func87 (by kernel_rfl) rfl #[.agg #[.int .i64 a0_0, .int .u64 a0_1]] rfl argt ?_; (with_reducible refine (wide_Int_size.calls a0_0 a0_1 t311 t312 _ A3.out).mono ?_); rintro e w33 ⟨rfl, hb⟩; refine ⟨_, rfl, ?_⟩; replace BK309 := blkb BK309 hb; replace BK310 := blkb BK310 hb; replace HB := belb HB hb; (try clear hb); (try clear hb2); (try clear hk); (try clear hi)) | ((with_reducible refine gate_callee (f := 88) rfl ?_); refine goesL_ (some 22) rfl rfl Try.func88 (by kernel_rfl) rfl #[.int .i64 a1] rfl argt ?_; (with_reducible refine (wide_Of.calls a1 t313 t314 _ A4.out).mono ?_); rintro e w34 ⟨rfl, hb⟩; refine ⟨_, rfl, ?_⟩; replace BK309 := blkb BK309 hb; replace BK310 := blkb BK310 hb; replace HB := belb HB hb; (try clear hb); (try clear hb2); (try clear hk); (try clear hi)) | ((with_reducible refine gate_callee (f := 87) rfl ?_); refine goesL_ (some 23) rfl rfl Try.func87 (by kernel_rfl) rfl #[.agg #[.int .i64 t313, .int .u64 t314]] rfl argt ?_; (with_reducible refine (wide_Int_size.calls t313 t314 t315 t316 _ A5.out).mono ?_); rintro e w35 ⟨rfl, hb⟩; refine ⟨_, rfl, ?_⟩; replace BK309 := blkb BK309 hb; replace BK310 := blkb BK310 hb; replace HB := belb HB hb; (try clear hb); (try clear hb2); (try clear hk); (try clear hi)) | ((with_reducible refine gate_callee (f := 66) rfl ?_); refine goesL_ (some 29) rfl rfl Try.func66 (by kernel_rfl) rfl #[.int .u64 t311, .int .u64 t316] rfl argt ?_; (with_reducible refine (bits_Mul64.calls t311 t316 t317 t318 _ A6.out).mono ?_); rintro e w' ⟨rfl, ⟨nd, rfl⟩⟩; refine ⟨_, rfl, ?_⟩; (try (rw [drewN_self w35]; generalize hq_ : World.drewN w35 _ = w35; replace BK309 : Aside0 (w35.heap[gb309]? = some (.cells #[.int .i64 a0_0, .int .u64 a0_1] 59 (0, 0))) := ⟨by rw [← hq_]; exact (blkt BK309)⟩; replace BK310 : Aside0 (w35.heap[gb310]? = some (.cells #[.int .i64 0, .int .u64 0] 59 (0, 0))) := ⟨by rw [← hq_]; exact (blkt BK310)⟩; replace HB : Aside0 (Below w.heap.size w w35) := ⟨by rw [← hq_]; exact (belt HB)⟩; clear hq_))) | ((with_reducible refine gate_callee (f := 66) rfl ?_); refine goesL_ (some 35) rfl rfl Try.func66 (by kernel_rfl) rfl #[.int .u64 t312, .int .u64 t316] rfl argt ?_; (with_reducible refine (bits_Mul64.calls t312 t316 t319 t320 _ A7.out).mono ?_); rintro e w' ⟨rfl, ⟨nd, rfl⟩⟩; refine ⟨_, rfl, ?_⟩; (try (rw [drewN_self w35]; generalize hq_ : World.drewN w35 _ = w35; replace BK309 : Aside0 (w35.heap[gb309]? = some (.cells #[.int .i64 a0_0, .int .u64 a0_1] 59 (0, 0))) := ⟨by rw [← hq_]; exact (blkt BK309)⟩; replace BK310 : Aside0 (w35.heap[gb310]? = some (.cells #[.int .i64 0, .int .u64 0] 59 (0, 0))) := ⟨by rw [← hq_]; exact (blkt BK310)⟩; replace HB : Aside0 (Below w.heap.size w w35) := ⟨by rw [← hq_]; exact (belt HB)⟩; clear hq_)); have hcz36_0 : w35.cell? ⟨gb310, 0, none⟩ = some (.int .i64 0) := bc BK310 0; have hcz36_1 : w35.cell? ⟨gb310, 1, none⟩ = some (.int .u64 0) := bc BK310 1; have hfz36_0 := blk_frozen BK310.out 0; have hfz36_1 := blk_frozen BK310.out 1))
 refine bodyPost_ret (results_ct rfl _ _ gb310 59 #[.int .i64 0, .int .u64 0] (0, 0) _ rfl (by (with_reducible repeat (first | refine blk_drewN ?_ _ | refine blk_drew ?_ | refine blk_alloc ?_ _)); refine blk_put (cs := #[.int .i64 0, .int .u64 0]) ?_ 1 _ rfl; (with_reducible repeat (first | refine blk_drewN ?_ _ | refine blk_drew ?_ | refine blk_alloc ?_ _)); refine blk_put (cs := #[.int .i64 0, .int .u64 0]) ?_ 0 _ rfl; exact blkt BK310) Try.underlying59 rfl (by kernel_rfl)) rfl ?_
 exact ⟨by first | rfl | (simp [errW_none, errW_some] <;> rfl) | (simp [*, errW_none, errW_some] <;> rfl), belt HB⟩


/-! ### pos_Pos_Right: function 50 -/
def pos_Pos_Right.f (a0_0 : Int) (a0_1 : Int) (a0_2 : Int) : Option (Bool) := (pos_weight.f a0_2).bind fun t534 => (if t534 = true then (some (decide (a0_1 < a0_2))) else (some false))
set_option maxHeartbeats 8000000 in
set_option maxRecDepth 100000 in
theorem pos_Pos_Right.calls (a0_0 : Int) (a0_1 : Int) (a0_2 : Int) (r : Bool) (w : World) (h : pos_Pos_Right.f a0_0 a0_1 a0_2 = some r) :
  Calls Try.prog 50 #[.agg #[.int .u64 a0_0, .int .u32 a0_1, .int .u32 a0_2]] w fun e w' => e = .returned (.bool r) ∧ Below w.heap.size w w' := by
 have hu67 := Try.underlying67
 have HB := Aside0.mk (Below.refl w.heap.size w)
 have H : ((pos_weight.f a0_2).bind fun t534 => (if t534 = true then (some (decide (a0_1 < a0_2))) else (some false))) = some r := h
 clear h
 replace H := Option.bind_eq_some_iff.mp H
 obtain ⟨t534, A20, H⟩ := H
 replace H : (if t534 = true then (some (decide (a0_1 < a0_2))) else (some false)) = some r := H
 have A2 := Aside0.mk A20
 clear A20
 by_cases c3 : t534 = true
 ·subst c3
  have H1 : (some (decide (a0_1 < a0_2))) = some r := by rw [if_pos rfl] at H; exact H
  clear H
  have H := H1
  clear H1
  obtain rfl := Option.some.inj H
  go_enter Try.func50, Try.ntmps50
  go_wp2_with (first | ((with_reducible refine gate_dst (N := 1) rfl ?_); refine box_event ?hg (N := 1) ?hd (cs := #[.int .u64 a0_0, .int .u32 a0_1, .int .u32 a0_2]) (t := 67) ?hr ?_; (case hd => rfl); (case hg => rfl); (case hr => first | (go_simp; done) | (go_simp; rfl)); intro gb533 hg w4 hbox hb; have BK533 := Aside0.mk (hbox); have GW533 := bels HB hg; have GE533 := bels HB hg; replace HB := belb HB hb; clear hb hbox hg; have hcz5_0 : w4.cell? ⟨gb533, 0, none⟩ = some (.int .u64 a0_0) := bc BK533 0; have hcz5_1 : w4.cell? ⟨gb533, 1, none⟩ = some (.int .u32 a0_1) := bc BK533 1; have hcz5_2 : w4.cell? ⟨gb533, 2, none⟩ = some (.int .u32 a0_2) := bc BK533 2; have hfz5_0 := blk_frozen BK533.out 0; have hfz5_1 := blk_frozen BK533.out 1; have hfz5_2 := blk_frozen BK533.out 2) | ((with_reducible refine gate_callee (f := 75) rfl ?_); refine goesL_ (some 5) rfl rfl Try.func75 (by kernel_rfl) rfl #[.int .u32 a0_2] rfl argt ?_; (with_reducible refine (pos_weight.calls a0_2 true _ A2.out).mono ?_); rintro e w' ⟨rfl, ⟨nd, rfl⟩⟩; refine ⟨_, rfl, ?_⟩))
  go_ret
  exact ⟨by first | rfl | (simp [errW_none, errW_some] <;> rfl) | (simp [*, errW_none, errW_some] <;> rfl), belt HB⟩
 replace c3 := Bool.eq_false_iff.mpr c3
 subst c3
 have H1 : (some false) = some r := by rw [if_neg (show ¬ (false = true) by decide)] at H; exact H
 clear H
 have H := H1
 clear H1
 obtain rfl := Option.some.inj H
 go_enter Try.func50, Try.ntmps50
 go_wp2_with (first | ((with_reducible refine gate_dst (N := 1) rfl ?_); refine box_event ?hg (N := 1) ?hd (cs := #[.int .u64 a0_0, .int .u32 a0_1, .int .u32 a0_2]) (t := 67) ?hr ?_; (case hd => rfl); (case hg => rfl); (case hr => first | (go_simp; done) | (go_simp; rfl)); intro gb533 hg w6 hbox hb; have BK533 := Aside0.mk (hbox); have GW533 := bels HB hg; have GE533 := bels HB hg; replace HB := belb HB hb; clear hb hbox hg; have hcz7_0 : w6.cell? ⟨gb533, 0, none⟩ = some (.int .u64 a0_0) := bc BK533 0; have hcz7_1 : w6.cell? ⟨gb533, 1, none⟩ = some (.int .u32 a0_1) := bc BK533 1; have hcz7_2 : w6.cell? ⟨gb533, 2, none⟩ = some (.int .u32 a0_2) := bc BK533 2; have hfz7_0 := blk_frozen BK533.out 0; have hfz7_1 := blk_frozen BK533.out 1; have hfz7_2 := blk_frozen BK533.out 2) | ((with_reducible refine gate_callee (f := 75) rfl ?_); refine goesL_ (some 5) rfl rfl Try.func75 (by kernel_rfl) rfl #[.int .u32 a0_2] rfl argt ?_; (with_reducible refine (pos_weight.calls a0_2 false _ A2.out).mono ?_); rintro e w' ⟨rfl, ⟨nd, rfl⟩⟩; refine ⟨_, rfl, ?_⟩))
 go_ret
 exact ⟨by first | rfl | (simp [errW_none, errW_some] <;> rfl) | (simp [*, errW_none, errW_some] <;> rfl), belt HB⟩


/-! ### cmp_Or_int: function 82 -/
def cmp_Or_int.l0 : Nat → Int → List Int → Int → Int → Option (Int)
 | 0, _, _, _, _ => none
 | k + 1, x3, x6, x7, x8 => if x8 < x7 then (if 0 ≤ x8 then (if x8 < (x6.length : Int) then (if (rd x6 x8) = x3 then (cmp_Or_int.l0 k x3 x6 x7 (wrap64 (x8 + 1))) else (some (rd x6 x8))) else (none)) else (none)) else (some x3)
def cmp_Or_int.f (k : Nat) (l0 : List Int) : Option (Int) := cmp_Or_int.l0 k 0 l0 (l0.length : Int) 0
theorem cmp_Or_int.mono_l : ∀ k, (∀ y0 y1 y2 y3, LeO (cmp_Or_int.l0 k y0 y1 y2 y3) (cmp_Or_int.l0 (k + 1) y0 y1 y2 y3))
 | 0 => fun _ _ _ _ r h => by simp [cmp_Or_int.l0] at h
 | k + 1 => by
  have ih0 := cmp_Or_int.mono_l k
  ·intro y0 y1 y2 y3
   unfold cmp_Or_int.l0
   repeat' first
   | (with_reducible exact ih0 _ _ _ _)
   | (with_reducible exact LeO.refl _)
   | (with_reducible exact LeO.none _)
   | (with_reducible refine LeO.ite ?_ ?_)
   | (with_reducible refine LeO.bind ?_ (fun _ => ?_))
   | exact ih0 _ _ _ _
   | exact LeO.none _
   | refine LeO.ite ?_ ?_
   | refine LeO.bind ?_ (fun _ => ?_)
theorem cmp_Or_int.mono : ∀ a0 k, LeO (cmp_Or_int.f k a0) (cmp_Or_int.f (k + 1) a0) := by
 intro a0 k
 have ih0 := cmp_Or_int.mono_l k
 unfold cmp_Or_int.f
 repeat' first
   | (with_reducible exact ih0 _ _ _ _)
   | (with_reducible exact LeO.refl _)
   | (with_reducible exact LeO.none _)
   | (with_reducible refine LeO.ite ?_ ?_)
   | (with_reducible refine LeO.bind ?_ (fun _ => ?_))
   | exact ih0 _ _ _ _
   | exact LeO.none _
   | refine LeO.ite ?_ ?_
   | refine LeO.bind ?_ (fun _ => ?_)
set_option maxHeartbeats 8000000 in
set_option maxRecDepth 100000 in
theorem cmp_Or_int.calls (k : Nat) (A0 : Option Addr) (c0 : Nat) (l0 : List Int) (r : Int) (w : World) (hr0 : Kd.C (Kd.int .i64) w A0 l0.length l0) (hc0 : l0.length ≤ c0) (h : cmp_Or_int.f k l0 = some r) :
  Calls Try.prog 82 #[.slice A0 l0.length c0] w fun e w' => e = .returned (.int .i64 r) ∧ Drawn0 w w' := by
 have HR0 := Aside0.mk hr0
 have HC0 := Aside0.mk hc0
 clear hr0 hc0
 have H : (cmp_Or_int.l0 k 0 l0 (l0.length : Int) 0) = some r := h
 clear h
 have H' := Aside0.mk H
 clear H
 go_enter Try.func82, Try.ntmps82
 go_wp2
 (try simp only [Act.put, List.setIfInBounds_toArray, List.set_cons_zero, List.set_cons_succ])
 go_loopg [8] k (fun kq v8 w' => ∃ (x8_1 : Int), v8 = .int .i64 x8_1 ∧ Aside0 (cmp_Or_int.l0 kq 0 l0 (l0.length : Int) x8_1 = some r) ∧ Aside0 (kq ≤ k) ∧ Drawn0 w w')
 case atStart => exact ⟨(0), (by first | rfl | (simp; done) | (simp [*]; done)), H', ⟨Nat.le_refl _⟩, by repeat (first | exact Drawn0.refl _ | apply Drawn0.step)⟩
 case round =>
  clear H'
  obtain ⟨x8_1, rfl, HA, HK1, ⟨m1, rfl⟩⟩ := hrel
  cases gk with
  | zero => exact absurd HA.out (by simp [cmp_Or_int.l0])
  | succ k1 =>
   have H := HA.out
   clear HA
   simp only [cmp_Or_int.l0] at H
   by_cases c2 : x8_1 < (l0.length : Int)
   ·rw [if_pos c2] at H
    have c2b0 : decide (x8_1 < (l0.length : Int)) = true := decide_eq_true c2
    clear c2
    by_cases c3 : 0 ≤ x8_1
    ·rw [if_pos c3] at H
     have c3b0 : decide (0 ≤ x8_1) = true := decide_eq_true c3
     clear c3
     by_cases c4 : x8_1 < (l0.length : Int)
     ·rw [if_pos c4] at H
      have c4b0 : decide (x8_1 < (l0.length : Int)) = true := decide_eq_true c4
      clear c4
      by_cases c5 : (rd l0 x8_1) = 0
      ·rw [if_pos c5] at H
       have c5b0 : ((rd l0 x8_1) == 0) = true := beq_iff_eq.mpr c5
       have c5b1 : ((rd l0 x8_1) != 0) = false := bne_eq_false_iff_eq.mpr c5
       clear c5
       have H' := Aside0.mk H
       clear H
       have p535 : 0 ≤ (x8_1 : Int) := of_decide_eq_true (by first | (with_reducible assumption) | assumption)
       have q535 : x8_1 < (l0.length : Int) := of_decide_eq_true (by first | (with_reducible assumption) | assumption)
       obtain ⟨ad535, e535, hx535_0⟩ := Kd.at_int HR0.out x8_1 p535 q535
       cases e535
       replace p535 := eq_true p535
       replace q535 := eq_true q535
       go_wp2
       go_roundg k1
       case measure => have := HK1.out; omega
       case rel => exact ⟨(wrap64 (x8_1 + 1)), (by first | rfl | (simp; done) | (simp [*]; done)), H', ⟨by have := HK1.out; omega⟩, by repeat (first | exact Drawn0.refl _ | apply Drawn0.step)⟩
      rw [if_neg c5] at H
      have c5b0 : ((rd l0 x8_1) == 0) = false := beq_eq_false_iff_ne.mpr c5
      have c5b1 : ((rd l0 x8_1) != 0) = true := bne_iff_ne.mpr c5
      obtain rfl := Option.some.inj H
      have p535 : 0 ≤ (x8_1 : Int) := of_decide_eq_true (by first | (with_reducible assumption) | assumption)
      have q535 : x8_1 < (l0.length : Int) := of_decide_eq_true (by first | (with_reducible assumption) | assumption)
      obtain ⟨ad535, e535, hx535_0⟩ := Kd.at_int HR0.out x8_1 p535 q535
      cases e535
      replace p535 := eq_true p535
      replace q535 := eq_true q535
      go_wp2
      go_ret
      exact ⟨by first | rfl | (simp; done) | (simp [*]; done), by repeat (first | exact Drawn0.refl _ | apply Drawn0.step)⟩
     rw [if_neg c4] at H
     exact absurd H (by simp)
    rw [if_neg c3] at H
    exact absurd H (by simp)
   rw [if_neg c2] at H
   have c2b0 : decide (x8_1 < (l0.length : Int)) = false := decide_eq_false c2
   clear c2
   obtain rfl := Option.some.inj H
   go_wp2
   go_ret
   exact ⟨by first | rfl | (simp; done) | (simp [*]; done), by repeat (first | exact Drawn0.refl _ | apply Drawn0.step)⟩


/-! ### cmp_isNaN_int64: function 91 -/
def cmp_isNaN_int64.f (a0 : Int) : Option (Bool) := some (a0 != a0)
set_option maxHeartbeats 8000000 in
set_option maxRecDepth 100000 in
theorem cmp_isNaN_int64.calls (a0 : Int) (r : Bool) (w : World) (h : cmp_isNaN_int64.f a0 = some r) :
  Calls Try.prog 91 #[.int .i64 a0] w fun e w' => e = .returned (.bool r) ∧ Drawn0 w w' := by
 have H : (some (a0 != a0)) = some r := h
 clear h
 obtain rfl := Option.some.inj H
 go_enter Try.func91, Try.ntmps91
 go_wp2
 go_ret
 exact ⟨by first | rfl | (simp; done) | (simp [*]; done), by repeat (first | exact Drawn0.refl _ | apply Drawn0.step)⟩


/-! ### cmp_Compare_int64: function 83 -/
def cmp_Compare_int64.f (a0 : Int) (a1 : Int) : Option (Int) := (cmp_isNaN_int64.f a0).bind fun t536 => ((cmp_isNaN_int64.f a1).bind fun t537 => (if t536 = true then (if t537 = true then (some 0) else (some (-1))) else (if t537 = true then (some 1) else (if a0 < a1 then (some (-1)) else (if a0 > a1 then (some 1) else (some 0))))))
set_option maxHeartbeats 8000000 in
set_option maxRecDepth 100000 in
theorem cmp_Compare_int64.calls (a0 : Int) (a1 : Int) (r : Int) (w : World) (h : cmp_Compare_int64.f a0 a1 = some r) :
  Calls Try.prog 83 #[.int .i64 a0, .int .i64 a1] w fun e w' => e = .returned (.int .i64 r) ∧ Drawn0 w w' := by
 have H : ((cmp_isNaN_int64.f a0).bind fun t536 => ((cmp_isNaN_int64.f a1).bind fun t537 => (if t536 = true then (if t537 = true then (some 0) else (some (-1))) else (if t537 = true then (some 1) else (if a0 < a1 then (some (-1)) else (if a0 > a1 then (some 1) else (some 0))))))) = some r := h
 clear h
 replace H := Option.bind_eq_some_iff.mp H
 obtain ⟨t536, A30, H⟩ := H
 replace H : ((cmp_isNaN_int64.f a1).bind fun t537 => (if t536 = true then (if t537 = true then (some 0) else (some (-1))) else (if t537 = true then (some 1) else (if a0 < a1 then (some (-1)) else (if a0 > a1 then (some 1) else (some 0)))))) = some r := H
 have A3 := Aside0.mk A30
 clear A30
 replace H := Option.bind_eq_some_iff.mp H
 obtain ⟨t537, A40, H⟩ := H
 replace H : (if t536 = true then (if t537 = true then (some 0) else (some (-1))) else (if t537 = true then (some 1) else (if a0 < a1 then (some (-1)) else (if a0 > a1 then (some 1) else (some 0))))) = some r := H
 have A4 := Aside0.mk A40
 clear A40
 by_cases c5 : t536 = true
 ·subst c5
  have H1 : (if t537 = true then (some 0) else (some (-1))) = some r := by rw [if_pos rfl] at H; exact H
  clear H
  have H := H1
  clear H1
  by_cases c6 : t537 = true
  ·subst c6
   have H1 : (some 0) = some r := by rw [if_pos rfl] at H; exact H
   clear H
   have H := H1
   clear H1
   obtain rfl := Option.some.inj H
   go_enter Try.func83, Try.ntmps83
   go_wp2_with (first | ((with_reducible refine gate_callee (f := 91) rfl ?_); refine goesL_ (some 8) rfl rfl Try.func91 (by kernel_rfl) rfl #[.int .i64 a0] rfl argt ?_; (with_reducible refine (cmp_isNaN_int64.calls a0 true _ A3.out).mono ?_); rintro e w' ⟨rfl, ⟨nd, rfl⟩⟩; refine ⟨_, rfl, ?_⟩) | ((with_reducible refine gate_callee (f := 91) rfl ?_); refine goesL_ (some 10) rfl rfl Try.func91 (by kernel_rfl) rfl #[.int .i64 a1] rfl argt ?_; (with_reducible refine (cmp_isNaN_int64.calls a1 true _ A4.out).mono ?_); rintro e w' ⟨rfl, ⟨nd, rfl⟩⟩; refine ⟨_, rfl, ?_⟩))
   go_ret
   exact ⟨by first | rfl | (simp; done) | (simp [*]; done), by repeat (first | exact Drawn0.refl _ | apply Drawn0.step)⟩
  replace c6 := Bool.eq_false_iff.mpr c6
  subst c6
  have H1 : (some (-1)) = some r := by rw [if_neg (show ¬ (false = true) by decide)] at H; exact H
  clear H
  have H := H1
  clear H1
  obtain rfl := Option.some.inj H
  go_enter Try.func83, Try.ntmps83
  go_wp2_with (first | ((with_reducible refine gate_callee (f := 91) rfl ?_); refine goesL_ (some 8) rfl rfl Try.func91 (by kernel_rfl) rfl #[.int .i64 a0] rfl argt ?_; (with_reducible refine (cmp_isNaN_int64.calls a0 true _ A3.out).mono ?_); rintro e w' ⟨rfl, ⟨nd, rfl⟩⟩; refine ⟨_, rfl, ?_⟩) | ((with_reducible refine gate_callee (f := 91) rfl ?_); refine goesL_ (some 10) rfl rfl Try.func91 (by kernel_rfl) rfl #[.int .i64 a1] rfl argt ?_; (with_reducible refine (cmp_isNaN_int64.calls a1 false _ A4.out).mono ?_); rintro e w' ⟨rfl, ⟨nd, rfl⟩⟩; refine ⟨_, rfl, ?_⟩))
  go_ret
  exact ⟨by first | rfl | (simp; done) | (simp [*]; done), by repeat (first | exact Drawn0.refl _ | apply Drawn0.step)⟩
 replace c5 := Bool.eq_false_iff.mpr c5
 subst c5
 have H1 : (if t537 = true then (some 1) else (if a0 < a1 then (some (-1)) else (if a0 > a1 then (some 1) else (some 0)))) = some r := by rw [if_neg (show ¬ (false = true) by decide)] at H; exact H
 clear H
 have H := H1
 clear H1
 by_cases c7 : t537 = true
 ·subst c7
  have H1 : (some 1) = some r := by rw [if_pos rfl] at H; exact H
  clear H
  have H := H1
  clear H1
  obtain rfl := Option.some.inj H
  go_enter Try.func83, Try.ntmps83
  go_wp2_with (first | ((with_reducible refine gate_callee (f := 91) rfl ?_); refine goesL_ (some 8) rfl rfl Try.func91 (by kernel_rfl) rfl #[.int .i64 a0] rfl argt ?_; (with_reducible refine (cmp_isNaN_int64.calls a0 false _ A3.out).mono ?_); rintro e w' ⟨rfl, ⟨nd, rfl⟩⟩; refine ⟨_, rfl, ?_⟩) | ((with_reducible refine gate_callee (f := 91) rfl ?_); refine goesL_ (some 10) rfl rfl Try.func91 (by kernel_rfl) rfl #[.int .i64 a1] rfl argt ?_; (with_reducible refine (cmp_isNaN_int64.calls a1 true _ A4.out).mono ?_); rintro e w' ⟨rfl, ⟨nd, rfl⟩⟩; refine ⟨_, rfl, ?_⟩))
  go_ret
  exact ⟨by first | rfl | (simp; done) | (simp [*]; done), by repeat (first | exact Drawn0.refl _ | apply Drawn0.step)⟩
 replace c7 := Bool.eq_false_iff.mpr c7
 subst c7
 have H1 : (if a0 < a1 then (some (-1)) else (if a0 > a1 then (some 1) else (some 0))) = some r := by rw [if_neg (show ¬ (false = true) by decide)] at H; exact H
 clear H
 have H := H1
 clear H1
 by_cases c8 : a0 < a1
 ·rw [if_pos c8] at H
  have c8b0 : decide (a0 < a1) = true := decide_eq_true c8
  clear c8
  obtain rfl := Option.some.inj H
  go_enter Try.func83, Try.ntmps83
  go_wp2_with (first | ((with_reducible refine gate_callee (f := 91) rfl ?_); refine goesL_ (some 8) rfl rfl Try.func91 (by kernel_rfl) rfl #[.int .i64 a0] rfl argt ?_; (with_reducible refine (cmp_isNaN_int64.calls a0 false _ A3.out).mono ?_); rintro e w' ⟨rfl, ⟨nd, rfl⟩⟩; refine ⟨_, rfl, ?_⟩) | ((with_reducible refine gate_callee (f := 91) rfl ?_); refine goesL_ (some 10) rfl rfl Try.func91 (by kernel_rfl) rfl #[.int .i64 a1] rfl argt ?_; (with_reducible refine (cmp_isNaN_int64.calls a1 false _ A4.out).mono ?_); rintro e w' ⟨rfl, ⟨nd, rfl⟩⟩; refine ⟨_, rfl, ?_⟩))
  go_ret
  exact ⟨by first | rfl | (simp; done) | (simp [*]; done), by repeat (first | exact Drawn0.refl _ | apply Drawn0.step)⟩
 rw [if_neg c8] at H
 have c8b0 : decide (a0 < a1) = false := decide_eq_false c8
 clear c8
 by_cases c9 : a0 > a1
 ·rw [if_pos c9] at H
  have c9b0 : decide (a1 < a0) = true := decide_eq_true c9
  clear c9
  obtain rfl := Option.some.inj H
  go_enter Try.func83, Try.ntmps83
  go_wp2_with (first | ((with_reducible refine gate_callee (f := 91) rfl ?_); refine goesL_ (some 8) rfl rfl Try.func91 (by kernel_rfl) rfl #[.int .i64 a0] rfl argt ?_; (with_reducible refine (cmp_isNaN_int64.calls a0 false _ A3.out).mono ?_); rintro e w' ⟨rfl, ⟨nd, rfl⟩⟩; refine ⟨_, rfl, ?_⟩) | ((with_reducible refine gate_callee (f := 91) rfl ?_); refine goesL_ (some 10) rfl rfl Try.func91 (by kernel_rfl) rfl #[.int .i64 a1] rfl argt ?_; (with_reducible refine (cmp_isNaN_int64.calls a1 false _ A4.out).mono ?_); rintro e w' ⟨rfl, ⟨nd, rfl⟩⟩; refine ⟨_, rfl, ?_⟩))
  go_ret
  exact ⟨by first | rfl | (simp; done) | (simp [*]; done), by repeat (first | exact Drawn0.refl _ | apply Drawn0.step)⟩
 rw [if_neg c9] at H
 have c9b0 : decide (a1 < a0) = false := decide_eq_false c9
 clear c9
 obtain rfl := Option.some.inj H
 go_enter Try.func83, Try.ntmps83
 go_wp2_with (first | ((with_reducible refine gate_callee (f := 91) rfl ?_); refine goesL_ (some 8) rfl rfl Try.func91 (by kernel_rfl) rfl #[.int .i64 a0] rfl argt ?_; (with_reducible refine (cmp_isNaN_int64.calls a0 false _ A3.out).mono ?_); rintro e w' ⟨rfl, ⟨nd, rfl⟩⟩; refine ⟨_, rfl, ?_⟩) | ((with_reducible refine gate_callee (f := 91) rfl ?_); refine goesL_ (some 10) rfl rfl Try.func91 (by kernel_rfl) rfl #[.int .i64 a1] rfl argt ?_; (with_reducible refine (cmp_isNaN_int64.calls a1 false _ A4.out).mono ?_); rintro e w' ⟨rfl, ⟨nd, rfl⟩⟩; refine ⟨_, rfl, ?_⟩))
 go_ret
 exact ⟨by first | rfl | (simp; done) | (simp [*]; done), by repeat (first | exact Drawn0.refl _ | apply Drawn0.step)⟩


/-! ### cmp_isNaN_uint64: function 92 -/
def cmp_isNaN_uint64.f (a0 : Int) : Option (Bool) := some (a0 != a0)
set_option maxHeartbeats 8000000 in
set_option maxRecDepth 100000 in
theorem cmp_isNaN_uint64.calls (a0 : Int) (r : Bool) (w : World) (h : cmp_isNaN_uint64.f a0 = some r) :
  Calls Try.prog 92 #[.int .u64 a0] w fun e w' => e = .returned (.bool r) ∧ Drawn0 w w' := by
 have H : (some (a0 != a0)) = some r := h
 clear h
 obtain rfl := Option.some.inj H
 go_enter Try.func92, Try.ntmps92
 go_wp2
 go_ret
 exact ⟨by first | rfl | (simp; done) | (simp [*]; done), by repeat (first | exact Drawn0.refl _ | apply Drawn0.step)⟩


/-! ### cmp_Compare_uint64: function 84 -/
def cmp_Compare_uint64.f (a0 : Int) (a1 : Int) : Option (Int) := (cmp_isNaN_uint64.f a0).bind fun t538 => ((cmp_isNaN_uint64.f a1).bind fun t539 => (if t538 = true then (if t539 = true then (some 0) else (some (-1))) else (if t539 = true then (some 1) else (if a0 < a1 then (some (-1)) else (if a0 > a1 then (some 1) else (some 0))))))
set_option maxHeartbeats 8000000 in
set_option maxRecDepth 100000 in
theorem cmp_Compare_uint64.calls (a0 : Int) (a1 : Int) (r : Int) (w : World) (h : cmp_Compare_uint64.f a0 a1 = some r) :
  Calls Try.prog 84 #[.int .u64 a0, .int .u64 a1] w fun e w' => e = .returned (.int .i64 r) ∧ Drawn0 w w' := by
 have H : ((cmp_isNaN_uint64.f a0).bind fun t538 => ((cmp_isNaN_uint64.f a1).bind fun t539 => (if t538 = true then (if t539 = true then (some 0) else (some (-1))) else (if t539 = true then (some 1) else (if a0 < a1 then (some (-1)) else (if a0 > a1 then (some 1) else (some 0))))))) = some r := h
 clear h
 replace H := Option.bind_eq_some_iff.mp H
 obtain ⟨t538, A30, H⟩ := H
 replace H : ((cmp_isNaN_uint64.f a1).bind fun t539 => (if t538 = true then (if t539 = true then (some 0) else (some (-1))) else (if t539 = true then (some 1) else (if a0 < a1 then (some (-1)) else (if a0 > a1 then (some 1) else (some 0)))))) = some r := H
 have A3 := Aside0.mk A30
 clear A30
 replace H := Option.bind_eq_some_iff.mp H
 obtain ⟨t539, A40, H⟩ := H
 replace H : (if t538 = true then (if t539 = true then (some 0) else (some (-1))) else (if t539 = true then (some 1) else (if a0 < a1 then (some (-1)) else (if a0 > a1 then (some 1) else (some 0))))) = some r := H
 have A4 := Aside0.mk A40
 clear A40
 by_cases c5 : t538 = true
 ·subst c5
  have H1 : (if t539 = true then (some 0) else (some (-1))) = some r := by rw [if_pos rfl] at H; exact H
  clear H
  have H := H1
  clear H1
  by_cases c6 : t539 = true
  ·subst c6
   have H1 : (some 0) = some r := by rw [if_pos rfl] at H; exact H
   clear H
   have H := H1
   clear H1
   obtain rfl := Option.some.inj H
   go_enter Try.func84, Try.ntmps84
   go_wp2_with (first | ((with_reducible refine gate_callee (f := 92) rfl ?_); refine goesL_ (some 8) rfl rfl Try.func92 (by kernel_rfl) rfl #[.int .u64 a0] rfl argt ?_; (with_reducible refine (cmp_isNaN_uint64.calls a0 true _ A3.out).mono ?_); rintro e w' ⟨rfl, ⟨nd, rfl⟩⟩; refine ⟨_, rfl, ?_⟩) | ((with_reducible refine gate_callee (f := 92) rfl ?_); refine goesL_ (some 10) rfl rfl Try.func92 (by kernel_rfl) rfl #[.int .u64 a1] rfl argt ?_; (with_reducible refine (cmp_isNaN_uint64.calls a1 true _ A4.out).mono ?_); rintro e w' ⟨rfl, ⟨nd, rfl⟩⟩; refine ⟨_, rfl, ?_⟩))
   go_ret
   exact ⟨by first | rfl | (simp; done) | (simp [*]; done), by repeat (first | exact Drawn0.refl _ | apply Drawn0.step)⟩
  replace c6 := Bool.eq_false_iff.mpr c6
  subst c6
  have H1 : (some (-1)) = some r := by rw [if_neg (show ¬ (false = true) by decide)] at H; exact H
  clear H
  have H := H1
  clear H1
  obtain rfl := Option.some.inj H
  go_enter Try.func84, Try.ntmps84
  go_wp2_with (first | ((with_reducible refine gate_callee (f := 92) rfl ?_); refine goesL_ (some 8) rfl rfl Try.func92 (by kernel_rfl) rfl #[.int .u64 a0] rfl argt ?_; (with_reducible refine (cmp_isNaN_uint64.calls a0 true _ A3.out).mono ?_); rintro e w' ⟨rfl, ⟨nd, rfl⟩⟩; refine ⟨_, rfl, ?_⟩) | ((with_reducible refine gate_callee (f := 92) rfl ?_); refine goesL_ (some 10) rfl rfl Try.func92 (by kernel_rfl) rfl #[.int .u64 a1] rfl argt ?_; (with_reducible refine (cmp_isNaN_uint64.calls a1 false _ A4.out).mono ?_); rintro e w' ⟨rfl, ⟨nd, rfl⟩⟩; refine ⟨_, rfl, ?_⟩))
  go_ret
  exact ⟨by first | rfl | (simp; done) | (simp [*]; done), by repeat (first | exact Drawn0.refl _ | apply Drawn0.step)⟩
 replace c5 := Bool.eq_false_iff.mpr c5
 subst c5
 have H1 : (if t539 = true then (some 1) else (if a0 < a1 then (some (-1)) else (if a0 > a1 then (some 1) else (some 0)))) = some r := by rw [if_neg (show ¬ (false = true) by decide)] at H; exact H
 clear H
 have H := H1
 clear H1
 by_cases c7 : t539 = true
 ·subst c7
  have H1 : (some 1) = some r := by rw [if_pos rfl] at H; exact H
  clear H
  have H := H1
  clear H1
  obtain rfl := Option.some.inj H
  go_enter Try.func84, Try.ntmps84
  go_wp2_with (first | ((with_reducible refine gate_callee (f := 92) rfl ?_); refine goesL_ (some 8) rfl rfl Try.func92 (by kernel_rfl) rfl #[.int .u64 a0] rfl argt ?_; (with_reducible refine (cmp_isNaN_uint64.calls a0 false _ A3.out).mono ?_); rintro e w' ⟨rfl, ⟨nd, rfl⟩⟩; refine ⟨_, rfl, ?_⟩) | ((with_reducible refine gate_callee (f := 92) rfl ?_); refine goesL_ (some 10) rfl rfl Try.func92 (by kernel_rfl) rfl #[.int .u64 a1] rfl argt ?_; (with_reducible refine (cmp_isNaN_uint64.calls a1 true _ A4.out).mono ?_); rintro e w' ⟨rfl, ⟨nd, rfl⟩⟩; refine ⟨_, rfl, ?_⟩))
  go_ret
  exact ⟨by first | rfl | (simp; done) | (simp [*]; done), by repeat (first | exact Drawn0.refl _ | apply Drawn0.step)⟩
 replace c7 := Bool.eq_false_iff.mpr c7
 subst c7
 have H1 : (if a0 < a1 then (some (-1)) else (if a0 > a1 then (some 1) else (some 0))) = some r := by rw [if_neg (show ¬ (false = true) by decide)] at H; exact H
 clear H
 have H := H1
 clear H1
 by_cases c8 : a0 < a1
 ·rw [if_pos c8] at H
  have c8b0 : decide (a0 < a1) = true := decide_eq_true c8
  clear c8
  obtain rfl := Option.some.inj H
  go_enter Try.func84, Try.ntmps84
  go_wp2_with (first | ((with_reducible refine gate_callee (f := 92) rfl ?_); refine goesL_ (some 8) rfl rfl Try.func92 (by kernel_rfl) rfl #[.int .u64 a0] rfl argt ?_; (with_reducible refine (cmp_isNaN_uint64.calls a0 false _ A3.out).mono ?_); rintro e w' ⟨rfl, ⟨nd, rfl⟩⟩; refine ⟨_, rfl, ?_⟩) | ((with_reducible refine gate_callee (f := 92) rfl ?_); refine goesL_ (some 10) rfl rfl Try.func92 (by kernel_rfl) rfl #[.int .u64 a1] rfl argt ?_; (with_reducible refine (cmp_isNaN_uint64.calls a1 false _ A4.out).mono ?_); rintro e w' ⟨rfl, ⟨nd, rfl⟩⟩; refine ⟨_, rfl, ?_⟩))
  go_ret
  exact ⟨by first | rfl | (simp; done) | (simp [*]; done), by repeat (first | exact Drawn0.refl _ | apply Drawn0.step)⟩
 rw [if_neg c8] at H
 have c8b0 : decide (a0 < a1) = false := decide_eq_false c8
 clear c8
 by_cases c9 : a0 > a1
 ·rw [if_pos c9] at H
  have c9b0 : decide (a1 < a0) = true := decide_eq_true c9
  clear c9
  obtain rfl := Option.some.inj H
  go_enter Try.func84, Try.ntmps84
  go_wp2_with (first | ((with_reducible refine gate_callee (f := 92) rfl ?_); refine goesL_ (some 8) rfl rfl Try.func92 (by kernel_rfl) rfl #[.int .u64 a0] rfl argt ?_; (with_reducible refine (cmp_isNaN_uint64.calls a0 false _ A3.out).mono ?_); rintro e w' ⟨rfl, ⟨nd, rfl⟩⟩; refine ⟨_, rfl, ?_⟩) | ((with_reducible refine gate_callee (f := 92) rfl ?_); refine goesL_ (some 10) rfl rfl Try.func92 (by kernel_rfl) rfl #[.int .u64 a1] rfl argt ?_; (with_reducible refine (cmp_isNaN_uint64.calls a1 false _ A4.out).mono ?_); rintro e w' ⟨rfl, ⟨nd, rfl⟩⟩; refine ⟨_, rfl, ?_⟩))
  go_ret
  exact ⟨by first | rfl | (simp; done) | (simp [*]; done), by repeat (first | exact Drawn0.refl _ | apply Drawn0.step)⟩
 rw [if_neg c9] at H
 have c9b0 : decide (a1 < a0) = false := decide_eq_false c9
 clear c9
 obtain rfl := Option.some.inj H
 go_enter Try.func84, Try.ntmps84
 go_wp2_with (first | ((with_reducible refine gate_callee (f := 92) rfl ?_); refine goesL_ (some 8) rfl rfl Try.func92 (by kernel_rfl) rfl #[.int .u64 a0] rfl argt ?_; (with_reducible refine (cmp_isNaN_uint64.calls a0 false _ A3.out).mono ?_); rintro e w' ⟨rfl, ⟨nd, rfl⟩⟩; refine ⟨_, rfl, ?_⟩) | ((with_reducible refine gate_callee (f := 92) rfl ?_); refine goesL_ (some 10) rfl rfl Try.func92 (by kernel_rfl) rfl #[.int .u64 a1] rfl argt ?_; (with_reducible refine (cmp_isNaN_uint64.calls a1 false _ A4.out).mono ?_); rintro e w' ⟨rfl, ⟨nd, rfl⟩⟩; refine ⟨_, rfl, ?_⟩))
 go_ret
 exact ⟨by first | rfl | (simp; done) | (simp [*]; done), by repeat (first | exact Drawn0.refl _ | apply Drawn0.step)⟩


/-! ### pos_Pos_Cmp: function 51 -/
def pos_Pos_Cmp.f (k : Nat) (a0_0 : Int) (a0_1 : Int) (a0_2 : Int) (a1_0 : Int) (a1_1 : Int) (a1_2 : Int) : Option (Int) := (vtime_Time_Since.f a1_0 a0_0).bind fun t542 => ((cmp_Compare_int64.f 0 t542).bind fun t543 => ((cmp_Compare_uint64.f (IntKind.u64.wrap ((IntKind.u64.wrap (a0_1)) * (IntKind.u64.wrap (a1_2)))) (IntKind.u64.wrap ((IntKind.u64.wrap (a1_1)) * (IntKind.u64.wrap (a0_2))))).bind fun t544 => ((cmp_Or_int.f k (([t543, t544] : List Int))).bind fun t548 => (some t548))))
theorem pos_Pos_Cmp.mono : ∀ a0 a1 a2 a3 a4 a5 k, LeO (pos_Pos_Cmp.f k a0 a1 a2 a3 a4 a5) (pos_Pos_Cmp.f (k + 1) a0 a1 a2 a3 a4 a5) := by
 intro a0 a1 a2 a3 a4 a5 k
 unfold pos_Pos_Cmp.f
 repeat' first
   | (with_reducible exact cmp_Or_int.mono _ _)
   | (with_reducible exact LeO.refl _)
   | (with_reducible exact LeO.none _)
   | (with_reducible refine LeO.ite ?_ ?_)
   | (with_reducible refine LeO.bind ?_ (fun _ => ?_))
   | exact cmp_Or_int.mono _ _
   | exact LeO.none _
   | refine LeO.ite ?_ ?_
   | refine LeO.bind ?_ (fun _ => ?_)
def pos_Pos_Cmp.T1 : Bool × List (List Nat × List Nat) := (true, [([], []), ([0], [0]), ([], []), ([2], [2]), ([1, 3], [1, 3]), ([4, 4], [4]), ([], []), ([6], [6]), ([7], [7]), ([], []), ([9], [9]), ([10], [10]), ([8, 11], [8, 11]), ([], []), ([13], [13]), ([14], [14]), ([], []), ([16], [16]), ([17], [17]), ([15, 18], [15, 18]), ([12, 19, 5], [12, 19]), ([5, 20], [5, 20]), ([21, 20], [21]), ([22, 22, 0, 1, 2, 3, 4, 5, 6, 7, 8, 9, 10, 11, 12, 13, 14, 15, 16, 17, 18, 19, 20, 21, 22], [22])])
def pos_Pos_Cmp.B1 : List Nat := [0, 1, 0, 4, 15, 31, 0, 64, 192, 0, 512, 1536, 4032, 0, 8192, 24576, 0, 65536, 196608, 516096, 1048575, 2097151, 4194303, 8388607]
theorem pos_Pos_Cmp.tab1 : rtab .any (opsOf Try.f51 1) = pos_Pos_Cmp.T1 := by kernel_rfl
theorem pos_Pos_Cmp.bits1 : waitsOk pos_Pos_Cmp.T1.2 pos_Pos_Cmp.B1 = true := by kernel_rfl
set_option maxHeartbeats 8000000 in
set_option maxRecDepth 100000 in
theorem pos_Pos_Cmp.calls (k : Nat) (a0_0 : Int) (a0_1 : Int) (a0_2 : Int) (a1_0 : Int) (a1_1 : Int) (a1_2 : Int) (r : Int) (w : World) (h : pos_Pos_Cmp.f k a0_0 a0_1 a0_2 a1_0 a1_1 a1_2 = some r) :
  Calls Try.prog 51 #[.agg #[.int .u64 a0_0, .int .u32 a0_1, .int .u32 a0_2], .agg #[.int .u64 a1_0, .int .u32 a1_1, .int .u32 a1_2]] w fun e w' => e = .returned (.int .i64 r) ∧ Below w.heap.size w w' := by
 have hu67 := Try.underlying67
 have HB := Aside0.mk (Below.refl w.heap.size w)
 have H : ((vtime_Time_Since.f a1_0 a0_0).bind fun t542 => ((cmp_Compare_int64.f 0 t542).bind fun t543 => ((cmp_Compare_uint64.f (IntKind.u64.wrap ((IntKind.u64.wrap (a0_1)) * (IntKind.u64.wrap (a1_2)))) (IntKind.u64.wrap ((IntKind.u64.wrap (a1_1)) * (IntKind.u64.wrap (a0_2))))).bind fun t544 => ((cmp_Or_int.f k (([t543, t544] : List Int))).bind fun t548 => (some t548))))) = some r := h
 clear h
 replace H := Option.bind_eq_some_iff.mp H
 obtain ⟨t542, A30, H⟩ := H
 replace H : ((cmp_Compare_int64.f 0 t542).bind fun t543 => ((cmp_Compare_uint64.f (IntKind.u64.wrap ((IntKind.u64.wrap (a0_1)) * (IntKind.u64.wrap (a1_2)))) (IntKind.u64.wrap ((IntKind.u64.wrap (a1_1)) * (IntKind.u64.wrap (a0_2))))).bind fun t544 => ((cmp_Or_int.f k (([t543, t544] : List Int))).bind fun t548 => (some t548)))) = some r := H
 have A3 := Aside0.mk A30
 clear A30
 replace H := Option.bind_eq_some_iff.mp H
 obtain ⟨t543, A40, H⟩ := H
 replace H : ((cmp_Compare_uint64.f (IntKind.u64.wrap ((IntKind.u64.wrap (a0_1)) * (IntKind.u64.wrap (a1_2)))) (IntKind.u64.wrap ((IntKind.u64.wrap (a1_1)) * (IntKind.u64.wrap (a0_2))))).bind fun t544 => ((cmp_Or_int.f k (([t543, t544] : List Int))).bind fun t548 => (some t548))) = some r := H
 have A4 := Aside0.mk A40
 clear A40
 replace H := Option.bind_eq_some_iff.mp H
 obtain ⟨t544, A50, H⟩ := H
 replace H : ((cmp_Or_int.f k (([t543, t544] : List Int))).bind fun t548 => (some t548)) = some r := H
 have A5 := Aside0.mk A50
 clear A50
 obtain ⟨y545, hy545⟩ : ∃ y_ : List Int, y_ = (([t543, t544] : List Int)) := ⟨_, rfl⟩
 replace H : ((cmp_Or_int.f k y545).bind fun t548 => (some t548)) = some r := by first | (rw [hy545]; with_reducible exact H) | (have H2_ := (Option.bind_some _ _).symm.trans H; rw [hy545]; with_reducible exact H2_) | (have H2_ := (Option.bind_some _ _).symm.trans H; with_reducible exact H2_) | with_reducible exact H | (rw [hy545]; exact H) | exact H
 have Ny545 := Aside0.mk hy545
 clear hy545
 replace H := Option.bind_eq_some_iff.mp H
 obtain ⟨t548, A60, H⟩ := H
 replace H : (some t548) = some r := H
 have A6 := Aside0.mk A60
 clear A60
 obtain rfl := Option.some.inj H
 go_enter Try.func51, Try.ntmps51
 try go_wp2_with (first | ((with_reducible refine gate_dst (N := 2) rfl ?_); refine box_event ?hg (N := 2) ?hd (cs := #[.int .u64 a0_0, .int .u32 a0_1, .int .u32 a0_2]) (t := 67) ?hr ?_; (case hd => rfl); (case hg => rfl); (case hr => first | (go_simp; done) | (go_simp; rfl)); intro gb540 hg w7 hbox hb; have BK540 := Aside0.mk (hbox); have GW540 := bels HB hg; have GE540 := bels HB hg; replace HB := belb HB hb; clear hb hbox hg) | ((with_reducible refine gate_dst (N := 3) rfl ?_); refine box_event ?hg (N := 3) ?hd (cs := #[.int .u64 a1_0, .int .u32 a1_1, .int .u32 a1_2]) (t := 67) ?hr ?_; (case hd => rfl); (case hg => rfl); (case hr => first | (go_simp; done) | (go_simp; rfl)); intro gb541 hg w8 hbox hb; have BK541 := Aside0.mk (hbox); have GW541 := bels HB hg; have GE541 := bels HB hg; have NB540_541 := blkl BK540 hg; have NB541_540 := blkg BK540 hg; replace BK540 := blkb BK540 hb; replace HB := belb HB hb; clear hb hbox hg))
 replace BK540 := Aside0.mk (blk_drew BK540.out)
 replace BK541 := Aside0.mk (blk_drew BK541.out)
 replace HB := Aside0.mk (below_drew1 HB.out)
 refine start_ (n := 24) (S := fun w' => w'.cell? ⟨gb541, 0, none⟩ = some (.int .u64 a1_0) ∧ w'.cell? ⟨gb541, 1, none⟩ = some (.int .u32 a1_1) ∧ w'.cell? ⟨gb541, 2, none⟩ = some (.int .u32 a1_2) ∧ w'.cell? ⟨gb540, 0, none⟩ = some (.int .u64 a0_0) ∧ w'.cell? ⟨gb540, 1, none⟩ = some (.int .u32 a0_1) ∧ w'.cell? ⟨gb540, 2, none⟩ = some (.int .u32 a0_2)) (ds := []) #[false, false, false, false, false, false, false, false, false, false, false, false, false, false, false, false, false, false, false, false, false, false, false, false] (by kernel_rfl) rfl rfl ⟨bc BK541 0, bc BK541 1, bc BK541 2, bc BK540 0, bc BK540 1, bc BK540 2⟩ (fun hHeld => ?_); refine with_tabW pos_Pos_Cmp.tab1 pos_Pos_Cmp.bits1 (fun HT_ HW_ => ?_)
 generalize w8.drew = w9 at BK540 BK541 HB hHeld ⊢
 refine pure_ (i := 0) (N := some 5) (v := ?_) (a' := ?_) #[true, false, false, false, false, false, false, false, false, false, false, false, false, false, false, false, false, false, false, false, false, false, false, false] rfl rfl (any_of HT_.out (by kernel_rfl)) (fun _ _ _ h => h) (Or.inl ⟨by rfl, ?_⟩) ?_ ?_
 rotate_left
 ·intro w'
  go_simp
  with_reducible rfl
 rotate_left
 ·simp only [Act.put, List.setIfInBounds_toArray, List.set_cons_zero, List.set_cons_succ, i64_w, i32_w]
  rfl
 refine pure_ (i := 2) (N := some 7) (v := ?_) (a' := ?_) #[true, false, true, false, false, false, false, false, false, false, false, false, false, false, false, false, false, false, false, false, false, false, false, false] rfl rfl (any_of HT_.out (by kernel_rfl)) (fun _ _ _ h => h) (Or.inl ⟨by rfl, ?_⟩) ?_ ?_
 rotate_left
 ·intro w'
  go_simp
  with_reducible rfl
 rotate_left
 ·simp only [Act.put, List.setIfInBounds_toArray, List.set_cons_zero, List.set_cons_succ, i64_w, i32_w]
  rfl
 refine pure_ (i := 6) (N := some 11) (v := ?_) (a' := ?_) #[true, false, true, false, false, false, true, false, false, false, false, false, false, false, false, false, false, false, false, false, false, false, false, false] rfl rfl (any_of HT_.out (by kernel_rfl)) (fun _ _ _ h => h) (Or.inl ⟨by rfl, ?_⟩) ?_ ?_
 rotate_left
 ·intro w'
  go_simp
  with_reducible rfl
 rotate_left
 ·simp only [Act.put, List.setIfInBounds_toArray, List.set_cons_zero, List.set_cons_succ, i64_w, i32_w]
  rfl
 refine pure_ (i := 9) (N := some 14) (v := ?_) (a' := ?_) #[true, false, true, false, false, false, true, false, false, true, false, false, false, false, false, false, false, false, false, false, false, false, false, false] rfl rfl (any_of HT_.out (by kernel_rfl)) (fun _ _ _ h => h) (Or.inl ⟨by rfl, ?_⟩) ?_ ?_
 rotate_left
 ·intro w'
  go_simp
  with_reducible rfl
 rotate_left
 ·simp only [Act.put, List.setIfInBounds_toArray, List.set_cons_zero, List.set_cons_succ, i64_w, i32_w]
  rfl
 refine pure_ (i := 13) (N := some 18) (v := ?_) (a' := ?_) #[true, false, true, false, false, false, true, false, false, true, false, false, false, true, false, false, false, false, false, false, false, false, false, false] rfl rfl (any_of HT_.out (by kernel_rfl)) (fun _ _ _ h => h) (Or.inl ⟨by rfl, ?_⟩) ?_ ?_
 rotate_left
 ·intro w'
  go_simp
  with_reducible rfl
 rotate_left
 ·simp only [Act.put, List.setIfInBounds_toArray, List.set_cons_zero, List.set_cons_succ, i64_w, i32_w]
  rfl
 refine pure_ (i := 16) (N := some 21) (v := ?_) (a' := ?_) #[true, false, true, false, false, false, true, false, false, true, false, false, false, true, false, false, true, false, false, false, false, false, false, false] rfl rfl (any_of HT_.out (by kernel_rfl)) (fun _ _ _ h => h) (Or.inl ⟨by rfl, ?_⟩) ?_ ?_
 rotate_left
 ·intro w'
  go_simp
  with_reducible rfl
 rotate_left
 ·simp only [Act.put, List.setIfInBounds_toArray, List.set_cons_zero, List.set_cons_succ, i64_w, i32_w]
  rfl
 refine take_ (i := 1) (N := some 6) (v := ?_) (a' := ?_) #[true, true, true, false, false, false, true, false, false, true, false, false, false, true, false, false, true, false, false, false, false, false, false, false] rfl rfl (take_ofW HT_.out HW_.out (by kernel_rfl)) (fun _ _ _ h => h) (Or.inl ⟨by rfl, ?_⟩) hHeld ?_ ?_
 rotate_left
 ·rintro w' ⟨s0, s1, s2, s3, s4, s5⟩
  go_simp
  with_reducible rfl
 rotate_left
 ·simp only [Act.put, List.setIfInBounds_toArray, List.set_cons_zero, List.set_cons_succ, i64_w, i32_w]
  rfl
 refine take_ (i := 3) (N := some 8) (v := ?_) (a' := ?_) #[true, true, true, true, false, false, true, false, false, true, false, false, false, true, false, false, true, false, false, false, false, false, false, false] rfl rfl (take_ofW HT_.out HW_.out (by kernel_rfl)) (fun _ _ _ h => h) (Or.inl ⟨by rfl, ?_⟩) hHeld ?_ ?_
 rotate_left
 ·rintro w' ⟨s0, s1, s2, s3, s4, s5⟩
  go_simp
  with_reducible rfl
 rotate_left
 ·simp only [Act.put, List.setIfInBounds_toArray, List.set_cons_zero, List.set_cons_succ, i64_w, i32_w]
  rfl
 refine take_ (i := 7) (N := some 12) (v := ?_) (a' := ?_) #[true, true, true, true, false, false, true, true, false, true, false, false, false, true, false, false, true, false, false, false, false, false, false, false] rfl rfl (take_ofW HT_.out HW_.out (by kernel_rfl)) (fun _ _ _ h => h) (Or.inl ⟨by rfl, ?_⟩) hHeld ?_ ?_
 rotate_left
 ·rintro w' ⟨s0, s1, s2, s3, s4, s5⟩
  go_simp
  with_reducible rfl
 rotate_left
 ·simp only [Act.put, List.setIfInBounds_toArray, List.set_cons_zero, List.set_cons_succ, i64_w, i32_w]
  rfl
 refine pure_ (i := 8) (N := some 13) (v := ?_) (a' := ?_) #[true, true, true, true, false, false, true, true, true, true, false, false, false, true, false, false, true, false, false, false, false, false, false, false] rfl rfl (any_of HT_.out (by kernel_rfl)) (fun _ _ _ h => h) (Or.inl ⟨by rfl, ?_⟩) ?_ ?_
 rotate_left
 ·intro w'
  go_simp
  with_reducible rfl
 rotate_left
 ·simp only [Act.put, List.setIfInBounds_toArray, List.set_cons_zero, List.set_cons_succ, i64_w, i32_w]
  rfl
 refine take_ (i := 10) (N := some 15) (v := ?_) (a' := ?_) #[true, true, true, true, false, false, true, true, true, true, true, false, false, true, false, false, true, false, false, false, false, false, false, false] rfl rfl (take_ofW HT_.out HW_.out (by kernel_rfl)) (fun _ _ _ h => h) (Or.inl ⟨by rfl, ?_⟩) hHeld ?_ ?_
 rotate_left
 ·rintro w' ⟨s0, s1, s2, s3, s4, s5⟩
  go_simp
  with_reducible rfl
 rotate_left
 ·simp only [Act.put, List.setIfInBounds_toArray, List.set_cons_zero, List.set_cons_succ, i64_w, i32_w]
  rfl
 refine pure_ (i := 11) (N := some 16) (v := ?_) (a' := ?_) #[true, true, true, true, false, false, true, true, true, true, true, true, false, true, false, false, true, false, false, false, false, false, false, false] rfl rfl (any_of HT_.out (by kernel_rfl)) (fun _ _ _ h => h) (Or.inl ⟨by rfl, ?_⟩) ?_ ?_
 rotate_left
 ·intro w'
  go_simp
  with_reducible rfl
 rotate_left
 ·simp only [Act.put, List.setIfInBounds_toArray, List.set_cons_zero, List.set_cons_succ, i64_w, i32_w]
  rfl
 refine pure_ (i := 12) (N := some 17) (v := ?_) (a' := ?_) #[true, true, true, true, false, false, true, true, true, true, true, true, true, true, false, false, true, false, false, false, false, false, false, false] rfl rfl (any_of HT_.out (by kernel_rfl)) (fun _ _ _ h => h) (Or.inl ⟨by rfl, ?_⟩) ?_ ?_
 rotate_left
 ·intro w'
  go_simp
  with_reducible rfl
 rotate_left
 ·simp only [Act.put, List.setIfInBounds_toArray, List.set_cons_zero, List.set_cons_succ, i64_w, i32_w]
  rfl
 refine take_ (i := 14) (N := some 19) (v := ?_) (a' := ?_) #[true, true, true, true, false, false, true, true, true, true, true, true, true, true, true, false, true, false, false, false, false, false, false, false] rfl rfl (take_ofW HT_.out HW_.out (by kernel_rfl)) (fun _ _ _ h => h) (Or.inl ⟨by rfl, ?_⟩) hHeld ?_ ?_
 rotate_left
 ·rintro w' ⟨s0, s1, s2, s3, s4, s5⟩
  go_simp
  with_reducible rfl
 rotate_left
 ·simp only [Act.put, List.setIfInBounds_toArray, List.set_cons_zero, List.set_cons_succ, i64_w, i32_w]
  rfl
 refine pure_ (i := 15) (N := some 20) (v := ?_) (a' := ?_) #[true, true, true, true, false, false, true, true, true, true, true, true, true, true, true, true, true, false, false, false, false, false, false, false] rfl rfl (any_of HT_.out (by kernel_rfl)) (fun _ _ _ h => h) (Or.inl ⟨by rfl, ?_⟩) ?_ ?_
 rotate_left
 ·intro w'
  go_simp
  with_reducible rfl
 rotate_left
 ·simp only [Act.put, List.setIfInBounds_toArray, List.set_cons_zero, List.set_cons_succ, i64_w, i32_w]
  rfl
 refine take_ (i := 17) (N := some 22) (v := ?_) (a' := ?_) #[true, true, true, true, false, false, true, true, true, true, true, true, true, true, true, true, true, true, false, false, false, false, false, false] rfl rfl (take_ofW HT_.out HW_.out (by kernel_rfl)) (fun _ _ _ h => h) (Or.inl ⟨by rfl, ?_⟩) hHeld ?_ ?_
 rotate_left
 ·rintro w' ⟨s0, s1, s2, s3, s4, s5⟩
  go_simp
  with_reducible rfl
 rotate_left
 ·simp only [Act.put, List.setIfInBounds_toArray, List.set_cons_zero, List.set_cons_succ, i64_w, i32_w]
  rfl
 refine pure_ (i := 18) (N := some 23) (v := ?_) (a' := ?_) #[true, true, true, true, false, false, true, true, true, true, true, true, true, true, true, true, true, true, true, false, false, false, false, false] rfl rfl (any_of HT_.out (by kernel_rfl)) (fun _ _ _ h => h) (Or.inl ⟨by rfl, ?_⟩) ?_ ?_
 rotate_left
 ·intro w'
  go_simp
  with_reducible rfl
 rotate_left
 ·simp only [Act.put, List.setIfInBounds_toArray, List.set_cons_zero, List.set_cons_succ, i64_w, i32_w]
  rfl
 refine pure_ (i := 19) (N := some 24) (v := ?_) (a' := ?_) #[true, true, true, true, false, false, true, true, true, true, true, true, true, true, true, true, true, true, true, true, false, false, false, false] rfl rfl (any_of HT_.out (by kernel_rfl)) (fun _ _ _ h => h) (Or.inl ⟨by rfl, ?_⟩) ?_ ?_
 rotate_left
 ·intro w'
  go_simp
  with_reducible rfl
 rotate_left
 ·simp only [Act.put, List.setIfInBounds_toArray, List.set_cons_zero, List.set_cons_succ, i64_w, i32_w]
  rfl
 refine one_ (i := 4) (N := some 9) #[true, true, true, true, true, false, true, true, true, true, true, true, true, true, true, true, true, true, true, true, false, false, false, false] rfl rfl (one_of HT_.out (by kernel_rfl)) (by decide) (fun K hK => ?_)
 refine goes_ Try.func20 (by kernel_rfl) rfl #[.int .u64 a1_0, .int .u64 a0_0] (by rfl) rfl rfl argt ?_
 with_reducible refine (vtime_Time_Since.calls a1_0 a0_0 t542 _ A3.out).mono ?_
 rintro e w' ⟨rfl, ⟨nd, rfl⟩⟩
 refine ⟨_, rfl, ?_⟩
 refine hK.out _ _ ⟨bc BK541 0, bc BK541 1, bc BK541 2, bc BK540 0, bc BK540 1, bc BK540 2⟩ (fun hHeld => ?_)
 clear hK K
 refine norm_ (a' := ?_) ?_ ?_
 rotate_left
 ·show Act.put _ (some 9) _ = _
  simp only [Act.put, List.setIfInBounds_toArray, List.set_cons_zero, List.set_cons_succ, i64_w, i32_w]
  rfl
 refine one_ (i := 5) (N := some 10) #[true, true, true, true, true, true, true, true, true, true, true, true, true, true, true, true, true, true, true, true, false, false, false, false] rfl rfl (one_of HT_.out (by kernel_rfl)) (by decide) (fun K hK => ?_)
 refine goes_ Try.func83 (by kernel_rfl) rfl #[.int .i64 0, .int .i64 t542] (by rfl) rfl rfl argt ?_
 with_reducible refine (cmp_Compare_int64.calls 0 t542 t543 _ A4.out).mono ?_
 rintro e w' ⟨rfl, ⟨nd, rfl⟩⟩
 refine ⟨_, rfl, ?_⟩
 refine hK.out _ _ ⟨bc BK541 0, bc BK541 1, bc BK541 2, bc BK540 0, bc BK540 1, bc BK540 2⟩ (fun hHeld => ?_)
 clear hK K
 refine norm_ (a' := ?_) ?_ ?_
 rotate_left
 ·show Act.put _ (some 10) _ = _
  simp only [Act.put, List.setIfInBounds_toArray, List.set_cons_zero, List.set_cons_succ, i64_w, i32_w]
  rfl
 refine one_ (i := 20) (N := some 25) #[true, true, true, true, true, true, true, true, true, true, true, true, true, true, true, true, true, true, true, true, true, false, false, false] rfl rfl (one_of HT_.out (by kernel_rfl)) (by decide) (fun K hK => ?_)
 refine goes_ Try.func84 (by kernel_rfl) rfl #[.int .u64 (IntKind.u64.wrap ((IntKind.u64.wrap (a0_1)) * (IntKind.u64.wrap (a1_2)))), .int .u64 (IntKind.u64.wrap ((IntKind.u64.wrap (a1_1)) * (IntKind.u64.wrap (a0_2))))] (by rfl) rfl rfl argt ?_
 with_reducible refine (cmp_Compare_uint64.calls (IntKind.u64.wrap ((IntKind.u64.wrap (a0_1)) * (IntKind.u64.wrap (a1_2)))) (IntKind.u64.wrap ((IntKind.u64.wrap (a1_1)) * (IntKind.u64.wrap (a0_2)))) t544 _ A5.out).mono ?_
 rintro e w' ⟨rfl, ⟨nd, rfl⟩⟩
 refine ⟨_, rfl, ?_⟩
 refine hK.out _ _ ⟨bc BK541 0, bc BK541 1, bc BK541 2, bc BK540 0, bc BK540 1, bc BK540 2⟩ (fun hHeld => ?_)
 clear hK K
 refine norm_ (a' := ?_) ?_ ?_
 rotate_left
 ·show Act.put _ (some 25) _ = _
  simp only [Act.put, List.setIfInBounds_toArray, List.set_cons_zero, List.set_cons_succ, i64_w, i32_w]
  rfl
 refine one_ (i := 21) (N := some 26) #[true, true, true, true, true, true, true, true, true, true, true, true, true, true, true, true, true, true, true, true, true, true, false, false] rfl rfl (one_of HT_.out (by kernel_rfl)) (by decide) (fun K hK => ?_)
 refine Kd.R_lit_step (Kd.int .i64) _ 3 ?hg (N := 26) ?hd (xs := ([t543, t544] : List Int)) (inner := [.int .i64 t543, .int .i64 t544]) (ok := fun _ => True) (okp := fun _ => True) ?hr ?hp (fun _ hk => hk) trivial (Below.refl _ _) (Nat.le_refl _) (by simp) ?_; (case hd => rfl); (case hg => rfl); (case hr => first | (go_simp; done) | (go_simp; rfl)); (case hp => exact (Reps.one (show Kd.M (Kd.int .i64) _ _ _ t543 [.int .i64 t543] from rfl) (Reps.one (show Kd.M (Kd.int .i64) _ _ _ t544 [.int .i64 t544] from rfl) (Reps.none _ _))))
 intro v546 w10 ho11 hb hg_ hnew_
 clear hg_ hnew_
 (first | rw [← Ny545.out] at ho11 | (simp only [Int.reduceToNat] at ho11; rw [← Ny545.out] at ho11))
 have HO547 := Aside0.mk (Kd.R_lower ho11 (below_size (belt HB)))
 replace BK540 := blkb BK540 hb
 replace BK541 := blkb BK541 hb
 replace HB := belb HB hb
 clear hb ho11
 obtain ⟨Ao12, co12, eo12⟩ := Kd.R_slice HO547.out
 (first | subst eo12 | (injection eo12 with f1_ f2_ f3_; have f4_ := f1_.symm; have f5_ := f3_.symm; clear f1_ f2_ f3_; subst f4_; subst f5_))
 refine hK.out _ _ ⟨bc BK541 0, bc BK541 1, bc BK541 2, bc BK540 0, bc BK540 1, bc BK540 2⟩ (fun hHeld => ?_)
 clear hK K
 refine norm_ (a' := ?_) ?_ ?_
 rotate_left
 ·show Act.put _ (some 26) _ = _
  simp only [Act.put, List.setIfInBounds_toArray, List.set_cons_zero, List.set_cons_succ, i64_w, i32_w]
  rfl
 refine one_ (i := 22) (N := some 27) #[true, true, true, true, true, true, true, true, true, true, true, true, true, true, true, true, true, true, true, true, true, true, true, false] rfl rfl (one_of HT_.out (by kernel_rfl)) (by decide) (fun K hK => ?_)
 refine goes_ Try.func82 (by kernel_rfl) rfl #[.slice Ao12 y545.length co12] (by rfl) rfl rfl argt ?_
 with_reducible refine (cmp_Or_int.calls k _ _ y545 t548 _ ?side1 ?side2 A6.out).mono ?_
 (case side1 => repeat (first | exact (Kd.R_reads' HO547.out).2.2 | (with_reducible refine Kd.C_alloc ?_ _) | (with_reducible refine Kd.C_drewN ?_ _) | (with_reducible refine Kd.C_drew ?_)))
 (case side2 => exact (Kd.R_reads' HO547.out).2.1)
 rintro e w' ⟨rfl, ⟨nd, rfl⟩⟩
 refine ⟨_, rfl, ?_⟩
 refine hK.out _ _ ⟨bc BK541 0, bc BK541 1, bc BK541 2, bc BK540 0, bc BK540 1, bc BK540 2⟩ (fun hHeld => ?_)
 clear hK K
 refine norm_ (a' := ?_) ?_ ?_
 rotate_left
 ·show Act.put _ (some 27) _ = _
  simp only [Act.put, List.setIfInBounds_toArray, List.set_cons_zero, List.set_cons_succ, i64_w, i32_w]
  rfl
 refine pure_ (i := 23) (N := some 4) (v := ?_) (a' := ?_) #[true, true, true, true, true, true, true, true, true, true, true, true, true, true, true, true, true, true, true, true, true, true, true, true] rfl rfl (any_of HT_.out (by kernel_rfl)) (fun _ _ _ h => h) (Or.inl ⟨by rfl, ?_⟩) ?_ ?_
 rotate_left
 ·intro w'
  go_simp
  with_reducible rfl
 rotate_left
 ·simp only [Act.put, List.setIfInBounds_toArray, List.set_cons_zero, List.set_cons_succ, i64_w, i32_w]
  rfl
 refine done_ (done_of HT_.out (by kernel_rfl)) ?_
 try go_wp2
 go_ret
 exact ⟨by first | rfl | (simp [errW_none, errW_some] <;> rfl) | (simp [*, errW_none, errW_some] <;> rfl), belt HB⟩


/-! ### turnstoneref04_Right: function 52 -/
def turnstoneref04_Right.f (a0_0 : Int) (a0_1 : Int) (a0_2 : Int) : Option (Bool) := if a0_2 ≥ 1 then (if a0_2 ≤ 1048576 then (some (decide (a0_1 < a0_2))) else (some false)) else (some false)
set_option maxHeartbeats 8000000 in
set_option maxRecDepth 100000 in
theorem turnstoneref04_Right.calls (a0_0 : Int) (a0_1 : Int) (a0_2 : Int) (r : Bool) (w : World) (h : turnstoneref04_Right.f a0_0 a0_1 a0_2 = some r) :
  Calls Try.prog 52 #[.agg #[.int .u64 a0_0, .int .u32 a0_1, .int .u32 a0_2]] w fun e w' => e = .returned (.bool r) ∧ Below w.heap.size w w' := by
 have hu71 := Try.underlying71
 have HB := Aside0.mk (Below.refl w.heap.size w)
 have H : (if a0_2 ≥ 1 then (if a0_2 ≤ 1048576 then (some (decide (a0_1 < a0_2))) else (some false)) else (some false)) = some r := h
 clear h
 by_cases c2 : a0_2 ≥ 1
 ·rw [if_pos c2] at H
  have c2b0 : decide (1 ≤ a0_2) = true := decide_eq_true c2
  clear c2
  by_cases c3 : a0_2 ≤ 1048576
  ·rw [if_pos c3] at H
   have c3b0 : decide (a0_2 ≤ 1048576) = true := decide_eq_true c3
   clear c3
   obtain rfl := Option.some.inj H
   go_enter Try.func52, Try.ntmps52
   go_wp2_with (first | ((with_reducible refine gate_dst (N := 1) rfl ?_); refine box_event ?hg (N := 1) ?hd (cs := #[.int .u64 a0_0, .int .u32 a0_1, .int .u32 a0_2]) (t := 71) ?hr ?_; (case hd => rfl); (case hg => rfl); (case hr => first | (go_simp; done) | (go_simp; rfl)); intro gb549 hg w4 hbox hb; have BK549 := Aside0.mk (hbox); have GW549 := bels HB hg; have GE549 := bels HB hg; replace HB := belb HB hb; clear hb hbox hg; have hcz5_0 : w4.cell? ⟨gb549, 0, none⟩ = some (.int .u64 a0_0) := bc BK549 0; have hcz5_1 : w4.cell? ⟨gb549, 1, none⟩ = some (.int .u32 a0_1) := bc BK549 1; have hcz5_2 : w4.cell? ⟨gb549, 2, none⟩ = some (.int .u32 a0_2) := bc BK549 2; have hfz5_0 := blk_frozen BK549.out 0; have hfz5_1 := blk_frozen BK549.out 1; have hfz5_2 := blk_frozen BK549.out 2))
   go_ret
   exact ⟨by first | rfl | (simp [errW_none, errW_some] <;> rfl) | (simp [*, errW_none, errW_some] <;> rfl), belt HB⟩
  rw [if_neg c3] at H
  have c3b0 : decide (a0_2 ≤ 1048576) = false := decide_eq_false c3
  clear c3
  obtain rfl := Option.some.inj H
  go_enter Try.func52, Try.ntmps52
  go_wp2_with (first | ((with_reducible refine gate_dst (N := 1) rfl ?_); refine box_event ?hg (N := 1) ?hd (cs := #[.int .u64 a0_0, .int .u32 a0_1, .int .u32 a0_2]) (t := 71) ?hr ?_; (case hd => rfl); (case hg => rfl); (case hr => first | (go_simp; done) | (go_simp; rfl)); intro gb549 hg w6 hbox hb; have BK549 := Aside0.mk (hbox); have GW549 := bels HB hg; have GE549 := bels HB hg; replace HB := belb HB hb; clear hb hbox hg; have hcz7_0 : w6.cell? ⟨gb549, 0, none⟩ = some (.int .u64 a0_0) := bc BK549 0; have hcz7_1 : w6.cell? ⟨gb549, 1, none⟩ = some (.int .u32 a0_1) := bc BK549 1; have hcz7_2 : w6.cell? ⟨gb549, 2, none⟩ = some (.int .u32 a0_2) := bc BK549 2; have hfz7_0 := blk_frozen BK549.out 0; have hfz7_1 := blk_frozen BK549.out 1; have hfz7_2 := blk_frozen BK549.out 2))
  go_ret
  exact ⟨by first | rfl | (simp [errW_none, errW_some] <;> rfl) | (simp [*, errW_none, errW_some] <;> rfl), belt HB⟩
 rw [if_neg c2] at H
 have c2b0 : decide (1 ≤ a0_2) = false := decide_eq_false c2
 clear c2
 obtain rfl := Option.some.inj H
 go_enter Try.func52, Try.ntmps52
 go_wp2_with (first | ((with_reducible refine gate_dst (N := 1) rfl ?_); refine box_event ?hg (N := 1) ?hd (cs := #[.int .u64 a0_0, .int .u32 a0_1, .int .u32 a0_2]) (t := 71) ?hr ?_; (case hd => rfl); (case hg => rfl); (case hr => first | (go_simp; done) | (go_simp; rfl)); intro gb549 hg w8 hbox hb; have BK549 := Aside0.mk (hbox); have GW549 := bels HB hg; have GE549 := bels HB hg; replace HB := belb HB hb; clear hb hbox hg; have hcz9_0 : w8.cell? ⟨gb549, 0, none⟩ = some (.int .u64 a0_0) := bc BK549 0; have hcz9_1 : w8.cell? ⟨gb549, 1, none⟩ = some (.int .u32 a0_1) := bc BK549 1; have hcz9_2 : w8.cell? ⟨gb549, 2, none⟩ = some (.int .u32 a0_2) := bc BK549 2; have hfz9_0 := blk_frozen BK549.out 0; have hfz9_1 := blk_frozen BK549.out 1; have hfz9_2 := blk_frozen BK549.out 2))
 go_ret
 exact ⟨by first | rfl | (simp [errW_none, errW_some] <;> rfl) | (simp [*, errW_none, errW_some] <;> rfl), belt HB⟩


/-! ### turnstonelaw01_Same: function 53 -/
def turnstonelaw01_Same.f (k : Nat) (a0_0 : Int) (a0_1 : Int) (a1_0 : Bool) (l1_1 : List Int) : Option (Bool) := (turnstonelaw01_Of.f k a0_0 a0_1).bind fun bt552 => ((turnstoneref01_Cmp.f k bt552.1 bt552.2 a1_0 l1_1).bind fun t556 => (some (t556 == 0)))
theorem turnstonelaw01_Same.mono : ∀ a0 a1 a2 a3 k, LeO (turnstonelaw01_Same.f k a0 a1 a2 a3) (turnstonelaw01_Same.f (k + 1) a0 a1 a2 a3) := by
 intro a0 a1 a2 a3 k
 unfold turnstonelaw01_Same.f
 repeat' first
   | (with_reducible exact turnstonelaw01_Of.mono _ _ _)
   | (with_reducible exact turnstoneref01_Cmp.mono _ _ _ _ _)
   | (with_reducible exact LeO.refl _)
   | (with_reducible exact LeO.none _)
   | (with_reducible refine LeO.ite ?_ ?_)
   | (with_reducible refine LeO.bind ?_ (fun _ => ?_))
   | exact turnstonelaw01_Of.mono _ _ _
   | exact turnstoneref01_Cmp.mono _ _ _ _ _
   | exact LeO.none _
   | refine LeO.ite ?_ ?_
   | refine LeO.bind ?_ (fun _ => ?_)
set_option maxHeartbeats 8000000 in
set_option maxRecDepth 100000 in
theorem turnstonelaw01_Same.calls (k : Nat) (a0_0 : Int) (a0_1 : Int) (a1_0 : Bool) (A1_1 : Option Addr) (c1_1 : Nat) (l1_1 : List Int) (r : Bool) (w : World) (hr1_1 : Kd.C (Kd.int .i64) w A1_1 l1_1.length l1_1) (hc1_1 : l1_1.length ≤ c1_1) (h : turnstonelaw01_Same.f k a0_0 a0_1 a1_0 l1_1 = some r) :
  Calls Try.prog 53 #[.agg #[.int .i64 a0_0, .int .u64 a0_1], .agg #[.bool a1_0, .slice A1_1 l1_1.length c1_1]] w fun e w' => e = .returned (.bool r) ∧ Below w.heap.size w w' := by
 have hu59 := Try.underlying59
 have hu28 := Try.underlying28
 have HR1_1 := Aside0.mk hr1_1
 have HC1_1 := Aside0.mk hc1_1
 clear hr1_1 hc1_1
 have HB := Aside0.mk (Below.refl w.heap.size w)
 have H : ((turnstonelaw01_Of.f k a0_0 a0_1).bind fun bt552 => ((turnstoneref01_Cmp.f k bt552.1 bt552.2 a1_0 l1_1).bind fun t556 => (some (t556 == 0)))) = some r := h
 clear h
 replace H := Option.bind_eq_some_iff.mp H
 obtain ⟨⟨t552, t553⟩, A30, H⟩ := H
 replace H : ((turnstoneref01_Cmp.f k t552 t553 a1_0 l1_1).bind fun t556 => (some (t556 == 0))) = some r := H
 have A3 := Aside0.mk A30
 clear A30
 replace H := Option.bind_eq_some_iff.mp H
 obtain ⟨t556, A40, H⟩ := H
 replace H : (some (t556 == 0)) = some r := H
 have A4 := Aside0.mk A40
 clear A40
 obtain rfl := Option.some.inj H
 go_enter Try.func53, Try.ntmps53
 try go_wp2_with (first | ((with_reducible refine gate_dst (N := 2) rfl ?_); refine box_event ?hg (N := 2) ?hd (cs := #[.int .i64 a0_0, .int .u64 a0_1]) (t := 59) ?hr ?_; (case hd => rfl); (case hg => rfl); (case hr => first | (go_simp; done) | (go_simp; rfl)); intro gb550 hg w5 hbox hb; have BK550 := Aside0.mk (hbox); have GW550 := bels HB hg; have GE550 := bels HB hg; replace HB := belb HB hb; clear hb hbox hg) | ((with_reducible refine gate_dst (N := 3) rfl ?_); refine box_event ?hg (N := 3) ?hd (cs := #[.bool a1_0, .slice A1_1 l1_1.length c1_1]) (t := 28) ?hr ?_; (case hd => rfl); (case hg => rfl); (case hr => first | (go_simp; done) | (go_simp; rfl)); intro gb551 hg w6 hbox hb; have BK551 := Aside0.mk (hbox); have GW551 := bels HB hg; have GE551 := bels HB hg; have NB550_551 := blkl BK550 hg; have NB551_550 := blkg BK550 hg; replace BK550 := blkb BK550 hb; replace HB := belb HB hb; clear hb hbox hg))
 replace BK550 := Aside0.mk (blk_drew BK550.out)
 replace BK551 := Aside0.mk (blk_drew BK551.out)
 replace HB := Aside0.mk (below_drew1 HB.out)
 refine start_ (n := 6) (S := fun w' => w'.cell? ⟨gb550, 0, none⟩ = some (.int .i64 a0_0) ∧ w'.cell? ⟨gb550, 1, none⟩ = some (.int .u64 a0_1) ∧ w'.cell? ⟨gb551, 0, none⟩ = some (.bool a1_0) ∧ w'.cell? ⟨gb551, 1, none⟩ = some (.slice A1_1 l1_1.length c1_1)) (ds := []) #[false, false, false, false, false, false] (by kernel_rfl) rfl rfl ⟨bc BK550 0, bc BK550 1, bc BK551 0, bc BK551 1⟩ (fun hHeld => ?_)
 generalize w6.drew = w7 at BK550 BK551 HB hHeld ⊢
 refine take_ (i := 0) (N := some 5) (v := ?_) (a' := ?_) #[true, false, false, false, false, false] rfl rfl (by kernel_rfl) (fun _ _ _ h => h) (Or.inl ⟨by rfl, ?_⟩) hHeld ?_ ?_
 rotate_left
 ·rintro w' ⟨s0, s1, s2, s3⟩
  go_simp
  with_reducible rfl
 rotate_left
 ·simp only [Act.put, List.setIfInBounds_toArray, List.set_cons_zero, List.set_cons_succ, i64_w, i32_w]
  rfl
 refine take_ (i := 2) (N := some 7) (v := ?_) (a' := ?_) #[true, false, true, false, false, false] rfl rfl (by kernel_rfl) (fun _ _ _ h => h) (Or.inl ⟨by rfl, ?_⟩) hHeld ?_ ?_
 rotate_left
 ·rintro w' ⟨s0, s1, s2, s3⟩
  go_simp
  with_reducible rfl
 rotate_left
 ·simp only [Act.put, List.setIfInBounds_toArray, List.set_cons_zero, List.set_cons_succ, i64_w, i32_w]
  rfl
 refine one_ (i := 1) (N := some 6) #[true, true, true, false, false, false] rfl rfl (by kernel_rfl) (by decide) (fun K hK => ?_)
 refine goes_ Try.func41 (by kernel_rfl) rfl #[.agg #[.int .i64 a0_0, .int .u64 a0_1]] (by rfl) rfl rfl argt ?_
 with_reducible refine (turnstonelaw01_Of.calls k a0_0 a0_1 t552 t553 _ A3.out).mono ?_
 rintro e w8 ⟨v554, rfl, ho0, hb⟩
 refine ⟨_, rfl, ?_⟩
 have HO555 := Aside0.mk (Kd.V_lower (Kd.V_mono (ok' := fun k_ => k_ ≠ gb550 ∧ k_ ≠ gb551) ho0 (fun k_ hk_ => ⟨(Kd.freshB (blkt BK550) k_ hk_), (Kd.freshB (blkt BK551) k_ hk_)⟩)) (below_size (belt HB)))
 replace BK550 := blkb BK550 hb
 replace BK551 := blkb BK551 hb
 replace HB := belb HB hb
 (try clear hb)
 (try clear hb2)
 (try clear hk)
 (try clear hi)
 (try clear ho0)
 obtain ⟨Ao9, co9, eo9⟩ := Kd.V_slice HO555.out
 (first | subst eo9 | (injection eo9 with f1_ f2_ f3_; have f4_ := f1_.symm; have f5_ := f3_.symm; clear f1_ f2_ f3_; subst f4_; subst f5_))
 refine hK.out _ _ ⟨bc BK550 0, bc BK550 1, bc BK551 0, bc BK551 1⟩ (fun hHeld => ?_)
 clear hK K
 refine norm_ (a' := ?_) ?_ ?_
 rotate_left
 ·show Act.put _ (some 6) _ = _
  simp only [Act.put, List.setIfInBounds_toArray, List.set_cons_zero, List.set_cons_succ, i64_w, i32_w]
  rfl
 refine one_ (i := 3) (N := some 8) #[true, true, true, true, false, false] rfl rfl (by kernel_rfl) (by decide) (fun K hK => ?_)
 refine goes_ Try.func18 (by kernel_rfl) rfl #[.agg #[.bool t552, .slice Ao9 t553.length co9], .agg #[.bool a1_0, .slice A1_1 l1_1.length c1_1]] (by rfl) rfl rfl argt ?_
 with_reducible refine (turnstoneref01_Cmp.calls k t552 _ _ t553 a1_0 _ _ l1_1 t556 _ ?side1 ?side2 ?side3 ?side4 A4.out).mono ?_
 (case side1 => repeat (first | exact (Kd.V_reads' HO555.out).2.2 | (with_reducible refine Kd.C_alloc ?_ _) | (with_reducible refine Kd.C_drewN ?_ _) | (with_reducible refine Kd.C_drew ?_)))
 (case side2 => exact (Kd.V_reads' HO555.out).2.1)
 (case side3 => exact (ct (Kd.C_below HR1_1.out HB.out)))
 (case side4 => exact HC1_1.out)
 rintro e w10 ⟨rfl, hb⟩
 refine ⟨_, rfl, ?_⟩
 replace HO555 := vb HO555 hb
 replace BK550 := blkb BK550 hb
 replace BK551 := blkb BK551 hb
 replace HB := belb HB hb
 (try clear hb)
 (try clear hb2)
 (try clear hk)
 (try clear hi)
 refine hK.out _ _ ⟨bc BK550 0, bc BK550 1, bc BK551 0, bc BK551 1⟩ (fun hHeld => ?_)
 clear hK K
 refine norm_ (a' := ?_) ?_ ?_
 rotate_left
 ·show Act.put _ (some 8) _ = _
  simp only [Act.put, List.setIfInBounds_toArray, List.set_cons_zero, List.set_cons_succ, i64_w, i32_w]
  rfl
 refine pure_ (i := 4) (N := some 9) (v := ?_) (a' := ?_) #[true, true, true, true, true, false] rfl rfl (by kernel_rfl) (fun _ _ _ h => h) (Or.inl ⟨by rfl, ?_⟩) ?_ ?_
 rotate_left
 ·intro w'
  go_simp
  with_reducible rfl
 rotate_left
 ·simp only [Act.put, List.setIfInBounds_toArray, List.set_cons_zero, List.set_cons_succ, i64_w, i32_w]
  rfl
 refine pure_ (i := 5) (N := some 4) (v := ?_) (a' := ?_) #[true, true, true, true, true, true] rfl rfl (by kernel_rfl) (fun _ _ _ h => h) (Or.inl ⟨by rfl, ?_⟩) ?_ ?_
 rotate_left
 ·intro w'
  go_simp
  with_reducible rfl
 rotate_left
 ·simp only [Act.put, List.setIfInBounds_toArray, List.set_cons_zero, List.set_cons_succ, i64_w, i32_w]
  rfl
 refine done_ (by kernel_rfl) ?_
 try go_wp2
 go_ret
 exact ⟨by first | rfl | (simp [errW_none, errW_some] <;> rfl) | (simp [*, errW_none, errW_some] <;> rfl), belt HB⟩


/-! ### pos_Pos_Distance: function 54 -/
def pos_Pos_Distance.f (k : Nat) (a0_0 : Int) (a0_1 : Int) (a0_2 : Int) (a1 : Int) : Option (Int × Int) := (wide_OfU.f (IntKind.u64.wrap (a0_2))).bind fun bt559 => ((vtime_Time_Since.f a0_0 a1).bind fun t561 => ((wide_Int_Mul.f k bt559.1 bt559.2 t561).bind fun bt562 => ((wide_OfU.f (IntKind.u64.wrap (a0_1))).bind fun bt566 => ((wide_Int_Add.f bt562.1 bt562.2.1 bt566.1 bt566.2).bind fun bt568 => (some (bt568.1, bt568.2.1))))))
theorem pos_Pos_Distance.mono : ∀ a0 a1 a2 a3 k, LeO (pos_Pos_Distance.f k a0 a1 a2 a3) (pos_Pos_Distance.f (k + 1) a0 a1 a2 a3) := by
 intro a0 a1 a2 a3 k
 unfold pos_Pos_Distance.f
 repeat' first
   | (with_reducible exact wide_Int_Mul.mono _ _ _ _)
   | (with_reducible exact LeO.refl _)
   | (with_reducible exact LeO.none _)
   | (with_reducible refine LeO.ite ?_ ?_)
   | (with_reducible refine LeO.bind ?_ (fun _ => ?_))
   | exact wide_Int_Mul.mono _ _ _ _
   | exact LeO.none _
   | refine LeO.ite ?_ ?_
   | refine LeO.bind ?_ (fun _ => ?_)
def pos_Pos_Distance.T1 : Bool × List (List Nat × List Nat) := (true, [([], []), ([0], [0]), ([1], [1]), ([2], [2]), ([], []), ([4], [4]), ([], []), ([5, 6, 3], [5, 6]), ([3, 7, 7], [3, 7]), ([8], [8]), ([9], [9]), ([9], [9]), ([], []), ([12, 10, 8, 0, 1, 2, 3, 4, 5, 6, 7, 8, 9, 10, 12], [10, 12]), ([11, 13, 0, 1, 2, 3, 4, 5, 6, 7, 8, 9, 10, 11, 12, 13], [11])])
def pos_Pos_Distance.B1 : List Nat := [0, 1, 3, 7, 0, 16, 0, 127, 255, 511, 1023, 1023, 0, 6143, 16383]
theorem pos_Pos_Distance.tab1 : rtab .any (opsOf Try.f54 1) = pos_Pos_Distance.T1 := by kernel_rfl
theorem pos_Pos_Distance.bits1 : waitsOk pos_Pos_Distance.T1.2 pos_Pos_Distance.B1 = true := by kernel_rfl
def pos_Pos_Distance.T2 : Bool × List (List Nat × List Nat) := (true, [([], []), ([], []), ([1], [1]), ([2], [2]), ([3], [3]), ([0, 4, 4], [0, 4]), ([5], [5]), ([6], [6]), ([6], [6]), ([7, 5, 0, 1, 2, 3, 4, 5, 6, 7], [7])])
def pos_Pos_Distance.B2 : List Nat := [0, 0, 2, 6, 14, 31, 63, 127, 127, 255]
theorem pos_Pos_Distance.tab2 : rtab .any (opsOf Try.f54 2) = pos_Pos_Distance.T2 := by kernel_rfl
theorem pos_Pos_Distance.bits2 : waitsOk pos_Pos_Distance.T2.2 pos_Pos_Distance.B2 = true := by kernel_rfl
set_option maxHeartbeats 8000000 in
set_option maxRecDepth 100000 in
theorem pos_Pos_Distance.calls (k : Nat) (a0_0 : Int) (a0_1 : Int) (a0_2 : Int) (a1 : Int) (r1 : Int) (r2 : Int) (w : World) (h : pos_Pos_Distance.f k a0_0 a0_1 a0_2 a1 = some (r1, r2)) :
  Calls Try.prog 54 #[.agg #[.int .u64 a0_0, .int .u32 a0_1, .int .u32 a0_2], .int .u64 a1] w fun e w' => e = .returned (.agg #[.int .i64 r1, .int .u64 r2]) ∧ Below w.heap.size w w' := by
 have hu67 := Try.underlying67
 have hu59 := Try.underlying59
 have HB := Aside0.mk (Below.refl w.heap.size w)
 have H : ((wide_OfU.f (IntKind.u64.wrap (a0_2))).bind fun bt559 => ((vtime_Time_Since.f a0_0 a1).bind fun t561 => ((wide_Int_Mul.f k bt559.1 bt559.2 t561).bind fun bt562 => ((wide_OfU.f (IntKind.u64.wrap (a0_1))).bind fun bt566 => ((wide_Int_Add.f bt562.1 bt562.2.1 bt566.1 bt566.2).bind fun bt568 => (some (bt568.1, bt568.2.1))))))) = some (r1, r2) := h
 clear h
 replace H := Option.bind_eq_some_iff.mp H
 obtain ⟨⟨t559, t560⟩, A30, H⟩ := H
 replace H : ((vtime_Time_Since.f a0_0 a1).bind fun t561 => ((wide_Int_Mul.f k t559 t560 t561).bind fun bt562 => ((wide_OfU.f (IntKind.u64.wrap (a0_1))).bind fun bt566 => ((wide_Int_Add.f bt562.1 bt562.2.1 bt566.1 bt566.2).bind fun bt568 => (some (bt568.1, bt568.2.1)))))) = some (r1, r2) := H
 have A3 := Aside0.mk A30
 clear A30
 replace H := Option.bind_eq_some_iff.mp H
 obtain ⟨t561, A40, H⟩ := H
 replace H : ((wide_Int_Mul.f k t559 t560 t561).bind fun bt562 => ((wide_OfU.f (IntKind.u64.wrap (a0_1))).bind fun bt566 => ((wide_Int_Add.f bt562.1 bt562.2.1 bt566.1 bt566.2).bind fun bt568 => (some (bt568.1, bt568.2.1))))) = some (r1, r2) := H
 have A4 := Aside0.mk A40
 clear A40
 replace H := Option.bind_eq_some_iff.mp H
 obtain ⟨⟨t562, t563, t564⟩, A50, H⟩ := H
 replace H : ((wide_OfU.f (IntKind.u64.wrap (a0_1))).bind fun bt566 => ((wide_Int_Add.f t562 t563 bt566.1 bt566.2).bind fun bt568 => (some (bt568.1, bt568.2.1)))) = some (r1, r2) := H
 have A5 := Aside0.mk A50
 clear A50
 replace H := Option.bind_eq_some_iff.mp H
 obtain ⟨⟨t566, t567⟩, A60, H⟩ := H
 replace H : ((wide_Int_Add.f t562 t563 t566 t567).bind fun bt568 => (some (bt568.1, bt568.2.1))) = some (r1, r2) := H
 have A6 := Aside0.mk A60
 clear A60
 replace H := Option.bind_eq_some_iff.mp H
 obtain ⟨⟨t568, t569, t570⟩, A70, H⟩ := H
 replace H : (some (t568, t569)) = some (r1, r2) := H
 have A7 := Aside0.mk A70
 clear A70
 simp only [Option.some.injEq, Prod.mk.injEq] at H
 obtain ⟨rfl, rfl⟩ := H
 go_enter Try.func54, Try.ntmps54
 try go_wp2_with (first | ((with_reducible refine gate_dst (N := 2) rfl ?_); refine box_event ?hg (N := 2) ?hd (cs := #[.int .u64 a0_0, .int .u32 a0_1, .int .u32 a0_2]) (t := 67) ?hr ?_; (case hd => rfl); (case hg => rfl); (case hr => first | (go_simp; done) | (go_simp; rfl)); intro gb557 hg w8 hbox hb; have BK557 := Aside0.mk (hbox); have GW557 := bels HB hg; have GE557 := bels HB hg; replace HB := belb HB hb; clear hb hbox hg) | ((with_reducible refine gate_dst (N := 4) rfl ?_); refine box_event ?hg (N := 4) ?hd (cs := #[.int .i64 0, .int .u64 0]) (t := 59) ?hr ?_; (case hd => rfl); (case hg => rfl); (case hr => first | (go_simp; done) | (go_simp; rfl)); intro gb558 hg w9 hbox hb; have BK558 := Aside0.mk (hbox); have GW558 := bels HB hg; have GE558 := bels HB hg; have NB557_558 := blkl BK557 hg; have NB558_557 := blkg BK557 hg; replace BK557 := blkb BK557 hb; replace HB := belb HB hb; clear hb hbox hg))
 replace BK557 := Aside0.mk (blk_drew BK557.out)
 replace BK558 := Aside0.mk (blk_drew BK558.out)
 replace HB := Aside0.mk (below_drew1 HB.out)
 refine start_ (n := 15) (S := fun w' => w'.cell? ⟨gb557, 0, none⟩ = some (.int .u64 a0_0) ∧ w'.cell? ⟨gb557, 1, none⟩ = some (.int .u32 a0_1) ∧ w'.cell? ⟨gb557, 2, none⟩ = some (.int .u32 a0_2)) (ds := []) #[false, false, false, false, false, false, false, false, false, false, false, false, false, false, false] (by kernel_rfl) rfl rfl ⟨bc BK557 0, bc BK557 1, bc BK557 2⟩ (fun hHeld => ?_); refine with_tabW pos_Pos_Distance.tab1 pos_Pos_Distance.bits1 (fun HT_ HW_ => ?_)
 generalize w9.drew = w10 at BK557 BK558 HB hHeld ⊢
 refine pure_ (i := 0) (N := some 8) (v := ?_) (a' := ?_) #[true, false, false, false, false, false, false, false, false, false, false, false, false, false, false] rfl rfl (any_of HT_.out (by kernel_rfl)) (fun _ _ _ h => h) (Or.inl ⟨by rfl, ?_⟩) ?_ ?_
 rotate_left
 ·intro w'
  go_simp
  with_reducible rfl
 rotate_left
 ·simp only [Act.put, List.setIfInBounds_toArray, List.set_cons_zero, List.set_cons_succ, i64_w, i32_w]
  rfl
 refine pure_ (i := 4) (N := some 12) (v := ?_) (a' := ?_) #[true, false, false, false, true, false, false, false, false, false, false, false, false, false, false] rfl rfl (any_of HT_.out (by kernel_rfl)) (fun _ _ _ h => h) (Or.inl ⟨by rfl, ?_⟩) ?_ ?_
 rotate_left
 ·intro w'
  go_simp
  with_reducible rfl
 rotate_left
 ·simp only [Act.put, List.setIfInBounds_toArray, List.set_cons_zero, List.set_cons_succ, i64_w, i32_w]
  rfl
 refine pure_ (i := 6) (N := some 14) (v := ?_) (a' := ?_) #[true, false, false, false, true, false, true, false, false, false, false, false, false, false, false] rfl rfl (any_of HT_.out (by kernel_rfl)) (fun _ _ _ h => h) (Or.inl ⟨by rfl, ?_⟩) ?_ ?_
 rotate_left
 ·intro w'
  go_simp
  with_reducible rfl
 rotate_left
 ·simp only [Act.put, List.setIfInBounds_toArray, List.set_cons_zero, List.set_cons_succ, i64_w, i32_w]
  rfl
 refine take_ (i := 1) (N := some 9) (v := ?_) (a' := ?_) #[true, true, false, false, true, false, true, false, false, false, false, false, false, false, false] rfl rfl (take_ofW HT_.out HW_.out (by kernel_rfl)) (fun _ _ _ h => h) (Or.inl ⟨by rfl, ?_⟩) hHeld ?_ ?_
 rotate_left
 ·rintro w' ⟨s0, s1, s2⟩
  go_simp
  with_reducible rfl
 rotate_left
 ·simp only [Act.put, List.setIfInBounds_toArray, List.set_cons_zero, List.set_cons_succ, i64_w, i32_w]
  rfl
 refine pure_ (i := 2) (N := some 10) (v := ?_) (a' := ?_) #[true, true, true, false, true, false, true, false, false, false, false, false, false, false, false] rfl rfl (any_of HT_.out (by kernel_rfl)) (fun _ _ _ h => h) (Or.inl ⟨by rfl, ?_⟩) ?_ ?_
 rotate_left
 ·intro w'
  go_simp
  with_reducible rfl
 rotate_left
 ·simp only [Act.put, List.setIfInBounds_toArray, List.set_cons_zero, List.set_cons_succ, i64_w, i32_w]
  rfl
 refine take_ (i := 5) (N := some 13) (v := ?_) (a' := ?_) #[true, true, true, false, true, true, true, false, false, false, false, false, false, false, false] rfl rfl (take_ofW HT_.out HW_.out (by kernel_rfl)) (fun _ _ _ h => h) (Or.inl ⟨by rfl, ?_⟩) hHeld ?_ ?_
 rotate_left
 ·rintro w' ⟨s0, s1, s2⟩
  go_simp
  with_reducible rfl
 rotate_left
 ·simp only [Act.put, List.setIfInBounds_toArray, List.set_cons_zero, List.set_cons_succ, i64_w, i32_w]
  rfl
 refine join_ (σ := Nat) 2 #[true, true, true, true, true, true, true, true, true, true, true, true, true, false, false] (fun s_ => [(11, .agg #[.int .i64 t559, .int .u64 t560]), (15, .int .i64 t561), (16, .tuple #[.agg #[.int .i64 t562, .int .u64 t563], .bool t564]), (5, .pointer (some ⟨s_, 0, none⟩)), (7, .tuple #[.agg #[.int .i64 t562, .int .u64 t563], .bool t564]), (17, .agg #[.int .i64 t562, .int .u64 t563]), (18, .bool t564)]) (fun s_ w' => (w'.cell? ⟨gb557, 0, none⟩ = some (.int .u64 a0_0) ∧ w'.cell? ⟨gb557, 1, none⟩ = some (.int .u32 a0_1) ∧ w'.cell? ⟨gb557, 2, none⟩ = some (.int .u32 a0_2)) ∧ (w'.heap[gb557]? = some (.cells #[.int .u64 a0_0, .int .u32 a0_1, .int .u32 a0_2] 67 (0, 0))) ∧ (w'.heap[gb558]? = some (.cells #[.int .i64 0, .int .u64 0] 59 (0, 0))) ∧ (w'.heap[s_]? = some (.cells #[.int .i64 0, .int .u64 0] 59 (0, 0))) ∧ (w.heap.size ≤ s_) ∧ (w.heap.size ≤ s_) ∧ (gb557 ≠ s_) ∧ (s_ ≠ gb557) ∧ (gb558 ≠ s_) ∧ (s_ ≠ gb558) ∧ (Below w.heap.size w w')) ?_ ?_
 rotate_left
 ·intro hCont
  refine two_ (i := 3) (j := 12) (Ni := some 11) (Nj := some 5) #[true, true, true, true, true, true, true, false, false, false, false, false, false, false, false] #[true, true, true, false, true, true, true, false, false, false, false, false, true, false, false] rfl rfl rfl rfl (two_of HT_.out (by kernel_rfl)) (by decide) (by decide) (fun K hK => ?_) (fun K hK => ?_)
  ·skip
   refine goes_ Try.func80 (by kernel_rfl) rfl #[.int .u64 (IntKind.u64.wrap (a0_2))] (by rfl) rfl rfl argt ?_
   with_reducible refine (wide_OfU.calls (IntKind.u64.wrap (a0_2)) t559 t560 _ A3.out).mono ?_
   rintro e w11 ⟨rfl, hb⟩
   refine ⟨_, rfl, ?_⟩
   replace BK557 := blkb BK557 hb
   replace BK558 := blkb BK558 hb
   replace HB := belb HB hb
   (try clear hb)
   (try clear hb2)
   (try clear hk)
   (try clear hi)
   refine hK.out _ _ ⟨bc BK557 0, bc BK557 1, bc BK557 2⟩ (fun hHeld => ?_)
   clear hK K
   refine norm_ (a' := ?_) ?_ ?_
   rotate_left
   ·show Act.put _ (some 11) _ = _
    simp only [Act.put, List.setIfInBounds_toArray, List.set_cons_zero, List.set_cons_succ, i64_w, i32_w]
    rfl
   refine two_ (i := 7) (j := 12) (Ni := some 15) (Nj := some 5) #[true, true, true, true, true, true, true, true, false, false, false, false, false, false, false] #[true, true, true, true, true, true, true, false, false, false, false, false, true, false, false] rfl rfl rfl rfl (two_of HT_.out (by kernel_rfl)) (by decide) (by decide) (fun K hK => ?_) (fun K hK => ?_)
   ·skip
    refine goes_ Try.func20 (by kernel_rfl) rfl #[.int .u64 a0_0, .int .u64 a1] (by rfl) rfl rfl argt ?_
    with_reducible refine (vtime_Time_Since.calls a0_0 a1 t561 _ A4.out).mono ?_
    rintro e w' ⟨rfl, ⟨nd, rfl⟩⟩
    refine ⟨_, rfl, ?_⟩
    refine hK.out _ _ ⟨bc BK557 0, bc BK557 1, bc BK557 2⟩ (fun hHeld => ?_)
    clear hK K
    refine norm_ (a' := ?_) ?_ ?_
    rotate_left
    ·show Act.put _ (some 15) _ = _
     simp only [Act.put, List.setIfInBounds_toArray, List.set_cons_zero, List.set_cons_succ, i64_w, i32_w]
     rfl
    refine two_ (i := 8) (j := 12) (Ni := some 16) (Nj := some 5) #[true, true, true, true, true, true, true, true, true, false, false, false, false, false, false] #[true, true, true, true, true, true, true, true, false, false, false, false, true, false, false] rfl rfl rfl rfl (two_of HT_.out (by kernel_rfl)) (by decide) (by decide) (fun K hK => ?_) (fun K hK => ?_)
    ·skip
     refine goes_ Try.func69 (by kernel_rfl) rfl #[.agg #[.int .i64 t559, .int .u64 t560], .int .i64 t561] (by rfl) rfl rfl argt ?_
     with_reducible refine (wide_Int_Mul.calls k t559 t560 t561 t562 t563 t564 _ A5.out).mono ?_
     rintro e w12 ⟨rfl, hb⟩
     refine ⟨_, rfl, ?_⟩
     replace BK557 := blkb BK557 hb
     replace BK558 := blkb BK558 hb
     replace HB := belb HB hb
     (try clear hb)
     (try clear hb2)
     (try clear hk)
     (try clear hi)
     refine hK.out _ _ ⟨bc BK557 0, bc BK557 1, bc BK557 2⟩ (fun hHeld => ?_)
     clear hK K
     refine norm_ (a' := ?_) ?_ ?_
     rotate_left
     ·show Act.put _ (some 16) _ = _
      simp only [Act.put, List.setIfInBounds_toArray, List.set_cons_zero, List.set_cons_succ, i64_w, i32_w]
      rfl
     refine pure_ (i := 9) (N := some 7) (v := ?_) (a' := ?_) #[true, true, true, true, true, true, true, true, true, true, false, false, false, false, false] rfl rfl (any_of HT_.out (by kernel_rfl)) (fun _ _ _ h => h) (Or.inl ⟨by rfl, ?_⟩) ?_ ?_
     rotate_left
     ·intro w'
      go_simp
      with_reducible rfl
     rotate_left
     ·simp only [Act.put, List.setIfInBounds_toArray, List.set_cons_zero, List.set_cons_succ, i64_w, i32_w]
      rfl
     refine pure_ (i := 10) (N := some 17) (v := ?_) (a' := ?_) #[true, true, true, true, true, true, true, true, true, true, true, false, false, false, false] rfl rfl (any_of HT_.out (by kernel_rfl)) (fun _ _ _ h => h) (Or.inl ⟨by rfl, ?_⟩) ?_ ?_
     rotate_left
     ·intro w'
      go_simp
      with_reducible rfl
     rotate_left
     ·simp only [Act.put, List.setIfInBounds_toArray, List.set_cons_zero, List.set_cons_succ, i64_w, i32_w]
      rfl
     refine pure_ (i := 11) (N := some 18) (v := ?_) (a' := ?_) #[true, true, true, true, true, true, true, true, true, true, true, true, false, false, false] rfl rfl (any_of HT_.out (by kernel_rfl)) (fun _ _ _ h => h) (Or.inl ⟨by rfl, ?_⟩) ?_ ?_
     rotate_left
     ·intro w'
      go_simp
      with_reducible rfl
     rotate_left
     ·simp only [Act.put, List.setIfInBounds_toArray, List.set_cons_zero, List.set_cons_succ, i64_w, i32_w]
      rfl
     refine one_ (i := 12) (N := some 5) #[true, true, true, true, true, true, true, true, true, true, true, true, true, false, false] rfl rfl (one_of HT_.out (by kernel_rfl)) (by decide) (fun K hK => ?_)
     refine box_step ?hg (N := 5) ?hd (cs := #[.int .i64 0, .int .u64 0]) (t := 59) ?hr ?_; (case hd => rfl); (case hg => rfl); (case hr => first | (go_simp; done) | (go_simp; rfl))
     intro gb565 hg w13 hbox hb
     have BK565 := Aside0.mk (hbox)
     have GW565 := bels HB hg
     have GE565 := bels HB hg
     have NB557_565 := blkl BK557 hg
     have NB565_557 := blkg BK557 hg
     have NB558_565 := blkl BK558 hg
     have NB565_558 := blkg BK558 hg
     replace BK557 := blkb BK557 hb
     replace BK558 := blkb BK558 hb
     replace HB := belb HB hb
     clear hb hbox hg
     refine hK.out _ _ ⟨bc BK557 0, bc BK557 1, bc BK557 2⟩ (fun hHeld => ?_)
     clear hK K
     refine norm_ (a' := ?_) ?_ ?_
     rotate_left
     ·show Act.put _ (some 5) _ = _
      simp only [Act.put, List.setIfInBounds_toArray, List.set_cons_zero, List.set_cons_succ, i64_w, i32_w]
      rfl
     exact norm_ (by simp only [putAll, Act.put, List.setIfInBounds_toArray, List.set_cons_zero, List.set_cons_succ]) (hCont (gb565) _ ⟨hHeld, (blkt BK557), (blkt BK558), (blkt BK565), GW565.out, GE565.out, NB557_565.out, NB565_557.out, NB558_565.out, NB565_558.out, (belt HB)⟩)
    skip
    refine box_step ?hg (N := 5) ?hd (cs := #[.int .i64 0, .int .u64 0]) (t := 59) ?hr ?_; (case hd => rfl); (case hg => rfl); (case hr => first | (go_simp; done) | (go_simp; rfl))
    intro gb565 hg w12 hbox hb
    have BK565 := Aside0.mk (hbox)
    have GW565 := bels HB hg
    have GE565 := bels HB hg
    have NB557_565 := blkl BK557 hg
    have NB565_557 := blkg BK557 hg
    have NB558_565 := blkl BK558 hg
    have NB565_558 := blkg BK558 hg
    replace BK557 := blkb BK557 hb
    replace BK558 := blkb BK558 hb
    replace HB := belb HB hb
    clear hb hbox hg
    refine hK.out _ _ ⟨bc BK557 0, bc BK557 1, bc BK557 2⟩ (fun hHeld => ?_)
    clear hK K
    refine norm_ (a' := ?_) ?_ ?_
    rotate_left
    ·show Act.put _ (some 5) _ = _
     simp only [Act.put, List.setIfInBounds_toArray, List.set_cons_zero, List.set_cons_succ, i64_w, i32_w]
     rfl
    refine one_ (i := 8) (N := some 16) #[true, true, true, true, true, true, true, true, true, false, false, false, true, false, false] rfl rfl (one_of HT_.out (by kernel_rfl)) (by decide) (fun K hK => ?_)
    refine goes_ Try.func69 (by kernel_rfl) rfl #[.agg #[.int .i64 t559, .int .u64 t560], .int .i64 t561] (by rfl) rfl rfl argt ?_
    with_reducible refine (wide_Int_Mul.calls k t559 t560 t561 t562 t563 t564 _ A5.out).mono ?_
    rintro e w13 ⟨rfl, hb⟩
    refine ⟨_, rfl, ?_⟩
    replace BK557 := blkb BK557 hb
    replace BK558 := blkb BK558 hb
    replace BK565 := blkb BK565 hb
    replace HB := belb HB hb
    (try clear hb)
    (try clear hb2)
    (try clear hk)
    (try clear hi)
    refine hK.out _ _ ⟨bc BK557 0, bc BK557 1, bc BK557 2⟩ (fun hHeld => ?_)
    clear hK K
    refine norm_ (a' := ?_) ?_ ?_
    rotate_left
    ·show Act.put _ (some 16) _ = _
     simp only [Act.put, List.setIfInBounds_toArray, List.set_cons_zero, List.set_cons_succ, i64_w, i32_w]
     rfl
    refine pure_ (i := 9) (N := some 7) (v := ?_) (a' := ?_) #[true, true, true, true, true, true, true, true, true, true, false, false, true, false, false] rfl rfl (any_of HT_.out (by kernel_rfl)) (fun _ _ _ h => h) (Or.inl ⟨by rfl, ?_⟩) ?_ ?_
    rotate_left
    ·intro w'
     go_simp
     with_reducible rfl
    rotate_left
    ·simp only [Act.put, List.setIfInBounds_toArray, List.set_cons_zero, List.set_cons_succ, i64_w, i32_w]
     rfl
    refine pure_ (i := 10) (N := some 17) (v := ?_) (a' := ?_) #[true, true, true, true, true, true, true, true, true, true, true, false, true, false, false] rfl rfl (any_of HT_.out (by kernel_rfl)) (fun _ _ _ h => h) (Or.inl ⟨by rfl, ?_⟩) ?_ ?_
    rotate_left
    ·intro w'
     go_simp
     with_reducible rfl
    rotate_left
    ·simp only [Act.put, List.setIfInBounds_toArray, List.set_cons_zero, List.set_cons_succ, i64_w, i32_w]
     rfl
    refine pure_ (i := 11) (N := some 18) (v := ?_) (a' := ?_) #[true, true, true, true, true, true, true, true, true, true, true, true, true, false, false] rfl rfl (any_of HT_.out (by kernel_rfl)) (fun _ _ _ h => h) (Or.inl ⟨by rfl, ?_⟩) ?_ ?_
    rotate_left
    ·intro w'
     go_simp
     with_reducible rfl
    rotate_left
    ·simp only [Act.put, List.setIfInBounds_toArray, List.set_cons_zero, List.set_cons_succ, i64_w, i32_w]
     rfl
    exact norm_ (by simp only [putAll, Act.put, List.setIfInBounds_toArray, List.set_cons_zero, List.set_cons_succ]) (hCont (gb565) _ ⟨hHeld, (blkt BK557), (blkt BK558), (blkt BK565), GW565.out, GE565.out, NB557_565.out, NB565_557.out, NB558_565.out, NB565_558.out, (belt HB)⟩)
   skip
   refine box_step ?hg (N := 5) ?hd (cs := #[.int .i64 0, .int .u64 0]) (t := 59) ?hr ?_; (case hd => rfl); (case hg => rfl); (case hr => first | (go_simp; done) | (go_simp; rfl))
   intro gb565 hg w12 hbox hb
   have BK565 := Aside0.mk (hbox)
   have GW565 := bels HB hg
   have GE565 := bels HB hg
   have NB557_565 := blkl BK557 hg
   have NB565_557 := blkg BK557 hg
   have NB558_565 := blkl BK558 hg
   have NB565_558 := blkg BK558 hg
   replace BK557 := blkb BK557 hb
   replace BK558 := blkb BK558 hb
   replace HB := belb HB hb
   clear hb hbox hg
   refine hK.out _ _ ⟨bc BK557 0, bc BK557 1, bc BK557 2⟩ (fun hHeld => ?_)
   clear hK K
   refine norm_ (a' := ?_) ?_ ?_
   rotate_left
   ·show Act.put _ (some 5) _ = _
    simp only [Act.put, List.setIfInBounds_toArray, List.set_cons_zero, List.set_cons_succ, i64_w, i32_w]
    rfl
   refine one_ (i := 7) (N := some 15) #[true, true, true, true, true, true, true, true, false, false, false, false, true, false, false] rfl rfl (one_of HT_.out (by kernel_rfl)) (by decide) (fun K hK => ?_)
   refine goes_ Try.func20 (by kernel_rfl) rfl #[.int .u64 a0_0, .int .u64 a1] (by rfl) rfl rfl argt ?_
   with_reducible refine (vtime_Time_Since.calls a0_0 a1 t561 _ A4.out).mono ?_
   rintro e w' ⟨rfl, ⟨nd, rfl⟩⟩
   refine ⟨_, rfl, ?_⟩
   refine hK.out _ _ ⟨bc BK557 0, bc BK557 1, bc BK557 2⟩ (fun hHeld => ?_)
   clear hK K
   refine norm_ (a' := ?_) ?_ ?_
   rotate_left
   ·show Act.put _ (some 15) _ = _
    simp only [Act.put, List.setIfInBounds_toArray, List.set_cons_zero, List.set_cons_succ, i64_w, i32_w]
    rfl
   refine one_ (i := 8) (N := some 16) #[true, true, true, true, true, true, true, true, true, false, false, false, true, false, false] rfl rfl (one_of HT_.out (by kernel_rfl)) (by decide) (fun K hK => ?_)
   refine goes_ Try.func69 (by kernel_rfl) rfl #[.agg #[.int .i64 t559, .int .u64 t560], .int .i64 t561] (by rfl) rfl rfl argt ?_
   with_reducible refine (wide_Int_Mul.calls k t559 t560 t561 t562 t563 t564 _ A5.out).mono ?_
   rintro e w13 ⟨rfl, hb⟩
   refine ⟨_, rfl, ?_⟩
   replace BK557 := blkb BK557 hb
   replace BK558 := blkb BK558 hb
   replace BK565 := blkb BK565 hb
   replace HB := belb HB hb
   (try clear hb)
   (try clear hb2)
   (try clear hk)
   (try clear hi)
   refine hK.out _ _ ⟨bc BK557 0, bc BK557 1, bc BK557 2⟩ (fun hHeld => ?_)
   clear hK K
   refine norm_ (a' := ?_) ?_ ?_
   rotate_left
   ·show Act.put _ (some 16) _ = _
    simp only [Act.put, List.setIfInBounds_toArray, List.set_cons_zero, List.set_cons_succ, i64_w, i32_w]
    rfl
   refine pure_ (i := 9) (N := some 7) (v := ?_) (a' := ?_) #[true, true, true, true, true, true, true, true, true, true, false, false, true, false, false] rfl rfl (any_of HT_.out (by kernel_rfl)) (fun _ _ _ h => h) (Or.inl ⟨by rfl, ?_⟩) ?_ ?_
   rotate_left
   ·intro w'
    go_simp
    with_reducible rfl
   rotate_left
   ·simp only [Act.put, List.setIfInBounds_toArray, List.set_cons_zero, List.set_cons_succ, i64_w, i32_w]
    rfl
   refine pure_ (i := 10) (N := some 17) (v := ?_) (a' := ?_) #[true, true, true, true, true, true, true, true, true, true, true, false, true, false, false] rfl rfl (any_of HT_.out (by kernel_rfl)) (fun _ _ _ h => h) (Or.inl ⟨by rfl, ?_⟩) ?_ ?_
   rotate_left
   ·intro w'
    go_simp
    with_reducible rfl
   rotate_left
   ·simp only [Act.put, List.setIfInBounds_toArray, List.set_cons_zero, List.set_cons_succ, i64_w, i32_w]
    rfl
   refine pure_ (i := 11) (N := some 18) (v := ?_) (a' := ?_) #[true, true, true, true, true, true, true, true, true, true, true, true, true, false, false] rfl rfl (any_of HT_.out (by kernel_rfl)) (fun _ _ _ h => h) (Or.inl ⟨by rfl, ?_⟩) ?_ ?_
   rotate_left
   ·intro w'
    go_simp
    with_reducible rfl
   rotate_left
   ·simp only [Act.put, List.setIfInBounds_toArray, List.set_cons_zero, List.set_cons_succ, i64_w, i32_w]
    rfl
   exact norm_ (by simp only [putAll, Act.put, List.setIfInBounds_toArray, List.set_cons_zero, List.set_cons_succ]) (hCont (gb565) _ ⟨hHeld, (blkt BK557), (blkt BK558), (blkt BK565), GW565.out, GE565.out, NB557_565.out, NB565_557.out, NB558_565.out, NB565_558.out, (belt HB)⟩)
  skip
  refine box_step ?hg (N := 5) ?hd (cs := #[.int .i64 0, .int .u64 0]) (t := 59) ?hr ?_; (case hd => rfl); (case hg => rfl); (case hr => first | (go_simp; done) | (go_simp; rfl))
  intro gb565 hg w11 hbox hb
  have BK565 := Aside0.mk (hbox)
  have GW565 := bels HB hg
  have GE565 := bels HB hg
  have NB557_565 := blkl BK557 hg
  have NB565_557 := blkg BK557 hg
  have NB558_565 := blkl BK558 hg
  have NB565_558 := blkg BK558 hg
  replace BK557 := blkb BK557 hb
  replace BK558 := blkb BK558 hb
  replace HB := belb HB hb
  clear hb hbox hg
  refine hK.out _ _ ⟨bc BK557 0, bc BK557 1, bc BK557 2⟩ (fun hHeld => ?_)
  clear hK K
  refine norm_ (a' := ?_) ?_ ?_
  rotate_left
  ·show Act.put _ (some 5) _ = _
   simp only [Act.put, List.setIfInBounds_toArray, List.set_cons_zero, List.set_cons_succ, i64_w, i32_w]
   rfl
  refine one_ (i := 3) (N := some 11) #[true, true, true, true, true, true, true, false, false, false, false, false, true, false, false] rfl rfl (one_of HT_.out (by kernel_rfl)) (by decide) (fun K hK => ?_)
  refine goes_ Try.func80 (by kernel_rfl) rfl #[.int .u64 (IntKind.u64.wrap (a0_2))] (by rfl) rfl rfl argt ?_
  with_reducible refine (wide_OfU.calls (IntKind.u64.wrap (a0_2)) t559 t560 _ A3.out).mono ?_
  rintro e w12 ⟨rfl, hb⟩
  refine ⟨_, rfl, ?_⟩
  replace BK557 := blkb BK557 hb
  replace BK558 := blkb BK558 hb
  replace BK565 := blkb BK565 hb
  replace HB := belb HB hb
  (try clear hb)
  (try clear hb2)
  (try clear hk)
  (try clear hi)
  refine hK.out _ _ ⟨bc BK557 0, bc BK557 1, bc BK557 2⟩ (fun hHeld => ?_)
  clear hK K
  refine norm_ (a' := ?_) ?_ ?_
  rotate_left
  ·show Act.put _ (some 11) _ = _
   simp only [Act.put, List.setIfInBounds_toArray, List.set_cons_zero, List.set_cons_succ, i64_w, i32_w]
   rfl
  refine one_ (i := 7) (N := some 15) #[true, true, true, true, true, true, true, true, false, false, false, false, true, false, false] rfl rfl (one_of HT_.out (by kernel_rfl)) (by decide) (fun K hK => ?_)
  refine goes_ Try.func20 (by kernel_rfl) rfl #[.int .u64 a0_0, .int .u64 a1] (by rfl) rfl rfl argt ?_
  with_reducible refine (vtime_Time_Since.calls a0_0 a1 t561 _ A4.out).mono ?_
  rintro e w' ⟨rfl, ⟨nd, rfl⟩⟩
  refine ⟨_, rfl, ?_⟩
  refine hK.out _ _ ⟨bc BK557 0, bc BK557 1, bc BK557 2⟩ (fun hHeld => ?_)
  clear hK K
  refine norm_ (a' := ?_) ?_ ?_
  rotate_left
  ·show Act.put _ (some 15) _ = _
   simp only [Act.put, List.setIfInBounds_toArray, List.set_cons_zero, List.set_cons_succ, i64_w, i32_w]
   rfl
  refine one_ (i := 8) (N := some 16) #[true, true, true, true, true, true, true, true, true, false, false, false, true, false, false] rfl rfl (one_of HT_.out (by kernel_rfl)) (by decide) (fun K hK => ?_)
  refine goes_ Try.func69 (by kernel_rfl) rfl #[.agg #[.int .i64 t559, .int .u64 t560], .int .i64 t561] (by rfl) rfl rfl argt ?_
  with_reducible refine (wide_Int_Mul.calls k t559 t560 t561 t562 t563 t564 _ A5.out).mono ?_
  rintro e w13 ⟨rfl, hb⟩
  refine ⟨_, rfl, ?_⟩
  replace BK557 := blkb BK557 hb
  replace BK558 := blkb BK558 hb
  replace BK565 := blkb BK565 hb
  replace HB := belb HB hb
  (try clear hb)
  (try clear hb2)
  (try clear hk)
  (try clear hi)
  refine hK.out _ _ ⟨bc BK557 0, bc BK557 1, bc BK557 2⟩ (fun hHeld => ?_)
  clear hK K
  refine norm_ (a' := ?_) ?_ ?_
  rotate_left
  ·show Act.put _ (some 16) _ = _
   simp only [Act.put, List.setIfInBounds_toArray, List.set_cons_zero, List.set_cons_succ, i64_w, i32_w]
   rfl
  refine pure_ (i := 9) (N := some 7) (v := ?_) (a' := ?_) #[true, true, true, true, true, true, true, true, true, true, false, false, true, false, false] rfl rfl (any_of HT_.out (by kernel_rfl)) (fun _ _ _ h => h) (Or.inl ⟨by rfl, ?_⟩) ?_ ?_
  rotate_left
  ·intro w'
   go_simp
   with_reducible rfl
  rotate_left
  ·simp only [Act.put, List.setIfInBounds_toArray, List.set_cons_zero, List.set_cons_succ, i64_w, i32_w]
   rfl
  refine pure_ (i := 10) (N := some 17) (v := ?_) (a' := ?_) #[true, true, true, true, true, true, true, true, true, true, true, false, true, false, false] rfl rfl (any_of HT_.out (by kernel_rfl)) (fun _ _ _ h => h) (Or.inl ⟨by rfl, ?_⟩) ?_ ?_
  rotate_left
  ·intro w'
   go_simp
   with_reducible rfl
  rotate_left
  ·simp only [Act.put, List.setIfInBounds_toArray, List.set_cons_zero, List.set_cons_succ, i64_w, i32_w]
   rfl
  refine pure_ (i := 11) (N := some 18) (v := ?_) (a' := ?_) #[true, true, true, true, true, true, true, true, true, true, true, true, true, false, false] rfl rfl (any_of HT_.out (by kernel_rfl)) (fun _ _ _ h => h) (Or.inl ⟨by rfl, ?_⟩) ?_ ?_
  rotate_left
  ·intro w'
   go_simp
   with_reducible rfl
  rotate_left
  ·simp only [Act.put, List.setIfInBounds_toArray, List.set_cons_zero, List.set_cons_succ, i64_w, i32_w]
   rfl
  exact norm_ (by simp only [putAll, Act.put, List.setIfInBounds_toArray, List.set_cons_zero, List.set_cons_succ]) (hCont (gb565) _ ⟨hHeld, (blkt BK557), (blkt BK558), (blkt BK565), GW565.out, GE565.out, NB557_565.out, NB565_557.out, NB558_565.out, NB565_558.out, (belt HB)⟩)
 rintro gb565 w14 ⟨hS_, h0_, h1_, h2_, h3_, h4_, h5_, h6_, h7_, h8_, h9_⟩
 replace BK557 : Aside0 (w14.heap[gb557]? = some (.cells #[.int .u64 a0_0, .int .u32 a0_1, .int .u32 a0_2] 67 (0, 0))) := ⟨h0_⟩
 replace BK558 : Aside0 (w14.heap[gb558]? = some (.cells #[.int .i64 0, .int .u64 0] 59 (0, 0))) := ⟨h1_⟩
 have BK565 : Aside0 (w14.heap[gb565]? = some (.cells #[.int .i64 0, .int .u64 0] 59 (0, 0))) := ⟨h2_⟩
 have GW565 : Aside0 (w.heap.size ≤ gb565) := ⟨h3_⟩
 have GE565 : Aside0 (w.heap.size ≤ gb565) := ⟨h4_⟩
 have NB557_565 : Aside0 (gb557 ≠ gb565) := ⟨h5_⟩
 have NB565_557 : Aside0 (gb565 ≠ gb557) := ⟨h6_⟩
 have NB558_565 : Aside0 (gb558 ≠ gb565) := ⟨h7_⟩
 have NB565_558 : Aside0 (gb565 ≠ gb558) := ⟨h8_⟩
 replace HB : Aside0 (Below w.heap.size w w14) := ⟨h9_⟩
 clear h0_ h1_ h2_ h3_ h4_ h5_ h6_ h7_ h8_ h9_
 have hHeld : w14.cell? ⟨gb557, 0, none⟩ = some (.int .u64 a0_0) ∧ w14.cell? ⟨gb557, 1, none⟩ = some (.int .u32 a0_1) ∧ w14.cell? ⟨gb557, 2, none⟩ = some (.int .u32 a0_2) := hS_
 refine norm_ (a' := ?_) ?_ ?_
 rotate_left
 ·simp only [putAll, Act.put, List.setIfInBounds_toArray, List.set_cons_zero, List.set_cons_succ]
  rfl
 refine one_ (i := 13) (N := none) #[true, true, true, true, true, true, true, true, true, true, true, true, true, true, false] rfl rfl (one_of HT_.out (by kernel_rfl)) (by decide) (fun K hK => ?_)
 have hs15 : w14.cell? ⟨gb565, 0, none⟩ = some (.int .i64 0) := bc BK565 0
 have hfs15 := blk_frozen BK565.out 0
 have hns15_0 := NB557_565.out
 have hns15_1 := NB558_565.out
 have hms15_0 := NB565_557.out
 have hms15_1 := NB565_558.out
 have hs16 : w14.cell? ⟨gb565, 1, none⟩ = some (.int .u64 0) := bc BK565 1
 have hfs16 := blk_frozen BK565.out 1
 have hns16_0 := NB557_565.out
 have hns16_1 := NB558_565.out
 have hms16_0 := NB565_557.out
 have hms16_1 := NB565_558.out
 refine skip_ (w1 := ?_) (by rfl) rfl ?_ ?_
 rotate_left
 ·go_simp
  rfl
 refine hK.out _ _ ⟨((cell_far (p := ⟨gb565, _, none⟩) NB557_565.out _).trans (((cell_far (p := ⟨gb565, _, none⟩) NB557_565.out _).trans (hHeld.1)))), ((cell_far (p := ⟨gb565, _, none⟩) NB557_565.out _).trans (((cell_far (p := ⟨gb565, _, none⟩) NB557_565.out _).trans (hHeld.2.1)))), ((cell_far (p := ⟨gb565, _, none⟩) NB557_565.out _).trans (((cell_far (p := ⟨gb565, _, none⟩) NB557_565.out _).trans (hHeld.2.2))))⟩ (fun hHeld => ?_)
 clear hK K
 refine pure_ (i := 14) (N := some 6) (v := ?_) (a' := ?_) #[true, true, true, true, true, true, true, true, true, true, true, true, true, true, true] rfl rfl (any_of HT_.out (by kernel_rfl)) (fun _ _ _ h => h) (Or.inl ⟨by rfl, ?_⟩) ?_ ?_
 rotate_left
 ·intro w'
  go_simp
  with_reducible rfl
 rotate_left
 ·simp only [Act.put, List.setIfInBounds_toArray, List.set_cons_zero, List.set_cons_succ, i64_w, i32_w]
  rfl
 refine done_ (done_of HT_.out (by kernel_rfl)) ?_
 try go_wp2
 have n0_ : Aside0 (((w14.setCell ⟨gb565, 0, none⟩ (.int .i64 t562)).setCell ⟨gb565, 1, none⟩ (.int .u64 t563)).heap[gb557]? = some (.cells #[.int .u64 a0_0, .int .u32 a0_1, .int .u32 a0_2] 67 (0, 0))) := ⟨by (with_reducible repeat (first | refine blk_drewN ?_ _ | refine blk_drew ?_ | refine blk_alloc ?_ _)); refine blk_far ?_ NB557_565.out _; (with_reducible repeat (first | refine blk_drewN ?_ _ | refine blk_drew ?_ | refine blk_alloc ?_ _)); refine blk_far ?_ NB557_565.out _; exact blkt BK557⟩
 have n1_ : Aside0 (((w14.setCell ⟨gb565, 0, none⟩ (.int .i64 t562)).setCell ⟨gb565, 1, none⟩ (.int .u64 t563)).heap[gb558]? = some (.cells #[.int .i64 0, .int .u64 0] 59 (0, 0))) := ⟨by (with_reducible repeat (first | refine blk_drewN ?_ _ | refine blk_drew ?_ | refine blk_alloc ?_ _)); refine blk_far ?_ NB558_565.out _; (with_reducible repeat (first | refine blk_drewN ?_ _ | refine blk_drew ?_ | refine blk_alloc ?_ _)); refine blk_far ?_ NB558_565.out _; exact blkt BK558⟩
 have n2_ : Aside0 (((w14.setCell ⟨gb565, 0, none⟩ (.int .i64 t562)).setCell ⟨gb565, 1, none⟩ (.int .u64 t563)).heap[gb565]? = some (.cells #[.int .i64 t562, .int .u64 t563] 59 (0, 0))) := ⟨by (with_reducible repeat (first | refine blk_drewN ?_ _ | refine blk_drew ?_ | refine blk_alloc ?_ _)); refine blk_put (cs := #[.int .i64 t562, .int .u64 0]) ?_ 1 _ rfl; (with_reducible repeat (first | refine blk_drewN ?_ _ | refine blk_drew ?_ | refine blk_alloc ?_ _)); refine blk_put (cs := #[.int .i64 0, .int .u64 0]) ?_ 0 _ rfl; exact blkt BK565⟩
 have n3_ : Aside0 (Below w.heap.size w ((w14.setCell ⟨gb565, 0, none⟩ (.int .i64 t562)).setCell ⟨gb565, 1, none⟩ (.int .u64 t563))) := ⟨belt HB⟩
 (try clear BK557)
 (try clear BK558)
 (try clear BK565)
 (try clear HB)
 generalize ((w14.setCell ⟨gb565, 0, none⟩ (.int .i64 t562)).setCell ⟨gb565, 1, none⟩ (.int .u64 t563)) = w17 at n0_ n1_ n2_ n3_ ⊢
 have BK557 := n0_
 have BK558 := n1_
 have BK565 := n2_
 have HB := n3_
 clear n0_ n1_ n2_ n3_
 replace BK557 := Aside0.mk (blk_drew BK557.out)
 replace BK558 := Aside0.mk (blk_drew BK558.out)
 replace BK565 := Aside0.mk (blk_drew BK565.out)
 replace HB := Aside0.mk (below_drew1 HB.out)
 refine start_ (n := 10) (S := fun w' => w'.cell? ⟨gb565, 0, none⟩ = some (.int .i64 t562) ∧ w'.cell? ⟨gb565, 1, none⟩ = some (.int .u64 t563) ∧ w'.cell? ⟨gb557, 0, none⟩ = some (.int .u64 a0_0) ∧ w'.cell? ⟨gb557, 1, none⟩ = some (.int .u32 a0_1) ∧ w'.cell? ⟨gb557, 2, none⟩ = some (.int .u32 a0_2)) (ds := [9]) #[false, false, false, false, false, false, false, false, false, false] (by kernel_rfl) rfl rfl ⟨bc BK565 0, bc BK565 1, bc BK557 0, bc BK557 1, bc BK557 2⟩ (fun hHeld => ?_); refine with_tabW pos_Pos_Distance.tab2 pos_Pos_Distance.bits2 (fun HT_ HW_ => ?_)
 generalize w17.drew = w18 at BK557 BK558 BK565 HB hHeld ⊢
 refine pure_ (i := 1) (N := some 21) (v := ?_) (a' := ?_) #[false, true, false, false, false, false, false, false, false, false] rfl rfl (any_of HT_.out (by kernel_rfl)) (fun _ _ _ h => h) (Or.inl ⟨by rfl, ?_⟩) ?_ ?_
 rotate_left
 ·intro w'
  go_simp
  with_reducible rfl
 rotate_left
 ·simp only [Act.put, List.setIfInBounds_toArray, List.set_cons_zero, List.set_cons_succ, i64_w, i32_w]
  rfl
 refine take_ (i := 0) (N := some 20) (v := ?_) (a' := ?_) #[true, true, false, false, false, false, false, false, false, false] rfl rfl (take_ofW HT_.out HW_.out (by kernel_rfl)) (fun _ _ _ h => h) (Or.inl ⟨by rfl, ?_⟩) hHeld ?_ ?_
 rotate_left
 ·rintro w' ⟨s0, s1, s2, s3, s4⟩
  go_simp
  with_reducible rfl
 rotate_left
 ·simp only [Act.put, List.setIfInBounds_toArray, List.set_cons_zero, List.set_cons_succ, i64_w, i32_w]
  rfl
 refine take_ (i := 2) (N := some 22) (v := ?_) (a' := ?_) #[true, true, true, false, false, false, false, false, false, false] rfl rfl (take_ofW HT_.out HW_.out (by kernel_rfl)) (fun _ _ _ h => h) (Or.inl ⟨by rfl, ?_⟩) hHeld ?_ ?_
 rotate_left
 ·rintro w' ⟨s0, s1, s2, s3, s4⟩
  go_simp
  with_reducible rfl
 rotate_left
 ·simp only [Act.put, List.setIfInBounds_toArray, List.set_cons_zero, List.set_cons_succ, i64_w, i32_w]
  rfl
 refine pure_ (i := 3) (N := some 23) (v := ?_) (a' := ?_) #[true, true, true, true, false, false, false, false, false, false] rfl rfl (any_of HT_.out (by kernel_rfl)) (fun _ _ _ h => h) (Or.inl ⟨by rfl, ?_⟩) ?_ ?_
 rotate_left
 ·intro w'
  go_simp
  with_reducible rfl
 rotate_left
 ·simp only [Act.put, List.setIfInBounds_toArray, List.set_cons_zero, List.set_cons_succ, i64_w, i32_w]
  rfl
 refine one_ (i := 4) (N := some 24) #[true, true, true, true, true, false, false, false, false, false] rfl rfl (one_of HT_.out (by kernel_rfl)) (by decide) (fun K hK => ?_)
 refine goes_ Try.func80 (by kernel_rfl) rfl #[.int .u64 (IntKind.u64.wrap (a0_1))] (by rfl) rfl rfl argt ?_
 with_reducible refine (wide_OfU.calls (IntKind.u64.wrap (a0_1)) t566 t567 _ A6.out).mono ?_
 rintro e w19 ⟨rfl, hb⟩
 refine ⟨_, rfl, ?_⟩
 replace BK557 := blkb BK557 hb
 replace BK558 := blkb BK558 hb
 replace BK565 := blkb BK565 hb
 replace HB := belb HB hb
 (try clear hb)
 (try clear hb2)
 (try clear hk)
 (try clear hi)
 refine hK.out _ _ ⟨bc BK565 0, bc BK565 1, bc BK557 0, bc BK557 1, bc BK557 2⟩ (fun hHeld => ?_)
 clear hK K
 refine norm_ (a' := ?_) ?_ ?_
 rotate_left
 ·show Act.put _ (some 24) _ = _
  simp only [Act.put, List.setIfInBounds_toArray, List.set_cons_zero, List.set_cons_succ, i64_w, i32_w]
  rfl
 refine one_ (i := 5) (N := some 25) #[true, true, true, true, true, true, false, false, false, false] rfl rfl (one_of HT_.out (by kernel_rfl)) (by decide) (fun K hK => ?_)
 refine goes_ Try.func81 (by kernel_rfl) rfl #[.agg #[.int .i64 t562, .int .u64 t563], .agg #[.int .i64 t566, .int .u64 t567]] (by rfl) rfl rfl argt ?_
 with_reducible refine (wide_Int_Add.calls t562 t563 t566 t567 t568 t569 t570 _ A7.out).mono ?_
 rintro e w20 ⟨rfl, hb⟩
 refine ⟨_, rfl, ?_⟩
 replace BK557 := blkb BK557 hb
 replace BK558 := blkb BK558 hb
 replace BK565 := blkb BK565 hb
 replace HB := belb HB hb
 (try clear hb)
 (try clear hb2)
 (try clear hk)
 (try clear hi)
 refine hK.out _ _ ⟨bc BK565 0, bc BK565 1, bc BK557 0, bc BK557 1, bc BK557 2⟩ (fun hHeld => ?_)
 clear hK K
 refine norm_ (a' := ?_) ?_ ?_
 rotate_left
 ·show Act.put _ (some 25) _ = _
  simp only [Act.put, List.setIfInBounds_toArray, List.set_cons_zero, List.set_cons_succ, i64_w, i32_w]
  rfl
 refine pure_ (i := 6) (N := some 19) (v := ?_) (a' := ?_) #[true, true, true, true, true, true, true, false, false, false] rfl rfl (any_of HT_.out (by kernel_rfl)) (fun _ _ _ h => h) (Or.inl ⟨by rfl, ?_⟩) ?_ ?_
 rotate_left
 ·intro w'
  go_simp
  with_reducible rfl
 rotate_left
 ·simp only [Act.put, List.setIfInBounds_toArray, List.set_cons_zero, List.set_cons_succ, i64_w, i32_w]
  rfl
 refine pure_ (i := 7) (N := some 26) (v := ?_) (a' := ?_) #[true, true, true, true, true, true, true, true, false, false] rfl rfl (any_of HT_.out (by kernel_rfl)) (fun _ _ _ h => h) (Or.inl ⟨by rfl, ?_⟩) ?_ ?_
 rotate_left
 ·intro w'
  go_simp
  with_reducible rfl
 rotate_left
 ·simp only [Act.put, List.setIfInBounds_toArray, List.set_cons_zero, List.set_cons_succ, i64_w, i32_w]
  rfl
 refine pure_ (i := 8) (N := some 27) (v := ?_) (a' := ?_) #[true, true, true, true, true, true, true, true, true, false] rfl rfl (any_of HT_.out (by kernel_rfl)) (fun _ _ _ h => h) (Or.inl ⟨by rfl, ?_⟩) ?_ ?_
 rotate_left
 ·intro w'
  go_simp
  with_reducible rfl
 rotate_left
 ·simp only [Act.put, List.setIfInBounds_toArray, List.set_cons_zero, List.set_cons_succ, i64_w, i32_w]
  rfl
 refine last_ (i := 9) (N := none) #[true, true, true, true, true, true, true, true, true, true] rfl rfl (one_of HT_.out (by kernel_rfl)) (by decide) (fun K hK => ?_)
 have hs21 : w20.cell? ⟨gb565, 0, none⟩ = some (.int .i64 t562) := bc BK565 0
 have hfs21 := blk_frozen BK565.out 0
 have hns21_0 := NB557_565.out
 have hns21_1 := NB558_565.out
 have hms21_0 := NB565_557.out
 have hms21_1 := NB565_558.out
 have hs22 : w20.cell? ⟨gb565, 1, none⟩ = some (.int .u64 t563) := bc BK565 1
 have hfs22 := blk_frozen BK565.out 1
 have hns22_0 := NB557_565.out
 have hns22_1 := NB558_565.out
 have hms22_0 := NB565_557.out
 have hms22_1 := NB565_558.out
 refine skip_ (w1 := ?_) (by rfl) rfl ?_ ?_
 rotate_left
 ·go_simp
  rfl
 refine hK.out _ _ ?_
 clear hK K
 refine done_ (done_of HT_.out (by kernel_rfl)) ?_
 have hnb23 := NB565_557.out
 have hnc23 := NB557_565.out
 have hnb24 := NB565_558.out
 have hnc24 := NB558_565.out
 have hcz25_0 : w20.cell? ⟨gb565, 0, none⟩ = some (.int .i64 t562) := bc BK565 0
 have hcz25_1 : w20.cell? ⟨gb565, 1, none⟩ = some (.int .u64 t563) := bc BK565 1
 have hfz25_0 := blk_frozen BK565.out 0
 have hfz25_1 := blk_frozen BK565.out 1
 have hnb26 := NB558_557.out
 have hnc26 := NB557_558.out
 have hcz27_0 : w20.cell? ⟨gb558, 0, none⟩ = some (.int .i64 0) := bc BK558 0
 have hcz27_1 : w20.cell? ⟨gb558, 1, none⟩ = some (.int .u64 0) := bc BK558 1
 have hfz27_0 := blk_frozen BK558.out 0
 have hfz27_1 := blk_frozen BK558.out 1
 try go_wp2
 refine bodyPost_ret (results_cell_row rfl _ _ gb558 59 #[.int .i64 t568, .int .u64 t569] (0, 0) _ rfl (by (with_reducible repeat (first | refine blk_drewN ?_ _ | refine blk_drew ?_ | refine blk_alloc ?_ _)); refine blk_put (cs := #[.int .i64 t568, .int .u64 0]) ?_ 1 _ rfl; (with_reducible repeat (first | refine blk_drewN ?_ _ | refine blk_drew ?_ | refine blk_alloc ?_ _)); refine blk_put (cs := #[.int .i64 0, .int .u64 0]) ?_ 0 _ rfl; (with_reducible repeat (first | refine blk_drewN ?_ _ | refine blk_drew ?_ | refine blk_alloc ?_ _)); refine blk_far ?_ NB558_565.out _; (with_reducible repeat (first | refine blk_drewN ?_ _ | refine blk_drew ?_ | refine blk_alloc ?_ _)); refine blk_far ?_ NB558_565.out _; exact blkt BK558) Try.underlying59 rfl (by kernel_rfl)) rfl ?_
 exact ⟨by first | rfl | (simp [errW_none, errW_some] <;> rfl) | (simp [*, errW_none, errW_some] <;> rfl), belt HB⟩


/-! ### turnstoneref04_Distance: function 55 -/
def turnstoneref04_Distance.f (k : Nat) (a0_0 : Int) (a0_1 : Int) (a0_2 : Int) (a1 : Int) : Option (Bool × List Int) := (turnstoneref01_U.f k (IntKind.u64.wrap (a0_2))).bind fun bt573 => ((turnstoneref03_Since.f k a0_0 a1).bind fun bt577 => ((turnstoneref01_Mul.f k bt573.1 bt573.2 bt577.1 bt577.2).bind fun bt581 => ((turnstoneref01_U.f k (IntKind.u64.wrap (a0_1))).bind fun bt585 => ((turnstoneref01_Add.f k bt581.1 bt581.2 bt585.1 bt585.2).bind fun bt589 => (some (bt589.1, bt589.2))))))
theorem turnstoneref04_Distance.mono : ∀ a0 a1 a2 a3 k, LeO (turnstoneref04_Distance.f k a0 a1 a2 a3) (turnstoneref04_Distance.f (k + 1) a0 a1 a2 a3) := by
 intro a0 a1 a2 a3 k
 unfold turnstoneref04_Distance.f
 repeat' first
   | (with_reducible exact turnstoneref01_Add.mono _ _ _ _ _)
   | (with_reducible exact turnstoneref01_Mul.mono _ _ _ _ _)
   | (with_reducible exact turnstoneref01_U.mono _ _)
   | (with_reducible exact turnstoneref03_Since.mono _ _ _)
   | (with_reducible exact LeO.refl _)
   | (with_reducible exact LeO.none _)
   | (with_reducible refine LeO.ite ?_ ?_)
   | (with_reducible refine LeO.bind ?_ (fun _ => ?_))
   | exact turnstoneref01_Add.mono _ _ _ _ _
   | exact turnstoneref01_Mul.mono _ _ _ _ _
   | exact turnstoneref01_U.mono _ _
   | exact turnstoneref03_Since.mono _ _ _
   | exact LeO.none _
   | refine LeO.ite ?_ ?_
   | refine LeO.bind ?_ (fun _ => ?_)
def turnstoneref04_Distance.T1 : Bool × List (List Nat × List Nat) := (true, [([], []), ([0], [0]), ([1], [1]), ([2], [2]), ([], []), ([4], [4]), ([], []), ([5, 6, 3], [5, 6]), ([3, 7, 7], [3, 7]), ([], []), ([9], [9]), ([10], [10]), ([11, 8], [11]), ([8, 12, 12], [8, 12]), ([13, 13, 0, 1, 2, 3, 4, 5, 6, 7, 8, 9, 10, 11, 12, 13], [13])])
def turnstoneref04_Distance.B1 : List Nat := [0, 1, 3, 7, 0, 16, 0, 127, 255, 0, 512, 1536, 4095, 8191, 16383]
theorem turnstoneref04_Distance.tab1 : rtab .any (opsOf Try.f55 1) = turnstoneref04_Distance.T1 := by kernel_rfl
theorem turnstoneref04_Distance.bits1 : waitsOk turnstoneref04_Distance.T1.2 turnstoneref04_Distance.B1 = true := by kernel_rfl
set_option maxHeartbeats 8000000 in
set_option maxRecDepth 100000 in
theorem turnstoneref04_Distance.calls (k : Nat) (a0_0 : Int) (a0_1 : Int) (a0_2 : Int) (a1 : Int) (r1 : Bool) (r2 : List Int) (w : World) (h : turnstoneref04_Distance.f k a0_0 a0_1 a0_2 a1 = some (r1, r2)) :
  Calls Try.prog 55 #[.agg #[.int .u64 a0_0, .int .u32 a0_1, .int .u32 a0_2], .int .u64 a1] w fun e w' => ∃ v1_ : Value, e = .returned (.agg #[.bool r1, v1_]) ∧ Kd.V (Kd.int .i64) 3 w' w.heap.size (fun k_ => (w.heap.size ≤ k_)) v1_ r2 ∧ Below w.heap.size w w' := by
 have hu71 := Try.underlying71
 have hu28 := Try.underlying28
 have HB := Aside0.mk (Below.refl w.heap.size w)
 have H : ((turnstoneref01_U.f k (IntKind.u64.wrap (a0_2))).bind fun bt573 => ((turnstoneref03_Since.f k a0_0 a1).bind fun bt577 => ((turnstoneref01_Mul.f k bt573.1 bt573.2 bt577.1 bt577.2).bind fun bt581 => ((turnstoneref01_U.f k (IntKind.u64.wrap (a0_1))).bind fun bt585 => ((turnstoneref01_Add.f k bt581.1 bt581.2 bt585.1 bt585.2).bind fun bt589 => (some (bt589.1, bt589.2))))))) = some (r1, r2) := h
 clear h
 replace H := Option.bind_eq_some_iff.mp H
 obtain ⟨⟨t573, t574⟩, A30, H⟩ := H
 replace H : ((turnstoneref03_Since.f k a0_0 a1).bind fun bt577 => ((turnstoneref01_Mul.f k t573 t574 bt577.1 bt577.2).bind fun bt581 => ((turnstoneref01_U.f k (IntKind.u64.wrap (a0_1))).bind fun bt585 => ((turnstoneref01_Add.f k bt581.1 bt581.2 bt585.1 bt585.2).bind fun bt589 => (some (bt589.1, bt589.2)))))) = some (r1, r2) := H
 have A3 := Aside0.mk A30
 clear A30
 replace H := Option.bind_eq_some_iff.mp H
 obtain ⟨⟨t577, t578⟩, A40, H⟩ := H
 replace H : ((turnstoneref01_Mul.f k t573 t574 t577 t578).bind fun bt581 => ((turnstoneref01_U.f k (IntKind.u64.wrap (a0_1))).bind fun bt585 => ((turnstoneref01_Add.f k bt581.1 bt581.2 bt585.1 bt585.2).bind fun bt589 => (some (bt589.1, bt589.2))))) = some (r1, r2) := H
 have A4 := Aside0.mk A40
 clear A40
 replace H := Option.bind_eq_some_iff.mp H
 obtain ⟨⟨t581, t582⟩, A50, H⟩ := H
 replace H : ((turnstoneref01_U.f k (IntKind.u64.wrap (a0_1))).bind fun bt585 => ((turnstoneref01_Add.f k t581 t582 bt585.1 bt585.2).bind fun bt589 => (some (bt589.1, bt589.2)))) = some (r1, r2) := H
 have A5 := Aside0.mk A50
 clear A50
 replace H := Option.bind_eq_some_iff.mp H
 obtain ⟨⟨t585, t586⟩, A60, H⟩ := H
 replace H : ((turnstoneref01_Add.f k t581 t582 t585 t586).bind fun bt589 => (some (bt589.1, bt589.2))) = some (r1, r2) := H
 have A6 := Aside0.mk A60
 clear A60
 replace H := Option.bind_eq_some_iff.mp H
 obtain ⟨⟨t589, t590⟩, A70, H⟩ := H
 replace H : (some (t589, t590)) = some (r1, r2) := H
 have A7 := Aside0.mk A70
 clear A70
 simp only [Option.some.injEq, Prod.mk.injEq] at H
 obtain ⟨rfl, rfl⟩ := H
 go_enter Try.func55, Try.ntmps55
 try go_wp2_with (first | ((with_reducible refine gate_dst (N := 2) rfl ?_); refine box_event ?hg (N := 2) ?hd (cs := #[.int .u64 a0_0, .int .u32 a0_1, .int .u32 a0_2]) (t := 71) ?hr ?_; (case hd => rfl); (case hg => rfl); (case hr => first | (go_simp; done) | (go_simp; rfl)); intro gb571 hg w8 hbox hb; have BK571 := Aside0.mk (hbox); have GW571 := bels HB hg; have GE571 := bels HB hg; replace HB := belb HB hb; clear hb hbox hg) | ((with_reducible refine gate_dst (N := 4) rfl ?_); refine box_event ?hg (N := 4) ?hd (cs := #[.bool false, .slice none 0 0]) (t := 28) ?hr ?_; (case hd => rfl); (case hg => rfl); (case hr => first | (go_simp; done) | (go_simp; rfl)); intro gb572 hg w9 hbox hb; have BK572 := Aside0.mk (hbox); have GW572 := bels HB hg; have GE572 := bels HB hg; have NB571_572 := blkl BK571 hg; have NB572_571 := blkg BK571 hg; replace BK571 := blkb BK571 hb; replace HB := belb HB hb; clear hb hbox hg))
 replace BK571 := Aside0.mk (blk_drew BK571.out)
 replace BK572 := Aside0.mk (blk_drew BK572.out)
 replace HB := Aside0.mk (below_drew1 HB.out)
 refine start_ (n := 15) (S := fun w' => w'.cell? ⟨gb571, 0, none⟩ = some (.int .u64 a0_0) ∧ w'.cell? ⟨gb571, 1, none⟩ = some (.int .u32 a0_1) ∧ w'.cell? ⟨gb571, 2, none⟩ = some (.int .u32 a0_2)) (ds := []) #[false, false, false, false, false, false, false, false, false, false, false, false, false, false, false] (by kernel_rfl) rfl rfl ⟨bc BK571 0, bc BK571 1, bc BK571 2⟩ (fun hHeld => ?_); refine with_tabW turnstoneref04_Distance.tab1 turnstoneref04_Distance.bits1 (fun HT_ HW_ => ?_)
 generalize w9.drew = w10 at BK571 BK572 HB hHeld ⊢
 refine pure_ (i := 0) (N := some 5) (v := ?_) (a' := ?_) #[true, false, false, false, false, false, false, false, false, false, false, false, false, false, false] rfl rfl (any_of HT_.out (by kernel_rfl)) (fun _ _ _ h => h) (Or.inl ⟨by rfl, ?_⟩) ?_ ?_
 rotate_left
 ·intro w'
  go_simp
  with_reducible rfl
 rotate_left
 ·simp only [Act.put, List.setIfInBounds_toArray, List.set_cons_zero, List.set_cons_succ, i64_w, i32_w]
  rfl
 refine pure_ (i := 4) (N := some 9) (v := ?_) (a' := ?_) #[true, false, false, false, true, false, false, false, false, false, false, false, false, false, false] rfl rfl (any_of HT_.out (by kernel_rfl)) (fun _ _ _ h => h) (Or.inl ⟨by rfl, ?_⟩) ?_ ?_
 rotate_left
 ·intro w'
  go_simp
  with_reducible rfl
 rotate_left
 ·simp only [Act.put, List.setIfInBounds_toArray, List.set_cons_zero, List.set_cons_succ, i64_w, i32_w]
  rfl
 refine pure_ (i := 6) (N := some 11) (v := ?_) (a' := ?_) #[true, false, false, false, true, false, true, false, false, false, false, false, false, false, false] rfl rfl (any_of HT_.out (by kernel_rfl)) (fun _ _ _ h => h) (Or.inl ⟨by rfl, ?_⟩) ?_ ?_
 rotate_left
 ·intro w'
  go_simp
  with_reducible rfl
 rotate_left
 ·simp only [Act.put, List.setIfInBounds_toArray, List.set_cons_zero, List.set_cons_succ, i64_w, i32_w]
  rfl
 refine pure_ (i := 9) (N := some 14) (v := ?_) (a' := ?_) #[true, false, false, false, true, false, true, false, false, true, false, false, false, false, false] rfl rfl (any_of HT_.out (by kernel_rfl)) (fun _ _ _ h => h) (Or.inl ⟨by rfl, ?_⟩) ?_ ?_
 rotate_left
 ·intro w'
  go_simp
  with_reducible rfl
 rotate_left
 ·simp only [Act.put, List.setIfInBounds_toArray, List.set_cons_zero, List.set_cons_succ, i64_w, i32_w]
  rfl
 refine take_ (i := 1) (N := some 6) (v := ?_) (a' := ?_) #[true, true, false, false, true, false, true, false, false, true, false, false, false, false, false] rfl rfl (take_ofW HT_.out HW_.out (by kernel_rfl)) (fun _ _ _ h => h) (Or.inl ⟨by rfl, ?_⟩) hHeld ?_ ?_
 rotate_left
 ·rintro w' ⟨s0, s1, s2⟩
  go_simp
  with_reducible rfl
 rotate_left
 ·simp only [Act.put, List.setIfInBounds_toArray, List.set_cons_zero, List.set_cons_succ, i64_w, i32_w]
  rfl
 refine pure_ (i := 2) (N := some 7) (v := ?_) (a' := ?_) #[true, true, true, false, true, false, true, false, false, true, false, false, false, false, false] rfl rfl (any_of HT_.out (by kernel_rfl)) (fun _ _ _ h => h) (Or.inl ⟨by rfl, ?_⟩) ?_ ?_
 rotate_left
 ·intro w'
  go_simp
  with_reducible rfl
 rotate_left
 ·simp only [Act.put, List.setIfInBounds_toArray, List.set_cons_zero, List.set_cons_succ, i64_w, i32_w]
  rfl
 refine take_ (i := 5) (N := some 10) (v := ?_) (a' := ?_) #[true, true, true, false, true, true, true, false, false, true, false, false, false, false, false] rfl rfl (take_ofW HT_.out HW_.out (by kernel_rfl)) (fun _ _ _ h => h) (Or.inl ⟨by rfl, ?_⟩) hHeld ?_ ?_
 rotate_left
 ·rintro w' ⟨s0, s1, s2⟩
  go_simp
  with_reducible rfl
 rotate_left
 ·simp only [Act.put, List.setIfInBounds_toArray, List.set_cons_zero, List.set_cons_succ, i64_w, i32_w]
  rfl
 refine take_ (i := 10) (N := some 15) (v := ?_) (a' := ?_) #[true, true, true, false, true, true, true, false, false, true, true, false, false, false, false] rfl rfl (take_ofW HT_.out HW_.out (by kernel_rfl)) (fun _ _ _ h => h) (Or.inl ⟨by rfl, ?_⟩) hHeld ?_ ?_
 rotate_left
 ·rintro w' ⟨s0, s1, s2⟩
  go_simp
  with_reducible rfl
 rotate_left
 ·simp only [Act.put, List.setIfInBounds_toArray, List.set_cons_zero, List.set_cons_succ, i64_w, i32_w]
  rfl
 refine pure_ (i := 11) (N := some 16) (v := ?_) (a' := ?_) #[true, true, true, false, true, true, true, false, false, true, true, true, false, false, false] rfl rfl (any_of HT_.out (by kernel_rfl)) (fun _ _ _ h => h) (Or.inl ⟨by rfl, ?_⟩) ?_ ?_
 rotate_left
 ·intro w'
  go_simp
  with_reducible rfl
 rotate_left
 ·simp only [Act.put, List.setIfInBounds_toArray, List.set_cons_zero, List.set_cons_succ, i64_w, i32_w]
  rfl
 refine one_ (i := 3) (N := some 8) #[true, true, true, true, true, true, true, false, false, true, true, true, false, false, false] rfl rfl (one_of HT_.out (by kernel_rfl)) (by decide) (fun K hK => ?_)
 refine goes_ Try.func24 (by kernel_rfl) rfl #[.int .u64 (IntKind.u64.wrap (a0_2))] (by rfl) rfl rfl argt ?_
 with_reducible refine (turnstoneref01_U.calls k (IntKind.u64.wrap (a0_2)) t573 t574 _ A3.out).mono ?_
 rintro e w11 ⟨v575, rfl, ho0, hb⟩
 refine ⟨_, rfl, ?_⟩
 have HO576 := Aside0.mk (Kd.R_lower (Kd.R_newM (M := fun k_ => (w.heap.size ≤ k_)) ho0 (below_size (belt HB)) (fun k_ h_ => h_)) (below_size (belt HB)))
 replace BK571 := blkb BK571 hb
 replace BK572 := blkb BK572 hb
 replace HB := belb HB hb
 (try clear hb)
 (try clear hb2)
 (try clear hk)
 (try clear hi)
 (try clear ho0)
 refine hK.out _ _ ⟨bc BK571 0, bc BK571 1, bc BK571 2⟩ (fun hHeld => ?_)
 clear hK K
 refine norm_ (a' := ?_) ?_ ?_
 rotate_left
 ·show Act.put _ (some 8) _ = _
  simp only [Act.put, List.setIfInBounds_toArray, List.set_cons_zero, List.set_cons_succ, i64_w, i32_w]
  rfl
 refine one_ (i := 7) (N := some 12) #[true, true, true, true, true, true, true, true, false, true, true, true, false, false, false] rfl rfl (one_of HT_.out (by kernel_rfl)) (by decide) (fun K hK => ?_)
 refine goes_ Try.func21 (by kernel_rfl) rfl #[.int .u64 a0_0, .int .u64 a1] (by rfl) rfl rfl argt ?_
 with_reducible refine (turnstoneref03_Since.calls k a0_0 a1 t577 t578 _ A4.out).mono ?_
 rintro e w12 ⟨v579, rfl, ho0, hb⟩
 refine ⟨_, rfl, ?_⟩
 have HO580 := Aside0.mk (Kd.V_lower (Kd.V_mono (ok' := fun k_ => (w.heap.size ≤ k_) ∧ some k_ ≠ (v575 : Value).ownBlock ∧ k_ ≠ gb571 ∧ k_ ≠ gb572) ho0 (fun k_ hk_ => ⟨(Nat.le_trans (below_size (belt HB)) hk_), (Kd.fresh' (Kd.R_lt (rt HO576)) k_ hk_), (Kd.freshB (blkt BK571) k_ hk_), (Kd.freshB (blkt BK572) k_ hk_)⟩)) (below_size (belt HB)))
 replace HO576 := rb HO576 hb
 replace BK571 := blkb BK571 hb
 replace BK572 := blkb BK572 hb
 replace HB := belb HB hb
 (try clear hb)
 (try clear hb2)
 (try clear hk)
 (try clear hi)
 (try clear ho0)
 obtain ⟨Ao13, co13, eo13⟩ := Kd.R_slice HO576.out
 (first | subst eo13 | (injection eo13 with f1_ f2_ f3_; have f4_ := f1_.symm; have f5_ := f3_.symm; clear f1_ f2_ f3_; subst f4_; subst f5_))
 obtain ⟨Ao14, co14, eo14⟩ := Kd.V_slice HO580.out
 (first | subst eo14 | (injection eo14 with f1_ f2_ f3_; have f4_ := f1_.symm; have f5_ := f3_.symm; clear f1_ f2_ f3_; subst f4_; subst f5_))
 refine hK.out _ _ ⟨bc BK571 0, bc BK571 1, bc BK571 2⟩ (fun hHeld => ?_)
 clear hK K
 refine norm_ (a' := ?_) ?_ ?_
 rotate_left
 ·show Act.put _ (some 12) _ = _
  simp only [Act.put, List.setIfInBounds_toArray, List.set_cons_zero, List.set_cons_succ, i64_w, i32_w]
  rfl
 refine one_ (i := 8) (N := some 13) #[true, true, true, true, true, true, true, true, true, true, true, true, false, false, false] rfl rfl (one_of HT_.out (by kernel_rfl)) (by decide) (fun K hK => ?_)
 refine goes_ Try.func40 (by kernel_rfl) rfl #[.agg #[.bool t573, .slice Ao13 t574.length co13], .agg #[.bool t577, .slice Ao14 t578.length co14]] (by rfl) rfl rfl argt ?_
 with_reducible refine (turnstoneref01_Mul.calls k t573 _ _ t574 t577 _ _ t578 t581 t582 _ ?side1 ?side2 ?side3 ?side4 A5.out).mono ?_
 (case side1 => repeat (first | exact (Kd.R_reads' HO576.out).2.2 | (with_reducible refine Kd.C_alloc ?_ _) | (with_reducible refine Kd.C_drewN ?_ _) | (with_reducible refine Kd.C_drew ?_)))
 (case side2 => exact (Kd.R_reads' HO576.out).2.1)
 (case side3 => repeat (first | exact (Kd.V_reads' HO580.out).2.2 | (with_reducible refine Kd.C_alloc ?_ _) | (with_reducible refine Kd.C_drewN ?_ _) | (with_reducible refine Kd.C_drew ?_)))
 (case side4 => exact (Kd.V_reads' HO580.out).2.1)
 rintro e w15 ⟨v583, rfl, ho0, hb⟩
 refine ⟨_, rfl, ?_⟩
 replace HO580 := vb HO580 hb
 have HO584 := Aside0.mk (Kd.V_lower (Kd.V_mono (ok' := fun k_ => (w.heap.size ≤ k_) ∧ some k_ ≠ (.slice Ao13 t574.length co13 : Value).ownBlock ∧ k_ ≠ gb571 ∧ k_ ≠ gb572) ho0 (fun k_ hk_ => ⟨(Nat.le_trans (below_size (belt HB)) hk_), (Kd.fresh' (Kd.R_lt (rt HO576)) k_ hk_), (Kd.freshB (blkt BK571) k_ hk_), (Kd.freshB (blkt BK572) k_ hk_)⟩)) (below_size (belt HB)))
 replace HO576 := rb HO576 hb
 replace BK571 := blkb BK571 hb
 replace BK572 := blkb BK572 hb
 replace HB := belb HB hb
 (try clear hb)
 (try clear hb2)
 (try clear hk)
 (try clear hi)
 (try clear ho0)
 refine hK.out _ _ ⟨bc BK571 0, bc BK571 1, bc BK571 2⟩ (fun hHeld => ?_)
 clear hK K
 refine norm_ (a' := ?_) ?_ ?_
 rotate_left
 ·show Act.put _ (some 13) _ = _
  simp only [Act.put, List.setIfInBounds_toArray, List.set_cons_zero, List.set_cons_succ, i64_w, i32_w]
  rfl
 refine one_ (i := 12) (N := some 17) #[true, true, true, true, true, true, true, true, true, true, true, true, true, false, false] rfl rfl (one_of HT_.out (by kernel_rfl)) (by decide) (fun K hK => ?_)
 refine goes_ Try.func24 (by kernel_rfl) rfl #[.int .u64 (IntKind.u64.wrap (a0_1))] (by rfl) rfl rfl argt ?_
 with_reducible refine (turnstoneref01_U.calls k (IntKind.u64.wrap (a0_1)) t585 t586 _ A6.out).mono ?_
 rintro e w16 ⟨v587, rfl, ho0, hb⟩
 refine ⟨_, rfl, ?_⟩
 replace HO580 := Aside0.mk (Kd.V_elder' (vt HO580) (Kd.R_base ho0) hb)
 replace HO584 := Aside0.mk (Kd.V_elder' (vt HO584) (Kd.R_base ho0) hb)
 have HO588 := Aside0.mk (Kd.R_lower (Kd.R_new' (Kd.R_newM (M := fun k_ => (w.heap.size ≤ k_)) ho0 (below_size (belt HB)) (fun k_ h_ => h_)) (Kd.R_lt (rt HO576))) (below_size (belt HB)))
 replace BK571 := blkb BK571 hb
 replace BK572 := blkb BK572 hb
 replace HO576 := Aside0.mk (Kd.R_elder' (rt HO576) (Kd.R_base ho0) hb)
 replace HB := belb HB hb
 (try clear hb)
 (try clear hb2)
 (try clear hk)
 (try clear hi)
 (try clear ho0)
 obtain ⟨Ao17, co17, eo17⟩ := Kd.V_slice HO584.out
 (first | subst eo17 | (injection eo17 with f1_ f2_ f3_; have f4_ := f1_.symm; have f5_ := f3_.symm; clear f1_ f2_ f3_; subst f4_; subst f5_))
 obtain ⟨Ao18, co18, eo18⟩ := Kd.R_slice HO588.out
 (first | subst eo18 | (injection eo18 with f1_ f2_ f3_; have f4_ := f1_.symm; have f5_ := f3_.symm; clear f1_ f2_ f3_; subst f4_; subst f5_))
 refine hK.out _ _ ⟨bc BK571 0, bc BK571 1, bc BK571 2⟩ (fun hHeld => ?_)
 clear hK K
 refine norm_ (a' := ?_) ?_ ?_
 rotate_left
 ·show Act.put _ (some 17) _ = _
  simp only [Act.put, List.setIfInBounds_toArray, List.set_cons_zero, List.set_cons_succ, i64_w, i32_w]
  rfl
 refine one_ (i := 13) (N := some 18) #[true, true, true, true, true, true, true, true, true, true, true, true, true, true, false] rfl rfl (one_of HT_.out (by kernel_rfl)) (by decide) (fun K hK => ?_)
 refine goes_ Try.func27 (by kernel_rfl) rfl #[.agg #[.bool t581, .slice Ao17 t582.length co17], .agg #[.bool t585, .slice Ao18 t586.length co18]] (by rfl) rfl rfl argt ?_
 with_reducible refine (turnstoneref01_Add.calls k t581 _ _ t582 t585 _ _ t586 t589 t590 _ ?side1 ?side2 ?side3 ?side4 A7.out).mono ?_
 (case side1 => repeat (first | exact (Kd.V_reads' HO584.out).2.2 | (with_reducible refine Kd.C_alloc ?_ _) | (with_reducible refine Kd.C_drewN ?_ _) | (with_reducible refine Kd.C_drew ?_)))
 (case side2 => exact (Kd.V_reads' HO584.out).2.1)
 (case side3 => repeat (first | exact (Kd.R_reads' HO588.out).2.2 | (with_reducible refine Kd.C_alloc ?_ _) | (with_reducible refine Kd.C_drewN ?_ _) | (with_reducible refine Kd.C_drew ?_)))
 (case side4 => exact (Kd.R_reads' HO588.out).2.1)
 rintro e w19 ⟨v591, rfl, ho0, hb⟩
 refine ⟨_, rfl, ?_⟩
 replace HO580 := vb HO580 hb
 replace HO584 := vb HO584 hb
 have HO592 := Aside0.mk (Kd.V_lower (Kd.V_mono (ok' := fun k_ => (w.heap.size ≤ k_) ∧ some k_ ≠ (.slice Ao13 t574.length co13 : Value).ownBlock ∧ some k_ ≠ (.slice Ao18 t586.length co18 : Value).ownBlock ∧ k_ ≠ gb571 ∧ k_ ≠ gb572) ho0 (fun k_ hk_ => ⟨(Nat.le_trans (below_size (belt HB)) hk_), (Kd.fresh' (Kd.R_lt (rt HO576)) k_ hk_), (Kd.fresh' (Kd.R_lt (rt HO588)) k_ hk_), (Kd.freshB (blkt BK571) k_ hk_), (Kd.freshB (blkt BK572) k_ hk_)⟩)) (below_size (belt HB)))
 replace HO576 := rb HO576 hb
 replace HO588 := rb HO588 hb
 replace BK571 := blkb BK571 hb
 replace BK572 := blkb BK572 hb
 replace HB := belb HB hb
 (try clear hb)
 (try clear hb2)
 (try clear hk)
 (try clear hi)
 (try clear ho0)
 obtain ⟨Ao21, co21, eo21⟩ := Kd.V_slice HO592.out
 (first | subst eo21 | (injection eo21 with f1_ f2_ f3_; have f4_ := f1_.symm; have f5_ := f3_.symm; clear f1_ f2_ f3_; subst f4_; subst f5_))
 refine hK.out _ _ ⟨bc BK571 0, bc BK571 1, bc BK571 2⟩ (fun hHeld => ?_)
 clear hK K
 refine norm_ (a' := ?_) ?_ ?_
 rotate_left
 ·show Act.put _ (some 18) _ = _
  simp only [Act.put, List.setIfInBounds_toArray, List.set_cons_zero, List.set_cons_succ, i64_w, i32_w]
  rfl
 refine one_ (i := 14) (N := none) #[true, true, true, true, true, true, true, true, true, true, true, true, true, true, true] rfl rfl (one_of HT_.out (by kernel_rfl)) (by decide) (fun K hK => ?_)
 have hs20 : w19.cell? ⟨gb572, 0, none⟩ = some (.bool false) := bc BK572 0
 have hfs20 := blk_frozen BK572.out 0
 have hns20_0 := NB571_572.out
 have hms20_0 := NB572_571.out
 have hs22 : w19.cell? ⟨gb572, 1, none⟩ = some (.slice none 0 0) := bc BK572 1
 have hfs22 := blk_frozen BK572.out 1
 have hns22_0 := NB571_572.out
 have hms22_0 := NB572_571.out
 refine skip_ (w1 := ?_) (by rfl) rfl ?_ ?_
 rotate_left
 ·go_simp
  rfl
 refine hK.out _ _ ⟨((cell_far (p := ⟨gb572, _, none⟩) NB571_572.out _).trans (((cell_far (p := ⟨gb572, _, none⟩) NB571_572.out _).trans (hHeld.1)))), ((cell_far (p := ⟨gb572, _, none⟩) NB571_572.out _).trans (((cell_far (p := ⟨gb572, _, none⟩) NB571_572.out _).trans (hHeld.2.1)))), ((cell_far (p := ⟨gb572, _, none⟩) NB571_572.out _).trans (((cell_far (p := ⟨gb572, _, none⟩) NB571_572.out _).trans (hHeld.2.2))))⟩ (fun hHeld => ?_)
 clear hK K
 refine done_ (done_of HT_.out (by kernel_rfl)) ?_
 try go_wp2
 refine bodyPost_ret (results_cell_row rfl _ _ gb572 28 #[.bool t589, .slice Ao21 t590.length co21] (0, 0) _ rfl (by (with_reducible repeat (first | refine blk_drewN ?_ _ | refine blk_drew ?_ | refine blk_alloc ?_ _)); refine blk_put (cs := #[.bool t589, .slice none 0 0]) ?_ 1 _ rfl; (with_reducible repeat (first | refine blk_drewN ?_ _ | refine blk_drew ?_ | refine blk_alloc ?_ _)); refine blk_put (cs := #[.bool false, .slice none 0 0]) ?_ 0 _ rfl; exact blkt BK572) Try.underlying28 rfl (by kernel_rfl)) rfl ?_
 exact ⟨_, by first | rfl | (simp [errW_none, errW_some] <;> rfl) | (simp [*, errW_none, errW_some] <;> rfl), by (with_reducible repeat (first | apply Kd.V_alloc | apply Kd.V_drewN | apply Kd.V_drew)); exact Kd.V_mono (Kd.V_far (p := ⟨gb572, 1, none⟩) (Kd.V_far (p := ⟨gb572, 0, none⟩) (Kd.V_mono HO592.out (fun k_ hk => (⟨hk, hk.2.2.2.2⟩ : _ ∧ k_ ≠ gb572))) (fun _ hk => hk.2) (.bool t589)) (fun _ hk => hk.2) (.slice Ao21 t590.length co21)) (fun _ hk => hk.1.1), belt HB⟩


/-! ### pos_Pos_Shift: function 56 -/
def pos_Pos_Shift.f (a0_0 : Int) (a0_1 : Int) (a0_2 : Int) (a1 : Int) : Option (Int × Int × Int) := some (IntKind.u64.wrap (a0_0 + a1), a0_1, a0_2)
set_option maxHeartbeats 8000000 in
set_option maxRecDepth 100000 in
theorem pos_Pos_Shift.calls (a0_0 : Int) (a0_1 : Int) (a0_2 : Int) (a1 : Int) (r1 : Int) (r2 : Int) (r3 : Int) (w : World) (h : pos_Pos_Shift.f a0_0 a0_1 a0_2 a1 = some (r1, r2, r3)) :
  Calls Try.prog 56 #[.agg #[.int .u64 a0_0, .int .u32 a0_1, .int .u32 a0_2], .int .u64 a1] w fun e w' => e = .returned (.agg #[.int .u64 r1, .int .u32 r2, .int .u32 r3]) ∧ Below w.heap.size w w' := by
 have hu67 := Try.underlying67
 have HB := Aside0.mk (Below.refl w.heap.size w)
 have H : (some (IntKind.u64.wrap (a0_0 + a1), a0_1, a0_2)) = some (r1, r2, r3) := h
 clear h
 simp only [Option.some.injEq, Prod.mk.injEq] at H
 obtain ⟨rfl, rfl, rfl⟩ := H
 go_enter Try.func56, Try.ntmps56
 go_wp2_with (first | ((with_reducible refine gate_dst (N := 2) rfl ?_); refine box_event ?hg (N := 2) ?hd (cs := #[.int .u64 a0_0, .int .u32 a0_1, .int .u32 a0_2]) (t := 67) ?hr ?_; (case hd => rfl); (case hg => rfl); (case hr => first | (go_simp; done) | (go_simp; rfl)); intro gb593 hg w3 hbox hb; have BK593 := Aside0.mk (hbox); have GW593 := bels HB hg; have GE593 := bels HB hg; replace HB := belb HB hb; clear hb hbox hg) | ((with_reducible refine gate_dst (N := 4) rfl ?_); refine box_event ?hg (N := 4) ?hd (cs := #[.int .u64 0, .int .u32 0, .int .u32 0]) (t := 67) ?hr ?_; (case hd => rfl); (case hg => rfl); (case hr => first | (go_simp; done) | (go_simp; rfl)); intro gb594 hg w4 hbox hb; have BK594 := Aside0.mk (hbox); have GW594 := bels HB hg; have GE594 := bels HB hg; have NB593_594 := blkl BK593 hg; have NB594_593 := blkg BK593 hg; replace BK593 := blkb BK593 hb; replace HB := belb HB hb; clear hb hbox hg; have hnb5 := NB593_594.out; have hnc5 := NB594_593.out; have hcz6_0 : w4.cell? ⟨gb593, 0, none⟩ = some (.int .u64 a0_0) := bc BK593 0; have hcz6_1 : w4.cell? ⟨gb593, 1, none⟩ = some (.int .u32 a0_1) := bc BK593 1; have hcz6_2 : w4.cell? ⟨gb593, 2, none⟩ = some (.int .u32 a0_2) := bc BK593 2; have hfz6_0 := blk_frozen BK593.out 0; have hfz6_1 := blk_frozen BK593.out 1; have hfz6_2 := blk_frozen BK593.out 2; have hcz7_0 : w4.cell? ⟨gb594, 0, none⟩ = some (.int .u64 0) := bc BK594 0; have hcz7_1 : w4.cell? ⟨gb594, 1, none⟩ = some (.int .u32 0) := bc BK594 1; have hcz7_2 : w4.cell? ⟨gb594, 2, none⟩ = some (.int .u32 0) := bc BK594 2; have hfz7_0 := blk_frozen BK594.out 0; have hfz7_1 := blk_frozen BK594.out 1; have hfz7_2 := blk_frozen BK594.out 2))
 refine bodyPost_ret (results_cell_row rfl _ _ gb594 67 #[.int .u64 (IntKind.u64.wrap (a0_0 + a1)), .int .u32 a0_1, .int .u32 a0_2] (0, 0) _ rfl (by (with_reducible repeat (first | refine blk_drewN ?_ _ | refine blk_drew ?_ | refine blk_alloc ?_ _)); refine blk_put (cs := #[.int .u64 (IntKind.u64.wrap (a0_0 + a1)), .int .u32 a0_1, .int .u32 0]) ?_ 2 _ rfl; (with_reducible repeat (first | refine blk_drewN ?_ _ | refine blk_drew ?_ | refine blk_alloc ?_ _)); refine blk_put (cs := #[.int .u64 (IntKind.u64.wrap (a0_0 + a1)), .int .u32 0, .int .u32 0]) ?_ 1 _ rfl; (with_reducible repeat (first | refine blk_drewN ?_ _ | refine blk_drew ?_ | refine blk_alloc ?_ _)); refine blk_put (cs := #[.int .u64 0, .int .u32 0, .int .u32 0]) ?_ 0 _ rfl; (with_reducible repeat (first | refine blk_drewN ?_ _ | refine blk_drew ?_ | refine blk_alloc ?_ _)); refine blk_far ?_ NB594_593.out _; exact blkt BK594) Try.underlying67 rfl (by kernel_rfl)) rfl ?_
 exact ⟨by first | rfl | (simp [errW_none, errW_some] <;> rfl) | (simp [*, errW_none, errW_some] <;> rfl), belt HB⟩


/-! ### turnstoneref04_Cmp: function 57 -/
def turnstoneref04_Cmp.f (k : Nat) (a0_0 : Int) (a0_1 : Int) (a0_2 : Int) (a1_0 : Int) (a1_1 : Int) (a1_2 : Int) : Option (Int) := (turnstoneref03_Since.f k a1_0 a0_0).bind fun bt597 => ((turnstoneref01_Sign.f bt597.1 bt597.2).bind fun t601 => (if t601 = 0 then ((turnstoneref01_U.f k (IntKind.u64.wrap (a0_1))).bind fun bt602 => ((turnstoneref01_U.f k (IntKind.u64.wrap (a1_2))).bind fun bt606 => ((turnstoneref01_Mul.f k bt602.1 bt602.2 bt606.1 bt606.2).bind fun bt610 => ((turnstoneref01_U.f k (IntKind.u64.wrap (a1_1))).bind fun bt614 => ((turnstoneref01_U.f k (IntKind.u64.wrap (a0_2))).bind fun bt618 => ((turnstoneref01_Mul.f k bt614.1 bt614.2 bt618.1 bt618.2).bind fun bt622 => ((turnstoneref01_Cmp.f k bt610.1 bt610.2 bt622.1 bt622.2).bind fun t626 => (some t626)))))))) else (some (wrap64 (-t601)))))
theorem turnstoneref04_Cmp.mono : ∀ a0 a1 a2 a3 a4 a5 k, LeO (turnstoneref04_Cmp.f k a0 a1 a2 a3 a4 a5) (turnstoneref04_Cmp.f (k + 1) a0 a1 a2 a3 a4 a5) := by
 intro a0 a1 a2 a3 a4 a5 k
 unfold turnstoneref04_Cmp.f
 repeat' first
   | (with_reducible exact turnstoneref01_Cmp.mono _ _ _ _ _)
   | (with_reducible exact turnstoneref01_Mul.mono _ _ _ _ _)
   | (with_reducible exact turnstoneref01_U.mono _ _)
   | (with_reducible exact turnstoneref03_Since.mono _ _ _)
   | (with_reducible exact LeO.refl _)
   | (with_reducible exact LeO.none _)
   | (with_reducible refine LeO.ite ?_ ?_)
   | (with_reducible refine LeO.bind ?_ (fun _ => ?_))
   | exact turnstoneref01_Cmp.mono _ _ _ _ _
   | exact turnstoneref01_Mul.mono _ _ _ _ _
   | exact turnstoneref01_U.mono _ _
   | exact turnstoneref03_Since.mono _ _ _
   | exact LeO.none _
   | refine LeO.ite ?_ ?_
   | refine LeO.bind ?_ (fun _ => ?_)
def turnstoneref04_Cmp.T4 : Bool × List (List Nat × List Nat) := (true, [([], []), ([0], [0]), ([1], [1]), ([2], [2]), ([], []), ([4], [4]), ([5], [5]), ([6, 3], [6]), ([3, 7, 7], [3, 7]), ([], []), ([9], [9]), ([10], [10]), ([11, 8], [11]), ([], []), ([13], [13]), ([14], [14]), ([15, 12], [15]), ([12, 16, 16], [12, 16]), ([8, 17, 17], [8, 17]), ([18, 18, 0, 1, 2, 3, 4, 5, 6, 7, 8, 9, 10, 11, 12, 13, 14, 15, 16, 17, 18], [18])])
def turnstoneref04_Cmp.B4 : List Nat := [0, 1, 3, 7, 0, 16, 48, 127, 255, 0, 512, 1536, 4095, 0, 8192, 24576, 65535, 131071, 262143, 524287]
theorem turnstoneref04_Cmp.tab4 : rtab .any (opsOf Try.f57 4) = turnstoneref04_Cmp.T4 := by kernel_rfl
theorem turnstoneref04_Cmp.bits4 : waitsOk turnstoneref04_Cmp.T4.2 turnstoneref04_Cmp.B4 = true := by kernel_rfl
set_option maxHeartbeats 8000000 in
set_option maxRecDepth 100000 in
theorem turnstoneref04_Cmp.calls (k : Nat) (a0_0 : Int) (a0_1 : Int) (a0_2 : Int) (a1_0 : Int) (a1_1 : Int) (a1_2 : Int) (r : Int) (w : World) (h : turnstoneref04_Cmp.f k a0_0 a0_1 a0_2 a1_0 a1_1 a1_2 = some r) :
  Calls Try.prog 57 #[.agg #[.int .u64 a0_0, .int .u32 a0_1, .int .u32 a0_2], .agg #[.int .u64 a1_0, .int .u32 a1_1, .int .u32 a1_2]] w fun e w' => e = .returned (.int .i64 r) ∧ Below w.heap.size w w' := by
 have hu71 := Try.underlying71
 have HB := Aside0.mk (Below.refl w.heap.size w)
 have H : ((turnstoneref03_Since.f k a1_0 a0_0).bind fun bt597 => ((turnstoneref01_Sign.f bt597.1 bt597.2).bind fun t601 => (if t601 = 0 then ((turnstoneref01_U.f k (IntKind.u64.wrap (a0_1))).bind fun bt602 => ((turnstoneref01_U.f k (IntKind.u64.wrap (a1_2))).bind fun bt606 => ((turnstoneref01_Mul.f k bt602.1 bt602.2 bt606.1 bt606.2).bind fun bt610 => ((turnstoneref01_U.f k (IntKind.u64.wrap (a1_1))).bind fun bt614 => ((turnstoneref01_U.f k (IntKind.u64.wrap (a0_2))).bind fun bt618 => ((turnstoneref01_Mul.f k bt614.1 bt614.2 bt618.1 bt618.2).bind fun bt622 => ((turnstoneref01_Cmp.f k bt610.1 bt610.2 bt622.1 bt622.2).bind fun t626 => (some t626)))))))) else (some (wrap64 (-t601)))))) = some r := h
 clear h
 replace H := Option.bind_eq_some_iff.mp H
 obtain ⟨⟨t597, t598⟩, A30, H⟩ := H
 replace H : ((turnstoneref01_Sign.f t597 t598).bind fun t601 => (if t601 = 0 then ((turnstoneref01_U.f k (IntKind.u64.wrap (a0_1))).bind fun bt602 => ((turnstoneref01_U.f k (IntKind.u64.wrap (a1_2))).bind fun bt606 => ((turnstoneref01_Mul.f k bt602.1 bt602.2 bt606.1 bt606.2).bind fun bt610 => ((turnstoneref01_U.f k (IntKind.u64.wrap (a1_1))).bind fun bt614 => ((turnstoneref01_U.f k (IntKind.u64.wrap (a0_2))).bind fun bt618 => ((turnstoneref01_Mul.f k bt614.1 bt614.2 bt618.1 bt618.2).bind fun bt622 => ((turnstoneref01_Cmp.f k bt610.1 bt610.2 bt622.1 bt622.2).bind fun t626 => (some t626)))))))) else (some (wrap64 (-t601))))) = some r := H
 have A3 := Aside0.mk A30
 clear A30
 replace H := Option.bind_eq_some_iff.mp H
 obtain ⟨t601, A40, H⟩ := H
 replace H : (if t601 = 0 then ((turnstoneref01_U.f k (IntKind.u64.wrap (a0_1))).bind fun bt602 => ((turnstoneref01_U.f k (IntKind.u64.wrap (a1_2))).bind fun bt606 => ((turnstoneref01_Mul.f k bt602.1 bt602.2 bt606.1 bt606.2).bind fun bt610 => ((turnstoneref01_U.f k (IntKind.u64.wrap (a1_1))).bind fun bt614 => ((turnstoneref01_U.f k (IntKind.u64.wrap (a0_2))).bind fun bt618 => ((turnstoneref01_Mul.f k bt614.1 bt614.2 bt618.1 bt618.2).bind fun bt622 => ((turnstoneref01_Cmp.f k bt610.1 bt610.2 bt622.1 bt622.2).bind fun t626 => (some t626)))))))) else (some (wrap64 (-t601)))) = some r := H
 have A4 := Aside0.mk A40
 clear A40
 by_cases c5 : t601 = 0
 ·rw [if_pos c5] at H
  have c5b0 : (t601 == 0) = true := beq_iff_eq.mpr c5
  have c5b1 : (t601 != 0) = false := bne_eq_false_iff_eq.mpr c5
  clear c5
  replace H := Option.bind_eq_some_iff.mp H
  obtain ⟨⟨t602, t603⟩, A60, H⟩ := H
  replace H : ((turnstoneref01_U.f k (IntKind.u64.wrap (a1_2))).bind fun bt606 => ((turnstoneref01_Mul.f k t602 t603 bt606.1 bt606.2).bind fun bt610 => ((turnstoneref01_U.f k (IntKind.u64.wrap (a1_1))).bind fun bt614 => ((turnstoneref01_U.f k (IntKind.u64.wrap (a0_2))).bind fun bt618 => ((turnstoneref01_Mul.f k bt614.1 bt614.2 bt618.1 bt618.2).bind fun bt622 => ((turnstoneref01_Cmp.f k bt610.1 bt610.2 bt622.1 bt622.2).bind fun t626 => (some t626))))))) = some r := H
  have A6 := Aside0.mk A60
  clear A60
  replace H := Option.bind_eq_some_iff.mp H
  obtain ⟨⟨t606, t607⟩, A70, H⟩ := H
  replace H : ((turnstoneref01_Mul.f k t602 t603 t606 t607).bind fun bt610 => ((turnstoneref01_U.f k (IntKind.u64.wrap (a1_1))).bind fun bt614 => ((turnstoneref01_U.f k (IntKind.u64.wrap (a0_2))).bind fun bt618 => ((turnstoneref01_Mul.f k bt614.1 bt614.2 bt618.1 bt618.2).bind fun bt622 => ((turnstoneref01_Cmp.f k bt610.1 bt610.2 bt622.1 bt622.2).bind fun t626 => (some t626)))))) = some r := H
  have A7 := Aside0.mk A70
  clear A70
  replace H := Option.bind_eq_some_iff.mp H
  obtain ⟨⟨t610, t611⟩, A80, H⟩ := H
  replace H : ((turnstoneref01_U.f k (IntKind.u64.wrap (a1_1))).bind fun bt614 => ((turnstoneref01_U.f k (IntKind.u64.wrap (a0_2))).bind fun bt618 => ((turnstoneref01_Mul.f k bt614.1 bt614.2 bt618.1 bt618.2).bind fun bt622 => ((turnstoneref01_Cmp.f k t610 t611 bt622.1 bt622.2).bind fun t626 => (some t626))))) = some r := H
  have A8 := Aside0.mk A80
  clear A80
  replace H := Option.bind_eq_some_iff.mp H
  obtain ⟨⟨t614, t615⟩, A90, H⟩ := H
  replace H : ((turnstoneref01_U.f k (IntKind.u64.wrap (a0_2))).bind fun bt618 => ((turnstoneref01_Mul.f k t614 t615 bt618.1 bt618.2).bind fun bt622 => ((turnstoneref01_Cmp.f k t610 t611 bt622.1 bt622.2).bind fun t626 => (some t626)))) = some r := H
  have A9 := Aside0.mk A90
  clear A90
  replace H := Option.bind_eq_some_iff.mp H
  obtain ⟨⟨t618, t619⟩, A100, H⟩ := H
  replace H : ((turnstoneref01_Mul.f k t614 t615 t618 t619).bind fun bt622 => ((turnstoneref01_Cmp.f k t610 t611 bt622.1 bt622.2).bind fun t626 => (some t626))) = some r := H
  have A10 := Aside0.mk A100
  clear A100
  replace H := Option.bind_eq_some_iff.mp H
  obtain ⟨⟨t622, t623⟩, A110, H⟩ := H
  replace H : ((turnstoneref01_Cmp.f k t610 t611 t622 t623).bind fun t626 => (some t626)) = some r := H
  have A11 := Aside0.mk A110
  clear A110
  replace H := Option.bind_eq_some_iff.mp H
  obtain ⟨t626, A120, H⟩ := H
  replace H : (some t626) = some r := H
  have A12 := Aside0.mk A120
  clear A120
  obtain rfl := Option.some.inj H
  go_enter Try.func57, Try.ntmps57
  try go_wp2_with (first | ((with_reducible refine gate_dst (N := 2) rfl ?_); refine box_event ?hg (N := 2) ?hd (cs := #[.int .u64 a0_0, .int .u32 a0_1, .int .u32 a0_2]) (t := 71) ?hr ?_; (case hd => rfl); (case hg => rfl); (case hr => first | (go_simp; done) | (go_simp; rfl)); intro gb595 hg w13 hbox hb; have BK595 := Aside0.mk (hbox); have GW595 := bels HB hg; have GE595 := bels HB hg; replace HB := belb HB hb; clear hb hbox hg) | ((with_reducible refine gate_dst (N := 3) rfl ?_); refine box_event ?hg (N := 3) ?hd (cs := #[.int .u64 a1_0, .int .u32 a1_1, .int .u32 a1_2]) (t := 71) ?hr ?_; (case hd => rfl); (case hg => rfl); (case hr => first | (go_simp; done) | (go_simp; rfl)); intro gb596 hg w14 hbox hb; have BK596 := Aside0.mk (hbox); have GW596 := bels HB hg; have GE596 := bels HB hg; have NB595_596 := blkl BK595 hg; have NB596_595 := blkg BK595 hg; replace BK595 := blkb BK595 hb; replace HB := belb HB hb; clear hb hbox hg; have hnb15 := NB596_595.out; have hnc15 := NB595_596.out; have hcz16_0 : w14.cell? ⟨gb596, 0, none⟩ = some (.int .u64 a1_0) := bc BK596 0; have hcz16_1 : w14.cell? ⟨gb596, 1, none⟩ = some (.int .u32 a1_1) := bc BK596 1; have hcz16_2 : w14.cell? ⟨gb596, 2, none⟩ = some (.int .u32 a1_2) := bc BK596 2; have hfz16_0 := blk_frozen BK596.out 0; have hfz16_1 := blk_frozen BK596.out 1; have hfz16_2 := blk_frozen BK596.out 2; have hcz17_0 : w14.cell? ⟨gb595, 0, none⟩ = some (.int .u64 a0_0) := bc BK595 0; have hcz17_1 : w14.cell? ⟨gb595, 1, none⟩ = some (.int .u32 a0_1) := bc BK595 1; have hcz17_2 : w14.cell? ⟨gb595, 2, none⟩ = some (.int .u32 a0_2) := bc BK595 2; have hfz17_0 := blk_frozen BK595.out 0; have hfz17_1 := blk_frozen BK595.out 1; have hfz17_2 := blk_frozen BK595.out 2) | ((with_reducible refine gate_callee (f := 21) rfl ?_); refine goesL_ (some 10) rfl rfl Try.func21 (by kernel_rfl) rfl #[.int .u64 a1_0, .int .u64 a0_0] rfl argt ?_; (with_reducible refine (turnstoneref03_Since.calls k a1_0 a0_0 t597 t598 _ A3.out).mono ?_); rintro e w18 ⟨v599, rfl, ho0, hb⟩; refine ⟨_, rfl, ?_⟩; have HO600 := Aside0.mk (Kd.V_lower (Kd.V_mono (ok' := fun k_ => k_ ≠ gb595 ∧ k_ ≠ gb596) ho0 (fun k_ hk_ => ⟨(Kd.freshB (blkt BK595) k_ hk_), (Kd.freshB (blkt BK596) k_ hk_)⟩)) (below_size (belt HB))); replace BK595 := blkb BK595 hb; replace BK596 := blkb BK596 hb; replace HB := belb HB hb; (try clear hb); (try clear hb2); (try clear hk); (try clear hi); (try clear ho0); obtain ⟨Ao19, co19, eo19⟩ := Kd.V_slice HO600.out; subst eo19) | ((with_reducible refine gate_callee (f := 59) rfl ?_); refine goesL_ (some 11) rfl rfl Try.func59 (by kernel_rfl) rfl #[.agg #[.bool t597, .slice Ao19 t598.length co19]] rfl argt ?_; (with_reducible refine (turnstoneref01_Sign.calls t597 _ _ t598 t601 _ ?side1 ?side2 A4.out).mono ?_); (case side1 => repeat (first | exact (Kd.V_reads' HO600.out).2.2 | (with_reducible refine Kd.C_alloc ?_ _) | (with_reducible refine Kd.C_drewN ?_ _) | (with_reducible refine Kd.C_drew ?_))); (case side2 => exact (Kd.V_reads' HO600.out).2.1); rintro e w20 ⟨rfl, hb⟩; refine ⟨_, rfl, ?_⟩; replace HO600 := vb HO600 hb; replace BK595 := blkb BK595 hb; replace BK596 := blkb BK596 hb; replace HB := belb HB hb; (try clear hb); (try clear hb2); (try clear hk); (try clear hi)))
  replace HO600 := Aside0.mk (Kd.V_drew HO600.out)
  replace BK595 := Aside0.mk (blk_drew BK595.out)
  replace BK596 := Aside0.mk (blk_drew BK596.out)
  replace HB := Aside0.mk (below_drew1 HB.out)
  refine start_ (n := 20) (S := fun w' => w'.cell? ⟨gb595, 0, none⟩ = some (.int .u64 a0_0) ∧ w'.cell? ⟨gb595, 1, none⟩ = some (.int .u32 a0_1) ∧ w'.cell? ⟨gb595, 2, none⟩ = some (.int .u32 a0_2) ∧ w'.cell? ⟨gb596, 0, none⟩ = some (.int .u64 a1_0) ∧ w'.cell? ⟨gb596, 1, none⟩ = some (.int .u32 a1_1) ∧ w'.cell? ⟨gb596, 2, none⟩ = some (.int .u32 a1_2)) (ds := []) #[false, false, false, false, false, false, false, false, false, false, false, false, false, false, false, false, false, false, false, false] (by kernel_rfl) rfl rfl ⟨bc BK595 0, bc BK595 1, bc BK595 2, bc BK596 0, bc BK596 1, bc BK596 2⟩ (fun hHeld => ?_); refine with_tabW turnstoneref04_Cmp.tab4 turnstoneref04_Cmp.bits4 (fun HT_ HW_ => ?_)
  generalize w20.drew = w21 at HO600 BK595 BK596 HB hHeld ⊢
  refine pure_ (i := 0) (N := some 16) (v := ?_) (a' := ?_) #[true, false, false, false, false, false, false, false, false, false, false, false, false, false, false, false, false, false, false, false] rfl rfl (any_of HT_.out (by kernel_rfl)) (fun _ _ _ h => h) (Or.inl ⟨by rfl, ?_⟩) ?_ ?_
  rotate_left
  ·intro w'
   go_simp
   with_reducible rfl
  rotate_left
  ·simp only [Act.put, List.setIfInBounds_toArray, List.set_cons_zero, List.set_cons_succ, i64_w, i32_w]
   rfl
  refine pure_ (i := 4) (N := some 20) (v := ?_) (a' := ?_) #[true, false, false, false, true, false, false, false, false, false, false, false, false, false, false, false, false, false, false, false] rfl rfl (any_of HT_.out (by kernel_rfl)) (fun _ _ _ h => h) (Or.inl ⟨by rfl, ?_⟩) ?_ ?_
  rotate_left
  ·intro w'
   go_simp
   with_reducible rfl
  rotate_left
  ·simp only [Act.put, List.setIfInBounds_toArray, List.set_cons_zero, List.set_cons_succ, i64_w, i32_w]
   rfl
  refine pure_ (i := 9) (N := some 25) (v := ?_) (a' := ?_) #[true, false, false, false, true, false, false, false, false, true, false, false, false, false, false, false, false, false, false, false] rfl rfl (any_of HT_.out (by kernel_rfl)) (fun _ _ _ h => h) (Or.inl ⟨by rfl, ?_⟩) ?_ ?_
  rotate_left
  ·intro w'
   go_simp
   with_reducible rfl
  rotate_left
  ·simp only [Act.put, List.setIfInBounds_toArray, List.set_cons_zero, List.set_cons_succ, i64_w, i32_w]
   rfl
  refine pure_ (i := 13) (N := some 29) (v := ?_) (a' := ?_) #[true, false, false, false, true, false, false, false, false, true, false, false, false, true, false, false, false, false, false, false] rfl rfl (any_of HT_.out (by kernel_rfl)) (fun _ _ _ h => h) (Or.inl ⟨by rfl, ?_⟩) ?_ ?_
  rotate_left
  ·intro w'
   go_simp
   with_reducible rfl
  rotate_left
  ·simp only [Act.put, List.setIfInBounds_toArray, List.set_cons_zero, List.set_cons_succ, i64_w, i32_w]
   rfl
  refine take_ (i := 1) (N := some 17) (v := ?_) (a' := ?_) #[true, true, false, false, true, false, false, false, false, true, false, false, false, true, false, false, false, false, false, false] rfl rfl (take_ofW HT_.out HW_.out (by kernel_rfl)) (fun _ _ _ h => h) (Or.inl ⟨by rfl, ?_⟩) hHeld ?_ ?_
  rotate_left
  ·rintro w' ⟨s0, s1, s2, s3, s4, s5⟩
   go_simp
   with_reducible rfl
  rotate_left
  ·simp only [Act.put, List.setIfInBounds_toArray, List.set_cons_zero, List.set_cons_succ, i64_w, i32_w]
   rfl
  refine pure_ (i := 2) (N := some 18) (v := ?_) (a' := ?_) #[true, true, true, false, true, false, false, false, false, true, false, false, false, true, false, false, false, false, false, false] rfl rfl (any_of HT_.out (by kernel_rfl)) (fun _ _ _ h => h) (Or.inl ⟨by rfl, ?_⟩) ?_ ?_
  rotate_left
  ·intro w'
   go_simp
   with_reducible rfl
  rotate_left
  ·simp only [Act.put, List.setIfInBounds_toArray, List.set_cons_zero, List.set_cons_succ, i64_w, i32_w]
   rfl
  refine take_ (i := 5) (N := some 21) (v := ?_) (a' := ?_) #[true, true, true, false, true, true, false, false, false, true, false, false, false, true, false, false, false, false, false, false] rfl rfl (take_ofW HT_.out HW_.out (by kernel_rfl)) (fun _ _ _ h => h) (Or.inl ⟨by rfl, ?_⟩) hHeld ?_ ?_
  rotate_left
  ·rintro w' ⟨s0, s1, s2, s3, s4, s5⟩
   go_simp
   with_reducible rfl
  rotate_left
  ·simp only [Act.put, List.setIfInBounds_toArray, List.set_cons_zero, List.set_cons_succ, i64_w, i32_w]
   rfl
  refine pure_ (i := 6) (N := some 22) (v := ?_) (a' := ?_) #[true, true, true, false, true, true, true, false, false, true, false, false, false, true, false, false, false, false, false, false] rfl rfl (any_of HT_.out (by kernel_rfl)) (fun _ _ _ h => h) (Or.inl ⟨by rfl, ?_⟩) ?_ ?_
  rotate_left
  ·intro w'
   go_simp
   with_reducible rfl
  rotate_left
  ·simp only [Act.put, List.setIfInBounds_toArray, List.set_cons_zero, List.set_cons_succ, i64_w, i32_w]
   rfl
  refine take_ (i := 10) (N := some 26) (v := ?_) (a' := ?_) #[true, true, true, false, true, true, true, false, false, true, true, false, false, true, false, false, false, false, false, false] rfl rfl (take_ofW HT_.out HW_.out (by kernel_rfl)) (fun _ _ _ h => h) (Or.inl ⟨by rfl, ?_⟩) hHeld ?_ ?_
  rotate_left
  ·rintro w' ⟨s0, s1, s2, s3, s4, s5⟩
   go_simp
   with_reducible rfl
  rotate_left
  ·simp only [Act.put, List.setIfInBounds_toArray, List.set_cons_zero, List.set_cons_succ, i64_w, i32_w]
   rfl
  refine pure_ (i := 11) (N := some 27) (v := ?_) (a' := ?_) #[true, true, true, false, true, true, true, false, false, true, true, true, false, true, false, false, false, false, false, false] rfl rfl (any_of HT_.out (by kernel_rfl)) (fun _ _ _ h => h) (Or.inl ⟨by rfl, ?_⟩) ?_ ?_
  rotate_left
  ·intro w'
   go_simp
   with_reducible rfl
  rotate_left
  ·simp only [Act.put, List.setIfInBounds_toArray, List.set_cons_zero, List.set_cons_succ, i64_w, i32_w]
   rfl
  refine take_ (i := 14) (N := some 30) (v := ?_) (a' := ?_) #[true, true, true, false, true, true, true, false, false, true, true, true, false, true, true, false, false, false, false, false] rfl rfl (take_ofW HT_.out HW_.out (by kernel_rfl)) (fun _ _ _ h => h) (Or.inl ⟨by rfl, ?_⟩) hHeld ?_ ?_
  rotate_left
  ·rintro w' ⟨s0, s1, s2, s3, s4, s5⟩
   go_simp
   with_reducible rfl
  rotate_left
  ·simp only [Act.put, List.setIfInBounds_toArray, List.set_cons_zero, List.set_cons_succ, i64_w, i32_w]
   rfl
  refine pure_ (i := 15) (N := some 31) (v := ?_) (a' := ?_) #[true, true, true, false, true, true, true, false, false, true, true, true, false, true, true, true, false, false, false, false] rfl rfl (any_of HT_.out (by kernel_rfl)) (fun _ _ _ h => h) (Or.inl ⟨by rfl, ?_⟩) ?_ ?_
  rotate_left
  ·intro w'
   go_simp
   with_reducible rfl
  rotate_left
  ·simp only [Act.put, List.setIfInBounds_toArray, List.set_cons_zero, List.set_cons_succ, i64_w, i32_w]
   rfl
  refine one_ (i := 3) (N := some 19) #[true, true, true, true, true, true, true, false, false, true, true, true, false, true, true, true, false, false, false, false] rfl rfl (one_of HT_.out (by kernel_rfl)) (by decide) (fun K hK => ?_)
  refine goes_ Try.func24 (by kernel_rfl) rfl #[.int .u64 (IntKind.u64.wrap (a0_1))] (by rfl) rfl rfl argt ?_
  with_reducible refine (turnstoneref01_U.calls k (IntKind.u64.wrap (a0_1)) t602 t603 _ A6.out).mono ?_
  rintro e w22 ⟨v604, rfl, ho0, hb⟩
  refine ⟨_, rfl, ?_⟩
  replace HO600 := Aside0.mk (Kd.V_elder' (vt HO600) (Kd.R_base ho0) hb)
  have HO605 := Aside0.mk (Kd.R_lower ho0 (below_size (belt HB)))
  replace BK595 := blkb BK595 hb
  replace BK596 := blkb BK596 hb
  replace HB := belb HB hb
  (try clear hb)
  (try clear hb2)
  (try clear hk)
  (try clear hi)
  (try clear ho0)
  refine hK.out _ _ ⟨bc BK595 0, bc BK595 1, bc BK595 2, bc BK596 0, bc BK596 1, bc BK596 2⟩ (fun hHeld => ?_)
  clear hK K
  refine norm_ (a' := ?_) ?_ ?_
  rotate_left
  ·show Act.put _ (some 19) _ = _
   simp only [Act.put, List.setIfInBounds_toArray, List.set_cons_zero, List.set_cons_succ, i64_w, i32_w]
   rfl
  refine one_ (i := 7) (N := some 23) #[true, true, true, true, true, true, true, true, false, true, true, true, false, true, true, true, false, false, false, false] rfl rfl (one_of HT_.out (by kernel_rfl)) (by decide) (fun K hK => ?_)
  refine goes_ Try.func24 (by kernel_rfl) rfl #[.int .u64 (IntKind.u64.wrap (a1_2))] (by rfl) rfl rfl argt ?_
  with_reducible refine (turnstoneref01_U.calls k (IntKind.u64.wrap (a1_2)) t606 t607 _ A7.out).mono ?_
  rintro e w23 ⟨v608, rfl, ho0, hb⟩
  refine ⟨_, rfl, ?_⟩
  replace HO600 := Aside0.mk (Kd.V_elder' (vt HO600) (Kd.R_base ho0) hb)
  have HO609 := Aside0.mk (Kd.R_lower (Kd.R_new' ho0 (Kd.R_lt (rt HO605))) (below_size (belt HB)))
  replace BK595 := blkb BK595 hb
  replace BK596 := blkb BK596 hb
  replace HO605 := Aside0.mk (Kd.R_elder' (rt HO605) (Kd.R_base ho0) hb)
  replace HB := belb HB hb
  (try clear hb)
  (try clear hb2)
  (try clear hk)
  (try clear hi)
  (try clear ho0)
  obtain ⟨Ao24, co24, eo24⟩ := Kd.R_slice HO605.out
  (first | subst eo24 | (injection eo24 with f1_ f2_ f3_; have f4_ := f1_.symm; have f5_ := f3_.symm; clear f1_ f2_ f3_; subst f4_; subst f5_))
  obtain ⟨Ao25, co25, eo25⟩ := Kd.R_slice HO609.out
  (first | subst eo25 | (injection eo25 with f1_ f2_ f3_; have f4_ := f1_.symm; have f5_ := f3_.symm; clear f1_ f2_ f3_; subst f4_; subst f5_))
  refine hK.out _ _ ⟨bc BK595 0, bc BK595 1, bc BK595 2, bc BK596 0, bc BK596 1, bc BK596 2⟩ (fun hHeld => ?_)
  clear hK K
  refine norm_ (a' := ?_) ?_ ?_
  rotate_left
  ·show Act.put _ (some 23) _ = _
   simp only [Act.put, List.setIfInBounds_toArray, List.set_cons_zero, List.set_cons_succ, i64_w, i32_w]
   rfl
  refine one_ (i := 8) (N := some 24) #[true, true, true, true, true, true, true, true, true, true, true, true, false, true, true, true, false, false, false, false] rfl rfl (one_of HT_.out (by kernel_rfl)) (by decide) (fun K hK => ?_)
  refine goes_ Try.func40 (by kernel_rfl) rfl #[.agg #[.bool t602, .slice Ao24 t603.length co24], .agg #[.bool t606, .slice Ao25 t607.length co25]] (by rfl) rfl rfl argt ?_
  with_reducible refine (turnstoneref01_Mul.calls k t602 _ _ t603 t606 _ _ t607 t610 t611 _ ?side1 ?side2 ?side3 ?side4 A8.out).mono ?_
  (case side1 => repeat (first | exact (Kd.R_reads' HO605.out).2.2 | (with_reducible refine Kd.C_alloc ?_ _) | (with_reducible refine Kd.C_drewN ?_ _) | (with_reducible refine Kd.C_drew ?_)))
  (case side2 => exact (Kd.R_reads' HO605.out).2.1)
  (case side3 => repeat (first | exact (Kd.R_reads' HO609.out).2.2 | (with_reducible refine Kd.C_alloc ?_ _) | (with_reducible refine Kd.C_drewN ?_ _) | (with_reducible refine Kd.C_drew ?_)))
  (case side4 => exact (Kd.R_reads' HO609.out).2.1)
  rintro e w26 ⟨v612, rfl, ho0, hb⟩
  refine ⟨_, rfl, ?_⟩
  replace HO600 := vb HO600 hb
  have HO613 := Aside0.mk (Kd.V_lower (Kd.V_mono (ok' := fun k_ => some k_ ≠ (.slice Ao24 t603.length co24 : Value).ownBlock ∧ some k_ ≠ (.slice Ao25 t607.length co25 : Value).ownBlock ∧ k_ ≠ gb595 ∧ k_ ≠ gb596) ho0 (fun k_ hk_ => ⟨(Kd.fresh' (Kd.R_lt (rt HO605)) k_ hk_), (Kd.fresh' (Kd.R_lt (rt HO609)) k_ hk_), (Kd.freshB (blkt BK595) k_ hk_), (Kd.freshB (blkt BK596) k_ hk_)⟩)) (below_size (belt HB)))
  replace HO605 := rb HO605 hb
  replace HO609 := rb HO609 hb
  replace BK595 := blkb BK595 hb
  replace BK596 := blkb BK596 hb
  replace HB := belb HB hb
  (try clear hb)
  (try clear hb2)
  (try clear hk)
  (try clear hi)
  (try clear ho0)
  refine hK.out _ _ ⟨bc BK595 0, bc BK595 1, bc BK595 2, bc BK596 0, bc BK596 1, bc BK596 2⟩ (fun hHeld => ?_)
  clear hK K
  refine norm_ (a' := ?_) ?_ ?_
  rotate_left
  ·show Act.put _ (some 24) _ = _
   simp only [Act.put, List.setIfInBounds_toArray, List.set_cons_zero, List.set_cons_succ, i64_w, i32_w]
   rfl
  refine one_ (i := 12) (N := some 28) #[true, true, true, true, true, true, true, true, true, true, true, true, true, true, true, true, false, false, false, false] rfl rfl (one_of HT_.out (by kernel_rfl)) (by decide) (fun K hK => ?_)
  refine goes_ Try.func24 (by kernel_rfl) rfl #[.int .u64 (IntKind.u64.wrap (a1_1))] (by rfl) rfl rfl argt ?_
  with_reducible refine (turnstoneref01_U.calls k (IntKind.u64.wrap (a1_1)) t614 t615 _ A9.out).mono ?_
  rintro e w27 ⟨v616, rfl, ho0, hb⟩
  refine ⟨_, rfl, ?_⟩
  replace HO600 := Aside0.mk (Kd.V_elder' (vt HO600) (Kd.R_base ho0) hb)
  replace HO613 := Aside0.mk (Kd.V_elder' (vt HO613) (Kd.R_base ho0) hb)
  have HO617 := Aside0.mk (Kd.R_lower (Kd.R_new' (Kd.R_new' ho0 (Kd.R_lt (rt HO605))) (Kd.R_lt (rt HO609))) (below_size (belt HB)))
  replace BK595 := blkb BK595 hb
  replace BK596 := blkb BK596 hb
  replace HO605 := Aside0.mk (Kd.R_elder' (rt HO605) (Kd.R_base ho0) hb)
  replace HO609 := Aside0.mk (Kd.R_elder' (rt HO609) (Kd.R_base ho0) hb)
  replace HB := belb HB hb
  (try clear hb)
  (try clear hb2)
  (try clear hk)
  (try clear hi)
  (try clear ho0)
  refine hK.out _ _ ⟨bc BK595 0, bc BK595 1, bc BK595 2, bc BK596 0, bc BK596 1, bc BK596 2⟩ (fun hHeld => ?_)
  clear hK K
  refine norm_ (a' := ?_) ?_ ?_
  rotate_left
  ·show Act.put _ (some 28) _ = _
   simp only [Act.put, List.setIfInBounds_toArray, List.set_cons_zero, List.set_cons_succ, i64_w, i32_w]
   rfl
  refine one_ (i := 16) (N := some 32) #[true, true, true, true, true, true, true, true, true, true, true, true, true, true, true, true, true, false, false, false] rfl rfl (one_of HT_.out (by kernel_rfl)) (by decide) (fun K hK => ?_)
  refine goes_ Try.func24 (by kernel_rfl) rfl #[.int .u64 (IntKind.u64.wrap (a0_2))] (by rfl) rfl rfl argt ?_
  with_reducible refine (turnstoneref01_U.calls k (IntKind.u64.wrap (a0_2)) t618 t619 _ A10.out).mono ?_
  rintro e w28 ⟨v620, rfl, ho0, hb⟩
  refine ⟨_, rfl, ?_⟩
  replace HO600 := Aside0.mk (Kd.V_elder' (vt HO600) (Kd.R_base ho0) hb)
  replace HO613 := Aside0.mk (Kd.V_elder' (vt HO613) (Kd.R_base ho0) hb)
  have HO621 := Aside0.mk (Kd.R_lower (Kd.R_new' (Kd.R_new' (Kd.R_new' ho0 (Kd.R_lt (rt HO605))) (Kd.R_lt (rt HO609))) (Kd.R_lt (rt HO617))) (below_size (belt HB)))
  replace BK595 := blkb BK595 hb
  replace BK596 := blkb BK596 hb
  replace HO605 := Aside0.mk (Kd.R_elder' (rt HO605) (Kd.R_base ho0) hb)
  replace HO609 := Aside0.mk (Kd.R_elder' (rt HO609) (Kd.R_base ho0) hb)
  replace HO617 := Aside0.mk (Kd.R_elder' (rt HO617) (Kd.R_base ho0) hb)
  replace HB := belb HB hb
  (try clear hb)
  (try clear hb2)
  (try clear hk)
  (try clear hi)
  (try clear ho0)
  obtain ⟨Ao29, co29, eo29⟩ := Kd.R_slice HO617.out
  (first | subst eo29 | (injection eo29 with f1_ f2_ f3_; have f4_ := f1_.symm; have f5_ := f3_.symm; clear f1_ f2_ f3_; subst f4_; subst f5_))
  obtain ⟨Ao30, co30, eo30⟩ := Kd.R_slice HO621.out
  (first | subst eo30 | (injection eo30 with f1_ f2_ f3_; have f4_ := f1_.symm; have f5_ := f3_.symm; clear f1_ f2_ f3_; subst f4_; subst f5_))
  refine hK.out _ _ ⟨bc BK595 0, bc BK595 1, bc BK595 2, bc BK596 0, bc BK596 1, bc BK596 2⟩ (fun hHeld => ?_)
  clear hK K
  refine norm_ (a' := ?_) ?_ ?_
  rotate_left
  ·show Act.put _ (some 32) _ = _
   simp only [Act.put, List.setIfInBounds_toArray, List.set_cons_zero, List.set_cons_succ, i64_w, i32_w]
   rfl
  refine one_ (i := 17) (N := some 33) #[true, true, true, true, true, true, true, true, true, true, true, true, true, true, true, true, true, true, false, false] rfl rfl (one_of HT_.out (by kernel_rfl)) (by decide) (fun K hK => ?_)
  refine goes_ Try.func40 (by kernel_rfl) rfl #[.agg #[.bool t614, .slice Ao29 t615.length co29], .agg #[.bool t618, .slice Ao30 t619.length co30]] (by rfl) rfl rfl argt ?_
  with_reducible refine (turnstoneref01_Mul.calls k t614 _ _ t615 t618 _ _ t619 t622 t623 _ ?side1 ?side2 ?side3 ?side4 A11.out).mono ?_
  (case side1 => repeat (first | exact (Kd.R_reads' HO617.out).2.2 | (with_reducible refine Kd.C_alloc ?_ _) | (with_reducible refine Kd.C_drewN ?_ _) | (with_reducible refine Kd.C_drew ?_)))
  (case side2 => exact (Kd.R_reads' HO617.out).2.1)
  (case side3 => repeat (first | exact (Kd.R_reads' HO621.out).2.2 | (with_reducible refine Kd.C_alloc ?_ _) | (with_reducible refine Kd.C_drewN ?_ _) | (with_reducible refine Kd.C_drew ?_)))
  (case side4 => exact (Kd.R_reads' HO621.out).2.1)
  rintro e w31 ⟨v624, rfl, ho0, hb⟩
  refine ⟨_, rfl, ?_⟩
  replace HO600 := vb HO600 hb
  replace HO613 := vb HO613 hb
  have HO625 := Aside0.mk (Kd.V_lower (Kd.V_mono (ok' := fun k_ => some k_ ≠ (.slice Ao24 t603.length co24 : Value).ownBlock ∧ some k_ ≠ (.slice Ao25 t607.length co25 : Value).ownBlock ∧ some k_ ≠ (.slice Ao29 t615.length co29 : Value).ownBlock ∧ some k_ ≠ (.slice Ao30 t619.length co30 : Value).ownBlock ∧ k_ ≠ gb595 ∧ k_ ≠ gb596) ho0 (fun k_ hk_ => ⟨(Kd.fresh' (Kd.R_lt (rt HO605)) k_ hk_), (Kd.fresh' (Kd.R_lt (rt HO609)) k_ hk_), (Kd.fresh' (Kd.R_lt (rt HO617)) k_ hk_), (Kd.fresh' (Kd.R_lt (rt HO621)) k_ hk_), (Kd.freshB (blkt BK595) k_ hk_), (Kd.freshB (blkt BK596) k_ hk_)⟩)) (below_size (belt HB)))
  replace HO605 := rb HO605 hb
  replace HO609 := rb HO609 hb
  replace HO617 := rb HO617 hb
  replace HO621 := rb HO621 hb
  replace BK595 := blkb BK595 hb
  replace BK596 := blkb BK596 hb
  replace HB := belb HB hb
  (try clear hb)
  (try clear hb2)
  (try clear hk)
  (try clear hi)
  (try clear ho0)
  obtain ⟨Ao32, co32, eo32⟩ := Kd.V_slice HO613.out
  (first | subst eo32 | (injection eo32 with f1_ f2_ f3_; have f4_ := f1_.symm; have f5_ := f3_.symm; clear f1_ f2_ f3_; subst f4_; subst f5_))
  obtain ⟨Ao33, co33, eo33⟩ := Kd.V_slice HO625.out
  (first | subst eo33 | (injection eo33 with f1_ f2_ f3_; have f4_ := f1_.symm; have f5_ := f3_.symm; clear f1_ f2_ f3_; subst f4_; subst f5_))
  refine hK.out _ _ ⟨bc BK595 0, bc BK595 1, bc BK595 2, bc BK596 0, bc BK596 1, bc BK596 2⟩ (fun hHeld => ?_)
  clear hK K
  refine norm_ (a' := ?_) ?_ ?_
  rotate_left
  ·show Act.put _ (some 33) _ = _
   simp only [Act.put, List.setIfInBounds_toArray, List.set_cons_zero, List.set_cons_succ, i64_w, i32_w]
   rfl
  refine one_ (i := 18) (N := some 34) #[true, true, true, true, true, true, true, true, true, true, true, true, true, true, true, true, true, true, true, false] rfl rfl (one_of HT_.out (by kernel_rfl)) (by decide) (fun K hK => ?_)
  refine goes_ Try.func18 (by kernel_rfl) rfl #[.agg #[.bool t610, .slice Ao32 t611.length co32], .agg #[.bool t622, .slice Ao33 t623.length co33]] (by rfl) rfl rfl argt ?_
  with_reducible refine (turnstoneref01_Cmp.calls k t610 _ _ t611 t622 _ _ t623 t626 _ ?side1 ?side2 ?side3 ?side4 A12.out).mono ?_
  (case side1 => repeat (first | exact (Kd.V_reads' HO613.out).2.2 | (with_reducible refine Kd.C_alloc ?_ _) | (with_reducible refine Kd.C_drewN ?_ _) | (with_reducible refine Kd.C_drew ?_)))
  (case side2 => exact (Kd.V_reads' HO613.out).2.1)
  (case side3 => repeat (first | exact (Kd.V_reads' HO625.out).2.2 | (with_reducible refine Kd.C_alloc ?_ _) | (with_reducible refine Kd.C_drewN ?_ _) | (with_reducible refine Kd.C_drew ?_)))
  (case side4 => exact (Kd.V_reads' HO625.out).2.1)
  rintro e w34 ⟨rfl, hb⟩
  refine ⟨_, rfl, ?_⟩
  replace HO600 := vb HO600 hb
  replace HO605 := rb HO605 hb
  replace HO609 := rb HO609 hb
  replace HO613 := vb HO613 hb
  replace HO617 := rb HO617 hb
  replace HO621 := rb HO621 hb
  replace HO625 := vb HO625 hb
  replace BK595 := blkb BK595 hb
  replace BK596 := blkb BK596 hb
  replace HB := belb HB hb
  (try clear hb)
  (try clear hb2)
  (try clear hk)
  (try clear hi)
  refine hK.out _ _ ⟨bc BK595 0, bc BK595 1, bc BK595 2, bc BK596 0, bc BK596 1, bc BK596 2⟩ (fun hHeld => ?_)
  clear hK K
  refine norm_ (a' := ?_) ?_ ?_
  rotate_left
  ·show Act.put _ (some 34) _ = _
   simp only [Act.put, List.setIfInBounds_toArray, List.set_cons_zero, List.set_cons_succ, i64_w, i32_w]
   rfl
  refine pure_ (i := 19) (N := some 4) (v := ?_) (a' := ?_) #[true, true, true, true, true, true, true, true, true, true, true, true, true, true, true, true, true, true, true, true] rfl rfl (any_of HT_.out (by kernel_rfl)) (fun _ _ _ h => h) (Or.inl ⟨by rfl, ?_⟩) ?_ ?_
  rotate_left
  ·intro w'
   go_simp
   with_reducible rfl
  rotate_left
  ·simp only [Act.put, List.setIfInBounds_toArray, List.set_cons_zero, List.set_cons_succ, i64_w, i32_w]
   rfl
  refine done_ (done_of HT_.out (by kernel_rfl)) ?_
  try go_wp2
  go_ret
  exact ⟨by first | rfl | (simp [errW_none, errW_some] <;> rfl) | (simp [*, errW_none, errW_some] <;> rfl), belt HB⟩
 rw [if_neg c5] at H
 have c5b0 : (t601 == 0) = false := beq_eq_false_iff_ne.mpr c5
 have c5b1 : (t601 != 0) = true := bne_iff_ne.mpr c5
 obtain rfl := Option.some.inj H
 go_enter Try.func57, Try.ntmps57
 go_wp2_with (first | ((with_reducible refine gate_dst (N := 2) rfl ?_); refine box_event ?hg (N := 2) ?hd (cs := #[.int .u64 a0_0, .int .u32 a0_1, .int .u32 a0_2]) (t := 71) ?hr ?_; (case hd => rfl); (case hg => rfl); (case hr => first | (go_simp; done) | (go_simp; rfl)); intro gb595 hg w35 hbox hb; have BK595 := Aside0.mk (hbox); have GW595 := bels HB hg; have GE595 := bels HB hg; replace HB := belb HB hb; clear hb hbox hg) | ((with_reducible refine gate_dst (N := 3) rfl ?_); refine box_event ?hg (N := 3) ?hd (cs := #[.int .u64 a1_0, .int .u32 a1_1, .int .u32 a1_2]) (t := 71) ?hr ?_; (case hd => rfl); (case hg => rfl); (case hr => first | (go_simp; done) | (go_simp; rfl)); intro gb596 hg w36 hbox hb; have BK596 := Aside0.mk (hbox); have GW596 := bels HB hg; have GE596 := bels HB hg; have NB595_596 := blkl BK595 hg; have NB596_595 := blkg BK595 hg; replace BK595 := blkb BK595 hb; replace HB := belb HB hb; clear hb hbox hg; have hnb37 := NB596_595.out; have hnc37 := NB595_596.out; have hcz38_0 : w36.cell? ⟨gb596, 0, none⟩ = some (.int .u64 a1_0) := bc BK596 0; have hcz38_1 : w36.cell? ⟨gb596, 1, none⟩ = some (.int .u32 a1_1) := bc BK596 1; have hcz38_2 : w36.cell? ⟨gb596, 2, none⟩ = some (.int .u32 a1_2) := bc BK596 2; have hfz38_0 := blk_frozen BK596.out 0; have hfz38_1 := blk_frozen BK596.out 1; have hfz38_2 := blk_frozen BK596.out 2; have hcz39_0 : w36.cell? ⟨gb595, 0, none⟩ = some (.int .u64 a0_0) := bc BK595 0; have hcz39_1 : w36.cell? ⟨gb595, 1, none⟩ = some (.int .u32 a0_1) := bc BK595 1; have hcz39_2 : w36.cell? ⟨gb595, 2, none⟩ = some (.int .u32 a0_2) := bc BK595 2; have hfz39_0 := blk_frozen BK595.out 0; have hfz39_1 := blk_frozen BK595.out 1; have hfz39_2 := blk_frozen BK595.out 2) | ((with_reducible refine gate_callee (f := 21) rfl ?_); refine goesL_ (some 10) rfl rfl Try.func21 (by kernel_rfl) rfl #[.int .u64 a1_0, .int .u64 a0_0] rfl argt ?_; (with_reducible refine (turnstoneref03_Since.calls k a1_0 a0_0 t597 t598 _ A3.out).mono ?_); rintro e w40 ⟨v599, rfl, ho0, hb⟩; refine ⟨_, rfl, ?_⟩; have HO600 := Aside0.mk (Kd.V_lower (Kd.V_mono (ok' := fun k_ => k_ ≠ gb595 ∧ k_ ≠ gb596) ho0 (fun k_ hk_ => ⟨(Kd.freshB (blkt BK595) k_ hk_), (Kd.freshB (blkt BK596) k_ hk_)⟩)) (below_size (belt HB))); replace BK595 := blkb BK595 hb; replace BK596 := blkb BK596 hb; replace HB := belb HB hb; (try clear hb); (try clear hb2); (try clear hk); (try clear hi); (try clear ho0); obtain ⟨Ao41, co41, eo41⟩ := Kd.V_slice HO600.out; subst eo41) | ((with_reducible refine gate_callee (f := 59) rfl ?_); refine goesL_ (some 11) rfl rfl Try.func59 (by kernel_rfl) rfl #[.agg #[.bool t597, .slice Ao41 t598.length co41]] rfl argt ?_; (with_reducible refine (turnstoneref01_Sign.calls t597 _ _ t598 t601 _ ?side1 ?side2 A4.out).mono ?_); (case side1 => repeat (first | exact (Kd.V_reads' HO600.out).2.2 | (with_reducible refine Kd.C_alloc ?_ _) | (with_reducible refine Kd.C_drewN ?_ _) | (with_reducible refine Kd.C_drew ?_))); (case side2 => exact (Kd.V_reads' HO600.out).2.1); rintro e w42 ⟨rfl, hb⟩; refine ⟨_, rfl, ?_⟩; replace HO600 := vb HO600 hb; replace BK595 := blkb BK595 hb; replace BK596 := blkb BK596 hb; replace HB := belb HB hb; (try clear hb); (try clear hb2); (try clear hk); (try clear hi)))
 go_ret
 exact ⟨by first | rfl | (simp [errW_none, errW_some] <;> rfl) | (simp [*, errW_none, errW_some] <;> rfl), belt HB⟩

end Go.Proofs.Ytimgiiceipjpaaa.Print
