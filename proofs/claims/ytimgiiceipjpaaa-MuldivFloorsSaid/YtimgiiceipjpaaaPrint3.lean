/- What each Go function that is named below answers, as a Lean function, and that its walk comes to just that: for whatever arguments that function gives an answer for. Written by a program of this session (wip/mkpr.py, pr.sh). -/
import Derived.Test.YtimgiiceipjpaaaPrint0
namespace Go.Proofs.Ytimgiiceipjpaaa.Print
open Go.RowKit Go.Proofs.YtimgiiceipjpaaaW.PrintWords Go.Proofs.YtimgiiceipjpaaaW.PrintLast Go.Proofs.YtimgiiceipjpaaaW.PrintMore
attribute [local go_sem] max2_int min2_int max_two min_two max_three min_three max_four min_four   -- for this text's walks alone
open Go.Proofs.Ytimgiiceipjpaaa.Bits Go.Proofs.Ytimgiiceipjpaaa.Short
attribute [local go_sem] add64_run0 sub64_run0 add64_run sub64_run
set_option linter.unusedVariables false
set_option linter.unusedSimpArgs false

/-! ### turnstoneref01_U: function 24 -/
def turnstoneref01_U.l0 : Nat → Int → Bool → List Int → Option (Bool × List Int)
 | 0, _, _, _ => none
 | k + 1, x0, x103000, x103001 => if x0 > 0 then (if x103001.length < 17592186044416 then (turnstoneref01_U.l0 k (IntKind.u64.wrap (Int.tdiv x0 10000)) x103000 (x103001 ++ [wrap64 (Int.tmod x0 10000)])) else (none)) else (some (x103000, x103001))
def turnstoneref01_U.f (k : Nat) (a0 : Int) : Option (Bool × List Int) := turnstoneref01_U.l0 k a0 false ([] : List Int)
theorem turnstoneref01_U.mono_l : ∀ k, (∀ y0 y1 y2, LeO (turnstoneref01_U.l0 k y0 y1 y2) (turnstoneref01_U.l0 (k + 1) y0 y1 y2))
 | 0 => fun _ _ _ r h => by simp [turnstoneref01_U.l0] at h
 | k + 1 => by
  have ih0 := turnstoneref01_U.mono_l k
  ·intro y0 y1 y2
   unfold turnstoneref01_U.l0
   repeat' first
   | (with_reducible exact ih0 _ _ _)
   | (with_reducible exact LeO.refl _)
   | (with_reducible exact LeO.none _)
   | (with_reducible refine LeO.ite ?_ ?_)
   | (with_reducible refine LeO.bind ?_ (fun _ => ?_))
   | exact ih0 _ _ _
   | exact LeO.none _
   | refine LeO.ite ?_ ?_
   | refine LeO.bind ?_ (fun _ => ?_)
theorem turnstoneref01_U.mono : ∀ a0 k, LeO (turnstoneref01_U.f k a0) (turnstoneref01_U.f (k + 1) a0) := by
 intro a0 k
 have ih0 := turnstoneref01_U.mono_l k
 unfold turnstoneref01_U.f
 repeat' first
   | (with_reducible exact ih0 _ _ _)
   | (with_reducible exact LeO.refl _)
   | (with_reducible exact LeO.none _)
   | (with_reducible refine LeO.ite ?_ ?_)
   | (with_reducible refine LeO.bind ?_ (fun _ => ?_))
   | exact ih0 _ _ _
   | exact LeO.none _
   | refine LeO.ite ?_ ?_
   | refine LeO.bind ?_ (fun _ => ?_)
set_option maxHeartbeats 8000000 in
set_option maxRecDepth 100000 in
theorem turnstoneref01_U.calls (k : Nat) (a0 : Int) (r1 : Bool) (r2 : List Int) (w : World) (h : turnstoneref01_U.f k a0 = some (r1, r2)) :
  Calls Try.prog 24 #[.int .u64 a0] w fun e w' => ∃ v1_ : Value, e = .returned (.agg #[.bool r1, v1_]) ∧ Kd.R (Kd.int .i64) 3 w' w.heap.size (fun _ => True) v1_ r2 ∧ Below w.heap.size w w' := by
 have hu28 := Try.underlying28
 have HB := Aside0.mk (Below.refl w.heap.size w)
 have H : (turnstoneref01_U.l0 k a0 false ([] : List Int)) = some (r1, r2) := h
 clear h
 have H' := Aside0.mk H
 clear H
 go_enter Try.func24, Try.ntmps24
 go_wp2_with (first | ((with_reducible refine gate_dst (N := 2) rfl ?_); refine box_event ?hg (N := 2) ?hd (cs := #[.bool false, .slice none 0 0]) (t := 28) ?hr ?_; (case hd => rfl); (case hg => rfl); (case hr => first | (go_simp; done) | (go_simp; rfl)); intro gb101 hg w2 hbox hb; have n0_ := belb HB hb; have n1_ := Aside0.mk (hbox); have n2_ := bels HB hg; have n3_ := bels HB hg; clear HB; have HB := n0_; have BK101 := n1_; have GW101 := n2_; have GE101 := n3_; clear n0_ n1_ n2_ n3_; clear hb hbox hg) | ((with_reducible refine gate_dst (N := 3) rfl ?_); refine box_event ?hg (N := 3) ?hd (cs := #[.bool false, .slice none 0 0]) (t := 28) ?hr ?_; (case hd => rfl); (case hg => rfl); (case hr => first | (go_simp; done) | (go_simp; rfl)); intro gb102 hg w3 hbox hb; have n0_ := blkb BK101 hb; have n1_ := belb HB hb; have n2_ := Aside0.mk (hbox); have n3_ := bels HB hg; have n4_ := bels HB hg; have n5_ := blkl BK101 hg; have n6_ := blkg BK101 hg; clear BK101; clear HB; have BK101 := n0_; have HB := n1_; have BK102 := n2_; have GW102 := n3_; have GE102 := n4_; have NB101_102 := n5_; have NB102_101 := n6_; clear n0_ n1_ n2_ n3_ n4_ n5_ n6_; clear hb hbox hg))
 (try simp only [Act.put, List.setIfInBounds_toArray, List.set_cons_zero, List.set_cons_succ])
 go_loopg [0] k (fun kq v0 w' => ∃ (x0_1 : Int) (x103001_1 : List Int) (u103001 : Value), v0 = .int .u64 x0_1 ∧ Aside0 (turnstoneref01_U.l0 kq x0_1 false x103001_1 = some (r1, r2)) ∧ Aside0 (kq ≤ k) ∧ Aside0 (Kd.R (Kd.int .i64) 3 w' w.heap.size (fun _ => True) u103001 x103001_1) ∧ Aside0 (w'.heap[gb101]? = some (.cells #[.bool false, (.slice none 0 0)] 28 (0, 0))) ∧ Aside0 (w'.heap[gb102]? = some (.cells #[.bool false, u103001] 28 (0, 0))) ∧ Aside0 (Below w.heap.size w w'))
 case atStart => exact ⟨(a0), (([] : List Int)), (.slice none 0 0), (by first | rfl | (simp; done) | (simp [*]; done)), H', ⟨Nat.le_refl _⟩, ⟨by first | exact Kd.R_nil _ _ _ _ _ | exact Kd.N_nil _ _ _ _ _ | exact Kd.V_nil _ _ _ _ _ | exact Kd.Q_nil _ _ _ _ _ | exact Kd.S_nil _ _ _ _ _⟩, ⟨by (with_reducible repeat (first | refine blk_drewN ?_ _ | refine blk_drew ?_ | refine blk_alloc ?_ _)); exact BK101.out⟩, ⟨by (with_reducible repeat (first | refine blk_drewN ?_ _ | refine blk_drew ?_ | refine blk_alloc ?_ _)); exact BK102.out⟩, ⟨by repeat (first | (with_reducible first | exact HB.out | apply below_alloc | apply pw_below_drewN | apply below_drew1 | refine below_set ?_ GE101.out | refine below_set ?_ GE102.out) | exact HB.out)⟩⟩
 case round =>
  clear H'
  try clear c2
  try clear p2
  obtain ⟨x0_1, x103001_1, u103001, rfl, HA, HK1, HO_103001, BK101, BK102, HB⟩ := hrel
  cases gk with
  | zero => exact absurd HA.out (by simp [turnstoneref01_U.l0])
  | succ k1 =>
   have H := HA.out
   clear HA
   simp only [turnstoneref01_U.l0] at H
   by_cases c4 : x0_1 > 0
   ·rw [if_pos c4] at H
    have c4b0 : decide (0 < x0_1) = true := decide_eq_true c4
    clear c4
    by_cases c5 : x103001_1.length < 17592186044416
    ·rw [if_pos c5] at H
     have LMc5 := Aside0.mk c5
     clear c5
     obtain ⟨y103, hy103⟩ : ∃ y_ : List Int, y_ = (x103001_1 ++ [wrap64 (Int.tmod x0_1 10000)]) := ⟨_, rfl⟩
     replace H : (turnstoneref01_U.l0 k1 (IntKind.u64.wrap (Int.tdiv x0_1 10000)) false y103) = some (r1, r2) := by first | (rw [hy103]; with_reducible exact H) | (have H2_ := (Option.bind_some _ _).symm.trans H; rw [hy103]; with_reducible exact H2_) | (have H2_ := (Option.bind_some _ _).symm.trans H; with_reducible exact H2_) | with_reducible exact H | (rw [hy103]; exact H) | exact H
     have Ny103 := Aside0.mk hy103
     clear hy103
     have H' := Aside0.mk H
     clear H
     have hnb6 := NB102_101.out
     have hnc6 := NB101_102.out
     have hcz7_0 : wr.cell? ⟨gb102, 0, none⟩ = some (.bool false) := (blk_cell BK102.out 0).trans rfl
     have hcz7_1 : wr.cell? ⟨gb102, 1, none⟩ = some (u103001) := (blk_cell BK102.out 1).trans rfl
     have hfz7_0 := blk_frozen BK102.out 0
     have hfz7_1 := blk_frozen BK102.out 1
     go_wp2_with (first | ((with_reducible refine gate_builtin (b := .append) (xs := #[.tmp 7, .tmp 11]) rfl ?_); at_builtin; refine Kd.R_append (Kd.int .i64) (w0 := w) w.heap.size rfl (.tmp 7) (.tmp 11) 26 3 (.int .i64 0) 8 rfl Try.underlying26 info3 rfl (by decide) (by omega) u103001 x103001_1 (wrap64 (Int.tmod x0_1 10000)) [.int .i64 (wrap64 (Int.tmod x0_1 10000))] (fun _ => True) (fun _ => False) rfl rfl ?aP (fun _ hk => hk.elim) ?aF ?aO ?aB ?aS ?aL ?_; (case aP => exact rfl); (case aB => exact (belt HB)); (case aF => exact (fun _ _ => trivial)); (case aO => exact (rt HO_103001)); (case aS => exact (below_size (belt HB))); (case aL => have := LMc5.out; omega); intro v104 w8 ho hb hg hat; rw [← Ny103.out] at ho; have n0_ := Aside0.mk (blk_grown (blkt BK101) hg (Kd.R_ne HO_103001.out BK101.out (by decide))); have n1_ := Aside0.mk (blk_grown (blkt BK102) hg (Kd.R_ne HO_103001.out BK102.out (by decide))); have n2_ := Aside0.mk (hb); have n3_ := Aside0.mk (ho); clear BK101; clear BK102; clear HB; clear HO_103001; have BK101 := n0_; have BK102 := n1_; have HB := n2_; have HO105 := n3_; clear n0_ n1_ n2_ n3_; clear ho hb hg hat; obtain ⟨Ao9, co9, eo9⟩ := Kd.R_slice HO105.out; subst eo9; have hcz10_0 : w8.cell? ⟨gb102, 0, none⟩ = some (.bool false) := (blk_cell BK102.out 0).trans rfl; have hcz10_1 : w8.cell? ⟨gb102, 1, none⟩ = some (u103001) := (blk_cell BK102.out 1).trans rfl; have hfz10_0 := blk_frozen BK102.out 0; have hfz10_1 := blk_frozen BK102.out 1))
     go_roundg k1
     case measure => have := HK1.out; omega
     case rel => exact ⟨(IntKind.u64.wrap (Int.tdiv x0_1 10000)), (y103), (.slice Ao9 y103.length co9), (by first | rfl | (simp; done) | (simp [*]; done)), H', ⟨by have := HK1.out; omega⟩, ⟨by (with_reducible repeat (first | apply Kd.R_alloc | apply Kd.R_drewN | apply Kd.R_drew)); exact Kd.R_mono (Kd.R_far (p := ⟨gb102, 1, none⟩) (Kd.R_types HO105.out BK102.out (by decide)) (fun _ hk => hk.2) (.slice Ao9 y103.length co9)) (fun _ hk => trivial)⟩, ⟨by (with_reducible repeat (first | refine blk_drewN ?_ _ | refine blk_drew ?_ | refine blk_alloc ?_ _)); refine blk_far ?_ NB101_102.out _; (with_reducible repeat (first | refine blk_drewN ?_ _ | refine blk_drew ?_ | refine blk_alloc ?_ _)); exact BK101.out⟩, ⟨by (with_reducible repeat (first | refine blk_drewN ?_ _ | refine blk_drew ?_ | refine blk_alloc ?_ _)); refine blk_put (cs := #[.bool false, u103001]) ?_ 1 _ rfl; (with_reducible repeat (first | refine blk_drewN ?_ _ | refine blk_drew ?_ | refine blk_alloc ?_ _)); exact BK102.out⟩, ⟨by repeat (first | (with_reducible first | exact HB.out | apply below_alloc | apply pw_below_drewN | apply below_drew1 | refine below_set ?_ GE101.out | refine below_set ?_ GE102.out) | exact HB.out)⟩⟩
    ·rw [if_neg c5] at H
     exact absurd H (by simp)
   ·rw [if_neg c4] at H
    have c4b0 : decide (0 < x0_1) = false := decide_eq_false c4
    clear c4
    simp only [Option.some.injEq, Prod.mk.injEq] at H
    obtain ⟨rfl, rfl⟩ := H
    have hnb11 := NB102_101.out
    have hnc11 := NB101_102.out
    have hcz12_0 : wr.cell? ⟨gb102, 0, none⟩ = some (.bool false) := (blk_cell BK102.out 0).trans rfl
    have hcz12_1 : wr.cell? ⟨gb102, 1, none⟩ = some (u103001) := (blk_cell BK102.out 1).trans rfl
    have hfz12_0 := blk_frozen BK102.out 0
    have hfz12_1 := blk_frozen BK102.out 1
    have hcz13_0 : wr.cell? ⟨gb101, 0, none⟩ = some (.bool false) := (blk_cell BK101.out 0).trans rfl
    have hcz13_1 : wr.cell? ⟨gb101, 1, none⟩ = some (.slice none 0 0) := (blk_cell BK101.out 1).trans rfl
    have hfz13_0 := blk_frozen BK101.out 0
    have hfz13_1 := blk_frozen BK101.out 1
    obtain ⟨Ao14, co14, eo14⟩ := Kd.R_slice HO_103001.out
    subst eo14
    go_wp2
    refine bodyPost_ret (results_cell_row rfl _ _ gb101 28 #[.bool false, .slice Ao14 x103001_1.length co14] (0, 0) _ rfl (by (with_reducible repeat (first | refine blk_drewN ?_ _ | refine blk_drew ?_ | refine blk_alloc ?_ _)); refine blk_put (cs := #[.bool false, .slice none 0 0]) ?_ 1 _ rfl; (with_reducible repeat (first | refine blk_drewN ?_ _ | refine blk_drew ?_ | refine blk_alloc ?_ _)); refine blk_put (cs := #[.bool false, .slice none 0 0]) ?_ 0 _ rfl; (with_reducible repeat (first | refine blk_drewN ?_ _ | refine blk_drew ?_ | refine blk_alloc ?_ _)); exact BK101.out) Try.underlying28 rfl (by kernel_rfl)) rfl ?_
    exact ⟨_, by first | rfl | (simp [errW_none, errW_some] <;> rfl) | (simp [*, errW_none, errW_some] <;> rfl), by (with_reducible repeat (first | apply Kd.R_alloc | apply Kd.R_drewN | apply Kd.R_drew)); exact Kd.R_mono (Kd.R_far (p := ⟨gb101, 1, none⟩) (Kd.R_far (p := ⟨gb101, 0, none⟩) (Kd.R_types HO_103001.out BK101.out (by decide)) (fun _ hk => hk.2) (.bool false)) (fun _ hk => hk.2) (.slice Ao14 x103001_1.length co14)) (fun _ hk => trivial), by repeat (first | (with_reducible first | exact HB.out | apply below_alloc | apply pw_below_drewN | apply below_drew1 | refine below_set ?_ GE101.out | refine below_set ?_ GE102.out) | exact HB.out)⟩

/-! ### bits_Mul64: function 66 -/
def bits_Mul64.f (a0 : Int) (a1 : Int) : Option (Int × Int) := some (IntKind.u64.wrap ((IntKind.u64.wrap ((IntKind.u64.wrap ((a0 / 4294967296) * (a1 / 4294967296))) + ((IntKind.u64.wrap ((IntKind.u64.wrap ((a0 / 4294967296) * (Go.bits .and .u64 a1 4294967295))) + ((IntKind.u64.wrap ((Go.bits .and .u64 a0 4294967295) * (Go.bits .and .u64 a1 4294967295))) / 4294967296))) / 4294967296))) + ((IntKind.u64.wrap ((Go.bits .and .u64 (IntKind.u64.wrap ((IntKind.u64.wrap ((a0 / 4294967296) * (Go.bits .and .u64 a1 4294967295))) + ((IntKind.u64.wrap ((Go.bits .and .u64 a0 4294967295) * (Go.bits .and .u64 a1 4294967295))) / 4294967296))) 4294967295) + (IntKind.u64.wrap ((Go.bits .and .u64 a0 4294967295) * (a1 / 4294967296))))) / 4294967296)), IntKind.u64.wrap (a0 * a1))
set_option maxHeartbeats 8000000 in
set_option maxRecDepth 100000 in
theorem bits_Mul64.calls (a0 : Int) (a1 : Int) (r1 : Int) (r2 : Int) (w : World) (h : bits_Mul64.f a0 a1 = some (r1, r2)) :
  Calls Try.prog 66 #[.int .u64 a0, .int .u64 a1] w fun e w' => e = .returned (.tuple #[.int .u64 r1, .int .u64 r2]) ∧ Drawn0 w w' := by
 have H : (some (IntKind.u64.wrap ((IntKind.u64.wrap ((IntKind.u64.wrap ((a0 / 4294967296) * (a1 / 4294967296))) + ((IntKind.u64.wrap ((IntKind.u64.wrap ((a0 / 4294967296) * (Go.bits .and .u64 a1 4294967295))) + ((IntKind.u64.wrap ((Go.bits .and .u64 a0 4294967295) * (Go.bits .and .u64 a1 4294967295))) / 4294967296))) / 4294967296))) + ((IntKind.u64.wrap ((Go.bits .and .u64 (IntKind.u64.wrap ((IntKind.u64.wrap ((a0 / 4294967296) * (Go.bits .and .u64 a1 4294967295))) + ((IntKind.u64.wrap ((Go.bits .and .u64 a0 4294967295) * (Go.bits .and .u64 a1 4294967295))) / 4294967296))) 4294967295) + (IntKind.u64.wrap ((Go.bits .and .u64 a0 4294967295) * (a1 / 4294967296))))) / 4294967296)), IntKind.u64.wrap (a0 * a1))) = some (r1, r2) := h
 clear h
 simp only [Option.some.injEq, Prod.mk.injEq] at H
 obtain ⟨rfl, rfl⟩ := H
 go_enter Try.func66, Try.ntmps66
 go_wp2
 go_ret2
 exact ⟨by first | rfl | (simp; done) | (simp [*]; done), by repeat (first | exact Drawn0.refl _ | apply Drawn0.step)⟩

-- bits_Add64: function 67: the model stands in for it

/-! ### bits_Len64: function 93 -/
def bits_Len64.f (a0 : Int) : Option Int := if 0 ≤ a0 ∧ a0 ≤ 18446744073709551615 then some (Lib.bitLen a0.toNat : Int) else none
theorem bits_Len64.calls (x : Int) (r : Int) (w : World) (h : bits_Len64.f x = some r) :
  Calls Try.prog 93 #[.int .u64 x] w fun e w' => e = .returned (.int .i64 r) ∧ Drawn0 w w' := by
 unfold bits_Len64.f at h
 split at h
 ·rename_i hx
  obtain rfl := Option.some.inj h
  refine (len64_calls x w hx.1 hx.2).mono ?_
  rintro e w' ⟨rfl, rfl⟩
  exact ⟨rfl, Drawn0.refl _⟩
 ·cases h

/-! ### bits_LeadingZeros64: function 86 -/
def bits_LeadingZeros64.f (a0 : Int) : Option (Int) := (bits_Len64.f a0).bind fun t106 => (some (wrap64 (64 - t106)))
set_option maxHeartbeats 8000000 in
set_option maxRecDepth 100000 in
theorem bits_LeadingZeros64.calls (a0 : Int) (r : Int) (w : World) (h : bits_LeadingZeros64.f a0 = some r) :
  Calls Try.prog 86 #[.int .u64 a0] w fun e w' => e = .returned (.int .i64 r) ∧ Drawn0 w w' := by
 have H : ((bits_Len64.f a0).bind fun t106 => (some (wrap64 (64 - t106)))) = some r := h
 clear h
 replace H := Option.bind_eq_some_iff.mp H
 obtain ⟨t106, A20, H⟩ := H
 replace H : (some (wrap64 (64 - t106))) = some r := H
 have A2 := Aside0.mk A20
 clear A20
 obtain rfl := Option.some.inj H
 go_enter Try.func86, Try.ntmps86
 go_wp2_with (first | ((with_reducible refine gate_callee (f := 93) rfl ?_); refine goesL_ (some 4) rfl rfl Try.func93 (by kernel_rfl) rfl #[.int .u64 a0] rfl argt ?_; (with_reducible refine (bits_Len64.calls a0 t106 _ A2.out).mono ?_); rintro e w' ⟨rfl, ⟨nd, rfl⟩⟩; refine ⟨_, rfl, ?_⟩))
 go_ret
 exact ⟨by first | rfl | (simp; done) | (simp [*]; done), by repeat (first | exact Drawn0.refl _ | apply Drawn0.step)⟩

end Go.Proofs.Ytimgiiceipjpaaa.Print
