/- What each Go function that is named below answers, as a Lean function, and that its walk comes to just that: for whatever arguments that function gives an answer for. Written by a program of this session (wip/mkpr.py, pr.sh). -/
import Derived.Test.YtimgiiceipjpaaaPrint1000
import Derived.Test.YtimgiiceipjpaaaPrint1001
namespace Go.Proofs.Ytimgiiceipjpaaa.Print
open Go.RowKit Go.Proofs.YtimgiiceipjpaaaW.PrintWords Go.Proofs.YtimgiiceipjpaaaW.PrintLast Go.Proofs.YtimgiiceipjpaaaW.PrintMore
attribute [local go_sem] max2_int min2_int max_two min_two max_three min_three max_four min_four   -- for this text's walks alone
open Go.Proofs.Ytimgiiceipjpaaa.Bits Go.Proofs.Ytimgiiceipjpaaa.Short
attribute [local go_sem] add64_run0 sub64_run0 add64_run sub64_run
set_option linter.unusedVariables false
set_option linter.unusedSimpArgs false

/-! ### turnstoneref04_Word: function 79 -/
def turnstoneref04_Word.l0 : Nat → Int → Int → Bool → List Int → Option (Int)
 | 0, _, _, _, _ => none
 | k + 1, x3, x4, x463000, x463001 => if x4 ≥ 0 then (if 0 ≤ x4 then (if x4 < (x463001.length : Int) then (turnstoneref04_Word.l0 k (IntKind.u64.wrap ((IntKind.u64.wrap (10000 * x3)) + (IntKind.u64.wrap (rd x463001 x4)))) (wrap64 (x4 - 1)) x463000 x463001) else (none)) else (none)) else (some x3)
def turnstoneref04_Word.f (k : Nat) (a0_0 : Bool) (l0_1 : List Int) : Option (Int) := turnstoneref04_Word.l0 k 0 (wrap64 ((l0_1.length : Int) - 1)) a0_0 l0_1
theorem turnstoneref04_Word.mono_l : ∀ k, (∀ y0 y1 y2 y3, LeO (turnstoneref04_Word.l0 k y0 y1 y2 y3) (turnstoneref04_Word.l0 (k + 1) y0 y1 y2 y3))
 | 0 => fun _ _ _ _ r h => by simp [turnstoneref04_Word.l0] at h
 | k + 1 => by
  have ih0 := turnstoneref04_Word.mono_l k
  ·intro y0 y1 y2 y3
   unfold turnstoneref04_Word.l0
   repeat' first
   | (with_reducible exact ih0 _ _ _ _)
   | (with_reducible exact LeO.refl _)
   | (with_reducible exact LeO.none _)
   | (with_reducible refine LeO.ite ?_ ?_)
   | (with_reducible refine LeO.bind ?_ (fun _ => ?_))
   | exact ih0 _ _ _ _
   | exact LeO.none _
   | refine LeO.ite ?_ ?_
   | refine LeO.bind ?_ (fun _ => ?_)
theorem turnstoneref04_Word.mono : ∀ a0 a1 k, LeO (turnstoneref04_Word.f k a0 a1) (turnstoneref04_Word.f (k + 1) a0 a1) := by
 intro a0 a1 k
 have ih0 := turnstoneref04_Word.mono_l k
 unfold turnstoneref04_Word.f
 repeat' first
   | (with_reducible exact ih0 _ _ _ _)
   | (with_reducible exact LeO.refl _)
   | (with_reducible exact LeO.none _)
   | (with_reducible refine LeO.ite ?_ ?_)
   | (with_reducible refine LeO.bind ?_ (fun _ => ?_))
   | exact ih0 _ _ _ _
   | exact LeO.none _
   | refine LeO.ite ?_ ?_
   | refine LeO.bind ?_ (fun _ => ?_)
set_option maxHeartbeats 8000000 in
set_option maxRecDepth 100000 in
theorem turnstoneref04_Word.calls (k : Nat) (a0_0 : Bool) (A0_1 : Option Addr) (c0_1 : Nat) (l0_1 : List Int) (r : Int) (w : World) (hr0_1 : Kd.C (Kd.int .i64) w A0_1 l0_1.length l0_1) (hc0_1 : l0_1.length ≤ c0_1) (h : turnstoneref04_Word.f k a0_0 l0_1 = some r) :
  Calls Try.prog 79 #[.agg #[.bool a0_0, .slice A0_1 l0_1.length c0_1]] w fun e w' => e = .returned (.int .u64 r) ∧ Below w.heap.size w w' := by
 have hu28 := Try.underlying28
 have HR0_1 := Aside0.mk hr0_1
 have HC0_1 := Aside0.mk hc0_1
 clear hr0_1 hc0_1
 have HB := Aside0.mk (Below.refl w.heap.size w)
 have H : (turnstoneref04_Word.l0 k 0 (wrap64 ((l0_1.length : Int) - 1)) a0_0 l0_1) = some r := h
 clear h
 have H' := Aside0.mk H
 clear H
 go_enter Try.func79, Try.ntmps79
 go_wp2_with (first | ((with_reducible refine gate_dst (N := 1) rfl ?_); refine box_event ?hg (N := 1) ?hd (cs := #[.bool a0_0, .slice A0_1 l0_1.length c0_1]) (t := 28) ?hr ?_; (case hd => rfl); (case hg => rfl); (case hr => first | (go_simp; done) | (go_simp; rfl)); intro gb462 hg w2 hbox hb; have BK462 := Aside0.mk (hbox); have GW462 := bels HB hg; have GE462 := bels HB hg; replace HB := belb HB hb; clear hb hbox hg; have hcz3_0 : w2.cell? ⟨gb462, 0, none⟩ = some (.bool a0_0) := bc BK462 0; have hcz3_1 : w2.cell? ⟨gb462, 1, none⟩ = some (.slice A0_1 l0_1.length c0_1) := bc BK462 1; have hfz3_0 := blk_frozen BK462.out 0; have hfz3_1 := blk_frozen BK462.out 1))
 (try simp only [Act.put, List.setIfInBounds_toArray, List.set_cons_zero, List.set_cons_succ])
 go_loopg [3, 4] k (fun kq v3 v4 w' => ∃ (x3_1 : Int) (x4_1 : Int), v3 = .int .u64 x3_1 ∧ v4 = .int .i64 x4_1 ∧ Aside0 (turnstoneref04_Word.l0 kq x3_1 x4_1 a0_0 l0_1 = some r) ∧ Aside0 (kq ≤ k) ∧ Aside0 (w'.heap[gb462]? = some (.cells #[.bool a0_0, (.slice A0_1 l0_1.length c0_1)] 28 (0, 0))) ∧ Aside0 (Below w.heap.size w w'))
 case atStart => exact ⟨(0), (wrap64 ((l0_1.length : Int) - 1)), (by first | rfl | (simp; done) | (simp [*]; done)), (by first | rfl | (simp; done) | (simp [*]; done)), H', ⟨Nat.le_refl _⟩, ⟨blkt BK462⟩, ⟨belt HB⟩⟩
 case round =>
  clear H'
  try clear p2
  try clear hcz3_0
  try clear hcz3_1
  try clear hfz3_0
  try clear hfz3_1
  obtain ⟨x3_1, x4_1, rfl, rfl, HA, HK1, BK462, HB⟩ := hrel
  cases gk with
  | zero => exact absurd HA.out (by simp [turnstoneref04_Word.l0])
  | succ k1 =>
   have H := HA.out
   clear HA
   simp only [turnstoneref04_Word.l0] at H
   by_cases c4 : x4_1 ≥ 0
   ·rw [if_pos c4] at H
    have c4b0 : decide (0 ≤ x4_1) = true := decide_eq_true c4
    clear c4
    by_cases c5 : 0 ≤ x4_1
    ·rw [if_pos c5] at H
     have c5b0 : decide (0 ≤ x4_1) = true := decide_eq_true c5
     clear c5
     by_cases c6 : x4_1 < (l0_1.length : Int)
     ·rw [if_pos c6] at H
      have c6b0 : decide (x4_1 < (l0_1.length : Int)) = true := decide_eq_true c6
      clear c6
      have H' := Aside0.mk H
      clear H
      have hcz7_0 : wr.cell? ⟨gb462, 0, none⟩ = some (.bool a0_0) := bc BK462 0
      have hcz7_1 : wr.cell? ⟨gb462, 1, none⟩ = some (.slice A0_1 l0_1.length c0_1) := bc BK462 1
      have hfz7_0 := blk_frozen BK462.out 0
      have hfz7_1 := blk_frozen BK462.out 1
      have p463 : 0 ≤ (x4_1 : Int) := of_decide_eq_true (by first | (with_reducible assumption) | assumption)
      have q463 : x4_1 < (l0_1.length : Int) := of_decide_eq_true (by first | (with_reducible assumption) | assumption)
      obtain ⟨ad463, e463, hx463_0⟩ := Kd.at_int HR0_1.out x4_1 p463 q463
      cases e463
      replace hx463_0 := (HB.out.cell (World.block_lt_of_cell? w _ hx463_0)).trans hx463_0
      replace p463 := eq_true p463
      replace q463 := eq_true q463
      go_wp2
      go_roundg k1
      case measure => have := HK1.out; omega
      case rel => exact ⟨(IntKind.u64.wrap ((IntKind.u64.wrap (10000 * x3_1)) + (IntKind.u64.wrap (rd l0_1 x4_1)))), (wrap64 (x4_1 - 1)), (by first | rfl | (simp; done) | (simp [*]; done)), (by first | rfl | (simp; done) | (simp [*]; done)), H', ⟨by have := HK1.out; omega⟩, ⟨blkt BK462⟩, ⟨belt HB⟩⟩
     rw [if_neg c6] at H
     exact absurd H (by simp)
    rw [if_neg c5] at H
    exact absurd H (by simp)
   rw [if_neg c4] at H
   have c4b0 : decide (0 ≤ x4_1) = false := decide_eq_false c4
   clear c4
   obtain rfl := Option.some.inj H
   go_wp2
   go_ret
   exact ⟨by first | rfl | (simp [errW_none, errW_some] <;> rfl) | (simp [*, errW_none, errW_some] <;> rfl), belt HB⟩


/-! ### turnstoneref04_At: function 46 -/
def turnstoneref04_At.j0 : Nat → Int → Int → Bool → Bool → List Int → Option (Int × Int × Int × Bool)
 | 0, _, _, _, _, _ => none
 | k + 1, x0, x2, x15, x465000, x465001 => if x15 = true then (some (0, 0, 0, false)) else ((turnstoneref01_Div.f k x465000 x465001 (wrap64 (x2))).bind fun bt466 => ((turnstoneref01_Small.f k bt466.1 bt466.2.1).bind fun t472 => (if t472 = true then ((turnstoneref01_U.f k x0).bind fun bt473 => ((turnstoneref01_Add.f k bt473.1 bt473.2 bt466.1 bt466.2.1).bind fun bt477 => ((turnstoneref03_Round.f k bt477.1 bt477.2).bind fun bt481 => ((turnstoneref04_Word.f k bt481.1 bt481.2).bind fun t485 => (some (t485, (bt466.2.2) % 4294967296, x2, true)))))) else (some (0, 0, 0, false)))))
def turnstoneref04_At.f (k : Nat) (a0 : Int) (a1_0 : Bool) (l1_1 : List Int) (a2 : Int) : Option (Int × Int × Int × Bool) := if a2 < 1 then (turnstoneref04_At.j0 k a0 a2 true a1_0 l1_1) else (turnstoneref04_At.j0 k a0 a2 (decide (a2 > 1048576)) a1_0 l1_1)
theorem turnstoneref04_At.mono_l : ∀ k, (∀ y0 y1 y2 y3 y4, LeO (turnstoneref04_At.j0 k y0 y1 y2 y3 y4) (turnstoneref04_At.j0 (k + 1) y0 y1 y2 y3 y4))
 | 0 => fun _ _ _ _ _ r h => by simp [turnstoneref04_At.j0] at h
 | k + 1 => by
  have ih0 := turnstoneref04_At.mono_l k
  ·intro y0 y1 y2 y3 y4
   unfold turnstoneref04_At.j0
   repeat' first
   | (with_reducible exact ih0 _ _ _ _ _)
   | (with_reducible exact turnstoneref01_Add.mono _ _ _ _ _)
   | (with_reducible exact turnstoneref01_Div.mono _ _ _ _)
   | (with_reducible exact turnstoneref01_Small.mono _ _ _)
   | (with_reducible exact turnstoneref01_U.mono _ _)
   | (with_reducible exact turnstoneref03_Round.mono _ _ _)
   | (with_reducible exact turnstoneref04_Word.mono _ _ _)
   | (with_reducible exact LeO.refl _)
   | (with_reducible exact LeO.none _)
   | (with_reducible refine LeO.ite ?_ ?_)
   | (with_reducible refine LeO.bind ?_ (fun _ => ?_))
   | exact ih0 _ _ _ _ _
   | exact turnstoneref01_Add.mono _ _ _ _ _
   | exact turnstoneref01_Div.mono _ _ _ _
   | exact turnstoneref01_Small.mono _ _ _
   | exact turnstoneref01_U.mono _ _
   | exact turnstoneref03_Round.mono _ _ _
   | exact turnstoneref04_Word.mono _ _ _
   | exact LeO.none _
   | refine LeO.ite ?_ ?_
   | refine LeO.bind ?_ (fun _ => ?_)
theorem turnstoneref04_At.mono : ∀ a0 a1 a2 a3 k, LeO (turnstoneref04_At.f k a0 a1 a2 a3) (turnstoneref04_At.f (k + 1) a0 a1 a2 a3) := by
 intro a0 a1 a2 a3 k
 have ih0 := turnstoneref04_At.mono_l k
 unfold turnstoneref04_At.f
 repeat' first
   | (with_reducible exact ih0 _ _ _ _ _)
   | (with_reducible exact turnstoneref01_Add.mono _ _ _ _ _)
   | (with_reducible exact turnstoneref01_Div.mono _ _ _ _)
   | (with_reducible exact turnstoneref01_Small.mono _ _ _)
   | (with_reducible exact turnstoneref01_U.mono _ _)
   | (with_reducible exact turnstoneref03_Round.mono _ _ _)
   | (with_reducible exact turnstoneref04_Word.mono _ _ _)
   | (with_reducible exact LeO.refl _)
   | (with_reducible exact LeO.none _)
   | (with_reducible refine LeO.ite ?_ ?_)
   | (with_reducible refine LeO.bind ?_ (fun _ => ?_))
   | exact ih0 _ _ _ _ _
   | exact turnstoneref01_Add.mono _ _ _ _ _
   | exact turnstoneref01_Div.mono _ _ _ _
   | exact turnstoneref01_Small.mono _ _ _
   | exact turnstoneref01_U.mono _ _
   | exact turnstoneref03_Round.mono _ _ _
   | exact turnstoneref04_Word.mono _ _ _
   | exact LeO.none _
   | refine LeO.ite ?_ ?_
   | refine LeO.bind ?_ (fun _ => ?_)
def turnstoneref04_At.T6 : Bool × List (List Nat × List Nat) := (true, [([], []), ([0], [0]), ([], []), ([1, 2, 1], [1, 2]), ([3, 3], [3]), ([4, 4], [4]), ([], []), ([6], [6]), ([], []), ([5, 7, 8], [5, 7, 8]), ([9, 5, 0, 1, 2, 3, 4, 5, 6, 7, 8, 9], [9]), ([10, 0, 1, 2, 3, 4, 5, 6, 7, 8, 9, 10], [])])
def turnstoneref04_At.B6 : List Nat := [0, 1, 0, 7, 15, 31, 0, 64, 0, 511, 1023, 2047]
theorem turnstoneref04_At.tab6 : rtab .any (opsOf Try.f46 6) = turnstoneref04_At.T6 := by kernel_rfl
theorem turnstoneref04_At.bits6 : waitsOk turnstoneref04_At.T6.2 turnstoneref04_At.B6 = true := by kernel_rfl
set_option maxHeartbeats 8000000 in
set_option maxRecDepth 100000 in
theorem turnstoneref04_At.calls (k : Nat) (a0 : Int) (a1_0 : Bool) (A1_1 : Option Addr) (c1_1 : Nat) (l1_1 : List Int) (a2 : Int) (r1 : Int) (r2 : Int) (r3 : Int) (r4 : Bool) (w : World) (hr1_1 : Kd.C (Kd.int .i64) w A1_1 l1_1.length l1_1) (hc1_1 : l1_1.length ≤ c1_1) (h : turnstoneref04_At.f k a0 a1_0 l1_1 a2 = some (r1, r2, r3, r4)) :
  Calls Try.prog 46 #[.int .u64 a0, .agg #[.bool a1_0, .slice A1_1 l1_1.length c1_1], .int .u32 a2] w fun e w' => e = .returned (.tuple #[.agg #[.int .u64 r1, .int .u32 r2, .int .u32 r3], .bool r4]) ∧ Below w.heap.size w w' := by
 have hu28 := Try.underlying28
 have hu71 := Try.underlying71
 have HR1_1 := Aside0.mk hr1_1
 have HC1_1 := Aside0.mk hc1_1
 clear hr1_1 hc1_1
 have HB := Aside0.mk (Below.refl w.heap.size w)
 have H : (if a2 < 1 then (turnstoneref04_At.j0 k a0 a2 true a1_0 l1_1) else (turnstoneref04_At.j0 k a0 a2 (decide (a2 > 1048576)) a1_0 l1_1)) = some (r1, r2, r3, r4) := h
 clear h
 have HC4 := Aside0.mk H
 clear H
 go_enter Try.func46, Try.ntmps46
 go_upto_region 1 with (first | ((with_reducible refine gate_dst (N := 4) rfl ?_); refine box_event ?hg (N := 4) ?hd (cs := #[.bool a1_0, .slice A1_1 l1_1.length c1_1]) (t := 28) ?hr ?_; (case hd => rfl); (case hg => rfl); (case hr => first | (go_simp; done) | (go_simp; rfl)); intro gb464 hg w5 hbox hb; have BK464 := Aside0.mk (hbox); have GW464 := bels HB hg; have GE464 := bels HB hg; replace HB := belb HB hb; clear hb hbox hg) | ((with_reducible refine gate_dst (N := 6) rfl ?_); refine box_event ?hg (N := 6) ?hd (cs := #[.int .u64 0, .int .u32 0, .int .u32 0]) (t := 71) ?hr ?_; (case hd => rfl); (case hg => rfl); (case hr => first | (go_simp; done) | (go_simp; rfl)); intro gb465 hg w6 hbox hb; have BK465 := Aside0.mk (hbox); have GW465 := bels HB hg; have GE465 := bels HB hg; have NB464_465 := blkl BK464 hg; have NB465_464 := blkg BK464 hg; replace BK464 := blkb BK464 hb; replace HB := belb HB hb; clear hb hbox hg))
 (try simp only [Act.put, List.setIfInBounds_toArray, List.set_cons_zero, List.set_cons_succ])
 go_cut [15] (fun v15 wc => ∃ (kq : Nat) (x15_3 : Bool), v15 = .bool x15_3 ∧ Aside0 (turnstoneref04_At.j0 kq a0 a2 x15_3 a1_0 l1_1 = some (r1, r2, r3, r4)) ∧ Aside0 (kq ≤ k) ∧ Aside0 (wc.heap[gb464]? = some (.cells #[.bool a1_0, (.slice A1_1 l1_1.length c1_1)] 28 (0, 0))) ∧ Aside0 (wc.heap[gb465]? = some (.cells #[.int .u64 0, .int .u32 0, .int .u32 0] 71 (0, 0))) ∧ Aside0 (Below w.heap.size w wc))
 case first =>
  have H := HC4.out
  clear HC4
  by_cases c7 : a2 < 1
  ·rw [if_pos c7] at H
   have c7b0 : decide (a2 < 1) = true := decide_eq_true c7
   clear c7
   (first | rw [c7b0] | (simp only [i64_w, i32_w]; rw [c7b0]) | skip)
   have H' := Aside0.mk H
   clear H
   go_wp2
   go_meet
   case rel => exact ⟨_, (true), (by first | rfl | (simp; done) | (simp [*]; done)), H', ⟨by first | omega | exact Nat.le_refl _⟩, ⟨blkt BK464⟩, ⟨blkt BK465⟩, ⟨belt HB⟩⟩
  rw [if_neg c7] at H
  have c7b0 : decide (a2 < 1) = false := decide_eq_false c7
  clear c7
  (first | rw [c7b0] | (simp only [i64_w, i32_w]; rw [c7b0]) | skip)
  have H' := Aside0.mk H
  clear H
  go_wp2
  go_meet
  case rel => exact ⟨_, (decide (a2 > 1048576)), (by first | rfl | (simp; done) | (simp [*]; done)), H', ⟨by first | omega | exact Nat.le_refl _⟩, ⟨blkt BK464⟩, ⟨blkt BK465⟩, ⟨belt HB⟩⟩
 case rest =>
  clear HC4
  try clear c1
  try clear p2
  try clear c4
  try clear c7
  try clear c7b0
  obtain ⟨kq, x15_3, rfl, HA, HJ3, BK464, BK465, HB⟩ := hcut
  cases kq with
  | zero => exact absurd HA.out (by simp [turnstoneref04_At.j0])
  | succ kj3 =>
   have H := HA.out
   clear HA
   simp only [turnstoneref04_At.j0] at H
   by_cases c8 : x15_3 = true
   ·subst c8
    have H1 : (some (0, 0, 0, false)) = some (r1, r2, r3, r4) := by rw [if_pos rfl] at H; exact H
    clear H
    have H := H1
    clear H1
    simp only [Option.some.injEq, Prod.mk.injEq] at H
    obtain ⟨rfl, rfl, rfl, rfl⟩ := H
    have hnb9 := NB465_464.out
    have hnc9 := NB464_465.out
    have hcz10_0 : wc.cell? ⟨gb465, 0, none⟩ = some (.int .u64 0) := bc BK465 0
    have hcz10_1 : wc.cell? ⟨gb465, 1, none⟩ = some (.int .u32 0) := bc BK465 1
    have hcz10_2 : wc.cell? ⟨gb465, 2, none⟩ = some (.int .u32 0) := bc BK465 2
    have hfz10_0 := blk_frozen BK465.out 0
    have hfz10_1 := blk_frozen BK465.out 1
    have hfz10_2 := blk_frozen BK465.out 2
    go_wp2
    refine bodyPost_ret (results_ct rfl _ _ gb465 71 #[.int .u64 0, .int .u32 0, .int .u32 0] (0, 0) _ rfl (by (with_reducible repeat (first | refine blk_drewN ?_ _ | refine blk_drew ?_ | refine blk_alloc ?_ _)); refine blk_put (cs := #[.int .u64 0, .int .u32 0, .int .u32 0]) ?_ 2 _ rfl; (with_reducible repeat (first | refine blk_drewN ?_ _ | refine blk_drew ?_ | refine blk_alloc ?_ _)); refine blk_put (cs := #[.int .u64 0, .int .u32 0, .int .u32 0]) ?_ 1 _ rfl; (with_reducible repeat (first | refine blk_drewN ?_ _ | refine blk_drew ?_ | refine blk_alloc ?_ _)); refine blk_put (cs := #[.int .u64 0, .int .u32 0, .int .u32 0]) ?_ 0 _ rfl; exact blkt BK465) Try.underlying71 rfl (by kernel_rfl)) rfl ?_
    exact ⟨by first | rfl | (simp [errW_none, errW_some] <;> rfl) | (simp [*, errW_none, errW_some] <;> rfl), belt HB⟩
   replace c8 := Bool.eq_false_iff.mpr c8
   subst c8
   have H1 : ((turnstoneref01_Div.f kj3 a1_0 l1_1 (wrap64 (a2))).bind fun bt466 => ((turnstoneref01_Small.f kj3 bt466.1 bt466.2.1).bind fun t472 => (if t472 = true then ((turnstoneref01_U.f kj3 a0).bind fun bt473 => ((turnstoneref01_Add.f kj3 bt473.1 bt473.2 bt466.1 bt466.2.1).bind fun bt477 => ((turnstoneref03_Round.f kj3 bt477.1 bt477.2).bind fun bt481 => ((turnstoneref04_Word.f kj3 bt481.1 bt481.2).bind fun t485 => (some (t485, (bt466.2.2) % 4294967296, a2, true)))))) else (some (0, 0, 0, false))))) = some (r1, r2, r3, r4) := by rw [if_neg (show ¬ (false = true) by decide)] at H; exact H
   clear H
   have H := H1
   clear H1
   replace H := Option.bind_eq_some_iff.mp H
   obtain ⟨⟨t466, t467, t470⟩, A110, H⟩ := H
   replace H : ((turnstoneref01_Small.f kj3 t466 t467).bind fun t472 => (if t472 = true then ((turnstoneref01_U.f kj3 a0).bind fun bt473 => ((turnstoneref01_Add.f kj3 bt473.1 bt473.2 t466 t467).bind fun bt477 => ((turnstoneref03_Round.f kj3 bt477.1 bt477.2).bind fun bt481 => ((turnstoneref04_Word.f kj3 bt481.1 bt481.2).bind fun t485 => (some (t485, (t470) % 4294967296, a2, true)))))) else (some (0, 0, 0, false)))) = some (r1, r2, r3, r4) := H
   have A11 := Aside0.mk A110
   clear A110
   replace H := Option.bind_eq_some_iff.mp H
   obtain ⟨t472, A120, H⟩ := H
   replace H : (if t472 = true then ((turnstoneref01_U.f kj3 a0).bind fun bt473 => ((turnstoneref01_Add.f kj3 bt473.1 bt473.2 t466 t467).bind fun bt477 => ((turnstoneref03_Round.f kj3 bt477.1 bt477.2).bind fun bt481 => ((turnstoneref04_Word.f kj3 bt481.1 bt481.2).bind fun t485 => (some (t485, (t470) % 4294967296, a2, true)))))) else (some (0, 0, 0, false))) = some (r1, r2, r3, r4) := H
   have A12 := Aside0.mk A120
   clear A120
   by_cases c13 : t472 = true
   ·subst c13
    have H1 : ((turnstoneref01_U.f kj3 a0).bind fun bt473 => ((turnstoneref01_Add.f kj3 bt473.1 bt473.2 t466 t467).bind fun bt477 => ((turnstoneref03_Round.f kj3 bt477.1 bt477.2).bind fun bt481 => ((turnstoneref04_Word.f kj3 bt481.1 bt481.2).bind fun t485 => (some (t485, (t470) % 4294967296, a2, true)))))) = some (r1, r2, r3, r4) := by rw [if_pos rfl] at H; exact H
    clear H
    have H := H1
    clear H1
    replace H := Option.bind_eq_some_iff.mp H
    obtain ⟨⟨t473, t474⟩, A140, H⟩ := H
    replace H : ((turnstoneref01_Add.f kj3 t473 t474 t466 t467).bind fun bt477 => ((turnstoneref03_Round.f kj3 bt477.1 bt477.2).bind fun bt481 => ((turnstoneref04_Word.f kj3 bt481.1 bt481.2).bind fun t485 => (some (t485, (t470) % 4294967296, a2, true))))) = some (r1, r2, r3, r4) := H
    have A14 := Aside0.mk A140
    clear A140
    replace H := Option.bind_eq_some_iff.mp H
    obtain ⟨⟨t477, t478⟩, A150, H⟩ := H
    replace H : ((turnstoneref03_Round.f kj3 t477 t478).bind fun bt481 => ((turnstoneref04_Word.f kj3 bt481.1 bt481.2).bind fun t485 => (some (t485, (t470) % 4294967296, a2, true)))) = some (r1, r2, r3, r4) := H
    have A15 := Aside0.mk A150
    clear A150
    replace H := Option.bind_eq_some_iff.mp H
    obtain ⟨⟨t481, t482⟩, A160, H⟩ := H
    replace H : ((turnstoneref04_Word.f kj3 t481 t482).bind fun t485 => (some (t485, (t470) % 4294967296, a2, true))) = some (r1, r2, r3, r4) := H
    have A16 := Aside0.mk A160
    clear A160
    replace H := Option.bind_eq_some_iff.mp H
    obtain ⟨t485, A170, H⟩ := H
    replace H : (some (t485, (t470) % 4294967296, a2, true)) = some (r1, r2, r3, r4) := H
    have A17 := Aside0.mk A170
    clear A170
    simp only [Option.some.injEq, Prod.mk.injEq] at H
    obtain ⟨rfl, rfl, rfl, rfl⟩ := H
    have hnb18 := NB464_465.out
    have hnc18 := NB465_464.out
    have hcz19_0 : wc.cell? ⟨gb464, 0, none⟩ = some (.bool a1_0) := bc BK464 0
    have hcz19_1 : wc.cell? ⟨gb464, 1, none⟩ = some (.slice A1_1 l1_1.length c1_1) := bc BK464 1
    have hfz19_0 := blk_frozen BK464.out 0
    have hfz19_1 := blk_frozen BK464.out 1
    try go_wp2_with (first | ((with_reducible refine gate_callee (f := 77) rfl ?_); refine goesL_ (some 21) rfl rfl Try.func77 (by kernel_rfl) rfl #[.agg #[.bool a1_0, .slice A1_1 l1_1.length c1_1], .int .i64 (wrap64 (a2))] rfl argt ?_; (with_reducible refine (turnstoneref01_Div.calls kj3 a1_0 _ _ l1_1 (wrap64 (a2)) t466 t467 t470 _ ?side1 ?side2 A11.out).mono ?_); (case side1 => exact (ct (Kd.C_below HR1_1.out HB.out))); (case side2 => exact HC1_1.out); rintro e w20 ⟨v468, rfl, ho0, hb⟩; refine ⟨_, rfl, ?_⟩; have HO469 := Aside0.mk (Kd.V_lower (Kd.V_mono (ok' := fun k_ => k_ ≠ gb464 ∧ k_ ≠ gb465) ho0 (fun k_ hk_ => ⟨(Kd.freshB (blkt BK464) k_ hk_), (Kd.freshB (blkt BK465) k_ hk_)⟩)) (below_size (belt HB))); replace BK464 := blkb BK464 hb; replace BK465 := blkb BK465 hb; replace HB := belb HB hb; (try clear hb); (try clear hb2); (try clear hk); (try clear hi); (try clear ho0)) | ((with_reducible refine gate_dst (N := 8) rfl ?_); refine box_event ?hg (N := 8) ?hd (cs := #[.bool false, .slice none 0 0]) (t := 28) ?hr ?_; (case hd => rfl); (case hg => rfl); (case hr => first | (go_simp; done) | (go_simp; rfl)); intro gb471 hg w21 hbox hb; replace HO469 := Aside0.mk (Kd.V_below (Kd.V_elderB (vt HO469) gb471 (Nat.le_of_eq hg.symm)) hb); have BK471 := Aside0.mk (hbox); have GW471 := bels HB hg; have GE471 := bels HB hg; have NB464_471 := blkl BK464 hg; have NB471_464 := blkg BK464 hg; have NB465_471 := blkl BK465 hg; have NB471_465 := blkg BK465 hg; replace BK464 := blkb BK464 hb; replace BK465 := blkb BK465 hb; replace HB := belb HB hb; clear hb hbox hg; have hnb22 := NB471_464.out; have hnc22 := NB464_471.out; have hnb23 := NB471_465.out; have hnc23 := NB465_471.out; have hcz24_0 : w21.cell? ⟨gb471, 0, none⟩ = some (.bool false) := bc BK471 0; have hcz24_1 : w21.cell? ⟨gb471, 1, none⟩ = some (.slice none 0 0) := bc BK471 1; have hfz24_0 := blk_frozen BK471.out 0; have hfz24_1 := blk_frozen BK471.out 1; obtain ⟨Ao25, co25, eo25⟩ := Kd.V_slice HO469.out; subst eo25) | ((with_reducible refine gate_callee (f := 78) rfl ?_); refine goesL_ (some 25) rfl rfl Try.func78 (by kernel_rfl) rfl #[.agg #[.bool t466, .slice Ao25 t467.length co25]] rfl argt ?_; (with_reducible refine (turnstoneref01_Small.calls kj3 t466 _ _ t467 true _ ?side1 ?side2 A12.out).mono ?_); (case side1 => refine (Kd.V_reads' (e := 3) (base := w.heap.size) (ok := fun k_ => ((k_ ≠ gb464 ∧ k_ ≠ gb465) ∧ k_ ≠ gb471)) (n := t467.length) (c := co25) ?_).2.2; exact (by (with_reducible repeat (first | apply Kd.V_alloc | apply Kd.V_drewN | apply Kd.V_drew)); exact (Kd.V_mono (Kd.V_far (p := ⟨gb471, 1, none⟩) (Kd.V_far (p := ⟨gb471, 0, none⟩) (Kd.V_mono HO469.out (fun k_ hk => (⟨hk, hk.2⟩ : _ ∧ k_ ≠ gb471))) (fun _ hk => hk.2) (.bool t466)) (fun _ hk => hk.2) (.slice Ao25 t467.length co25)) (fun _ h_ => h_.1)))); (case side2 => exact (Kd.V_reads' HO469.out).2.1); rintro e w26 ⟨rfl, hb⟩; refine ⟨_, rfl, ?_⟩; replace HO469 := Aside0.mk (Kd.V_below (by (with_reducible repeat (first | apply Kd.V_alloc | apply Kd.V_drewN | apply Kd.V_drew)); exact (Kd.V_mono (Kd.V_far (p := ⟨gb471, 1, none⟩) (Kd.V_far (p := ⟨gb471, 0, none⟩) (Kd.V_mono HO469.out (fun k_ hk => (⟨hk, hk.2⟩ : _ ∧ k_ ≠ gb471))) (fun _ hk => hk.2) (.bool t466)) (fun _ hk => hk.2) (.slice Ao25 t467.length co25)) (fun _ h_ => h_.1))) hb); replace BK464 := Aside0.mk (blk_below (g := gb464) (o := .cells #[.bool a1_0, .slice A1_1 l1_1.length c1_1] 28 (0, 0)) (by (with_reducible repeat (first | refine blk_drewN ?_ _ | refine blk_drew ?_ | refine blk_alloc ?_ _)); refine blk_far ?_ NB464_471.out _; (with_reducible repeat (first | refine blk_drewN ?_ _ | refine blk_drew ?_ | refine blk_alloc ?_ _)); refine blk_far ?_ NB464_471.out _; exact blkt BK464) hb); replace BK465 := Aside0.mk (blk_below (g := gb465) (o := .cells #[.int .u64 0, .int .u32 0, .int .u32 0] 71 (0, 0)) (by (with_reducible repeat (first | refine blk_drewN ?_ _ | refine blk_drew ?_ | refine blk_alloc ?_ _)); refine blk_far ?_ NB465_471.out _; (with_reducible repeat (first | refine blk_drewN ?_ _ | refine blk_drew ?_ | refine blk_alloc ?_ _)); refine blk_far ?_ NB465_471.out _; exact blkt BK465) hb); replace BK471 := Aside0.mk (blk_below (g := gb471) (o := .cells #[.bool t466, .slice Ao25 t467.length co25] 28 (0, 0)) (by (with_reducible repeat (first | refine blk_drewN ?_ _ | refine blk_drew ?_ | refine blk_alloc ?_ _)); refine blk_put (cs := #[.bool t466, .slice none 0 0]) ?_ 1 _ rfl; (with_reducible repeat (first | refine blk_drewN ?_ _ | refine blk_drew ?_ | refine blk_alloc ?_ _)); refine blk_put (cs := #[.bool false, .slice none 0 0]) ?_ 0 _ rfl; exact blkt BK471) hb); replace HB := belb HB hb; (try clear hb); (try clear hb2); (try clear hk); (try clear hi)))
    replace HO469 := Aside0.mk (Kd.V_drew HO469.out)
    replace BK464 := Aside0.mk (blk_drew BK464.out)
    replace BK465 := Aside0.mk (blk_drew BK465.out)
    replace BK471 := Aside0.mk (blk_drew BK471.out)
    replace HB := Aside0.mk (below_drew1 HB.out)
    refine start_ (n := 12) (S := fun w' => w'.cell? ⟨gb471, 0, none⟩ = some (.bool t466) ∧ w'.cell? ⟨gb471, 1, none⟩ = some (.slice Ao25 t467.length co25)) (ds := []) #[false, false, false, false, false, false, false, false, false, false, false, false] (by kernel_rfl) rfl rfl ⟨bc BK471 0, bc BK471 1⟩ (fun hHeld => ?_); refine with_tabW turnstoneref04_At.tab6 turnstoneref04_At.bits6 (fun HT_ HW_ => ?_)
    generalize w26.drew = w27 at HO469 BK464 BK465 BK471 HB hHeld ⊢
    refine pure_ (i := 0) (N := some 28) (v := ?_) (a' := ?_) #[true, false, false, false, false, false, false, false, false, false, false, false] rfl rfl (any_of HT_.out (by kernel_rfl)) (fun _ _ _ h => h) (Or.inl ⟨by rfl, ?_⟩) ?_ ?_
    rotate_left
    ·intro w'
     go_simp
     with_reducible rfl
    rotate_left
    ·simp only [Act.put, List.setIfInBounds_toArray, List.set_cons_zero, List.set_cons_succ, i64_w, i32_w]
     rfl
    refine pure_ (i := 6) (N := some 34) (v := ?_) (a' := ?_) #[true, false, false, false, false, false, true, false, false, false, false, false] rfl rfl (any_of HT_.out (by kernel_rfl)) (fun _ _ _ h => h) (Or.inl ⟨by rfl, ?_⟩) ?_ ?_
    rotate_left
    ·intro w'
     go_simp
     with_reducible rfl
    rotate_left
    ·simp only [Act.put, List.setIfInBounds_toArray, List.set_cons_zero, List.set_cons_succ, i64_w, i32_w]
     rfl
    refine pure_ (i := 7) (N := some 35) (v := ?_) (a' := ?_) #[true, false, false, false, false, false, true, true, false, false, false, false] rfl rfl (any_of HT_.out (by kernel_rfl)) (fun _ _ _ h => h) (Or.inl ⟨by rfl, ?_⟩) ?_ ?_
    rotate_left
    ·intro w'
     go_simp
     with_reducible rfl
    rotate_left
    ·simp only [Act.put, List.setIfInBounds_toArray, List.set_cons_zero, List.set_cons_succ, i64_w, i32_w]
     rfl
    refine pure_ (i := 8) (N := some 36) (v := ?_) (a' := ?_) #[true, false, false, false, false, false, true, true, true, false, false, false] rfl rfl (any_of HT_.out (by kernel_rfl)) (fun _ _ _ h => h) (Or.inl ⟨by rfl, ?_⟩) ?_ ?_
    rotate_left
    ·intro w'
     go_simp
     with_reducible rfl
    rotate_left
    ·simp only [Act.put, List.setIfInBounds_toArray, List.set_cons_zero, List.set_cons_succ, i64_w, i32_w]
     rfl
    refine take_ (i := 2) (N := some 30) (v := ?_) (a' := ?_) #[true, false, true, false, false, false, true, true, true, false, false, false] rfl rfl (take_ofW HT_.out HW_.out (by kernel_rfl)) (fun _ _ _ h => h) (Or.inl ⟨by rfl, ?_⟩) hHeld ?_ ?_
    rotate_left
    ·rintro w' ⟨s0, s1⟩
     go_simp
     with_reducible rfl
    rotate_left
    ·simp only [Act.put, List.setIfInBounds_toArray, List.set_cons_zero, List.set_cons_succ, i64_w, i32_w]
     rfl
    refine one_ (i := 1) (N := some 29) #[true, true, true, false, false, false, true, true, true, false, false, false] rfl rfl (one_of HT_.out (by kernel_rfl)) (by decide) (fun K hK => ?_)
    refine goes_ Try.func24 (by kernel_rfl) rfl #[.int .u64 a0] (by rfl) rfl rfl argt ?_
    with_reducible refine (turnstoneref01_U.calls kj3 a0 t473 t474 _ A14.out).mono ?_
    rintro e w28 ⟨v475, rfl, ho0, hb⟩
    refine ⟨_, rfl, ?_⟩
    replace HO469 := Aside0.mk (Kd.V_elder' (vt HO469) (Kd.R_base ho0) hb)
    have HO476 := Aside0.mk (Kd.R_lower ho0 (below_size (belt HB)))
    replace BK464 := blkb BK464 hb
    replace BK465 := blkb BK465 hb
    replace BK471 := blkb BK471 hb
    replace HB := belb HB hb
    (try clear hb)
    (try clear hb2)
    (try clear hk)
    (try clear hi)
    (try clear ho0)
    obtain ⟨Ao29, co29, eo29⟩ := Kd.R_slice HO476.out
    (first | subst eo29 | (injection eo29 with f1_ f2_ f3_; have f4_ := f1_.symm; have f5_ := f3_.symm; clear f1_ f2_ f3_; subst f4_; subst f5_))
    refine hK.out _ _ ⟨bc BK471 0, bc BK471 1⟩ (fun hHeld => ?_)
    clear hK K
    refine norm_ (a' := ?_) ?_ ?_
    rotate_left
    ·show Act.put _ (some 29) _ = _
     simp only [Act.put, List.setIfInBounds_toArray, List.set_cons_zero, List.set_cons_succ, i64_w, i32_w]
     rfl
    refine one_ (i := 3) (N := some 31) #[true, true, true, true, false, false, true, true, true, false, false, false] rfl rfl (one_of HT_.out (by kernel_rfl)) (by decide) (fun K hK => ?_)
    refine goes_ Try.func27 (by kernel_rfl) rfl #[.agg #[.bool t473, .slice Ao29 t474.length co29], .agg #[.bool t466, .slice Ao25 t467.length co25]] (by rfl) rfl rfl argt ?_
    with_reducible refine (turnstoneref01_Add.calls kj3 t473 _ _ t474 t466 _ _ t467 t477 t478 _ ?side1 ?side2 ?side3 ?side4 A15.out).mono ?_
    (case side1 => repeat (first | exact (Kd.R_reads' HO476.out).2.2 | (with_reducible refine Kd.C_alloc ?_ _) | (with_reducible refine Kd.C_drewN ?_ _) | (with_reducible refine Kd.C_drew ?_)))
    (case side2 => exact (Kd.R_reads' HO476.out).2.1)
    (case side3 => repeat (first | exact (Kd.V_reads' HO469.out).2.2 | (with_reducible refine Kd.C_alloc ?_ _) | (with_reducible refine Kd.C_drewN ?_ _) | (with_reducible refine Kd.C_drew ?_)))
    (case side4 => exact (Kd.V_reads' HO469.out).2.1)
    rintro e w30 ⟨v479, rfl, ho0, hb⟩
    refine ⟨_, rfl, ?_⟩
    replace HO469 := vb HO469 hb
    have HO480 := Aside0.mk (Kd.V_lower (Kd.V_mono (ok' := fun k_ => some k_ ≠ (.slice Ao29 t474.length co29 : Value).ownBlock ∧ k_ ≠ gb464 ∧ k_ ≠ gb465 ∧ k_ ≠ gb471) ho0 (fun k_ hk_ => ⟨(Kd.fresh' (Kd.R_lt (rt HO476)) k_ hk_), (Kd.freshB (blkt BK464) k_ hk_), (Kd.freshB (blkt BK465) k_ hk_), (Kd.freshB (blkt BK471) k_ hk_)⟩)) (below_size (belt HB)))
    replace HO476 := rb HO476 hb
    replace BK464 := blkb BK464 hb
    replace BK465 := blkb BK465 hb
    replace BK471 := blkb BK471 hb
    replace HB := belb HB hb
    (try clear hb)
    (try clear hb2)
    (try clear hk)
    (try clear hi)
    (try clear ho0)
    obtain ⟨Ao31, co31, eo31⟩ := Kd.V_slice HO480.out
    (first | subst eo31 | (injection eo31 with f1_ f2_ f3_; have f4_ := f1_.symm; have f5_ := f3_.symm; clear f1_ f2_ f3_; subst f4_; subst f5_))
    refine hK.out _ _ ⟨bc BK471 0, bc BK471 1⟩ (fun hHeld => ?_)
    clear hK K
    refine norm_ (a' := ?_) ?_ ?_
    rotate_left
    ·show Act.put _ (some 31) _ = _
     simp only [Act.put, List.setIfInBounds_toArray, List.set_cons_zero, List.set_cons_succ, i64_w, i32_w]
     rfl
    refine one_ (i := 4) (N := some 32) #[true, true, true, true, true, false, true, true, true, false, false, false] rfl rfl (one_of HT_.out (by kernel_rfl)) (by decide) (fun K hK => ?_)
    refine goes_ Try.func26 (by kernel_rfl) rfl #[.agg #[.bool t477, .slice Ao31 t478.length co31]] (by rfl) rfl rfl argt ?_
    with_reducible refine (turnstoneref03_Round.calls kj3 t477 (fun k_ => (some k_ ≠ (.slice Ao29 t474.length co29 : Value).ownBlock ∧ (k_ ≠ gb464 ∧ (k_ ≠ gb465 ∧ k_ ≠ gb471)))) _ _ t478 t481 t482 _ ?side1 A16.out).mono ?_
    (case side1 => exact HO480.out)
    rintro e w32 ⟨v483, rfl, ho0, hb⟩
    refine ⟨_, rfl, ?_⟩
    replace HO469 := vb HO469 hb
    replace HO480 := vb HO480 hb
    have HO484 := Aside0.mk (Kd.V_lower (Kd.V_mono (ok' := fun k_ => some k_ ≠ (.slice Ao29 t474.length co29 : Value).ownBlock ∧ k_ ≠ gb464 ∧ k_ ≠ gb465 ∧ k_ ≠ gb471) ho0 (fun k_ hk_ => ⟨Or.elim hk_ (fun hs_ => hs_.1) (fun hn_ => (Kd.fresh' (Kd.R_lt (rt HO476)) k_ hn_)), Or.elim hk_ (fun hs_ => hs_.2.1) (fun hn_ => (Kd.freshB (blkt BK464) k_ hn_)), Or.elim hk_ (fun hs_ => hs_.2.2.1) (fun hn_ => (Kd.freshB (blkt BK465) k_ hn_)), Or.elim hk_ (fun hs_ => hs_.2.2.2) (fun hn_ => (Kd.freshB (blkt BK471) k_ hn_))⟩)) (below_size (belt HB)))
    replace HO476 := rb HO476 hb
    replace BK464 := blkb BK464 hb
    replace BK465 := blkb BK465 hb
    replace BK471 := blkb BK471 hb
    replace HB := belb HB hb
    (try clear hb)
    (try clear hb2)
    (try clear hk)
    (try clear hi)
    (try clear ho0)
    obtain ⟨Ao33, co33, eo33⟩ := Kd.V_slice HO484.out
    (first | subst eo33 | (injection eo33 with f1_ f2_ f3_; have f4_ := f1_.symm; have f5_ := f3_.symm; clear f1_ f2_ f3_; subst f4_; subst f5_))
    refine hK.out _ _ ⟨bc BK471 0, bc BK471 1⟩ (fun hHeld => ?_)
    clear hK K
    refine norm_ (a' := ?_) ?_ ?_
    rotate_left
    ·show Act.put _ (some 32) _ = _
     simp only [Act.put, List.setIfInBounds_toArray, List.set_cons_zero, List.set_cons_succ, i64_w, i32_w]
     rfl
    refine one_ (i := 5) (N := some 33) #[true, true, true, true, true, true, true, true, true, false, false, false] rfl rfl (one_of HT_.out (by kernel_rfl)) (by decide) (fun K hK => ?_)
    refine goes_ Try.func79 (by kernel_rfl) rfl #[.agg #[.bool t481, .slice Ao33 t482.length co33]] (by rfl) rfl rfl argt ?_
    with_reducible refine (turnstoneref04_Word.calls kj3 t481 _ _ t482 t485 _ ?side1 ?side2 A17.out).mono ?_
    (case side1 => repeat (first | exact (Kd.V_reads' HO484.out).2.2 | (with_reducible refine Kd.C_alloc ?_ _) | (with_reducible refine Kd.C_drewN ?_ _) | (with_reducible refine Kd.C_drew ?_)))
    (case side2 => exact (Kd.V_reads' HO484.out).2.1)
    rintro e w34 ⟨rfl, hb⟩
    refine ⟨_, rfl, ?_⟩
    replace HO469 := vb HO469 hb
    replace HO476 := rb HO476 hb
    replace HO480 := vb HO480 hb
    replace HO484 := vb HO484 hb
    replace BK464 := blkb BK464 hb
    replace BK465 := blkb BK465 hb
    replace BK471 := blkb BK471 hb
    replace HB := belb HB hb
    (try clear hb)
    (try clear hb2)
    (try clear hk)
    (try clear hi)
    refine hK.out _ _ ⟨bc BK471 0, bc BK471 1⟩ (fun hHeld => ?_)
    clear hK K
    refine norm_ (a' := ?_) ?_ ?_
    rotate_left
    ·show Act.put _ (some 33) _ = _
     simp only [Act.put, List.setIfInBounds_toArray, List.set_cons_zero, List.set_cons_succ, i64_w, i32_w]
     rfl
    refine pure_ (i := 9) (N := some 37) (v := ?_) (a' := ?_) #[true, true, true, true, true, true, true, true, true, true, false, false] rfl rfl (any_of HT_.out (by kernel_rfl)) (fun _ _ _ h => h) (Or.inl ⟨by rfl, ?_⟩) ?_ ?_
    rotate_left
    ·intro w'
     go_simp
     with_reducible rfl
    rotate_left
    ·simp only [Act.put, List.setIfInBounds_toArray, List.set_cons_zero, List.set_cons_succ, i64_w, i32_w]
     rfl
    refine one_ (i := 10) (N := none) #[true, true, true, true, true, true, true, true, true, true, true, false] rfl rfl (one_of HT_.out (by kernel_rfl)) (by decide) (fun K hK => ?_)
    have hs35 : w34.cell? ⟨gb465, 0, none⟩ = some (.int .u64 0) := bc BK465 0
    have hfs35 := blk_frozen BK465.out 0
    have hns35_0 := NB464_465.out
    have hns35_2 := NB471_465.out
    have hms35_0 := NB465_464.out
    have hms35_2 := NB465_471.out
    have hs36 : w34.cell? ⟨gb465, 1, none⟩ = some (.int .u32 0) := bc BK465 1
    have hfs36 := blk_frozen BK465.out 1
    have hns36_0 := NB464_465.out
    have hns36_2 := NB471_465.out
    have hms36_0 := NB465_464.out
    have hms36_2 := NB465_471.out
    have hs37 : w34.cell? ⟨gb465, 2, none⟩ = some (.int .u32 0) := bc BK465 2
    have hfs37 := blk_frozen BK465.out 2
    have hns37_0 := NB464_465.out
    have hns37_2 := NB471_465.out
    have hms37_0 := NB465_464.out
    have hms37_2 := NB465_471.out
    refine skip_ (w1 := ?_) (by rfl) rfl ?_ ?_
    rotate_left
    ·go_simp
     rfl
    refine hK.out _ _ ⟨((cell_far (p := ⟨gb465, _, none⟩) NB471_465.out _).trans (((cell_far (p := ⟨gb465, _, none⟩) NB471_465.out _).trans (((cell_far (p := ⟨gb465, _, none⟩) NB471_465.out _).trans (hHeld.1)))))), ((cell_far (p := ⟨gb465, _, none⟩) NB471_465.out _).trans (((cell_far (p := ⟨gb465, _, none⟩) NB471_465.out _).trans (((cell_far (p := ⟨gb465, _, none⟩) NB471_465.out _).trans (hHeld.2))))))⟩ (fun hHeld => ?_)
    clear hK K
    refine pure_ (i := 11) (N := some 7) (v := ?_) (a' := ?_) #[true, true, true, true, true, true, true, true, true, true, true, true] rfl rfl (any_of HT_.out (by kernel_rfl)) (fun _ _ _ h => h) (Or.inl ⟨by rfl, ?_⟩) ?_ ?_
    rotate_left
    ·intro w'
     go_simp
     with_reducible rfl
    rotate_left
    ·simp only [Act.put, List.setIfInBounds_toArray, List.set_cons_zero, List.set_cons_succ, i64_w, i32_w]
     rfl
    refine done_ (done_of HT_.out (by kernel_rfl)) ?_
    try go_wp2
    refine bodyPost_ret (results_ct rfl _ _ gb465 71 #[.int .u64 t485, .int .u32 ((t470) % 4294967296), .int .u32 a2] (0, 0) _ rfl (by (with_reducible repeat (first | refine blk_drewN ?_ _ | refine blk_drew ?_ | refine blk_alloc ?_ _)); refine blk_put (cs := #[.int .u64 t485, .int .u32 ((t470) % 4294967296), .int .u32 0]) ?_ 2 _ rfl; (with_reducible repeat (first | refine blk_drewN ?_ _ | refine blk_drew ?_ | refine blk_alloc ?_ _)); refine blk_put (cs := #[.int .u64 t485, .int .u32 0, .int .u32 0]) ?_ 1 _ rfl; (with_reducible repeat (first | refine blk_drewN ?_ _ | refine blk_drew ?_ | refine blk_alloc ?_ _)); refine blk_put (cs := #[.int .u64 0, .int .u32 0, .int .u32 0]) ?_ 0 _ rfl; exact blkt BK465) Try.underlying71 rfl (by kernel_rfl)) rfl ?_
    exact ⟨by first | rfl | (simp [errW_none, errW_some] <;> rfl) | (simp [*, errW_none, errW_some] <;> rfl), belt HB⟩
   replace c13 := Bool.eq_false_iff.mpr c13
   subst c13
   have H1 : (some (0, 0, 0, false)) = some (r1, r2, r3, r4) := by rw [if_neg (show ¬ (false = true) by decide)] at H; exact H
   clear H
   have H := H1
   clear H1
   simp only [Option.some.injEq, Prod.mk.injEq] at H
   obtain ⟨rfl, rfl, rfl, rfl⟩ := H
   have hnb38 := NB464_465.out
   have hnc38 := NB465_464.out
   have hcz39_0 : wc.cell? ⟨gb464, 0, none⟩ = some (.bool a1_0) := bc BK464 0
   have hcz39_1 : wc.cell? ⟨gb464, 1, none⟩ = some (.slice A1_1 l1_1.length c1_1) := bc BK464 1
   have hfz39_0 := blk_frozen BK464.out 0
   have hfz39_1 := blk_frozen BK464.out 1
   go_wp2_with (first | ((with_reducible refine gate_callee (f := 77) rfl ?_); refine goesL_ (some 21) rfl rfl Try.func77 (by kernel_rfl) rfl #[.agg #[.bool a1_0, .slice A1_1 l1_1.length c1_1], .int .i64 (wrap64 (a2))] rfl argt ?_; (with_reducible refine (turnstoneref01_Div.calls kj3 a1_0 _ _ l1_1 (wrap64 (a2)) t466 t467 t470 _ ?side1 ?side2 A11.out).mono ?_); (case side1 => exact (ct (Kd.C_below HR1_1.out HB.out))); (case side2 => exact HC1_1.out); rintro e w40 ⟨v468, rfl, ho0, hb⟩; refine ⟨_, rfl, ?_⟩; have HO469 := Aside0.mk (Kd.V_lower (Kd.V_mono (ok' := fun k_ => k_ ≠ gb464 ∧ k_ ≠ gb465) ho0 (fun k_ hk_ => ⟨(Kd.freshB (blkt BK464) k_ hk_), (Kd.freshB (blkt BK465) k_ hk_)⟩)) (below_size (belt HB))); replace BK464 := blkb BK464 hb; replace BK465 := blkb BK465 hb; replace HB := belb HB hb; (try clear hb); (try clear hb2); (try clear hk); (try clear hi); (try clear ho0)) | ((with_reducible refine gate_dst (N := 8) rfl ?_); refine box_event ?hg (N := 8) ?hd (cs := #[.bool false, .slice none 0 0]) (t := 28) ?hr ?_; (case hd => rfl); (case hg => rfl); (case hr => first | (go_simp; done) | (go_simp; rfl)); intro gb471 hg w41 hbox hb; replace HO469 := Aside0.mk (Kd.V_below (Kd.V_elderB (vt HO469) gb471 (Nat.le_of_eq hg.symm)) hb); have BK471 := Aside0.mk (hbox); have GW471 := bels HB hg; have GE471 := bels HB hg; have NB464_471 := blkl BK464 hg; have NB471_464 := blkg BK464 hg; have NB465_471 := blkl BK465 hg; have NB471_465 := blkg BK465 hg; replace BK464 := blkb BK464 hb; replace BK465 := blkb BK465 hb; replace HB := belb HB hb; clear hb hbox hg; have hnb42 := NB471_464.out; have hnc42 := NB464_471.out; have hnb43 := NB471_465.out; have hnc43 := NB465_471.out; have hcz44_0 : w41.cell? ⟨gb471, 0, none⟩ = some (.bool false) := bc BK471 0; have hcz44_1 : w41.cell? ⟨gb471, 1, none⟩ = some (.slice none 0 0) := bc BK471 1; have hfz44_0 := blk_frozen BK471.out 0; have hfz44_1 := blk_frozen BK471.out 1; obtain ⟨Ao45, co45, eo45⟩ := Kd.V_slice HO469.out; subst eo45) | ((with_reducible refine gate_callee (f := 78) rfl ?_); refine goesL_ (some 25) rfl rfl Try.func78 (by kernel_rfl) rfl #[.agg #[.bool t466, .slice Ao45 t467.length co45]] rfl argt ?_; (with_reducible refine (turnstoneref01_Small.calls kj3 t466 _ _ t467 false _ ?side1 ?side2 A12.out).mono ?_); (case side1 => refine (Kd.V_reads' (e := 3) (base := w.heap.size) (ok := fun k_ => ((k_ ≠ gb464 ∧ k_ ≠ gb465) ∧ k_ ≠ gb471)) (n := t467.length) (c := co45) ?_).2.2; exact (by (with_reducible repeat (first | apply Kd.V_alloc | apply Kd.V_drewN | apply Kd.V_drew)); exact (Kd.V_mono (Kd.V_far (p := ⟨gb471, 1, none⟩) (Kd.V_far (p := ⟨gb471, 0, none⟩) (Kd.V_mono HO469.out (fun k_ hk => (⟨hk, hk.2⟩ : _ ∧ k_ ≠ gb471))) (fun _ hk => hk.2) (.bool t466)) (fun _ hk => hk.2) (.slice Ao45 t467.length co45)) (fun _ h_ => h_.1)))); (case side2 => exact (Kd.V_reads' HO469.out).2.1); rintro e w46 ⟨rfl, hb⟩; refine ⟨_, rfl, ?_⟩; replace HO469 := Aside0.mk (Kd.V_below (by (with_reducible repeat (first | apply Kd.V_alloc | apply Kd.V_drewN | apply Kd.V_drew)); exact (Kd.V_mono (Kd.V_far (p := ⟨gb471, 1, none⟩) (Kd.V_far (p := ⟨gb471, 0, none⟩) (Kd.V_mono HO469.out (fun k_ hk => (⟨hk, hk.2⟩ : _ ∧ k_ ≠ gb471))) (fun _ hk => hk.2) (.bool t466)) (fun _ hk => hk.2) (.slice Ao45 t467.length co45)) (fun _ h_ => h_.1))) hb); replace BK464 := Aside0.mk (blk_below (g := gb464) (o := .cells #[.bool a1_0, .slice A1_1 l1_1.length c1_1] 28 (0, 0)) (by (with_reducible repeat (first | refine blk_drewN ?_ _ | refine blk_drew ?_ | refine blk_alloc ?_ _)); refine blk_far ?_ NB464_471.out _; (with_reducible repeat (first | refine blk_drewN ?_ _ | refine blk_drew ?_ | refine blk_alloc ?_ _)); refine blk_far ?_ NB464_471.out _; exact blkt BK464) hb); replace BK465 := Aside0.mk (blk_below (g := gb465) (o := .cells #[.int .u64 0, .int .u32 0, .int .u32 0] 71 (0, 0)) (by (with_reducible repeat (first | refine blk_drewN ?_ _ | refine blk_drew ?_ | refine blk_alloc ?_ _)); refine blk_far ?_ NB465_471.out _; (with_reducible repeat (first | refine blk_drewN ?_ _ | refine blk_drew ?_ | refine blk_alloc ?_ _)); refine blk_far ?_ NB465_471.out _; exact blkt BK465) hb); replace BK471 := Aside0.mk (blk_below (g := gb471) (o := .cells #[.bool t466, .slice Ao45 t467.length co45] 28 (0, 0)) (by (with_reducible repeat (first | refine blk_drewN ?_ _ | refine blk_drew ?_ | refine blk_alloc ?_ _)); refine blk_put (cs := #[.bool t466, .slice none 0 0]) ?_ 1 _ rfl; (with_reducible repeat (first | refine blk_drewN ?_ _ | refine blk_drew ?_ | refine blk_alloc ?_ _)); refine blk_put (cs := #[.bool false, .slice none 0 0]) ?_ 0 _ rfl; exact blkt BK471) hb); replace HB := belb HB hb; (try clear hb); (try clear hb2); (try clear hk); (try clear hi); have hcz47_0 : w46.cell? ⟨gb465, 0, none⟩ = some (.int .u64 0) := bc BK465 0; have hcz47_1 : w46.cell? ⟨gb465, 1, none⟩ = some (.int .u32 0) := bc BK465 1; have hcz47_2 : w46.cell? ⟨gb465, 2, none⟩ = some (.int .u32 0) := bc BK465 2; have hfz47_0 := blk_frozen BK465.out 0; have hfz47_1 := blk_frozen BK465.out 1; have hfz47_2 := blk_frozen BK465.out 2))
   refine bodyPost_ret (results_ct rfl _ _ gb465 71 #[.int .u64 0, .int .u32 0, .int .u32 0] (0, 0) _ rfl (by (with_reducible repeat (first | refine blk_drewN ?_ _ | refine blk_drew ?_ | refine blk_alloc ?_ _)); refine blk_put (cs := #[.int .u64 0, .int .u32 0, .int .u32 0]) ?_ 2 _ rfl; (with_reducible repeat (first | refine blk_drewN ?_ _ | refine blk_drew ?_ | refine blk_alloc ?_ _)); refine blk_put (cs := #[.int .u64 0, .int .u32 0, .int .u32 0]) ?_ 1 _ rfl; (with_reducible repeat (first | refine blk_drewN ?_ _ | refine blk_drew ?_ | refine blk_alloc ?_ _)); refine blk_put (cs := #[.int .u64 0, .int .u32 0, .int .u32 0]) ?_ 0 _ rfl; exact blkt BK465) Try.underlying71 rfl (by kernel_rfl)) rfl ?_
   exact ⟨by first | rfl | (simp [errW_none, errW_some] <;> rfl) | (simp [*, errW_none, errW_some] <;> rfl), belt HB⟩

end Go.Proofs.Ytimgiiceipjpaaa.Print
