/- What each Go function that is named below answers, as a Lean function, and that its walk comes to just that: for whatever arguments that function gives an answer for. Written by a program of this session (wip/mkpr.py, pr.sh). -/
import Derived.Test.YtfbkamgdkdnpoaaGreatDoorProg
import Derived.Below
import Derived.Deep.Draws
import Derived.Deep.AppendLies
import Derived.Maps.AppendAt
import Derived.OwnWalk
import Derived.Laws.BytesArg
import Derived.Laws.MakeOwn
import Derived.Laws.OwnMore
import Derived.Deep.OwnRows
import Derived.Tactics
import Derived.Lib.ConvBytes
import Derived.Laws.Slices
import Derived.WalkKit
import Derived.KernelRfl
import Derived.RowKit3
import Derived.Deep.LoopGhost
import Derived.Deep.QuietTactic
import Derived.BigQuiet
import Derived.WideLaws
import Derived.Deep.DeepCutAuto
import Derived.Deep.CutBlock
import Derived.Deep.RegionHeld3
import Derived.Laws.Rows
import Derived.Lib.AppendStr
import Derived.ArgAppend
import Derived.Laws.IdiomCopy
import Derived.OrdersHeld
import Derived.Laws.BitsLemmas
import Derived.RowKit
import Derived.Test.YtfbkamgdkdnpoaaGreatDoorBits
import Derived.Test.YtfbkamgdkdnpoaaGreatDoorShort
import Derived.Test.YtfbkamgdkdnpoaaGreatDoorAwake
import Derived.Test.YtfbkamgdkdnpoaaGreatDoorWAll
namespace Go.Proofs.YtfbkamgdkdnpoaaGreatDoor.Print
open Go.RowKit Go.Proofs.YtfbkamgdkdnpoaaGreatDoorW.PrintWords Go.Proofs.YtfbkamgdkdnpoaaGreatDoorW.PrintLast Go.Proofs.YtfbkamgdkdnpoaaGreatDoorW.PrintMore
attribute [local go_sem] max2_int min2_int max_two min_two max_three min_three max_four min_four   -- for this text's walks alone
open Go.Proofs.YtfbkamgdkdnpoaaGreatDoor.Bits Go.Proofs.YtfbkamgdkdnpoaaGreatDoor.Short
attribute [local go_sem] add64_run0 sub64_run0 add64_run sub64_run
set_option linter.unusedVariables false
set_option linter.unusedSimpArgs false



def errW : Option Int → Value
 | none => .nilIface
 | some c => .iface 0 (.int .i64 c)
theorem errW_none : errW none = .nilIface := rfl
theorem errW_some (c : Int) : errW (some c) = .iface 0 (.int .i64 c) := rfl

theorem info3 : (Tryz.prog.info? 3).map (fun i => (i.zero, i.size, i.bytes)) = some (some (.int .i64 0), 1, 8) := by kernel_rfl
theorem info31 : (Tryz.prog.info? 31).map (fun i => (i.zero, i.size, i.bytes)) = some (some (.agg #[(.int .i64 0), (.int .u64 0)]), 2, 16) := by kernel_rfl
-- the values' own types
/-! #### struct type 28 -/
structure S28 where
 f0 : Int
 f1 : Int
 f2 : Int
def z28 : S28 := ⟨(0 : Int), (0 : Int), (0 : Int)⟩
def k28 : Kd S28 := Kd.iso (Kd.pair (Kd.int .u64) (Kd.pair (Kd.int .u32) (Kd.int .u32))) (fun x : S28 => (x.f0, x.f1, x.f2))
theorem k28_open {w : World} {x : S28} {cs : List Value} (h : k28.K w x cs) : cs = [.int .u64 x.f0, .int .u32 x.f1, .int .u32 x.f2] := by
 obtain ⟨_, _, rfl, rfl, ⟨_, _, rfl, rfl, rfl⟩⟩ := h
 exact rfl
theorem k28_openM {w : World} {base : Nat} {ok : Nat → Prop} {x : S28} {cs : List Value} (h : k28.M w base ok x cs) : cs = [.int .u64 x.f0, .int .u32 x.f1, .int .u32 x.f2] := by
 obtain ⟨_, _, rfl, rfl, ⟨_, _, rfl, rfl, rfl⟩⟩ := h
 exact rfl
theorem k28_mk (w : World) (x : S28)  : k28.K w x [.int .u64 x.f0, .int .u32 x.f1, .int .u32 x.f2] := ⟨[.int .u64 x.f0], [.int .u32 x.f1, .int .u32 x.f2], rfl, rfl, ⟨[.int .u32 x.f1], [.int .u32 x.f2], rfl, rfl, rfl⟩⟩
theorem k28_mkM (w : World) (base : Nat) (ok : Nat → Prop) (x : S28)  : k28.M w base ok x [.int .u64 x.f0, .int .u32 x.f1, .int .u32 x.f2] := ⟨[.int .u64 x.f0], [.int .u32 x.f1, .int .u32 x.f2], rfl, rfl, ⟨[.int .u32 x.f1], [.int .u32 x.f2], rfl, rfl, rfl⟩⟩
def rd_T28 (xs : List S28) (i : Int) : S28 := xs.getD i.toNat z28
theorem at_T28 {w : World} {A : Option Addr} {n : Nat} {xs : List S28} (h : Kd.C k28 w A n xs) (i : Int) (h0 : 0 ≤ i) (h1 : i < n) : ∃ ad , A = some ad ∧ w.cell? (ad.add (i.toNat * 3)) = some (.int .u64 (rd_T28 xs i).f0) ∧ w.cell? ⟨(ad.add (i.toNat * 3)).block, (ad.add (i.toNat * 3)).off + 1, none⟩ = some (.int .u32 (rd_T28 xs i).f1) ∧ w.cell? ⟨(ad.add (i.toNat * 3)).block, (ad.add (i.toNat * 3)).off + 2, none⟩ = some (.int .u32 (rd_T28 xs i).f2) := by
 obtain ⟨ad, c, e, _, hK, hc0⟩ := Kd.C_get h z28 i h0 h1
 have hc : ∀ j u, c[j]? = some u → w.cell? (ad.add (i.toNat * 3 + j)) = some u := hc0
 obtain rfl := k28_open hK
 exact ⟨ad, e, hc 0 _ rfl, by rw [← add_field _ _ 1 (by omega)]; exact hc 1 _ rfl, by rw [← add_field _ _ 2 (by omega)]; exact hc 2 _ rfl⟩

/-! #### struct type 31 -/
structure S31 where
 f0 : Int
 f1 : Int
def z31 : S31 := ⟨(0 : Int), (0 : Int)⟩
def k31 : Kd S31 := Kd.iso (Kd.pair (Kd.int .i64) (Kd.int .u64)) (fun x : S31 => (x.f0, x.f1))
theorem k31_open {w : World} {x : S31} {cs : List Value} (h : k31.K w x cs) : cs = [.int .i64 x.f0, .int .u64 x.f1] := by
 obtain ⟨_, _, rfl, rfl, rfl⟩ := h
 exact rfl
theorem k31_openM {w : World} {base : Nat} {ok : Nat → Prop} {x : S31} {cs : List Value} (h : k31.M w base ok x cs) : cs = [.int .i64 x.f0, .int .u64 x.f1] := by
 obtain ⟨_, _, rfl, rfl, rfl⟩ := h
 exact rfl
theorem k31_mk (w : World) (x : S31)  : k31.K w x [.int .i64 x.f0, .int .u64 x.f1] := ⟨[.int .i64 x.f0], [.int .u64 x.f1], rfl, rfl, rfl⟩
theorem k31_mkM (w : World) (base : Nat) (ok : Nat → Prop) (x : S31)  : k31.M w base ok x [.int .i64 x.f0, .int .u64 x.f1] := ⟨[.int .i64 x.f0], [.int .u64 x.f1], rfl, rfl, rfl⟩
def rd_T31 (xs : List S31) (i : Int) : S31 := xs.getD i.toNat z31
theorem at_T31 {w : World} {A : Option Addr} {n : Nat} {xs : List S31} (h : Kd.C k31 w A n xs) (i : Int) (h0 : 0 ≤ i) (h1 : i < n) : ∃ ad , A = some ad ∧ w.cell? (ad.add (i.toNat * 2)) = some (.int .i64 (rd_T31 xs i).f0) ∧ w.cell? ⟨(ad.add (i.toNat * 2)).block, (ad.add (i.toNat * 2)).off + 1, none⟩ = some (.int .u64 (rd_T31 xs i).f1) := by
 obtain ⟨ad, c, e, _, hK, hc0⟩ := Kd.C_get h z31 i h0 h1
 have hc : ∀ j u, c[j]? = some u → w.cell? (ad.add (i.toNat * 2 + j)) = some u := hc0
 obtain rfl := k31_open hK
 exact ⟨ad, e, hc 0 _ rfl, by rw [← add_field _ _ 1 (by omega)]; exact hc 1 _ rfl⟩

def wfS28 (x : S28) : Prop := (Lit.int .u64 x.f0).wf = true ∧ (Lit.int .u32 x.f1).wf = true ∧ (Lit.int .u32 x.f2).wf = true
def wfS31 (x : S31) : Prop := (Lit.int .i64 x.f0).wf = true ∧ (Lit.int .u64 x.f1).wf = true

theorem eqA31 (d : Nat) (w : World) (x0 y0 : Int) (x1 y1 : Int) :
  (Op.equalIn (d + 2) 31 (.agg #[.int .i64 x0, .int .u64 x1]) (.agg #[.int .i64 y0, .int .u64 y1])).run Tryz.prog w = .ok (x0 == y0 && (x1 == y1)) w := by
 refine eqA_of Tryz.underlying31 (by kernel_rfl) ?_
 refine eqf_cons (by rfl) (by go_simp; rfl) (by go_simp; rfl) (by go_simp) ?_
 exact eqf_last (by rfl) (by go_simp; rfl) (by go_simp; rfl) (by go_simp)

/-! ### wide_Int_Add: function 57 -/
def wide_Int_Add.f (a0_0 : Int) (a0_1 : Int) (a1_0 : Int) (a1_1 : Int) : Option (Int × Int × Bool) := if (addHi a0_1 a1_1 0) ≤ 1 then (if ((decide (a0_0 < 0)) == (decide (a1_0 < 0))) = true then (if ((decide (a0_0 < 0)) != (decide ((wrap64 ((addLo (IntKind.u64.wrap (a0_0)) (IntKind.u64.wrap (a1_0)) (addHi a0_1 a1_1 0)))) < 0))) = true then (some (0, 0, false)) else (some (wrap64 ((addLo (IntKind.u64.wrap (a0_0)) (IntKind.u64.wrap (a1_0)) (addHi a0_1 a1_1 0))), (addLo a0_1 a1_1 0), true))) else (some (wrap64 ((addLo (IntKind.u64.wrap (a0_0)) (IntKind.u64.wrap (a1_0)) (addHi a0_1 a1_1 0))), (addLo a0_1 a1_1 0), true))) else (none)
set_option maxHeartbeats 8000000 in
set_option maxRecDepth 100000 in
theorem wide_Int_Add.calls (a0_0 : Int) (a0_1 : Int) (a1_0 : Int) (a1_1 : Int) (r1 : Int) (r2 : Int) (r3 : Bool) (w : World) (h : wide_Int_Add.f a0_0 a0_1 a1_0 a1_1 = some (r1, r2, r3)) :
  Calls Tryz.prog 57 #[.agg #[.int .i64 a0_0, .int .u64 a0_1], .agg #[.int .i64 a1_0, .int .u64 a1_1]] w fun e w' => e = .returned (.tuple #[.agg #[.int .i64 r1, .int .u64 r2], .bool r3]) ∧ Below w.heap.size w w' := by
 have hu31 := Tryz.underlying31
 have HB := Aside0.mk (Below.refl w.heap.size w)
 have H : (if (addHi a0_1 a1_1 0) ≤ 1 then (if ((decide (a0_0 < 0)) == (decide (a1_0 < 0))) = true then (if ((decide (a0_0 < 0)) != (decide ((wrap64 ((addLo (IntKind.u64.wrap (a0_0)) (IntKind.u64.wrap (a1_0)) (addHi a0_1 a1_1 0)))) < 0))) = true then (some (0, 0, false)) else (some (wrap64 ((addLo (IntKind.u64.wrap (a0_0)) (IntKind.u64.wrap (a1_0)) (addHi a0_1 a1_1 0))), (addLo a0_1 a1_1 0), true))) else (some (wrap64 ((addLo (IntKind.u64.wrap (a0_0)) (IntKind.u64.wrap (a1_0)) (addHi a0_1 a1_1 0))), (addLo a0_1 a1_1 0), true))) else (none)) = some (r1, r2, r3) := h
 clear h
 by_cases c3 : (addHi a0_1 a1_1 0) ≤ 1
 ·rw [if_pos c3] at H
  have c3b0 : decide ((addHi a0_1 a1_1 0) ≤ 1) = true := decide_eq_true c3
  clear c3
  by_cases c4 : ((decide (a0_0 < 0)) == (decide (a1_0 < 0))) = true
  ·rw [if_pos c4] at H
   have c4b0 : ((decide (a0_0 < 0)) == (decide (a1_0 < 0))) = true := c4
   (try (have c4b1 : decide ((decide (a0_0 < 0)) = (decide (a1_0 < 0))) = true := by simpa using c4))
   (try (have c4b2 : ((decide (a0_0 < 0)) == (decide (a1_0 < 0))) = true := by simpa using c4))
   clear c4
   by_cases c5 : ((decide (a0_0 < 0)) != (decide ((wrap64 ((addLo (IntKind.u64.wrap (a0_0)) (IntKind.u64.wrap (a1_0)) (addHi a0_1 a1_1 0)))) < 0))) = true
   ·rw [if_pos c5] at H
    have c5b0 : ((decide (a0_0 < 0)) != (decide ((wrap64 ((addLo (IntKind.u64.wrap (a0_0)) (IntKind.u64.wrap (a1_0)) (addHi a0_1 a1_1 0)))) < 0))) = true := c5
    (try (have c5b1 : decide ((decide (a0_0 < 0)) = (decide ((wrap64 ((addLo (IntKind.u64.wrap (a0_0)) (IntKind.u64.wrap (a1_0)) (addHi a0_1 a1_1 0)))) < 0))) = false := by simpa using c5))
    (try (have c5b2 : ((decide (a0_0 < 0)) == (decide ((wrap64 ((addLo (IntKind.u64.wrap (a0_0)) (IntKind.u64.wrap (a1_0)) (addHi a0_1 a1_1 0)))) < 0))) = false := by simpa using c5))
    (try (have c5b3 : ¬ ((decide (a0_0 < 0)) = (decide ((wrap64 ((addLo (IntKind.u64.wrap (a0_0)) (IntKind.u64.wrap (a1_0)) (addHi a0_1 a1_1 0)))) < 0))) := by simpa using c5))
    clear c5
    simp only [Option.some.injEq, Prod.mk.injEq] at H
    obtain ⟨rfl, rfl, rfl⟩ := H
    go_enter Tryz.func57, Tryz.ntmps57
    go_wp2_with (first | ((with_reducible refine gate_dst (N := 2) rfl ?_); refine box_event ?hg (N := 2) ?hd (cs := #[.int .i64 a0_0, .int .u64 a0_1]) (t := 31) ?hr ?_; (case hd => rfl); (case hg => rfl); (case hr => first | (go_simp; done) | (go_simp; rfl)); intro gb104 hg w6 hbox hb; have BK104 := Aside0.mk (hbox); have GW104 := bels HB hg; have GE104 := bels HB hg; replace HB := belb HB hb; clear hb hbox hg) | ((with_reducible refine gate_dst (N := 3) rfl ?_); refine box_event ?hg (N := 3) ?hd (cs := #[.int .i64 a1_0, .int .u64 a1_1]) (t := 31) ?hr ?_; (case hd => rfl); (case hg => rfl); (case hr => first | (go_simp; done) | (go_simp; rfl)); intro gb105 hg w7 hbox hb; have BK105 := Aside0.mk (hbox); have GW105 := bels HB hg; have GE105 := bels HB hg; have NB104_105 := blkl BK104 hg; have NB105_104 := blkg BK104 hg; replace BK104 := blkb BK104 hb; replace HB := belb HB hb; clear hb hbox hg) | ((with_reducible refine gate_dst (N := 4) rfl ?_); refine box_event ?hg (N := 4) ?hd (cs := #[.int .i64 0, .int .u64 0]) (t := 31) ?hr ?_; (case hd => rfl); (case hg => rfl); (case hr => first | (go_simp; done) | (go_simp; rfl)); intro gb106 hg w8 hbox hb; have BK106 := Aside0.mk (hbox); have GW106 := bels HB hg; have GE106 := bels HB hg; have NB104_106 := blkl BK104 hg; have NB106_104 := blkg BK104 hg; have NB105_106 := blkl BK105 hg; have NB106_105 := blkg BK105 hg; replace BK104 := blkb BK104 hb; replace BK105 := blkb BK105 hb; replace HB := belb HB hb; clear hb hbox hg; have hnb9 := NB104_105.out; have hnc9 := NB105_104.out; have hnb10 := NB104_106.out; have hnc10 := NB106_104.out; have hcz11_0 : w8.cell? ⟨gb104, 0, none⟩ = some (.int .i64 a0_0) := bc BK104 0; have hcz11_1 : w8.cell? ⟨gb104, 1, none⟩ = some (.int .u64 a0_1) := bc BK104 1; have hfz11_0 := blk_frozen BK104.out 0; have hfz11_1 := blk_frozen BK104.out 1; have hnb12 := NB105_106.out; have hnc12 := NB106_105.out; have hcz13_0 : w8.cell? ⟨gb105, 0, none⟩ = some (.int .i64 a1_0) := bc BK105 0; have hcz13_1 : w8.cell? ⟨gb105, 1, none⟩ = some (.int .u64 a1_1) := bc BK105 1; have hfz13_0 := blk_frozen BK105.out 0; have hfz13_1 := blk_frozen BK105.out 1) | ((with_reducible refine gate_dst (N := 10) rfl ?_); refine box_event ?hg (N := 10) ?hd (cs := #[.int .i64 0, .int .u64 0]) (t := 31) ?hr ?_; (case hd => rfl); (case hg => rfl); (case hr => first | (go_simp; done) | (go_simp; rfl)); intro gb107 hg w14 hbox hb; have BK107 := Aside0.mk (hbox); have GW107 := bels HB hg; have GE107 := bels HB hg; have NB104_107 := blkl BK104 hg; have NB107_104 := blkg BK104 hg; have NB105_107 := blkl BK105 hg; have NB107_105 := blkg BK105 hg; have NB106_107 := blkl BK106 hg; have NB107_106 := blkg BK106 hg; replace BK104 := blkb BK104 hb; replace BK105 := blkb BK105 hb; replace BK106 := blkb BK106 hb; replace HB := belb HB hb; clear hb hbox hg; have hnb15 := NB107_104.out; have hnc15 := NB104_107.out; have hnb16 := NB107_105.out; have hnc16 := NB105_107.out; have hnb17 := NB107_106.out; have hnc17 := NB106_107.out; have hcz18_0 : w14.cell? ⟨gb107, 0, none⟩ = some (.int .i64 0) := bc BK107 0; have hcz18_1 : w14.cell? ⟨gb107, 1, none⟩ = some (.int .u64 0) := bc BK107 1; have hfz18_0 := blk_frozen BK107.out 0; have hfz18_1 := blk_frozen BK107.out 1; have hcz19_0 : w14.cell? ⟨gb104, 0, none⟩ = some (.int .i64 a0_0) := bc BK104 0; have hcz19_1 : w14.cell? ⟨gb104, 1, none⟩ = some (.int .u64 a0_1) := bc BK104 1; have hfz19_0 := blk_frozen BK104.out 0; have hfz19_1 := blk_frozen BK104.out 1; have hcz20_0 : w14.cell? ⟨gb105, 0, none⟩ = some (.int .i64 a1_0) := bc BK105 0; have hcz20_1 : w14.cell? ⟨gb105, 1, none⟩ = some (.int .u64 a1_1) := bc BK105 1; have hfz20_0 := blk_frozen BK105.out 0; have hfz20_1 := blk_frozen BK105.out 1; have hcz21_0 : w14.cell? ⟨gb106, 0, none⟩ = some (.int .i64 0) := bc BK106 0; have hcz21_1 : w14.cell? ⟨gb106, 1, none⟩ = some (.int .u64 0) := bc BK106 1; have hfz21_0 := blk_frozen BK106.out 0; have hfz21_1 := blk_frozen BK106.out 1))
    refine bodyPost_ret (results_ct rfl _ _ gb106 31 #[.int .i64 0, .int .u64 0] (0, 0) _ rfl (by (with_reducible repeat (first | refine blk_drewN ?_ _ | refine blk_drew ?_ | refine blk_alloc ?_ _)); refine blk_put (cs := #[.int .i64 0, .int .u64 0]) ?_ 1 _ rfl; (with_reducible repeat (first | refine blk_drewN ?_ _ | refine blk_drew ?_ | refine blk_alloc ?_ _)); refine blk_put (cs := #[.int .i64 0, .int .u64 0]) ?_ 0 _ rfl; (with_reducible repeat (first | refine blk_drewN ?_ _ | refine blk_drew ?_ | refine blk_alloc ?_ _)); refine blk_far ?_ NB106_107.out _; (with_reducible repeat (first | refine blk_drewN ?_ _ | refine blk_drew ?_ | refine blk_alloc ?_ _)); refine blk_far ?_ NB106_107.out _; exact blkt BK106) Tryz.underlying31 rfl (by kernel_rfl)) rfl ?_
    exact ⟨by first | rfl | (simp [errW_none, errW_some] <;> rfl) | (simp [*, errW_none, errW_some] <;> rfl), belt HB⟩
   rw [if_neg c5] at H
   have c5b0 : ((decide (a0_0 < 0)) != (decide ((wrap64 ((addLo (IntKind.u64.wrap (a0_0)) (IntKind.u64.wrap (a1_0)) (addHi a0_1 a1_1 0)))) < 0))) = false := by simpa using c5
   (try (have c5b1 : decide ((decide (a0_0 < 0)) = (decide ((wrap64 ((addLo (IntKind.u64.wrap (a0_0)) (IntKind.u64.wrap (a1_0)) (addHi a0_1 a1_1 0)))) < 0))) = true := by simpa using c5))
   (try (have c5b2 : ((decide (a0_0 < 0)) == (decide ((wrap64 ((addLo (IntKind.u64.wrap (a0_0)) (IntKind.u64.wrap (a1_0)) (addHi a0_1 a1_1 0)))) < 0))) = true := by simpa using c5))
   clear c5
   simp only [Option.some.injEq, Prod.mk.injEq] at H
   obtain ⟨rfl, rfl, rfl⟩ := H
   go_enter Tryz.func57, Tryz.ntmps57
   go_wp2_with (first | ((with_reducible refine gate_dst (N := 2) rfl ?_); refine box_event ?hg (N := 2) ?hd (cs := #[.int .i64 a0_0, .int .u64 a0_1]) (t := 31) ?hr ?_; (case hd => rfl); (case hg => rfl); (case hr => first | (go_simp; done) | (go_simp; rfl)); intro gb104 hg w22 hbox hb; have BK104 := Aside0.mk (hbox); have GW104 := bels HB hg; have GE104 := bels HB hg; replace HB := belb HB hb; clear hb hbox hg) | ((with_reducible refine gate_dst (N := 3) rfl ?_); refine box_event ?hg (N := 3) ?hd (cs := #[.int .i64 a1_0, .int .u64 a1_1]) (t := 31) ?hr ?_; (case hd => rfl); (case hg => rfl); (case hr => first | (go_simp; done) | (go_simp; rfl)); intro gb105 hg w23 hbox hb; have BK105 := Aside0.mk (hbox); have GW105 := bels HB hg; have GE105 := bels HB hg; have NB104_105 := blkl BK104 hg; have NB105_104 := blkg BK104 hg; replace BK104 := blkb BK104 hb; replace HB := belb HB hb; clear hb hbox hg) | ((with_reducible refine gate_dst (N := 4) rfl ?_); refine box_event ?hg (N := 4) ?hd (cs := #[.int .i64 0, .int .u64 0]) (t := 31) ?hr ?_; (case hd => rfl); (case hg => rfl); (case hr => first | (go_simp; done) | (go_simp; rfl)); intro gb106 hg w24 hbox hb; have BK106 := Aside0.mk (hbox); have GW106 := bels HB hg; have GE106 := bels HB hg; have NB104_106 := blkl BK104 hg; have NB106_104 := blkg BK104 hg; have NB105_106 := blkl BK105 hg; have NB106_105 := blkg BK105 hg; replace BK104 := blkb BK104 hb; replace BK105 := blkb BK105 hb; replace HB := belb HB hb; clear hb hbox hg; have hnb25 := NB104_105.out; have hnc25 := NB105_104.out; have hnb26 := NB104_106.out; have hnc26 := NB106_104.out; have hcz27_0 : w24.cell? ⟨gb104, 0, none⟩ = some (.int .i64 a0_0) := bc BK104 0; have hcz27_1 : w24.cell? ⟨gb104, 1, none⟩ = some (.int .u64 a0_1) := bc BK104 1; have hfz27_0 := blk_frozen BK104.out 0; have hfz27_1 := blk_frozen BK104.out 1; have hnb28 := NB105_106.out; have hnc28 := NB106_105.out; have hcz29_0 : w24.cell? ⟨gb105, 0, none⟩ = some (.int .i64 a1_0) := bc BK105 0; have hcz29_1 : w24.cell? ⟨gb105, 1, none⟩ = some (.int .u64 a1_1) := bc BK105 1; have hfz29_0 := blk_frozen BK105.out 0; have hfz29_1 := blk_frozen BK105.out 1) | ((with_reducible refine gate_dst (N := 10) rfl ?_); refine box_event ?hg (N := 10) ?hd (cs := #[.int .i64 0, .int .u64 0]) (t := 31) ?hr ?_; (case hd => rfl); (case hg => rfl); (case hr => first | (go_simp; done) | (go_simp; rfl)); intro gb107 hg w30 hbox hb; have BK107 := Aside0.mk (hbox); have GW107 := bels HB hg; have GE107 := bels HB hg; have NB104_107 := blkl BK104 hg; have NB107_104 := blkg BK104 hg; have NB105_107 := blkl BK105 hg; have NB107_105 := blkg BK105 hg; have NB106_107 := blkl BK106 hg; have NB107_106 := blkg BK106 hg; replace BK104 := blkb BK104 hb; replace BK105 := blkb BK105 hb; replace BK106 := blkb BK106 hb; replace HB := belb HB hb; clear hb hbox hg; have hnb31 := NB107_104.out; have hnc31 := NB104_107.out; have hnb32 := NB107_105.out; have hnc32 := NB105_107.out; have hnb33 := NB107_106.out; have hnc33 := NB106_107.out; have hcz34_0 : w30.cell? ⟨gb107, 0, none⟩ = some (.int .i64 0) := bc BK107 0; have hcz34_1 : w30.cell? ⟨gb107, 1, none⟩ = some (.int .u64 0) := bc BK107 1; have hfz34_0 := blk_frozen BK107.out 0; have hfz34_1 := blk_frozen BK107.out 1; have hcz35_0 : w30.cell? ⟨gb104, 0, none⟩ = some (.int .i64 a0_0) := bc BK104 0; have hcz35_1 : w30.cell? ⟨gb104, 1, none⟩ = some (.int .u64 a0_1) := bc BK104 1; have hfz35_0 := blk_frozen BK104.out 0; have hfz35_1 := blk_frozen BK104.out 1; have hcz36_0 : w30.cell? ⟨gb105, 0, none⟩ = some (.int .i64 a1_0) := bc BK105 0; have hcz36_1 : w30.cell? ⟨gb105, 1, none⟩ = some (.int .u64 a1_1) := bc BK105 1; have hfz36_0 := blk_frozen BK105.out 0; have hfz36_1 := blk_frozen BK105.out 1; have hcz37_0 : w30.cell? ⟨gb106, 0, none⟩ = some (.int .i64 0) := bc BK106 0; have hcz37_1 : w30.cell? ⟨gb106, 1, none⟩ = some (.int .u64 0) := bc BK106 1; have hfz37_0 := blk_frozen BK106.out 0; have hfz37_1 := blk_frozen BK106.out 1))
   refine bodyPost_ret (results_ct rfl _ _ gb106 31 #[.int .i64 (wrap64 ((addLo (IntKind.u64.wrap (a0_0)) (IntKind.u64.wrap (a1_0)) (addHi a0_1 a1_1 0)))), .int .u64 (addLo a0_1 a1_1 0)] (0, 0) _ rfl (by (with_reducible repeat (first | refine blk_drewN ?_ _ | refine blk_drew ?_ | refine blk_alloc ?_ _)); refine blk_put (cs := #[.int .i64 (wrap64 ((addLo (IntKind.u64.wrap (a0_0)) (IntKind.u64.wrap (a1_0)) (addHi a0_1 a1_1 0)))), .int .u64 0]) ?_ 1 _ rfl; (with_reducible repeat (first | refine blk_drewN ?_ _ | refine blk_drew ?_ | refine blk_alloc ?_ _)); refine blk_put (cs := #[.int .i64 0, .int .u64 0]) ?_ 0 _ rfl; (with_reducible repeat (first | refine blk_drewN ?_ _ | refine blk_drew ?_ | refine blk_alloc ?_ _)); refine blk_far ?_ NB106_107.out _; (with_reducible repeat (first | refine blk_drewN ?_ _ | refine blk_drew ?_ | refine blk_alloc ?_ _)); refine blk_far ?_ NB106_107.out _; exact blkt BK106) Tryz.underlying31 rfl (by kernel_rfl)) rfl ?_
   exact ⟨by first | rfl | (simp [errW_none, errW_some] <;> rfl) | (simp [*, errW_none, errW_some] <;> rfl), belt HB⟩
  rw [if_neg c4] at H
  have c4b0 : ((decide (a0_0 < 0)) == (decide (a1_0 < 0))) = false := by simpa using c4
  (try (have c4b1 : decide ((decide (a0_0 < 0)) = (decide (a1_0 < 0))) = false := by simpa using c4))
  (try (have c4b2 : ((decide (a0_0 < 0)) == (decide (a1_0 < 0))) = false := by simpa using c4))
  (try (have c4b3 : ¬ ((decide (a0_0 < 0)) = (decide (a1_0 < 0))) := by simpa using c4))
  clear c4
  simp only [Option.some.injEq, Prod.mk.injEq] at H
  obtain ⟨rfl, rfl, rfl⟩ := H
  go_enter Tryz.func57, Tryz.ntmps57
  go_wp2_with (first | ((with_reducible refine gate_dst (N := 2) rfl ?_); refine box_event ?hg (N := 2) ?hd (cs := #[.int .i64 a0_0, .int .u64 a0_1]) (t := 31) ?hr ?_; (case hd => rfl); (case hg => rfl); (case hr => first | (go_simp; done) | (go_simp; rfl)); intro gb104 hg w38 hbox hb; have BK104 := Aside0.mk (hbox); have GW104 := bels HB hg; have GE104 := bels HB hg; replace HB := belb HB hb; clear hb hbox hg) | ((with_reducible refine gate_dst (N := 3) rfl ?_); refine box_event ?hg (N := 3) ?hd (cs := #[.int .i64 a1_0, .int .u64 a1_1]) (t := 31) ?hr ?_; (case hd => rfl); (case hg => rfl); (case hr => first | (go_simp; done) | (go_simp; rfl)); intro gb105 hg w39 hbox hb; have BK105 := Aside0.mk (hbox); have GW105 := bels HB hg; have GE105 := bels HB hg; have NB104_105 := blkl BK104 hg; have NB105_104 := blkg BK104 hg; replace BK104 := blkb BK104 hb; replace HB := belb HB hb; clear hb hbox hg) | ((with_reducible refine gate_dst (N := 4) rfl ?_); refine box_event ?hg (N := 4) ?hd (cs := #[.int .i64 0, .int .u64 0]) (t := 31) ?hr ?_; (case hd => rfl); (case hg => rfl); (case hr => first | (go_simp; done) | (go_simp; rfl)); intro gb106 hg w40 hbox hb; have BK106 := Aside0.mk (hbox); have GW106 := bels HB hg; have GE106 := bels HB hg; have NB104_106 := blkl BK104 hg; have NB106_104 := blkg BK104 hg; have NB105_106 := blkl BK105 hg; have NB106_105 := blkg BK105 hg; replace BK104 := blkb BK104 hb; replace BK105 := blkb BK105 hb; replace HB := belb HB hb; clear hb hbox hg; have hnb41 := NB104_105.out; have hnc41 := NB105_104.out; have hnb42 := NB104_106.out; have hnc42 := NB106_104.out; have hcz43_0 : w40.cell? ⟨gb104, 0, none⟩ = some (.int .i64 a0_0) := bc BK104 0; have hcz43_1 : w40.cell? ⟨gb104, 1, none⟩ = some (.int .u64 a0_1) := bc BK104 1; have hfz43_0 := blk_frozen BK104.out 0; have hfz43_1 := blk_frozen BK104.out 1; have hnb44 := NB105_106.out; have hnc44 := NB106_105.out; have hcz45_0 : w40.cell? ⟨gb105, 0, none⟩ = some (.int .i64 a1_0) := bc BK105 0; have hcz45_1 : w40.cell? ⟨gb105, 1, none⟩ = some (.int .u64 a1_1) := bc BK105 1; have hfz45_0 := blk_frozen BK105.out 0; have hfz45_1 := blk_frozen BK105.out 1) | ((with_reducible refine gate_dst (N := 10) rfl ?_); refine box_event ?hg (N := 10) ?hd (cs := #[.int .i64 0, .int .u64 0]) (t := 31) ?hr ?_; (case hd => rfl); (case hg => rfl); (case hr => first | (go_simp; done) | (go_simp; rfl)); intro gb107 hg w46 hbox hb; have BK107 := Aside0.mk (hbox); have GW107 := bels HB hg; have GE107 := bels HB hg; have NB104_107 := blkl BK104 hg; have NB107_104 := blkg BK104 hg; have NB105_107 := blkl BK105 hg; have NB107_105 := blkg BK105 hg; have NB106_107 := blkl BK106 hg; have NB107_106 := blkg BK106 hg; replace BK104 := blkb BK104 hb; replace BK105 := blkb BK105 hb; replace BK106 := blkb BK106 hb; replace HB := belb HB hb; clear hb hbox hg; have hnb47 := NB107_104.out; have hnc47 := NB104_107.out; have hnb48 := NB107_105.out; have hnc48 := NB105_107.out; have hnb49 := NB107_106.out; have hnc49 := NB106_107.out; have hcz50_0 : w46.cell? ⟨gb107, 0, none⟩ = some (.int .i64 0) := bc BK107 0; have hcz50_1 : w46.cell? ⟨gb107, 1, none⟩ = some (.int .u64 0) := bc BK107 1; have hfz50_0 := blk_frozen BK107.out 0; have hfz50_1 := blk_frozen BK107.out 1; have hcz51_0 : w46.cell? ⟨gb104, 0, none⟩ = some (.int .i64 a0_0) := bc BK104 0; have hcz51_1 : w46.cell? ⟨gb104, 1, none⟩ = some (.int .u64 a0_1) := bc BK104 1; have hfz51_0 := blk_frozen BK104.out 0; have hfz51_1 := blk_frozen BK104.out 1; have hcz52_0 : w46.cell? ⟨gb105, 0, none⟩ = some (.int .i64 a1_0) := bc BK105 0; have hcz52_1 : w46.cell? ⟨gb105, 1, none⟩ = some (.int .u64 a1_1) := bc BK105 1; have hfz52_0 := blk_frozen BK105.out 0; have hfz52_1 := blk_frozen BK105.out 1; have hcz53_0 : w46.cell? ⟨gb106, 0, none⟩ = some (.int .i64 0) := bc BK106 0; have hcz53_1 : w46.cell? ⟨gb106, 1, none⟩ = some (.int .u64 0) := bc BK106 1; have hfz53_0 := blk_frozen BK106.out 0; have hfz53_1 := blk_frozen BK106.out 1))
  refine bodyPost_ret (results_ct rfl _ _ gb106 31 #[.int .i64 (wrap64 ((addLo (IntKind.u64.wrap (a0_0)) (IntKind.u64.wrap (a1_0)) (addHi a0_1 a1_1 0)))), .int .u64 (addLo a0_1 a1_1 0)] (0, 0) _ rfl (by (with_reducible repeat (first | refine blk_drewN ?_ _ | refine blk_drew ?_ | refine blk_alloc ?_ _)); refine blk_put (cs := #[.int .i64 (wrap64 ((addLo (IntKind.u64.wrap (a0_0)) (IntKind.u64.wrap (a1_0)) (addHi a0_1 a1_1 0)))), .int .u64 0]) ?_ 1 _ rfl; (with_reducible repeat (first | refine blk_drewN ?_ _ | refine blk_drew ?_ | refine blk_alloc ?_ _)); refine blk_put (cs := #[.int .i64 0, .int .u64 0]) ?_ 0 _ rfl; (with_reducible repeat (first | refine blk_drewN ?_ _ | refine blk_drew ?_ | refine blk_alloc ?_ _)); refine blk_far ?_ NB106_107.out _; (with_reducible repeat (first | refine blk_drewN ?_ _ | refine blk_drew ?_ | refine blk_alloc ?_ _)); refine blk_far ?_ NB106_107.out _; exact blkt BK106) Tryz.underlying31 rfl (by kernel_rfl)) rfl ?_
  exact ⟨by first | rfl | (simp [errW_none, errW_some] <;> rfl) | (simp [*, errW_none, errW_some] <;> rfl), belt HB⟩
 rw [if_neg c3] at H
 exact absurd H (by simp)


/-! ### wide_Of: function 31 -/
def wide_Of.f (a0 : Int) : Option (Int × Int) := if a0 < 0 then (some ((-1), IntKind.u64.wrap (a0))) else (some (0, IntKind.u64.wrap (a0)))
set_option maxHeartbeats 8000000 in
set_option maxRecDepth 100000 in
theorem wide_Of.calls (a0 : Int) (r1 : Int) (r2 : Int) (w : World) (h : wide_Of.f a0 = some (r1, r2)) :
  Calls Tryz.prog 31 #[.int .i64 a0] w fun e w' => e = .returned (.agg #[.int .i64 r1, .int .u64 r2]) ∧ Below w.heap.size w w' := by
 have hu31 := Tryz.underlying31
 have HB := Aside0.mk (Below.refl w.heap.size w)
 have H : (if a0 < 0 then (some ((-1), IntKind.u64.wrap (a0))) else (some (0, IntKind.u64.wrap (a0)))) = some (r1, r2) := h
 clear h
 by_cases c2 : a0 < 0
 ·rw [if_pos c2] at H
  have c2b0 : decide (a0 < 0) = true := decide_eq_true c2
  clear c2
  simp only [Option.some.injEq, Prod.mk.injEq] at H
  obtain ⟨rfl, rfl⟩ := H
  go_enter Tryz.func31, Tryz.ntmps31
  go_wp2_with (first | ((with_reducible refine gate_dst (N := 2) rfl ?_); refine box_event ?hg (N := 2) ?hd (cs := #[.int .i64 0, .int .u64 0]) (t := 31) ?hr ?_; (case hd => rfl); (case hg => rfl); (case hr => first | (go_simp; done) | (go_simp; rfl)); intro gb109 hg w3 hbox hb; have BK109 := Aside0.mk (hbox); have GW109 := bels HB hg; have GE109 := bels HB hg; replace HB := belb HB hb; clear hb hbox hg) | ((with_reducible refine gate_dst (N := 3) rfl ?_); refine box_event ?hg (N := 3) ?hd (cs := #[.int .i64 0, .int .u64 0]) (t := 31) ?hr ?_; (case hd => rfl); (case hg => rfl); (case hr => first | (go_simp; done) | (go_simp; rfl)); intro gb110 hg w4 hbox hb; have BK110 := Aside0.mk (hbox); have GW110 := bels HB hg; have GE110 := bels HB hg; have NB109_110 := blkl BK109 hg; have NB110_109 := blkg BK109 hg; replace BK109 := blkb BK109 hb; replace HB := belb HB hb; clear hb hbox hg; have hnb5 := NB110_109.out; have hnc5 := NB109_110.out; have hcz6_0 : w4.cell? ⟨gb110, 0, none⟩ = some (.int .i64 0) := bc BK110 0; have hcz6_1 : w4.cell? ⟨gb110, 1, none⟩ = some (.int .u64 0) := bc BK110 1; have hfz6_0 := blk_frozen BK110.out 0; have hfz6_1 := blk_frozen BK110.out 1; have hcz7_0 : w4.cell? ⟨gb109, 0, none⟩ = some (.int .i64 0) := bc BK109 0; have hcz7_1 : w4.cell? ⟨gb109, 1, none⟩ = some (.int .u64 0) := bc BK109 1; have hfz7_0 := blk_frozen BK109.out 0; have hfz7_1 := blk_frozen BK109.out 1))
  refine bodyPost_ret (results_cell_row rfl _ _ gb109 31 #[.int .i64 (-1), .int .u64 (IntKind.u64.wrap (a0))] (0, 0) _ rfl (by (with_reducible repeat (first | refine blk_drewN ?_ _ | refine blk_drew ?_ | refine blk_alloc ?_ _)); refine blk_put (cs := #[.int .i64 (-1), .int .u64 0]) ?_ 1 _ rfl; (with_reducible repeat (first | refine blk_drewN ?_ _ | refine blk_drew ?_ | refine blk_alloc ?_ _)); refine blk_put (cs := #[.int .i64 0, .int .u64 0]) ?_ 0 _ rfl; (with_reducible repeat (first | refine blk_drewN ?_ _ | refine blk_drew ?_ | refine blk_alloc ?_ _)); refine blk_far ?_ NB109_110.out _; (with_reducible repeat (first | refine blk_drewN ?_ _ | refine blk_drew ?_ | refine blk_alloc ?_ _)); refine blk_far ?_ NB109_110.out _; (with_reducible repeat (first | refine blk_drewN ?_ _ | refine blk_drew ?_ | refine blk_alloc ?_ _)); refine blk_far ?_ NB109_110.out _; exact blkt BK109) Tryz.underlying31 rfl (by kernel_rfl)) rfl ?_
  exact ⟨by first | rfl | (simp [errW_none, errW_some] <;> rfl) | (simp [*, errW_none, errW_some] <;> rfl), belt HB⟩
 rw [if_neg c2] at H
 have c2b0 : decide (a0 < 0) = false := decide_eq_false c2
 clear c2
 simp only [Option.some.injEq, Prod.mk.injEq] at H
 obtain ⟨rfl, rfl⟩ := H
 go_enter Tryz.func31, Tryz.ntmps31
 go_wp2_with (first | ((with_reducible refine gate_dst (N := 2) rfl ?_); refine box_event ?hg (N := 2) ?hd (cs := #[.int .i64 0, .int .u64 0]) (t := 31) ?hr ?_; (case hd => rfl); (case hg => rfl); (case hr => first | (go_simp; done) | (go_simp; rfl)); intro gb109 hg w8 hbox hb; have BK109 := Aside0.mk (hbox); have GW109 := bels HB hg; have GE109 := bels HB hg; replace HB := belb HB hb; clear hb hbox hg) | ((with_reducible refine gate_dst (N := 3) rfl ?_); refine box_event ?hg (N := 3) ?hd (cs := #[.int .i64 0, .int .u64 0]) (t := 31) ?hr ?_; (case hd => rfl); (case hg => rfl); (case hr => first | (go_simp; done) | (go_simp; rfl)); intro gb110 hg w9 hbox hb; have BK110 := Aside0.mk (hbox); have GW110 := bels HB hg; have GE110 := bels HB hg; have NB109_110 := blkl BK109 hg; have NB110_109 := blkg BK109 hg; replace BK109 := blkb BK109 hb; replace HB := belb HB hb; clear hb hbox hg; have hnb10 := NB110_109.out; have hnc10 := NB109_110.out; have hcz11_0 : w9.cell? ⟨gb110, 0, none⟩ = some (.int .i64 0) := bc BK110 0; have hcz11_1 : w9.cell? ⟨gb110, 1, none⟩ = some (.int .u64 0) := bc BK110 1; have hfz11_0 := blk_frozen BK110.out 0; have hfz11_1 := blk_frozen BK110.out 1; have hcz12_0 : w9.cell? ⟨gb109, 0, none⟩ = some (.int .i64 0) := bc BK109 0; have hcz12_1 : w9.cell? ⟨gb109, 1, none⟩ = some (.int .u64 0) := bc BK109 1; have hfz12_0 := blk_frozen BK109.out 0; have hfz12_1 := blk_frozen BK109.out 1))
 refine bodyPost_ret (results_cell_row rfl _ _ gb109 31 #[.int .i64 0, .int .u64 (IntKind.u64.wrap (a0))] (0, 0) _ rfl (by (with_reducible repeat (first | refine blk_drewN ?_ _ | refine blk_drew ?_ | refine blk_alloc ?_ _)); refine blk_put (cs := #[.int .i64 0, .int .u64 0]) ?_ 1 _ rfl; (with_reducible repeat (first | refine blk_drewN ?_ _ | refine blk_drew ?_ | refine blk_alloc ?_ _)); refine blk_put (cs := #[.int .i64 0, .int .u64 0]) ?_ 0 _ rfl; (with_reducible repeat (first | refine blk_drewN ?_ _ | refine blk_drew ?_ | refine blk_alloc ?_ _)); refine blk_far ?_ NB109_110.out _; (with_reducible repeat (first | refine blk_drewN ?_ _ | refine blk_drew ?_ | refine blk_alloc ?_ _)); refine blk_far ?_ NB109_110.out _; exact blkt BK109) Tryz.underlying31 rfl (by kernel_rfl)) rfl ?_
 exact ⟨by first | rfl | (simp [errW_none, errW_some] <;> rfl) | (simp [*, errW_none, errW_some] <;> rfl), belt HB⟩


/-! ### wide_Int_flip: function 83 -/
def wide_Int_flip.f (a0_0 : Int) (a0_1 : Int) : Option (Int × Int) := if (subHi 0 a0_1 0) ≤ 1 then (some (wrap64 ((subLo 0 (IntKind.u64.wrap (a0_0)) (subHi 0 a0_1 0))), (subLo 0 a0_1 0))) else (none)
set_option maxHeartbeats 8000000 in
set_option maxRecDepth 100000 in
theorem wide_Int_flip.calls (a0_0 : Int) (a0_1 : Int) (r1 : Int) (r2 : Int) (w : World) (h : wide_Int_flip.f a0_0 a0_1 = some (r1, r2)) :
  Calls Tryz.prog 83 #[.agg #[.int .i64 a0_0, .int .u64 a0_1]] w fun e w' => e = .returned (.agg #[.int .i64 r1, .int .u64 r2]) ∧ Below w.heap.size w w' := by
 have hu31 := Tryz.underlying31
 have HB := Aside0.mk (Below.refl w.heap.size w)
 have H : (if (subHi 0 a0_1 0) ≤ 1 then (some (wrap64 ((subLo 0 (IntKind.u64.wrap (a0_0)) (subHi 0 a0_1 0))), (subLo 0 a0_1 0))) else (none)) = some (r1, r2) := h
 clear h
 by_cases c2 : (subHi 0 a0_1 0) ≤ 1
 ·rw [if_pos c2] at H
  have c2b0 : decide ((subHi 0 a0_1 0) ≤ 1) = true := decide_eq_true c2
  clear c2
  simp only [Option.some.injEq, Prod.mk.injEq] at H
  obtain ⟨rfl, rfl⟩ := H
  go_enter Tryz.func83, Tryz.ntmps83
  go_wp2_with (first | ((with_reducible refine gate_dst (N := 1) rfl ?_); refine box_event ?hg (N := 1) ?hd (cs := #[.int .i64 a0_0, .int .u64 a0_1]) (t := 31) ?hr ?_; (case hd => rfl); (case hg => rfl); (case hr => first | (go_simp; done) | (go_simp; rfl)); intro gb111 hg w3 hbox hb; have BK111 := Aside0.mk (hbox); have GW111 := bels HB hg; have GE111 := bels HB hg; replace HB := belb HB hb; clear hb hbox hg) | ((with_reducible refine gate_dst (N := 2) rfl ?_); refine box_event ?hg (N := 2) ?hd (cs := #[.int .i64 0, .int .u64 0]) (t := 31) ?hr ?_; (case hd => rfl); (case hg => rfl); (case hr => first | (go_simp; done) | (go_simp; rfl)); intro gb112 hg w4 hbox hb; have BK112 := Aside0.mk (hbox); have GW112 := bels HB hg; have GE112 := bels HB hg; have NB111_112 := blkl BK111 hg; have NB112_111 := blkg BK111 hg; replace BK111 := blkb BK111 hb; replace HB := belb HB hb; clear hb hbox hg; have hnb5 := NB111_112.out; have hnc5 := NB112_111.out; have hcz6_0 : w4.cell? ⟨gb111, 0, none⟩ = some (.int .i64 a0_0) := bc BK111 0; have hcz6_1 : w4.cell? ⟨gb111, 1, none⟩ = some (.int .u64 a0_1) := bc BK111 1; have hfz6_0 := blk_frozen BK111.out 0; have hfz6_1 := blk_frozen BK111.out 1; have hcz7_0 : w4.cell? ⟨gb112, 0, none⟩ = some (.int .i64 0) := bc BK112 0; have hcz7_1 : w4.cell? ⟨gb112, 1, none⟩ = some (.int .u64 0) := bc BK112 1; have hfz7_0 := blk_frozen BK112.out 0; have hfz7_1 := blk_frozen BK112.out 1))
  refine bodyPost_ret (results_cell_row rfl _ _ gb112 31 #[.int .i64 (wrap64 ((subLo 0 (IntKind.u64.wrap (a0_0)) (subHi 0 a0_1 0)))), .int .u64 (subLo 0 a0_1 0)] (0, 0) _ rfl (by (with_reducible repeat (first | refine blk_drewN ?_ _ | refine blk_drew ?_ | refine blk_alloc ?_ _)); refine blk_put (cs := #[.int .i64 (wrap64 ((subLo 0 (IntKind.u64.wrap (a0_0)) (subHi 0 a0_1 0)))), .int .u64 0]) ?_ 1 _ rfl; (with_reducible repeat (first | refine blk_drewN ?_ _ | refine blk_drew ?_ | refine blk_alloc ?_ _)); refine blk_put (cs := #[.int .i64 0, .int .u64 0]) ?_ 0 _ rfl; exact blkt BK112) Tryz.underlying31 rfl (by kernel_rfl)) rfl ?_
  exact ⟨by first | rfl | (simp [errW_none, errW_some] <;> rfl) | (simp [*, errW_none, errW_some] <;> rfl), belt HB⟩
 rw [if_neg c2] at H
 exact absurd H (by simp)


/-! ### wide_Int_Sub: function 26 -/
def wide_Int_Sub.f (a0_0 : Int) (a0_1 : Int) (a1_0 : Int) (a1_1 : Int) : Option (Int × Int × Bool) := if (subHi a0_1 a1_1 0) ≤ 1 then (if ((decide (a0_0 < 0)) != (decide (a1_0 < 0))) = true then (if ((decide (a0_0 < 0)) != (decide ((wrap64 ((subLo (IntKind.u64.wrap (a0_0)) (IntKind.u64.wrap (a1_0)) (subHi a0_1 a1_1 0)))) < 0))) = true then (some (0, 0, false)) else (some (wrap64 ((subLo (IntKind.u64.wrap (a0_0)) (IntKind.u64.wrap (a1_0)) (subHi a0_1 a1_1 0))), (subLo a0_1 a1_1 0), true))) else (some (wrap64 ((subLo (IntKind.u64.wrap (a0_0)) (IntKind.u64.wrap (a1_0)) (subHi a0_1 a1_1 0))), (subLo a0_1 a1_1 0), true))) else (none)
set_option maxHeartbeats 8000000 in
set_option maxRecDepth 100000 in
theorem wide_Int_Sub.calls (a0_0 : Int) (a0_1 : Int) (a1_0 : Int) (a1_1 : Int) (r1 : Int) (r2 : Int) (r3 : Bool) (w : World) (h : wide_Int_Sub.f a0_0 a0_1 a1_0 a1_1 = some (r1, r2, r3)) :
  Calls Tryz.prog 26 #[.agg #[.int .i64 a0_0, .int .u64 a0_1], .agg #[.int .i64 a1_0, .int .u64 a1_1]] w fun e w' => e = .returned (.tuple #[.agg #[.int .i64 r1, .int .u64 r2], .bool r3]) ∧ Below w.heap.size w w' := by
 have hu31 := Tryz.underlying31
 have HB := Aside0.mk (Below.refl w.heap.size w)
 have H : (if (subHi a0_1 a1_1 0) ≤ 1 then (if ((decide (a0_0 < 0)) != (decide (a1_0 < 0))) = true then (if ((decide (a0_0 < 0)) != (decide ((wrap64 ((subLo (IntKind.u64.wrap (a0_0)) (IntKind.u64.wrap (a1_0)) (subHi a0_1 a1_1 0)))) < 0))) = true then (some (0, 0, false)) else (some (wrap64 ((subLo (IntKind.u64.wrap (a0_0)) (IntKind.u64.wrap (a1_0)) (subHi a0_1 a1_1 0))), (subLo a0_1 a1_1 0), true))) else (some (wrap64 ((subLo (IntKind.u64.wrap (a0_0)) (IntKind.u64.wrap (a1_0)) (subHi a0_1 a1_1 0))), (subLo a0_1 a1_1 0), true))) else (none)) = some (r1, r2, r3) := h
 clear h
 by_cases c3 : (subHi a0_1 a1_1 0) ≤ 1
 ·rw [if_pos c3] at H
  have c3b0 : decide ((subHi a0_1 a1_1 0) ≤ 1) = true := decide_eq_true c3
  clear c3
  by_cases c4 : ((decide (a0_0 < 0)) != (decide (a1_0 < 0))) = true
  ·rw [if_pos c4] at H
   have c4b0 : ((decide (a0_0 < 0)) != (decide (a1_0 < 0))) = true := c4
   (try (have c4b1 : decide ((decide (a0_0 < 0)) = (decide (a1_0 < 0))) = false := by simpa using c4))
   (try (have c4b2 : ((decide (a0_0 < 0)) == (decide (a1_0 < 0))) = false := by simpa using c4))
   (try (have c4b3 : ¬ ((decide (a0_0 < 0)) = (decide (a1_0 < 0))) := by simpa using c4))
   clear c4
   by_cases c5 : ((decide (a0_0 < 0)) != (decide ((wrap64 ((subLo (IntKind.u64.wrap (a0_0)) (IntKind.u64.wrap (a1_0)) (subHi a0_1 a1_1 0)))) < 0))) = true
   ·rw [if_pos c5] at H
    have c5b0 : ((decide (a0_0 < 0)) != (decide ((wrap64 ((subLo (IntKind.u64.wrap (a0_0)) (IntKind.u64.wrap (a1_0)) (subHi a0_1 a1_1 0)))) < 0))) = true := c5
    (try (have c5b1 : decide ((decide (a0_0 < 0)) = (decide ((wrap64 ((subLo (IntKind.u64.wrap (a0_0)) (IntKind.u64.wrap (a1_0)) (subHi a0_1 a1_1 0)))) < 0))) = false := by simpa using c5))
    (try (have c5b2 : ((decide (a0_0 < 0)) == (decide ((wrap64 ((subLo (IntKind.u64.wrap (a0_0)) (IntKind.u64.wrap (a1_0)) (subHi a0_1 a1_1 0)))) < 0))) = false := by simpa using c5))
    (try (have c5b3 : ¬ ((decide (a0_0 < 0)) = (decide ((wrap64 ((subLo (IntKind.u64.wrap (a0_0)) (IntKind.u64.wrap (a1_0)) (subHi a0_1 a1_1 0)))) < 0))) := by simpa using c5))
    clear c5
    simp only [Option.some.injEq, Prod.mk.injEq] at H
    obtain ⟨rfl, rfl, rfl⟩ := H
    go_enter Tryz.func26, Tryz.ntmps26
    go_wp2_with (first | ((with_reducible refine gate_dst (N := 2) rfl ?_); refine box_event ?hg (N := 2) ?hd (cs := #[.int .i64 a0_0, .int .u64 a0_1]) (t := 31) ?hr ?_; (case hd => rfl); (case hg => rfl); (case hr => first | (go_simp; done) | (go_simp; rfl)); intro gb171 hg w6 hbox hb; have BK171 := Aside0.mk (hbox); have GW171 := bels HB hg; have GE171 := bels HB hg; replace HB := belb HB hb; clear hb hbox hg) | ((with_reducible refine gate_dst (N := 3) rfl ?_); refine box_event ?hg (N := 3) ?hd (cs := #[.int .i64 a1_0, .int .u64 a1_1]) (t := 31) ?hr ?_; (case hd => rfl); (case hg => rfl); (case hr => first | (go_simp; done) | (go_simp; rfl)); intro gb172 hg w7 hbox hb; have BK172 := Aside0.mk (hbox); have GW172 := bels HB hg; have GE172 := bels HB hg; have NB171_172 := blkl BK171 hg; have NB172_171 := blkg BK171 hg; replace BK171 := blkb BK171 hb; replace HB := belb HB hb; clear hb hbox hg) | ((with_reducible refine gate_dst (N := 4) rfl ?_); refine box_event ?hg (N := 4) ?hd (cs := #[.int .i64 0, .int .u64 0]) (t := 31) ?hr ?_; (case hd => rfl); (case hg => rfl); (case hr => first | (go_simp; done) | (go_simp; rfl)); intro gb173 hg w8 hbox hb; have BK173 := Aside0.mk (hbox); have GW173 := bels HB hg; have GE173 := bels HB hg; have NB171_173 := blkl BK171 hg; have NB173_171 := blkg BK171 hg; have NB172_173 := blkl BK172 hg; have NB173_172 := blkg BK172 hg; replace BK171 := blkb BK171 hb; replace BK172 := blkb BK172 hb; replace HB := belb HB hb; clear hb hbox hg; have hnb9 := NB171_172.out; have hnc9 := NB172_171.out; have hnb10 := NB171_173.out; have hnc10 := NB173_171.out; have hcz11_0 : w8.cell? ⟨gb171, 0, none⟩ = some (.int .i64 a0_0) := bc BK171 0; have hcz11_1 : w8.cell? ⟨gb171, 1, none⟩ = some (.int .u64 a0_1) := bc BK171 1; have hfz11_0 := blk_frozen BK171.out 0; have hfz11_1 := blk_frozen BK171.out 1; have hnb12 := NB172_173.out; have hnc12 := NB173_172.out; have hcz13_0 : w8.cell? ⟨gb172, 0, none⟩ = some (.int .i64 a1_0) := bc BK172 0; have hcz13_1 : w8.cell? ⟨gb172, 1, none⟩ = some (.int .u64 a1_1) := bc BK172 1; have hfz13_0 := blk_frozen BK172.out 0; have hfz13_1 := blk_frozen BK172.out 1) | ((with_reducible refine gate_dst (N := 10) rfl ?_); refine box_event ?hg (N := 10) ?hd (cs := #[.int .i64 0, .int .u64 0]) (t := 31) ?hr ?_; (case hd => rfl); (case hg => rfl); (case hr => first | (go_simp; done) | (go_simp; rfl)); intro gb174 hg w14 hbox hb; have BK174 := Aside0.mk (hbox); have GW174 := bels HB hg; have GE174 := bels HB hg; have NB171_174 := blkl BK171 hg; have NB174_171 := blkg BK171 hg; have NB172_174 := blkl BK172 hg; have NB174_172 := blkg BK172 hg; have NB173_174 := blkl BK173 hg; have NB174_173 := blkg BK173 hg; replace BK171 := blkb BK171 hb; replace BK172 := blkb BK172 hb; replace BK173 := blkb BK173 hb; replace HB := belb HB hb; clear hb hbox hg; have hnb15 := NB174_171.out; have hnc15 := NB171_174.out; have hnb16 := NB174_172.out; have hnc16 := NB172_174.out; have hnb17 := NB174_173.out; have hnc17 := NB173_174.out; have hcz18_0 : w14.cell? ⟨gb174, 0, none⟩ = some (.int .i64 0) := bc BK174 0; have hcz18_1 : w14.cell? ⟨gb174, 1, none⟩ = some (.int .u64 0) := bc BK174 1; have hfz18_0 := blk_frozen BK174.out 0; have hfz18_1 := blk_frozen BK174.out 1; have hcz19_0 : w14.cell? ⟨gb171, 0, none⟩ = some (.int .i64 a0_0) := bc BK171 0; have hcz19_1 : w14.cell? ⟨gb171, 1, none⟩ = some (.int .u64 a0_1) := bc BK171 1; have hfz19_0 := blk_frozen BK171.out 0; have hfz19_1 := blk_frozen BK171.out 1; have hcz20_0 : w14.cell? ⟨gb172, 0, none⟩ = some (.int .i64 a1_0) := bc BK172 0; have hcz20_1 : w14.cell? ⟨gb172, 1, none⟩ = some (.int .u64 a1_1) := bc BK172 1; have hfz20_0 := blk_frozen BK172.out 0; have hfz20_1 := blk_frozen BK172.out 1; have hcz21_0 : w14.cell? ⟨gb173, 0, none⟩ = some (.int .i64 0) := bc BK173 0; have hcz21_1 : w14.cell? ⟨gb173, 1, none⟩ = some (.int .u64 0) := bc BK173 1; have hfz21_0 := blk_frozen BK173.out 0; have hfz21_1 := blk_frozen BK173.out 1))
    refine bodyPost_ret (results_ct rfl _ _ gb173 31 #[.int .i64 0, .int .u64 0] (0, 0) _ rfl (by (with_reducible repeat (first | refine blk_drewN ?_ _ | refine blk_drew ?_ | refine blk_alloc ?_ _)); refine blk_put (cs := #[.int .i64 0, .int .u64 0]) ?_ 1 _ rfl; (with_reducible repeat (first | refine blk_drewN ?_ _ | refine blk_drew ?_ | refine blk_alloc ?_ _)); refine blk_put (cs := #[.int .i64 0, .int .u64 0]) ?_ 0 _ rfl; (with_reducible repeat (first | refine blk_drewN ?_ _ | refine blk_drew ?_ | refine blk_alloc ?_ _)); refine blk_far ?_ NB173_174.out _; (with_reducible repeat (first | refine blk_drewN ?_ _ | refine blk_drew ?_ | refine blk_alloc ?_ _)); refine blk_far ?_ NB173_174.out _; exact blkt BK173) Tryz.underlying31 rfl (by kernel_rfl)) rfl ?_
    exact ⟨by first | rfl | (simp [errW_none, errW_some] <;> rfl) | (simp [*, errW_none, errW_some] <;> rfl), belt HB⟩
   rw [if_neg c5] at H
   have c5b0 : ((decide (a0_0 < 0)) != (decide ((wrap64 ((subLo (IntKind.u64.wrap (a0_0)) (IntKind.u64.wrap (a1_0)) (subHi a0_1 a1_1 0)))) < 0))) = false := by simpa using c5
   (try (have c5b1 : decide ((decide (a0_0 < 0)) = (decide ((wrap64 ((subLo (IntKind.u64.wrap (a0_0)) (IntKind.u64.wrap (a1_0)) (subHi a0_1 a1_1 0)))) < 0))) = true := by simpa using c5))
   (try (have c5b2 : ((decide (a0_0 < 0)) == (decide ((wrap64 ((subLo (IntKind.u64.wrap (a0_0)) (IntKind.u64.wrap (a1_0)) (subHi a0_1 a1_1 0)))) < 0))) = true := by simpa using c5))
   clear c5
   simp only [Option.some.injEq, Prod.mk.injEq] at H
   obtain ⟨rfl, rfl, rfl⟩ := H
   go_enter Tryz.func26, Tryz.ntmps26
   go_wp2_with (first | ((with_reducible refine gate_dst (N := 2) rfl ?_); refine box_event ?hg (N := 2) ?hd (cs := #[.int .i64 a0_0, .int .u64 a0_1]) (t := 31) ?hr ?_; (case hd => rfl); (case hg => rfl); (case hr => first | (go_simp; done) | (go_simp; rfl)); intro gb171 hg w22 hbox hb; have BK171 := Aside0.mk (hbox); have GW171 := bels HB hg; have GE171 := bels HB hg; replace HB := belb HB hb; clear hb hbox hg) | ((with_reducible refine gate_dst (N := 3) rfl ?_); refine box_event ?hg (N := 3) ?hd (cs := #[.int .i64 a1_0, .int .u64 a1_1]) (t := 31) ?hr ?_; (case hd => rfl); (case hg => rfl); (case hr => first | (go_simp; done) | (go_simp; rfl)); intro gb172 hg w23 hbox hb; have BK172 := Aside0.mk (hbox); have GW172 := bels HB hg; have GE172 := bels HB hg; have NB171_172 := blkl BK171 hg; have NB172_171 := blkg BK171 hg; replace BK171 := blkb BK171 hb; replace HB := belb HB hb; clear hb hbox hg) | ((with_reducible refine gate_dst (N := 4) rfl ?_); refine box_event ?hg (N := 4) ?hd (cs := #[.int .i64 0, .int .u64 0]) (t := 31) ?hr ?_; (case hd => rfl); (case hg => rfl); (case hr => first | (go_simp; done) | (go_simp; rfl)); intro gb173 hg w24 hbox hb; have BK173 := Aside0.mk (hbox); have GW173 := bels HB hg; have GE173 := bels HB hg; have NB171_173 := blkl BK171 hg; have NB173_171 := blkg BK171 hg; have NB172_173 := blkl BK172 hg; have NB173_172 := blkg BK172 hg; replace BK171 := blkb BK171 hb; replace BK172 := blkb BK172 hb; replace HB := belb HB hb; clear hb hbox hg; have hnb25 := NB171_172.out; have hnc25 := NB172_171.out; have hnb26 := NB171_173.out; have hnc26 := NB173_171.out; have hcz27_0 : w24.cell? ⟨gb171, 0, none⟩ = some (.int .i64 a0_0) := bc BK171 0; have hcz27_1 : w24.cell? ⟨gb171, 1, none⟩ = some (.int .u64 a0_1) := bc BK171 1; have hfz27_0 := blk_frozen BK171.out 0; have hfz27_1 := blk_frozen BK171.out 1; have hnb28 := NB172_173.out; have hnc28 := NB173_172.out; have hcz29_0 : w24.cell? ⟨gb172, 0, none⟩ = some (.int .i64 a1_0) := bc BK172 0; have hcz29_1 : w24.cell? ⟨gb172, 1, none⟩ = some (.int .u64 a1_1) := bc BK172 1; have hfz29_0 := blk_frozen BK172.out 0; have hfz29_1 := blk_frozen BK172.out 1) | ((with_reducible refine gate_dst (N := 10) rfl ?_); refine box_event ?hg (N := 10) ?hd (cs := #[.int .i64 0, .int .u64 0]) (t := 31) ?hr ?_; (case hd => rfl); (case hg => rfl); (case hr => first | (go_simp; done) | (go_simp; rfl)); intro gb174 hg w30 hbox hb; have BK174 := Aside0.mk (hbox); have GW174 := bels HB hg; have GE174 := bels HB hg; have NB171_174 := blkl BK171 hg; have NB174_171 := blkg BK171 hg; have NB172_174 := blkl BK172 hg; have NB174_172 := blkg BK172 hg; have NB173_174 := blkl BK173 hg; have NB174_173 := blkg BK173 hg; replace BK171 := blkb BK171 hb; replace BK172 := blkb BK172 hb; replace BK173 := blkb BK173 hb; replace HB := belb HB hb; clear hb hbox hg; have hnb31 := NB174_171.out; have hnc31 := NB171_174.out; have hnb32 := NB174_172.out; have hnc32 := NB172_174.out; have hnb33 := NB174_173.out; have hnc33 := NB173_174.out; have hcz34_0 : w30.cell? ⟨gb174, 0, none⟩ = some (.int .i64 0) := bc BK174 0; have hcz34_1 : w30.cell? ⟨gb174, 1, none⟩ = some (.int .u64 0) := bc BK174 1; have hfz34_0 := blk_frozen BK174.out 0; have hfz34_1 := blk_frozen BK174.out 1; have hcz35_0 : w30.cell? ⟨gb171, 0, none⟩ = some (.int .i64 a0_0) := bc BK171 0; have hcz35_1 : w30.cell? ⟨gb171, 1, none⟩ = some (.int .u64 a0_1) := bc BK171 1; have hfz35_0 := blk_frozen BK171.out 0; have hfz35_1 := blk_frozen BK171.out 1; have hcz36_0 : w30.cell? ⟨gb172, 0, none⟩ = some (.int .i64 a1_0) := bc BK172 0; have hcz36_1 : w30.cell? ⟨gb172, 1, none⟩ = some (.int .u64 a1_1) := bc BK172 1; have hfz36_0 := blk_frozen BK172.out 0; have hfz36_1 := blk_frozen BK172.out 1; have hcz37_0 : w30.cell? ⟨gb173, 0, none⟩ = some (.int .i64 0) := bc BK173 0; have hcz37_1 : w30.cell? ⟨gb173, 1, none⟩ = some (.int .u64 0) := bc BK173 1; have hfz37_0 := blk_frozen BK173.out 0; have hfz37_1 := blk_frozen BK173.out 1))
   refine bodyPost_ret (results_ct rfl _ _ gb173 31 #[.int .i64 (wrap64 ((subLo (IntKind.u64.wrap (a0_0)) (IntKind.u64.wrap (a1_0)) (subHi a0_1 a1_1 0)))), .int .u64 (subLo a0_1 a1_1 0)] (0, 0) _ rfl (by (with_reducible repeat (first | refine blk_drewN ?_ _ | refine blk_drew ?_ | refine blk_alloc ?_ _)); refine blk_put (cs := #[.int .i64 (wrap64 ((subLo (IntKind.u64.wrap (a0_0)) (IntKind.u64.wrap (a1_0)) (subHi a0_1 a1_1 0)))), .int .u64 0]) ?_ 1 _ rfl; (with_reducible repeat (first | refine blk_drewN ?_ _ | refine blk_drew ?_ | refine blk_alloc ?_ _)); refine blk_put (cs := #[.int .i64 0, .int .u64 0]) ?_ 0 _ rfl; (with_reducible repeat (first | refine blk_drewN ?_ _ | refine blk_drew ?_ | refine blk_alloc ?_ _)); refine blk_far ?_ NB173_174.out _; (with_reducible repeat (first | refine blk_drewN ?_ _ | refine blk_drew ?_ | refine blk_alloc ?_ _)); refine blk_far ?_ NB173_174.out _; exact blkt BK173) Tryz.underlying31 rfl (by kernel_rfl)) rfl ?_
   exact ⟨by first | rfl | (simp [errW_none, errW_some] <;> rfl) | (simp [*, errW_none, errW_some] <;> rfl), belt HB⟩
  rw [if_neg c4] at H
  have c4b0 : ((decide (a0_0 < 0)) != (decide (a1_0 < 0))) = false := by simpa using c4
  (try (have c4b1 : decide ((decide (a0_0 < 0)) = (decide (a1_0 < 0))) = true := by simpa using c4))
  (try (have c4b2 : ((decide (a0_0 < 0)) == (decide (a1_0 < 0))) = true := by simpa using c4))
  clear c4
  simp only [Option.some.injEq, Prod.mk.injEq] at H
  obtain ⟨rfl, rfl, rfl⟩ := H
  go_enter Tryz.func26, Tryz.ntmps26
  go_wp2_with (first | ((with_reducible refine gate_dst (N := 2) rfl ?_); refine box_event ?hg (N := 2) ?hd (cs := #[.int .i64 a0_0, .int .u64 a0_1]) (t := 31) ?hr ?_; (case hd => rfl); (case hg => rfl); (case hr => first | (go_simp; done) | (go_simp; rfl)); intro gb171 hg w38 hbox hb; have BK171 := Aside0.mk (hbox); have GW171 := bels HB hg; have GE171 := bels HB hg; replace HB := belb HB hb; clear hb hbox hg) | ((with_reducible refine gate_dst (N := 3) rfl ?_); refine box_event ?hg (N := 3) ?hd (cs := #[.int .i64 a1_0, .int .u64 a1_1]) (t := 31) ?hr ?_; (case hd => rfl); (case hg => rfl); (case hr => first | (go_simp; done) | (go_simp; rfl)); intro gb172 hg w39 hbox hb; have BK172 := Aside0.mk (hbox); have GW172 := bels HB hg; have GE172 := bels HB hg; have NB171_172 := blkl BK171 hg; have NB172_171 := blkg BK171 hg; replace BK171 := blkb BK171 hb; replace HB := belb HB hb; clear hb hbox hg) | ((with_reducible refine gate_dst (N := 4) rfl ?_); refine box_event ?hg (N := 4) ?hd (cs := #[.int .i64 0, .int .u64 0]) (t := 31) ?hr ?_; (case hd => rfl); (case hg => rfl); (case hr => first | (go_simp; done) | (go_simp; rfl)); intro gb173 hg w40 hbox hb; have BK173 := Aside0.mk (hbox); have GW173 := bels HB hg; have GE173 := bels HB hg; have NB171_173 := blkl BK171 hg; have NB173_171 := blkg BK171 hg; have NB172_173 := blkl BK172 hg; have NB173_172 := blkg BK172 hg; replace BK171 := blkb BK171 hb; replace BK172 := blkb BK172 hb; replace HB := belb HB hb; clear hb hbox hg; have hnb41 := NB171_172.out; have hnc41 := NB172_171.out; have hnb42 := NB171_173.out; have hnc42 := NB173_171.out; have hcz43_0 : w40.cell? ⟨gb171, 0, none⟩ = some (.int .i64 a0_0) := bc BK171 0; have hcz43_1 : w40.cell? ⟨gb171, 1, none⟩ = some (.int .u64 a0_1) := bc BK171 1; have hfz43_0 := blk_frozen BK171.out 0; have hfz43_1 := blk_frozen BK171.out 1; have hnb44 := NB172_173.out; have hnc44 := NB173_172.out; have hcz45_0 : w40.cell? ⟨gb172, 0, none⟩ = some (.int .i64 a1_0) := bc BK172 0; have hcz45_1 : w40.cell? ⟨gb172, 1, none⟩ = some (.int .u64 a1_1) := bc BK172 1; have hfz45_0 := blk_frozen BK172.out 0; have hfz45_1 := blk_frozen BK172.out 1) | ((with_reducible refine gate_dst (N := 10) rfl ?_); refine box_event ?hg (N := 10) ?hd (cs := #[.int .i64 0, .int .u64 0]) (t := 31) ?hr ?_; (case hd => rfl); (case hg => rfl); (case hr => first | (go_simp; done) | (go_simp; rfl)); intro gb174 hg w46 hbox hb; have BK174 := Aside0.mk (hbox); have GW174 := bels HB hg; have GE174 := bels HB hg; have NB171_174 := blkl BK171 hg; have NB174_171 := blkg BK171 hg; have NB172_174 := blkl BK172 hg; have NB174_172 := blkg BK172 hg; have NB173_174 := blkl BK173 hg; have NB174_173 := blkg BK173 hg; replace BK171 := blkb BK171 hb; replace BK172 := blkb BK172 hb; replace BK173 := blkb BK173 hb; replace HB := belb HB hb; clear hb hbox hg; have hnb47 := NB174_171.out; have hnc47 := NB171_174.out; have hnb48 := NB174_172.out; have hnc48 := NB172_174.out; have hnb49 := NB174_173.out; have hnc49 := NB173_174.out; have hcz50_0 : w46.cell? ⟨gb174, 0, none⟩ = some (.int .i64 0) := bc BK174 0; have hcz50_1 : w46.cell? ⟨gb174, 1, none⟩ = some (.int .u64 0) := bc BK174 1; have hfz50_0 := blk_frozen BK174.out 0; have hfz50_1 := blk_frozen BK174.out 1; have hcz51_0 : w46.cell? ⟨gb171, 0, none⟩ = some (.int .i64 a0_0) := bc BK171 0; have hcz51_1 : w46.cell? ⟨gb171, 1, none⟩ = some (.int .u64 a0_1) := bc BK171 1; have hfz51_0 := blk_frozen BK171.out 0; have hfz51_1 := blk_frozen BK171.out 1; have hcz52_0 : w46.cell? ⟨gb172, 0, none⟩ = some (.int .i64 a1_0) := bc BK172 0; have hcz52_1 : w46.cell? ⟨gb172, 1, none⟩ = some (.int .u64 a1_1) := bc BK172 1; have hfz52_0 := blk_frozen BK172.out 0; have hfz52_1 := blk_frozen BK172.out 1; have hcz53_0 : w46.cell? ⟨gb173, 0, none⟩ = some (.int .i64 0) := bc BK173 0; have hcz53_1 : w46.cell? ⟨gb173, 1, none⟩ = some (.int .u64 0) := bc BK173 1; have hfz53_0 := blk_frozen BK173.out 0; have hfz53_1 := blk_frozen BK173.out 1))
  refine bodyPost_ret (results_ct rfl _ _ gb173 31 #[.int .i64 (wrap64 ((subLo (IntKind.u64.wrap (a0_0)) (IntKind.u64.wrap (a1_0)) (subHi a0_1 a1_1 0)))), .int .u64 (subLo a0_1 a1_1 0)] (0, 0) _ rfl (by (with_reducible repeat (first | refine blk_drewN ?_ _ | refine blk_drew ?_ | refine blk_alloc ?_ _)); refine blk_put (cs := #[.int .i64 (wrap64 ((subLo (IntKind.u64.wrap (a0_0)) (IntKind.u64.wrap (a1_0)) (subHi a0_1 a1_1 0)))), .int .u64 0]) ?_ 1 _ rfl; (with_reducible repeat (first | refine blk_drewN ?_ _ | refine blk_drew ?_ | refine blk_alloc ?_ _)); refine blk_put (cs := #[.int .i64 0, .int .u64 0]) ?_ 0 _ rfl; (with_reducible repeat (first | refine blk_drewN ?_ _ | refine blk_drew ?_ | refine blk_alloc ?_ _)); refine blk_far ?_ NB173_174.out _; (with_reducible repeat (first | refine blk_drewN ?_ _ | refine blk_drew ?_ | refine blk_alloc ?_ _)); refine blk_far ?_ NB173_174.out _; exact blkt BK173) Tryz.underlying31 rfl (by kernel_rfl)) rfl ?_
  exact ⟨by first | rfl | (simp [errW_none, errW_some] <;> rfl) | (simp [*, errW_none, errW_some] <;> rfl), belt HB⟩
 rw [if_neg c3] at H
 exact absurd H (by simp)


attribute [local go_sem high] eqA31
/-! ### wide_Int_Small: function 27 -/
def wide_Int_Small.f (a0_0 : Int) (a0_1 : Int) : Option (Int × Bool) := (wide_Of.f (wrap64 (a0_1))).bind fun bt234 => (if (!(bt234.1 == a0_0) || (!(bt234.2 == a0_1))) = true then (some (0, false)) else (some (wrap64 (a0_1), true)))
set_option maxHeartbeats 8000000 in
set_option maxRecDepth 100000 in
theorem wide_Int_Small.calls (a0_0 : Int) (a0_1 : Int) (r1 : Int) (r2 : Bool) (w : World) (h : wide_Int_Small.f a0_0 a0_1 = some (r1, r2)) :
  Calls Tryz.prog 27 #[.agg #[.int .i64 a0_0, .int .u64 a0_1]] w fun e w' => e = .returned (.tuple #[.int .i64 r1, .bool r2]) ∧ Below w.heap.size w w' := by
 have hu31 := Tryz.underlying31
 have HB := Aside0.mk (Below.refl w.heap.size w)
 have H : ((wide_Of.f (wrap64 (a0_1))).bind fun bt234 => (if (!(bt234.1 == a0_0) || (!(bt234.2 == a0_1))) = true then (some (0, false)) else (some (wrap64 (a0_1), true)))) = some (r1, r2) := h
 clear h
 replace H := Option.bind_eq_some_iff.mp H
 obtain ⟨⟨t234, t235⟩, A20, H⟩ := H
 replace H : (if (!(t234 == a0_0) || (!(t235 == a0_1))) = true then (some (0, false)) else (some (wrap64 (a0_1), true))) = some (r1, r2) := H
 have A2 := Aside0.mk A20
 clear A20
 by_cases c3 : (!(t234 == a0_0) || (!(t235 == a0_1))) = true
 ·rw [if_pos c3] at H
  have c3b0 : (!(t234 == a0_0) || (!(t235 == a0_1))) = true := c3
  clear c3
  simp only [Option.some.injEq, Prod.mk.injEq] at H
  obtain ⟨rfl, rfl⟩ := H
  go_enter Tryz.func27, Tryz.ntmps27
  try go_wp2_with (first | ((with_reducible refine gate_dst (N := 1) rfl ?_); refine box_event ?hg (N := 1) ?hd (cs := #[.int .i64 a0_0, .int .u64 a0_1]) (t := 31) ?hr ?_; (case hd => rfl); (case hg => rfl); (case hr => first | (go_simp; done) | (go_simp; rfl)); intro gb233 hg w4 hbox hb; have BK233 := Aside0.mk (hbox); have GW233 := bels HB hg; have GE233 := bels HB hg; replace HB := belb HB hb; clear hb hbox hg; have hcz5_0 : w4.cell? ⟨gb233, 0, none⟩ = some (.int .i64 a0_0) := bc BK233 0; have hcz5_1 : w4.cell? ⟨gb233, 1, none⟩ = some (.int .u64 a0_1) := bc BK233 1; have hfz5_0 := blk_frozen BK233.out 0; have hfz5_1 := blk_frozen BK233.out 1))
  replace BK233 := Aside0.mk (blk_drew BK233.out)
  replace HB := Aside0.mk (below_drew1 HB.out)
  refine start_ (n := 4) (S := fun w' => w'.cell? ⟨gb233, 0, none⟩ = some (.int .i64 a0_0) ∧ w'.cell? ⟨gb233, 1, none⟩ = some (.int .u64 a0_1)) (ds := []) #[false, false, false, false] (by kernel_rfl) rfl rfl ⟨bc BK233 0, bc BK233 1⟩ (fun hHeld => ?_)
  generalize w4.drew = w6 at BK233 HB hHeld ⊢
  refine pure_ (i := 0) (N := some 8) (v := ?_) (a' := ?_) #[true, false, false, false] rfl rfl (by kernel_rfl) (fun _ _ _ h => h) (Or.inl ⟨by rfl, ?_⟩) ?_ ?_
  rotate_left
  ·intro w'
   go_simp
   with_reducible rfl
  rotate_left
  ·simp only [Act.put, List.setIfInBounds_toArray, List.set_cons_zero, List.set_cons_succ, i64_w, i32_w]
   rfl
  refine take_ (i := 2) (N := some 10) (v := ?_) (a' := ?_) #[true, false, true, false] rfl rfl (by kernel_rfl) (fun _ _ _ h => h) (Or.inl ⟨by rfl, ?_⟩) hHeld ?_ ?_
  rotate_left
  ·rintro w' ⟨s0, s1⟩
   go_simp
   with_reducible rfl
  rotate_left
  ·simp only [Act.put, List.setIfInBounds_toArray, List.set_cons_zero, List.set_cons_succ, i64_w, i32_w]
   rfl
  refine one_ (i := 1) (N := some 9) #[true, true, true, false] rfl rfl (by kernel_rfl) (by decide) (fun K hK => ?_)
  refine goes_ Tryz.func31 (by kernel_rfl) rfl #[.int .i64 (wrap64 (a0_1))] (by rfl) rfl rfl argt ?_
  with_reducible refine (wide_Of.calls (wrap64 (a0_1)) t234 t235 _ A2.out).mono ?_
  rintro e w7 ⟨rfl, hb⟩
  refine ⟨_, rfl, ?_⟩
  replace BK233 := blkb BK233 hb
  replace HB := belb HB hb
  (try clear hb)
  (try clear hb2)
  (try clear hk)
  (try clear hi)
  refine hK.out _ _ ⟨bc BK233 0, bc BK233 1⟩ (fun hHeld => ?_)
  clear hK K
  refine norm_ (a' := ?_) ?_ ?_
  rotate_left
  ·show Act.put _ (some 9) _ = _
   simp only [Act.put, List.setIfInBounds_toArray, List.set_cons_zero, List.set_cons_succ, i64_w, i32_w]
   rfl
  refine pure_ (i := 3) (N := some 11) (v := ?_) (a' := ?_) #[true, true, true, true] rfl rfl (by kernel_rfl) (fun _ _ _ h => h) (Or.inl ⟨by rfl, ?_⟩) ?_ ?_
  rotate_left
  ·intro w'
   go_simp
   with_reducible rfl
  rotate_left
  ·simp only [Act.put, List.setIfInBounds_toArray, List.set_cons_zero, List.set_cons_succ, i64_w, i32_w]
   rfl
  refine done_ (by kernel_rfl) ?_
  try go_wp2
  go_ret2
  exact ⟨by first | rfl | (simp [errW_none, errW_some] <;> rfl) | (simp [*, errW_none, errW_some] <;> rfl), belt HB⟩
 rw [if_neg c3] at H
 have c3b0 : (!(t234 == a0_0) || (!(t235 == a0_1))) = false := by simpa using c3
 clear c3
 simp only [Option.some.injEq, Prod.mk.injEq] at H
 obtain ⟨rfl, rfl⟩ := H
 go_enter Tryz.func27, Tryz.ntmps27
 try go_wp2_with (first | ((with_reducible refine gate_dst (N := 1) rfl ?_); refine box_event ?hg (N := 1) ?hd (cs := #[.int .i64 a0_0, .int .u64 a0_1]) (t := 31) ?hr ?_; (case hd => rfl); (case hg => rfl); (case hr => first | (go_simp; done) | (go_simp; rfl)); intro gb233 hg w8 hbox hb; have BK233 := Aside0.mk (hbox); have GW233 := bels HB hg; have GE233 := bels HB hg; replace HB := belb HB hb; clear hb hbox hg; have hcz9_0 : w8.cell? ⟨gb233, 0, none⟩ = some (.int .i64 a0_0) := bc BK233 0; have hcz9_1 : w8.cell? ⟨gb233, 1, none⟩ = some (.int .u64 a0_1) := bc BK233 1; have hfz9_0 := blk_frozen BK233.out 0; have hfz9_1 := blk_frozen BK233.out 1))
 replace BK233 := Aside0.mk (blk_drew BK233.out)
 replace HB := Aside0.mk (below_drew1 HB.out)
 refine start_ (n := 4) (S := fun w' => w'.cell? ⟨gb233, 0, none⟩ = some (.int .i64 a0_0) ∧ w'.cell? ⟨gb233, 1, none⟩ = some (.int .u64 a0_1)) (ds := []) #[false, false, false, false] (by kernel_rfl) rfl rfl ⟨bc BK233 0, bc BK233 1⟩ (fun hHeld => ?_)
 generalize w8.drew = w10 at BK233 HB hHeld ⊢
 refine pure_ (i := 0) (N := some 8) (v := ?_) (a' := ?_) #[true, false, false, false] rfl rfl (by kernel_rfl) (fun _ _ _ h => h) (Or.inl ⟨by rfl, ?_⟩) ?_ ?_
 rotate_left
 ·intro w'
  go_simp
  with_reducible rfl
 rotate_left
 ·simp only [Act.put, List.setIfInBounds_toArray, List.set_cons_zero, List.set_cons_succ, i64_w, i32_w]
  rfl
 refine take_ (i := 2) (N := some 10) (v := ?_) (a' := ?_) #[true, false, true, false] rfl rfl (by kernel_rfl) (fun _ _ _ h => h) (Or.inl ⟨by rfl, ?_⟩) hHeld ?_ ?_
 rotate_left
 ·rintro w' ⟨s0, s1⟩
  go_simp
  with_reducible rfl
 rotate_left
 ·simp only [Act.put, List.setIfInBounds_toArray, List.set_cons_zero, List.set_cons_succ, i64_w, i32_w]
  rfl
 refine one_ (i := 1) (N := some 9) #[true, true, true, false] rfl rfl (by kernel_rfl) (by decide) (fun K hK => ?_)
 refine goes_ Tryz.func31 (by kernel_rfl) rfl #[.int .i64 (wrap64 (a0_1))] (by rfl) rfl rfl argt ?_
 with_reducible refine (wide_Of.calls (wrap64 (a0_1)) t234 t235 _ A2.out).mono ?_
 rintro e w11 ⟨rfl, hb⟩
 refine ⟨_, rfl, ?_⟩
 replace BK233 := blkb BK233 hb
 replace HB := belb HB hb
 (try clear hb)
 (try clear hb2)
 (try clear hk)
 (try clear hi)
 refine hK.out _ _ ⟨bc BK233 0, bc BK233 1⟩ (fun hHeld => ?_)
 clear hK K
 refine norm_ (a' := ?_) ?_ ?_
 rotate_left
 ·show Act.put _ (some 9) _ = _
  simp only [Act.put, List.setIfInBounds_toArray, List.set_cons_zero, List.set_cons_succ, i64_w, i32_w]
  rfl
 refine pure_ (i := 3) (N := some 11) (v := ?_) (a' := ?_) #[true, true, true, true] rfl rfl (by kernel_rfl) (fun _ _ _ h => h) (Or.inl ⟨by rfl, ?_⟩) ?_ ?_
 rotate_left
 ·intro w'
  go_simp
  with_reducible rfl
 rotate_left
 ·simp only [Act.put, List.setIfInBounds_toArray, List.set_cons_zero, List.set_cons_succ, i64_w, i32_w]
  rfl
 refine done_ (by kernel_rfl) ?_
 try go_wp2
 go_ret2
 exact ⟨by first | rfl | (simp [errW_none, errW_some] <;> rfl) | (simp [*, errW_none, errW_some] <;> rfl), belt HB⟩

end Go.Proofs.YtfbkamgdkdnpoaaGreatDoor.Print
