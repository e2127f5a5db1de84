/- What each Go function that is named below answers, as a Lean function, and that its walk comes to just that: for whatever arguments that function gives an answer for. Written by a program of this session (wip/mkpr.py, pr.sh). -/
import Derived.Test.YtfbkamgdkdnpoaaGreatDoorPrint1000
import Derived.Test.YtfbkamgdkdnpoaaGreatDoorPrint1007
import Derived.Test.YtfbkamgdkdnpoaaGreatDoorPrint1011
namespace Go.Proofs.YtfbkamgdkdnpoaaGreatDoor.Print
open Go.RowKit Go.Proofs.YtfbkamgdkdnpoaaGreatDoorW.PrintWords Go.Proofs.YtfbkamgdkdnpoaaGreatDoorW.PrintLast Go.Proofs.YtfbkamgdkdnpoaaGreatDoorW.PrintMore
attribute [local go_sem] max2_int min2_int max_two min_two max_three min_three max_four min_four   -- for this text's walks alone
open Go.Proofs.YtfbkamgdkdnpoaaGreatDoor.Bits Go.Proofs.YtfbkamgdkdnpoaaGreatDoor.Short
attribute [local go_sem] add64_run0 sub64_run0 add64_run sub64_run
set_option linter.unusedVariables false
set_option linter.unusedSimpArgs false

/-! ### lag_Sign: function 37 -/
def lag_Sign.f (k : Nat) (a0_0 : Int) (a0_1 : Int) (a0_2 : Int) (a0_3 : Int) (a0_4 : Int) (a1_0 : Int) (a1_1 : Int) (a1_2 : Int) : Option (Int × Bool) := (lag_over.f k a0_0 a0_1 a0_2 a0_3 a0_4 a1_0 a1_1 a1_2).bind fun bt235 => ((wide_Int_Sign.f k bt235.1 bt235.2.1).bind fun t239 => (some (t239, bt235.2.2)))
theorem lag_Sign.mono : ∀ a0 a1 a2 a3 a4 a5 a6 a7 k, LeO (lag_Sign.f k a0 a1 a2 a3 a4 a5 a6 a7) (lag_Sign.f (k + 1) a0 a1 a2 a3 a4 a5 a6 a7) := by
 intro a0 a1 a2 a3 a4 a5 a6 a7 k
 unfold lag_Sign.f
 repeat' first
   | (with_reducible exact lag_over.mono _ _ _ _ _ _ _ _ _)
   | (with_reducible exact wide_Int_Sign.mono _ _ _)
   | (with_reducible exact LeO.refl _)
   | (with_reducible exact LeO.none _)
   | (with_reducible refine LeO.ite ?_ ?_)
   | (with_reducible refine LeO.bind ?_ (fun _ => ?_))
   | exact lag_over.mono _ _ _ _ _ _ _ _ _
   | exact wide_Int_Sign.mono _ _ _
   | exact LeO.none _
   | refine LeO.ite ?_ ?_
   | refine LeO.bind ?_ (fun _ => ?_)
set_option maxHeartbeats 8000000 in
set_option maxRecDepth 100000 in
theorem lag_Sign.calls (k : Nat) (a0_0 : Int) (a0_1 : Int) (a0_2 : Int) (a0_3 : Int) (a0_4 : Int) (a1_0 : Int) (a1_1 : Int) (a1_2 : Int) (r1 : Int) (r2 : Bool) (w : World) (h : lag_Sign.f k a0_0 a0_1 a0_2 a0_3 a0_4 a1_0 a1_1 a1_2 = some (r1, r2)) :
  Calls Tryz.prog 37 #[.agg #[.int .u64 a0_0, .int .i64 a0_1, .int .u64 a0_2, .int .u64 a0_3, .int .i64 a0_4], .agg #[.int .u64 a1_0, .int .u32 a1_1, .int .u32 a1_2]] w fun e w' => e = .returned (.tuple #[.int .i64 r1, .bool r2]) ∧ Below w.heap.size w w' := by
 have hu33 := Tryz.underlying33
 have hu28 := Tryz.underlying28
 have hu31 := Tryz.underlying31
 have HB := Aside0.mk (Below.refl w.heap.size w)
 have H : ((lag_over.f k a0_0 a0_1 a0_2 a0_3 a0_4 a1_0 a1_1 a1_2).bind fun bt235 => ((wide_Int_Sign.f k bt235.1 bt235.2.1).bind fun t239 => (some (t239, bt235.2.2)))) = some (r1, r2) := h
 clear h
 replace H := Option.bind_eq_some_iff.mp H
 obtain ⟨⟨t235, t236, t237⟩, A30, H⟩ := H
 replace H : ((wide_Int_Sign.f k t235 t236).bind fun t239 => (some (t239, t237))) = some (r1, r2) := H
 have A3 := Aside0.mk A30
 clear A30
 replace H := Option.bind_eq_some_iff.mp H
 obtain ⟨t239, A40, H⟩ := H
 replace H : (some (t239, t237)) = some (r1, r2) := H
 have A4 := Aside0.mk A40
 clear A40
 simp only [Option.some.injEq, Prod.mk.injEq] at H
 obtain ⟨rfl, rfl⟩ := H
 go_enter Tryz.func37, Tryz.ntmps37
 go_wp2_with (first | ((with_reducible refine gate_dst (N := 2) rfl ?_); refine box_event ?hg (N := 2) ?hd (cs := #[.int .u64 a0_0, .int .i64 a0_1, .int .u64 a0_2, .int .u64 a0_3, .int .i64 a0_4]) (t := 33) ?hr ?_; (case hd => rfl); (case hg => rfl); (case hr => first | (go_simp; done) | (go_simp; rfl)); intro gb233 hg w5 hbox hb; have BK233 := Aside0.mk (hbox); have GW233 := bels HB hg; have GE233 := bels HB hg; replace HB := belb HB hb; clear hb hbox hg) | ((with_reducible refine gate_dst (N := 3) rfl ?_); refine box_event ?hg (N := 3) ?hd (cs := #[.int .u64 a1_0, .int .u32 a1_1, .int .u32 a1_2]) (t := 28) ?hr ?_; (case hd => rfl); (case hg => rfl); (case hr => first | (go_simp; done) | (go_simp; rfl)); intro gb234 hg w6 hbox hb; have BK234 := Aside0.mk (hbox); have GW234 := bels HB hg; have GE234 := bels HB hg; have NB233_234 := blkl BK233 hg; have NB234_233 := blkg BK233 hg; replace BK233 := blkb BK233 hb; replace HB := belb HB hb; clear hb hbox hg; have hnb7 := NB233_234.out; have hnc7 := NB234_233.out; have hcz8_0 : w6.cell? ⟨gb233, 0, none⟩ = some (.int .u64 a0_0) := (blk_cell BK233.out 0).trans rfl; have hcz8_1 : w6.cell? ⟨gb233, 1, none⟩ = some (.int .i64 a0_1) := (blk_cell BK233.out 1).trans rfl; have hcz8_2 : w6.cell? ⟨gb233, 2, none⟩ = some (.int .u64 a0_2) := (blk_cell BK233.out 2).trans rfl; have hcz8_3 : w6.cell? ⟨gb233, 3, none⟩ = some (.int .u64 a0_3) := (blk_cell BK233.out 3).trans rfl; have hcz8_4 : w6.cell? ⟨gb233, 4, none⟩ = some (.int .i64 a0_4) := (blk_cell BK233.out 4).trans rfl; have hfz8_0 := blk_frozen BK233.out 0; have hfz8_1 := blk_frozen BK233.out 1; have hfz8_2 := blk_frozen BK233.out 2; have hfz8_3 := blk_frozen BK233.out 3; have hfz8_4 := blk_frozen BK233.out 4; have hcz9_0 : w6.cell? ⟨gb234, 0, none⟩ = some (.int .u64 a1_0) := (blk_cell BK234.out 0).trans rfl; have hcz9_1 : w6.cell? ⟨gb234, 1, none⟩ = some (.int .u32 a1_1) := (blk_cell BK234.out 1).trans rfl; have hcz9_2 : w6.cell? ⟨gb234, 2, none⟩ = some (.int .u32 a1_2) := (blk_cell BK234.out 2).trans rfl; have hfz9_0 := blk_frozen BK234.out 0; have hfz9_1 := blk_frozen BK234.out 1; have hfz9_2 := blk_frozen BK234.out 2) | ((with_reducible refine gate_callee (f := 55) rfl ?_); refine goesL_ (some 11) rfl rfl Tryz.func55 (by kernel_rfl) rfl #[.agg #[.int .u64 a0_0, .int .i64 a0_1, .int .u64 a0_2, .int .u64 a0_3, .int .i64 a0_4], .agg #[.int .u64 a1_0, .int .u32 a1_1, .int .u32 a1_2]] rfl argt ?_; (with_reducible refine (lag_over.calls k a0_0 a0_1 a0_2 a0_3 a0_4 a1_0 a1_1 a1_2 t235 t236 t237 _ A3.out).mono ?_); rintro e w10 ⟨rfl, hb⟩; refine ⟨_, rfl, ?_⟩; replace BK233 := blkb BK233 hb; replace BK234 := blkb BK234 hb; replace HB := belb HB hb; (try clear hb); (try clear hb2); (try clear hk); (try clear hi)) | ((with_reducible refine gate_dst (N := 6) rfl ?_); refine box_event ?hg (N := 6) ?hd (cs := #[.int .i64 0, .int .u64 0]) (t := 31) ?hr ?_; (case hd => rfl); (case hg => rfl); (case hr => first | (go_simp; done) | (go_simp; rfl)); intro gb238 hg w11 hbox hb; have BK238 := Aside0.mk (hbox); have GW238 := bels HB hg; have GE238 := bels HB hg; have NB233_238 := blkl BK233 hg; have NB238_233 := blkg BK233 hg; have NB234_238 := blkl BK234 hg; have NB238_234 := blkg BK234 hg; replace BK233 := blkb BK233 hb; replace BK234 := blkb BK234 hb; replace HB := belb HB hb; clear hb hbox hg; have hnb12 := NB238_233.out; have hnc12 := NB233_238.out; have hnb13 := NB238_234.out; have hnc13 := NB234_238.out; have hcz14_0 : w11.cell? ⟨gb238, 0, none⟩ = some (.int .i64 0) := (blk_cell BK238.out 0).trans rfl; have hcz14_1 : w11.cell? ⟨gb238, 1, none⟩ = some (.int .u64 0) := (blk_cell BK238.out 1).trans rfl; have hfz14_0 := blk_frozen BK238.out 0; have hfz14_1 := blk_frozen BK238.out 1) | ((with_reducible refine gate_callee (f := 48) rfl ?_); refine goesL_ (some 15) rfl rfl Tryz.func48 (by kernel_rfl) rfl #[.agg #[.int .i64 t235, .int .u64 t236]] rfl argt ?_; (with_reducible refine (wide_Int_Sign.calls k t235 t236 t239 _ A4.out).mono ?_); rintro e w15 ⟨rfl, hb⟩; refine ⟨_, rfl, ?_⟩; replace BK233 := Aside0.mk (blk_below (g := gb233) (o := .cells #[.int .u64 a0_0, .int .i64 a0_1, .int .u64 a0_2, .int .u64 a0_3, .int .i64 a0_4] 33 (0, 0)) (by (with_reducible repeat (first | refine blk_drewN ?_ _ | refine blk_drew ?_ | refine blk_alloc ?_ _)); refine blk_far ?_ NB233_238.out _; (with_reducible repeat (first | refine blk_drewN ?_ _ | refine blk_drew ?_ | refine blk_alloc ?_ _)); refine blk_far ?_ NB233_238.out _; exact blkt BK233) hb); replace BK234 := Aside0.mk (blk_below (g := gb234) (o := .cells #[.int .u64 a1_0, .int .u32 a1_1, .int .u32 a1_2] 28 (0, 0)) (by (with_reducible repeat (first | refine blk_drewN ?_ _ | refine blk_drew ?_ | refine blk_alloc ?_ _)); refine blk_far ?_ NB234_238.out _; (with_reducible repeat (first | refine blk_drewN ?_ _ | refine blk_drew ?_ | refine blk_alloc ?_ _)); refine blk_far ?_ NB234_238.out _; exact blkt BK234) hb); replace BK238 := Aside0.mk (blk_below (g := gb238) (o := .cells #[.int .i64 t235, .int .u64 t236] 31 (0, 0)) (by (with_reducible repeat (first | refine blk_drewN ?_ _ | refine blk_drew ?_ | refine blk_alloc ?_ _)); refine blk_put (cs := #[.int .i64 t235, .int .u64 0]) ?_ 1 _ rfl; (with_reducible repeat (first | refine blk_drewN ?_ _ | refine blk_drew ?_ | refine blk_alloc ?_ _)); refine blk_put (cs := #[.int .i64 0, .int .u64 0]) ?_ 0 _ rfl; exact blkt BK238) hb); replace HB := belb HB hb; (try clear hb); (try clear hb2); (try clear hk); (try clear hi)))
 go_ret2
 exact ⟨by first | rfl | (simp [errW_none, errW_some] <;> rfl) | (simp [*, errW_none, errW_some] <;> rfl), belt HB⟩

end Go.Proofs.YtfbkamgdkdnpoaaGreatDoor.Print
